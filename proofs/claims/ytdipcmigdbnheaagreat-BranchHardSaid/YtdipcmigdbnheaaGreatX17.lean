import Derived.Test.YtdipcmigdbnheaaGreatX11
import Derived.Test.YtdipcmigdbnheaaGreatX16
import Derived.Test.YtdipcmigdbnheaaGreatX10
import Derived.Test.YtdipcmigdbnheaaGreatProg
import Derived.KernelRfl
set_option linter.unusedVariables false
set_option linter.unusedSimpArgs false
set_option linter.unnecessarySimpa false
set_option linter.unusedSectionVars false
set_option maxHeartbeats 64000000
set_option maxRecDepth 20000
open Int renaming natCast_add→vj,cast_ofNat_Int→Dg
open List renaming length_append→bJ,length_cons→dH,length_nil→nJ,drop_eq_nil_of_le→dw,cons_append→dG,nil_append→dK
open Nat renaming zero_add→eR,zero_le→aD,le_refl→aH,add_zero→g7
open Bool renaming eq_iff_iff→mB,and_eq_true→bh,or_eq_true→kB,not_eq_true'→j4,false_eq_true→jv
open Go Go.Am Go.Proofs
open Nat (reduceEqDiff reduceAdd reduceLeDiff reduceMul)
open Int (reduceNeg reduceLE reduceToNat)
namespace T
theorem Q4:ty Tryz.prog 2 = { kind:=5,size:=1,bytes:=8,elem:=0,len:=0,zero:=some [.int .i64 0],aL:=[] }:=by kernel_rfl
theorem Q5:ty Tryz.prog 3 = { kind:=5,size:=1,bytes:=8,elem:=0,len:=0,zero:=some [.int .i64 0],aL:=[] }:=by kernel_rfl
theorem Q6:ty Tryz.prog 4 = { kind:=6,size:=1,bytes:=1,elem:=0,len:=0,zero:=some [.bool false],aL:=[] }:=by kernel_rfl
theorem Q7:ty Tryz.prog 5 = { kind:=5,size:=1,bytes:=1,elem:=0,len:=0,zero:=some [.int .u8 0],aL:=[] }:=by kernel_rfl
theorem Q8:ty Tryz.prog 6 = { kind:=5,size:=1,bytes:=1,elem:=0,len:=0,zero:=some [.int .u8 0],aL:=[] }:=by kernel_rfl
theorem Q9:ty Tryz.prog 7 = { kind:=3,size:=4,bytes:=24,elem:=0,len:=0,zero:=some [.int .i64 0,.int .i64 0,.bool false,.int .u8 0],aL:=[(0,2,1),(1,3,1),(2,4,1),(3,6,1)] }:=by kernel_rfl
theorem Ra:ty Tryz.prog 8 = { kind:=3,size:=4,bytes:=24,elem:=0,len:=0,zero:=some [.int .i64 0,.int .i64 0,.bool false,.int .u8 0],aL:=[(0,2,1),(1,3,1),(2,4,1),(3,6,1)] }:=by kernel_rfl
theorem Rb:ty Tryz.prog 9 = { kind:=4,size:=1,bytes:=16,elem:=0,len:=0,zero:=some [.string ⟨#[]⟩],aL:=[] }:=by kernel_rfl
theorem Rd:ty Tryz.prog 10 = { kind:=4,size:=1,bytes:=16,elem:=0,len:=0,zero:=some [.string ⟨#[]⟩],aL:=[] }:=by kernel_rfl
theorem Re:ty Tryz.prog 11 = { kind:=4,size:=1,bytes:=16,elem:=0,len:=0,zero:=some [.string ⟨#[]⟩],aL:=[] }:=by kernel_rfl
theorem Rf:ty Tryz.prog 12 = { kind:=5,size:=1,bytes:=8,elem:=0,len:=0,zero:=some [.int .u64 0],aL:=[] }:=by kernel_rfl
theorem Rg:ty Tryz.prog 13 = { kind:=3,size:=2,bytes:=24,elem:=0,len:=0,zero:=some [.string ⟨#[]⟩,.int .u64 0],aL:=[(0,9,1),(1,12,1)] }:=by kernel_rfl
theorem Rh:ty Tryz.prog 14 = { kind:=3,size:=2,bytes:=24,elem:=0,len:=0,zero:=some [.string ⟨#[]⟩,.int .u64 0],aL:=[(0,9,1),(1,12,1)] }:=by kernel_rfl
theorem Ri:ty Tryz.prog 15 = { kind:=7,size:=1,bytes:=8,elem:=278,len:=0,zero:=some [.pointer none],aL:=[] }:=by kernel_rfl
theorem Rj:ty Tryz.prog 16 = { kind:=7,size:=1,bytes:=8,elem:=281,len:=0,zero:=some [.pointer none],aL:=[] }:=by kernel_rfl
theorem Rk:ty Tryz.prog 17 = { kind:=7,size:=1,bytes:=8,elem:=289,len:=0,zero:=some [.pointer none],aL:=[] }:=by kernel_rfl
theorem Rl:ty Tryz.prog 18 = { kind:=3,size:=1,bytes:=8,elem:=0,len:=0,zero:=some [.pointer none],aL:=[(0,17,1)] }:=by kernel_rfl
theorem Rm:ty Tryz.prog 19 = { kind:=3,size:=1,bytes:=8,elem:=0,len:=0,zero:=some [.pointer none],aL:=[(0,17,1)] }:=by kernel_rfl
theorem Rn:ty Tryz.prog 21 = { kind:=5,size:=1,bytes:=4,elem:=0,len:=0,zero:=some [.int .i32 0],aL:=[] }:=by kernel_rfl
theorem Ro:ty Tryz.prog 22 = { kind:=1,size:=1,bytes:=24,elem:=3,len:=0,zero:=some [.slice none 0 0],aL:=[] }:=by kernel_rfl
theorem Rp:ty Tryz.prog 25 = { kind:=1,size:=1,bytes:=24,elem:=82,len:=0,zero:=some [.slice none 0 0],aL:=[] }:=by kernel_rfl
theorem Rq:ty Tryz.prog 26 = { kind:=1,size:=1,bytes:=24,elem:=84,len:=0,zero:=some [.slice none 0 0],aL:=[] }:=by kernel_rfl
theorem Rr:ty Tryz.prog 27 = { kind:=1,size:=1,bytes:=24,elem:=98,len:=0,zero:=some [.slice none 0 0],aL:=[] }:=by kernel_rfl
theorem Rs:ty Tryz.prog 28 = { kind:=3,size:=4,bytes:=80,elem:=0,len:=0,zero:=some [.slice none 0 0,.slice none 0 0,.slice none 0 0,.int .i64 0],aL:=[(0,25,1),(1,26,1),(2,27,1),(3,3,1)] }:=by kernel_rfl
theorem Rt:ty Tryz.prog 29 = { kind:=3,size:=4,bytes:=80,elem:=0,len:=0,zero:=some [.slice none 0 0,.slice none 0 0,.slice none 0 0,.int .i64 0],aL:=[(0,25,1),(1,26,1),(2,27,1),(3,3,1)] }:=by kernel_rfl
theorem Ru:ty Tryz.prog 31 = { kind:=7,size:=1,bytes:=8,elem:=90,len:=0,zero:=some [.pointer none],aL:=[] }:=by kernel_rfl
theorem Rv:ty Tryz.prog 33 = { kind:=5,size:=1,bytes:=8,elem:=0,len:=0,zero:=some [.int .i64 0],aL:=[] }:=by kernel_rfl
theorem Rx:ty Tryz.prog 37 = { kind:=1,size:=1,bytes:=24,elem:=68,len:=0,zero:=some [.slice none 0 0],aL:=[] }:=by kernel_rfl
theorem Ry:ty Tryz.prog 38 = { kind:=3,size:=1,bytes:=24,elem:=0,len:=0,zero:=some [.slice none 0 0],aL:=[(0,37,1)] }:=by kernel_rfl
theorem Rz:ty Tryz.prog 39 = { kind:=3,size:=1,bytes:=24,elem:=0,len:=0,zero:=some [.slice none 0 0],aL:=[(0,37,1)] }:=by kernel_rfl
theorem RA:ty Tryz.prog 40 = { kind:=3,size:=4,bytes:=64,elem:=0,len:=0,zero:=some [.slice none 0 0,.int .i64 0,.int .i64 0,.slice none 0 0],aL:=[(0,22,1),(1,3,1),(2,3,1),(3,39,1)] }:=by kernel_rfl
theorem RC:ty Tryz.prog 41 = { kind:=3,size:=4,bytes:=64,elem:=0,len:=0,zero:=some [.slice none 0 0,.int .i64 0,.int .i64 0,.slice none 0 0],aL:=[(0,22,1),(1,3,1),(2,3,1),(3,39,1)] }:=by kernel_rfl
theorem RD:ty Tryz.prog 57 = { kind:=1,size:=1,bytes:=24,elem:=22,len:=0,zero:=some [.slice none 0 0],aL:=[] }:=by kernel_rfl
theorem RE:ty Tryz.prog 58 = { kind:=3,size:=3,bytes:=72,elem:=0,len:=0,zero:=some [.slice none 0 0,.slice none 0 0,.slice none 0 0],aL:=[(0,22,1),(1,39,1),(2,57,1)] }:=by kernel_rfl
theorem RF:ty Tryz.prog 59 = { kind:=3,size:=3,bytes:=72,elem:=0,len:=0,zero:=some [.slice none 0 0,.slice none 0 0,.slice none 0 0],aL:=[(0,22,1),(1,39,1),(2,57,1)] }:=by kernel_rfl
theorem RG:ty Tryz.prog 65 = { kind:=1,size:=1,bytes:=24,elem:=184,len:=0,zero:=some [.slice none 0 0],aL:=[] }:=by kernel_rfl
theorem RH:ty Tryz.prog 66 = { kind:=1,size:=1,bytes:=24,elem:=175,len:=0,zero:=some [.slice none 0 0],aL:=[] }:=by kernel_rfl
theorem RJ:ty Tryz.prog 67 = { kind:=3,size:=5,bytes:=104,elem:=0,len:=0,zero:=some [.int .i64 0,.slice none 0 0,.slice none 0 0,.slice none 0 0,.slice none 0 0],aL:=[(0,3,1),(1,22,1),(2,65,1),(3,22,1),(4,66,1)] }:=by kernel_rfl
theorem RK:ty Tryz.prog 68 = { kind:=3,size:=5,bytes:=104,elem:=0,len:=0,zero:=some [.int .i64 0,.slice none 0 0,.slice none 0 0,.slice none 0 0,.slice none 0 0],aL:=[(0,3,1),(1,22,1),(2,65,1),(3,22,1),(4,66,1)] }:=by kernel_rfl
theorem RL:ty Tryz.prog 70 = { kind:=1,size:=1,bytes:=24,elem:=59,len:=0,zero:=some [.slice none 0 0],aL:=[] }:=by kernel_rfl
theorem RM:ty Tryz.prog 73 = { kind:=1,size:=1,bytes:=24,elem:=4,len:=0,zero:=some [.slice none 0 0],aL:=[] }:=by kernel_rfl
theorem RN:ty Tryz.prog 75 = { kind:=3,size:=4,bytes:=32,elem:=0,len:=0,zero:=some [.int .i64 0,.int .i64 0,.int .i64 0,.int .i64 0],aL:=[(0,3,1),(1,3,1),(2,3,1),(3,3,1)] }:=by kernel_rfl
theorem RO:ty Tryz.prog 76 = { kind:=3,size:=4,bytes:=32,elem:=0,len:=0,zero:=some [.int .i64 0,.int .i64 0,.int .i64 0,.int .i64 0],aL:=[(0,3,1),(1,3,1),(2,3,1),(3,3,1)] }:=by kernel_rfl
theorem RQ:ty Tryz.prog 77 = { kind:=3,size:=5,bytes:=40,elem:=0,len:=0,zero:=some [.int .i64 0,.int .i64 0,.int .i64 0,.int .i64 0,.int .i64 0],aL:=[(0,76,4),(4,3,1)] }:=by kernel_rfl
theorem RS:ty Tryz.prog 78 = { kind:=3,size:=5,bytes:=40,elem:=0,len:=0,zero:=some [.int .i64 0,.int .i64 0,.int .i64 0,.int .i64 0,.int .i64 0],aL:=[(0,76,4),(4,3,1)] }:=by kernel_rfl
theorem RT:ty Tryz.prog 79 = { kind:=1,size:=1,bytes:=24,elem:=93,len:=0,zero:=some [.slice none 0 0],aL:=[] }:=by kernel_rfl
theorem RU:ty Tryz.prog 80 = { kind:=3,size:=6,bytes:=64,elem:=0,len:=0,zero:=some [.int .i64 0,.int .i64 0,.int .i64 0,.int .i64 0,.int .i64 0,.slice none 0 0],aL:=[(0,78,5),(5,79,1)] }:=by kernel_rfl
theorem RV:ty Tryz.prog 81 = { kind:=3,size:=6,bytes:=64,elem:=0,len:=0,zero:=some [.int .i64 0,.int .i64 0,.int .i64 0,.int .i64 0,.int .i64 0,.slice none 0 0],aL:=[(0,78,5),(5,79,1)] }:=by kernel_rfl
theorem RW:ty Tryz.prog 82 = { kind:=1,size:=1,bytes:=24,elem:=81,len:=0,zero:=some [.slice none 0 0],aL:=[] }:=by kernel_rfl
theorem RX:ty Tryz.prog 83 = { kind:=3,size:=4,bytes:=48,elem:=0,len:=0,zero:=some [.int .i64 0,.int .i64 0,.int .i64 0,.slice none 0 0],aL:=[(0,3,1),(1,3,1),(2,3,1),(3,22,1)] }:=by kernel_rfl
theorem RY:ty Tryz.prog 84 = { kind:=3,size:=4,bytes:=48,elem:=0,len:=0,zero:=some [.int .i64 0,.int .i64 0,.int .i64 0,.slice none 0 0],aL:=[(0,3,1),(1,3,1),(2,3,1),(3,22,1)] }:=by kernel_rfl
theorem RZ:ty Tryz.prog 89 = { kind:=3,size:=2,bytes:=32,elem:=0,len:=0,zero:=some [.slice none 0 0,.int .i64 0],aL:=[(0,22,1),(1,3,1)] }:=by kernel_rfl
theorem R0:ty Tryz.prog 90 = { kind:=3,size:=2,bytes:=32,elem:=0,len:=0,zero:=some [.slice none 0 0,.int .i64 0],aL:=[(0,22,1),(1,3,1)] }:=by kernel_rfl
theorem R3:ty Tryz.prog 92 = { kind:=3,size:=2,bytes:=16,elem:=0,len:=0,zero:=some [.int .i64 0,.int .i64 0],aL:=[(0,3,1),(1,3,1)] }:=by kernel_rfl
theorem R4:ty Tryz.prog 93 = { kind:=3,size:=2,bytes:=16,elem:=0,len:=0,zero:=some [.int .i64 0,.int .i64 0],aL:=[(0,3,1),(1,3,1)] }:=by kernel_rfl
theorem R5:ty Tryz.prog 96 = { kind:=1,size:=1,bytes:=24,elem:=102,len:=0,zero:=some [.slice none 0 0],aL:=[] }:=by kernel_rfl
theorem R7:ty Tryz.prog 97 = { kind:=3,size:=4,bytes:=48,elem:=0,len:=0,zero:=some [.int .i64 0,.slice none 0 0,.int .i64 0,.int .i64 0],aL:=[(0,3,1),(1,96,1),(2,3,1),(3,3,1)] }:=by kernel_rfl
theorem R8:ty Tryz.prog 98 = { kind:=3,size:=4,bytes:=48,elem:=0,len:=0,zero:=some [.int .i64 0,.slice none 0 0,.int .i64 0,.int .i64 0],aL:=[(0,3,1),(1,96,1),(2,3,1),(3,3,1)] }:=by kernel_rfl
theorem R9:ty Tryz.prog 101 = { kind:=3,size:=3,bytes:=24,elem:=0,len:=0,zero:=some [.int .i64 0,.int .i64 0,.int .i64 0],aL:=[(0,3,1),(1,3,1),(2,3,1)] }:=by kernel_rfl
theorem R':ty Tryz.prog 102 = { kind:=3,size:=3,bytes:=24,elem:=0,len:=0,zero:=some [.int .i64 0,.int .i64 0,.int .i64 0],aL:=[(0,3,1),(1,3,1),(2,3,1)] }:=by kernel_rfl
theorem Sa:ty Tryz.prog 115 = { kind:=1,size:=1,bytes:=24,elem:=3,len:=0,zero:=some [.slice none 0 0],aL:=[] }:=by kernel_rfl
theorem Sb:ty Tryz.prog 123 = { kind:=7,size:=1,bytes:=8,elem:=39,len:=0,zero:=some [.pointer none],aL:=[] }:=by kernel_rfl
theorem Sd:ty Tryz.prog 125 = { kind:=1,size:=1,bytes:=24,elem:=73,len:=0,zero:=some [.slice none 0 0],aL:=[] }:=by kernel_rfl
theorem Se:ty Tryz.prog 126 = { kind:=3,size:=2,bytes:=32,elem:=0,len:=0,zero:=some [.int .i64 0,.slice none 0 0],aL:=[(0,3,1),(1,125,1)] }:=by kernel_rfl
theorem Sf:ty Tryz.prog 127 = { kind:=3,size:=2,bytes:=32,elem:=0,len:=0,zero:=some [.int .i64 0,.slice none 0 0],aL:=[(0,3,1),(1,125,1)] }:=by kernel_rfl
theorem Sg:ty Tryz.prog 144 = { kind:=1,size:=1,bytes:=24,elem:=194,len:=0,zero:=some [.slice none 0 0],aL:=[] }:=by kernel_rfl
theorem Sh:ty Tryz.prog 170 = { kind:=3,size:=3,bytes:=56,elem:=0,len:=0,zero:=some [.int .i64 0,.slice none 0 0,.slice none 0 0],aL:=[(0,127,2),(2,22,1)] }:=by kernel_rfl
theorem Si:ty Tryz.prog 171 = { kind:=3,size:=3,bytes:=56,elem:=0,len:=0,zero:=some [.int .i64 0,.slice none 0 0,.slice none 0 0],aL:=[(0,127,2),(2,22,1)] }:=by kernel_rfl
theorem Sj:ty Tryz.prog 172 = { kind:=1,size:=1,bytes:=24,elem:=171,len:=0,zero:=some [.slice none 0 0],aL:=[] }:=by kernel_rfl
theorem Sk:ty Tryz.prog 175 = { kind:=1,size:=1,bytes:=24,elem:=180,len:=0,zero:=some [.slice none 0 0],aL:=[] }:=by kernel_rfl
theorem Sl:ty Tryz.prog 179 = { kind:=3,size:=2,bytes:=16,elem:=0,len:=0,zero:=some [.int .i64 0,.int .i64 0],aL:=[(0,3,1),(1,3,1)] }:=by kernel_rfl
theorem Sm:ty Tryz.prog 180 = { kind:=3,size:=2,bytes:=16,elem:=0,len:=0,zero:=some [.int .i64 0,.int .i64 0],aL:=[(0,3,1),(1,3,1)] }:=by kernel_rfl
theorem Sn:ty Tryz.prog 181 = { kind:=7,size:=1,bytes:=8,elem:=227,len:=0,zero:=some [.pointer none],aL:=[] }:=by kernel_rfl
theorem So:ty Tryz.prog 183 = { kind:=3,size:=4,bytes:=32,elem:=0,len:=0,zero:=some [.int .i64 0,.int .i64 0,.int .i64 0,.int .i64 0],aL:=[(0,3,1),(1,3,1),(2,3,1),(3,3,1)] }:=by kernel_rfl
theorem Sp:ty Tryz.prog 184 = { kind:=3,size:=4,bytes:=32,elem:=0,len:=0,zero:=some [.int .i64 0,.int .i64 0,.int .i64 0,.int .i64 0],aL:=[(0,3,1),(1,3,1),(2,3,1),(3,3,1)] }:=by kernel_rfl
theorem Sr:ty Tryz.prog 193 = { kind:=3,size:=2,bytes:=16,elem:=0,len:=0,zero:=some [.int .i64 0,.int .i64 0],aL:=[(0,3,1),(1,3,1)] }:=by kernel_rfl
theorem Ss:ty Tryz.prog 194 = { kind:=3,size:=2,bytes:=16,elem:=0,len:=0,zero:=some [.int .i64 0,.int .i64 0],aL:=[(0,3,1),(1,3,1)] }:=by kernel_rfl
theorem Su:ty Tryz.prog 198 = { kind:=1,size:=1,bytes:=24,elem:=199,len:=0,zero:=some [.slice none 0 0],aL:=[] }:=by kernel_rfl
theorem Sv:ty Tryz.prog 199 = { kind:=1,size:=1,bytes:=24,elem:=203,len:=0,zero:=some [.slice none 0 0],aL:=[] }:=by kernel_rfl
theorem Sw:ty Tryz.prog 202 = { kind:=3,size:=2,bytes:=16,elem:=0,len:=0,zero:=some [.bool false,.int .i64 0],aL:=[(0,4,1),(1,3,1)] }:=by kernel_rfl
theorem Sx:ty Tryz.prog 203 = { kind:=3,size:=2,bytes:=16,elem:=0,len:=0,zero:=some [.bool false,.int .i64 0],aL:=[(0,4,1),(1,3,1)] }:=by kernel_rfl
theorem Sy:ty Tryz.prog 217 = { kind:=7,size:=1,bytes:=8,elem:=219,len:=0,zero:=some [.pointer none],aL:=[] }:=by kernel_rfl
theorem Sz:ty Tryz.prog 218 = { kind:=3,size:=1,bytes:=24,elem:=0,len:=0,zero:=some [.slice none 0 0],aL:=[(0,22,1)] }:=by kernel_rfl
theorem SA:ty Tryz.prog 219 = { kind:=3,size:=1,bytes:=24,elem:=0,len:=0,zero:=some [.slice none 0 0],aL:=[(0,22,1)] }:=by kernel_rfl
theorem SD:ty Tryz.prog 225 = { kind:=1,size:=1,bytes:=24,elem:=228,len:=0,zero:=some [.slice none 0 0],aL:=[] }:=by kernel_rfl
theorem SE:ty Tryz.prog 226 = { kind:=3,size:=6,bytes:=128,elem:=0,len:=0,zero:=some [.slice none 0 0,.slice none 0 0,.slice none 0 0,.int .i64 0,.slice none 0 0,.slice none 0 0],aL:=[(0,29,4),(4,225,1),(5,225,1)] }:=by kernel_rfl
theorem SF:ty Tryz.prog 227 = { kind:=3,size:=6,bytes:=128,elem:=0,len:=0,zero:=some [.slice none 0 0,.slice none 0 0,.slice none 0 0,.int .i64 0,.slice none 0 0,.slice none 0 0],aL:=[(0,29,4),(4,225,1),(5,225,1)] }:=by kernel_rfl
theorem SG:ty Tryz.prog 228 = { kind:=1,size:=1,bytes:=24,elem:=230,len:=0,zero:=some [.slice none 0 0],aL:=[] }:=by kernel_rfl
theorem SH:ty Tryz.prog 229 = { kind:=3,size:=2,bytes:=16,elem:=0,len:=0,zero:=some [.int .i64 0,.bool false],aL:=[(0,3,1),(1,4,1)] }:=by kernel_rfl
theorem SI:ty Tryz.prog 230 = { kind:=3,size:=2,bytes:=16,elem:=0,len:=0,zero:=some [.int .i64 0,.bool false],aL:=[(0,3,1),(1,4,1)] }:=by kernel_rfl
theorem SJ:ty Tryz.prog 238 = { kind:=5,size:=1,bytes:=8,elem:=0,len:=0,zero:=some [.int .u64 0],aL:=[] }:=by kernel_rfl
theorem SK:ty Tryz.prog 242 = { kind:=1,size:=1,bytes:=24,elem:=245,len:=0,zero:=some [.slice none 0 0],aL:=[] }:=by kernel_rfl
theorem SL:ty Tryz.prog 243 = { kind:=1,size:=1,bytes:=24,elem:=245,len:=0,zero:=some [.slice none 0 0],aL:=[] }:=by kernel_rfl
theorem SM:ty Tryz.prog 244 = { kind:=3,size:=3,bytes:=24,elem:=0,len:=0,zero:=some [.int .i64 0,.int .i64 0,.int .i64 0],aL:=[(0,3,1),(1,3,1),(2,3,1)] }:=by kernel_rfl
theorem SN:ty Tryz.prog 245 = { kind:=3,size:=3,bytes:=24,elem:=0,len:=0,zero:=some [.int .i64 0,.int .i64 0,.int .i64 0],aL:=[(0,3,1),(1,3,1),(2,3,1)] }:=by kernel_rfl
theorem SO:ty Tryz.prog 248 = { kind:=7,size:=1,bytes:=8,elem:=243,len:=0,zero:=some [.pointer none],aL:=[] }:=by kernel_rfl
theorem SP:ty Tryz.prog 251 = { kind:=2,size:=2,bytes:=16,elem:=3,len:=2,zero:=some [.int .i64 0,.int .i64 0],aL:=[] }:=by kernel_rfl
theorem SQ:ty Tryz.prog 252 = { kind:=2,size:=2,bytes:=16,elem:=3,len:=2,zero:=some [.int .i64 0,.int .i64 0],aL:=[] }:=by kernel_rfl
theorem SR:ty Tryz.prog 256 = { kind:=7,size:=1,bytes:=8,elem:=230,len:=0,zero:=some [.pointer none],aL:=[] }:=by kernel_rfl
theorem SS:ty Tryz.prog 257 = { kind:=8,size:=1,bytes:=8,elem:=258,len:=0,zero:=some [.map none],aL:=[] }:=by kernel_rfl
theorem SU:ty Tryz.prog 258 = { kind:=8,size:=1,bytes:=8,elem:=3,len:=0,zero:=some [.map none],aL:=[] }:=by kernel_rfl
theorem SV:ty Tryz.prog 259 = { kind:=5,size:=1,bytes:=4,elem:=0,len:=0,zero:=some [.int .u32 0],aL:=[] }:=by kernel_rfl
theorem SW:ty Tryz.prog 262 = { kind:=5,size:=1,bytes:=8,elem:=0,len:=0,zero:=some [.int .u64 0],aL:=[] }:=by kernel_rfl
theorem SX:ty Tryz.prog 265 = { kind:=1,size:=1,bytes:=24,elem:=266,len:=0,zero:=some [.slice none 0 0],aL:=[] }:=by kernel_rfl
theorem SY:ty Tryz.prog 266 = { kind:=8,size:=1,bytes:=8,elem:=4,len:=0,zero:=some [.map none],aL:=[] }:=by kernel_rfl
theorem SZ:ty Tryz.prog 275 = { kind:=7,size:=1,bytes:=8,elem:=252,len:=0,zero:=some [.pointer none],aL:=[] }:=by kernel_rfl
theorem S1:ty Tryz.prog 277 = { kind:=3,size:=4,bytes:=40,elem:=0,len:=0,zero:=some [.pointer none,.pointer none,.pointer none,.string ⟨#[]⟩],aL:=[(0,17,1),(1,17,1),(2,17,1),(3,9,1)] }:=by kernel_rfl
theorem S2:ty Tryz.prog 278 = { kind:=3,size:=4,bytes:=40,elem:=0,len:=0,zero:=some [.pointer none,.pointer none,.pointer none,.string ⟨#[]⟩],aL:=[(0,17,1),(1,17,1),(2,17,1),(3,9,1)] }:=by kernel_rfl
theorem S3:ty Tryz.prog 279 = { kind:=2,size:=0,bytes:=0,elem:=16,len:=0,zero:=some [],aL:=[] }:=by kernel_rfl
theorem S4:ty Tryz.prog 280 = { kind:=3,size:=0,bytes:=0,elem:=0,len:=0,zero:=some [],aL:=[(0,279,0)] }:=by kernel_rfl
theorem S5:ty Tryz.prog 281 = { kind:=3,size:=0,bytes:=0,elem:=0,len:=0,zero:=some [],aL:=[(0,279,0)] }:=by kernel_rfl
theorem S6:ty Tryz.prog 282 = { kind:=5,size:=1,bytes:=1,elem:=0,len:=0,zero:=some [.int .u8 0],aL:=[] }:=by kernel_rfl
theorem S7:ty Tryz.prog 283 = { kind:=5,size:=1,bytes:=1,elem:=0,len:=0,zero:=some [.int .u8 0],aL:=[] }:=by kernel_rfl
theorem S8:ty Tryz.prog 285 = { kind:=7,size:=1,bytes:=8,elem:=5,len:=0,zero:=some [.pointer none],aL:=[] }:=by kernel_rfl
theorem S9:ty Tryz.prog 286 = { kind:=5,size:=1,bytes:=4,elem:=0,len:=0,zero:=some [.int .i32 0],aL:=[] }:=by kernel_rfl
theorem S':ty Tryz.prog 287 = { kind:=5,size:=1,bytes:=4,elem:=0,len:=0,zero:=some [.int .i32 0],aL:=[] }:=by kernel_rfl
theorem Ta:ty Tryz.prog 288 = { kind:=3,size:=11,bytes:=48,elem:=0,len:=0,zero:=some [.int .u64 0,.int .u64 0,.int .u32 0,.int .u8 0,.int .u8 0,.int .u8 0,.int .u8 0,.nilFunc,.pointer none,.int .i32 0,.int .i32 0],aL:=[(0,12,1),(1,12,1),(2,259,1),(3,282,1),(4,5,1),(5,5,1),(6,283,1),(7,284,1),(8,285,1),(9,286,1),(10,287,1)] }:=by kernel_rfl
theorem Tb:ty Tryz.prog 289 = { kind:=3,size:=11,bytes:=48,elem:=0,len:=0,zero:=some [.int .u64 0,.int .u64 0,.int .u32 0,.int .u8 0,.int .u8 0,.int .u8 0,.int .u8 0,.nilFunc,.pointer none,.int .i32 0,.int .i32 0],aL:=[(0,12,1),(1,12,1),(2,259,1),(3,282,1),(4,5,1),(5,5,1),(6,283,1),(7,284,1),(8,285,1),(9,286,1),(10,287,1)] }:=by kernel_rfl
theorem Td:Tryz.prog.underlying 2=some (.int .i64):=by kernel_rfl
theorem Te:Tryz.prog.underlying 3=some (.int .i64):=by kernel_rfl
theorem Tf:Tryz.prog.underlying 5=some (.int .u8):=by kernel_rfl
theorem Tg:Tryz.prog.underlying 6=some (.int .u8):=by kernel_rfl
theorem Th:Tryz.prog.underlying 12=some (.int .u64):=by kernel_rfl
theorem Ti:Tryz.prog.underlying 21=some (.int .i32):=by kernel_rfl
theorem Tj:Tryz.prog.underlying 33=some (.int .i64):=by kernel_rfl
theorem Tk:Tryz.prog.underlying 238=some (.int .u64):=by kernel_rfl
theorem Tl:Tryz.prog.underlying 259=some (.int .u32):=by kernel_rfl
theorem Tm:Tryz.prog.underlying 262=some (.int .u64):=by kernel_rfl
theorem Tn:Tryz.prog.underlying 282=some (.int .u8):=by kernel_rfl
theorem To:Tryz.prog.underlying 283=some (.int .u8):=by kernel_rfl
theorem Tp:Tryz.prog.underlying 286=some (.int .i32):=by kernel_rfl
theorem Tq:Tryz.prog.underlying 287=some (.int .i32):=by kernel_rfl
theorem Ts:zeroV Tryz.prog 258=some (.map none):=by kernel_rfl
theorem Tt:yJ Tryz.prog 257=0:=by kernel_rfl
theorem Tu:j7 Tryz.prog 257 0:=j7.int (kt:=3) (et:=258) (by kernel_rfl) (by kernel_rfl)
theorem Tv:zeroV Tryz.prog 3=some (.int .i64 0):=by kernel_rfl
theorem Tw:yJ Tryz.prog 258=0:=by kernel_rfl
theorem Tx:j7 Tryz.prog 258 0:=j7.int (kt:=3) (et:=3) (by kernel_rfl) (by kernel_rfl)
theorem Tz:zeroV Tryz.prog 4=some (.bool false):=by kernel_rfl
theorem TA:yJ Tryz.prog 266=0:=by kernel_rfl
theorem TB:j7 Tryz.prog 266 0:=j7.int (kt:=3) (et:=4) (by kernel_rfl) (by kernel_rfl)
theorem TC:tW Tryz.prog 9=false:=by kernel_rfl
theorem TD:tW Tryz.prog 245=false:=by kernel_rfl
theorem TE:tW Tryz.prog 248=false:=by kernel_rfl
theorem TF : vp Tryz.prog 248 "Len" = some (224, some 243) := by kernel_rfl
theorem TG : vp Tryz.prog 248 "Less" = some (225, some 243) := by kernel_rfl
theorem TH : vp Tryz.prog 248 "Pop" = some (227, none) := by kernel_rfl
theorem TI : vp Tryz.prog 248 "Swap" = some (226, some 243) := by kernel_rfl
theorem pR:type_of% Q4∧type_of% Q5∧type_of% Q6∧type_of% Q7∧type_of% Q8∧type_of% Q9∧type_of% Ra∧type_of% Rb∧type_of% Rd∧type_of% Re∧type_of% Rf∧type_of% Rg∧type_of% Rh∧type_of% Ri∧type_of% Rj∧type_of% Rk∧type_of% Rl∧type_of% Rm∧type_of% Rn∧type_of% Ro∧type_of% Rp∧type_of% Rq∧type_of% Rr∧type_of% Rs∧type_of% Rt∧type_of% Ru∧type_of% Rv∧type_of% Rx∧type_of% Ry∧type_of% Rz∧type_of% RA∧type_of% RC∧type_of% RD∧type_of% RE∧type_of% RF∧type_of% RG∧type_of% RH∧type_of% RJ∧type_of% RK∧type_of% RL∧type_of% RM∧type_of% RN∧type_of% RO∧type_of% RQ∧type_of% RS∧type_of% RT∧type_of% RU∧type_of% RV∧type_of% RW∧type_of% RX∧type_of% RY∧type_of% RZ∧type_of% R0∧type_of% R3∧type_of% R4∧type_of% R5∧type_of% R7∧type_of% R8∧type_of% R9∧type_of% R'∧type_of% Sa∧type_of% Sb∧type_of% Sd∧type_of% Se∧type_of% Sf∧type_of% Sg∧type_of% Sh∧type_of% Si∧type_of% Sj∧type_of% Sk∧type_of% Sl∧type_of% Sm∧type_of% Sn∧type_of% So∧type_of% Sp∧type_of% Sr∧type_of% Ss∧type_of% Su∧type_of% Sv∧type_of% Sw∧type_of% Sx∧type_of% Sy∧type_of% Sz∧type_of% SA∧type_of% SD∧type_of% SE∧type_of% SF∧type_of% SG∧type_of% SH∧type_of% SI∧type_of% SJ∧type_of% SK∧type_of% SL∧type_of% SM∧type_of% SN∧type_of% SO∧type_of% SP∧type_of% SQ∧type_of% SR∧type_of% SS∧type_of% SU∧type_of% SV∧type_of% SW∧type_of% SX∧type_of% SY∧type_of% SZ∧type_of% S1∧type_of% S2∧type_of% S3∧type_of% S4∧type_of% S5∧type_of% S6∧type_of% S7∧type_of% S8∧type_of% S9∧type_of% S'∧type_of% Ta∧type_of% Tb∧type_of% Td∧type_of% Te∧type_of% Tf∧type_of% Tg∧type_of% Th∧type_of% Ti∧type_of% Tj∧type_of% Tk∧type_of% Tl∧type_of% Tm∧type_of% Tn∧type_of% To∧type_of% Tp∧type_of% Tq∧type_of% Ts∧type_of% Tt∧type_of% Tu∧type_of% Tv∧type_of% Tw∧type_of% Tx∧type_of% Tz∧type_of% TA∧type_of% TB∧type_of% TC∧type_of% TD∧type_of% TE∧type_of% TF∧type_of% TG∧type_of% TH∧type_of% TI :=
  ⟨Q4,Q5,Q6,Q7,Q8,Q9,Ra,Rb,Rd,Re,Rf,Rg,Rh,Ri,Rj,Rk,Rl,Rm,Rn,Ro,Rp,Rq,Rr,Rs,Rt,Ru,Rv,Rx,Ry,Rz,RA,RC,RD,RE,RF,RG,RH,RJ,RK,RL,RM,RN,RO,RQ,RS,RT,RU,RV,RW,RX,RY,RZ,R0,R3,R4,R5,R7,R8,R9,R',Sa,Sb,Sd,Se,Sf,Sg,Sh,Si,Sj,Sk,Sl,Sm,Sn,So,Sp,Sr,Ss,Su,Sv,Sw,Sx,Sy,Sz,SA,SD,SE,SF,SG,SH,SI,SJ,SK,SL,SM,SN,SO,SP,SQ,SR,SS,SU,SV,SW,SX,SY,SZ,S1,S2,S3,S4,S5,S6,S7,S8,S9,S',Ta,Tb,Td,Te,Tf,Tg,Th,Ti,Tj,Tk,Tl,Tm,Tn,To,Tp,Tq,Ts,Tt,Tu,Tv,Tw,Tx,Tz,TA,TB,TC,TD,TE,TF,TG,TH,TI⟩
theorem Ac:type_of% @pR∧type_of% @Bc∧type_of% @Sc∧type_of% @Rc :=
  ⟨@pR,@Bc,@Sc,@Rc⟩
theorem Kc:type_of% @n7∧type_of% @Lc∧type_of% @pR∧type_of% @Rc :=
  ⟨@n7,@Lc,@pR,@Rc⟩
theorem Oc:type_of% @nQ.eq_1∧type_of% @nQ.eq_2∧type_of% @or_true∧type_of% @false_or∧type_of% @Bc∧type_of% @Sc∧type_of% @Rc :=
  ⟨@nQ.eq_1,@nQ.eq_2,@or_true,@false_or,@Bc,@Sc,@Rc⟩
theorem Hr:type_of% @qo.eq_1∧type_of% @qo.eq_2∧type_of% @Bc∧type_of% @Rc∧type_of% @n7∧type_of% @Lc∧type_of% @pR∧type_of% @and_true∧type_of% @vj∧type_of% @Dg :=
  ⟨@qo.eq_1,@qo.eq_2,@Bc,@Rc,@n7,@Lc,@pR,@and_true,@vj,@Dg⟩
theorem Tc:type_of% @Has.eq_1∧type_of% @Has.eq_2∧type_of% @bJ.{0}∧type_of% @dH.{0}∧type_of% @nJ.{0}∧type_of% @eR∧type_of% @n7∧type_of% @Lc∧type_of% @pR∧type_of% @Rc∧type_of% @and_true∧type_of% @vj∧type_of% @Dg :=
  ⟨@Has.eq_1,@Has.eq_2,@bJ.{0},@dH.{0},@nJ.{0},@eR,@n7,@Lc,@pR,@Rc,@and_true,@vj,@Dg⟩
theorem Qc:type_of% @yW.eq_1∧type_of% @yW.eq_2∧type_of% @ei.eq_1∧type_of% @ei.eq_2∧type_of% @ei.eq_3∧type_of% @ee.eq_1∧type_of% @QR∧type_of% @QT∧type_of% @nJ.{0}∧type_of% @n7∧type_of% @Lc∧type_of% @pR∧type_of% @Rc :=
  ⟨@yW.eq_1,@yW.eq_2,@ei.eq_1,@ei.eq_2,@ei.eq_3,@ee.eq_1,@QR,@QT,@nJ.{0},@n7,@Lc,@pR,@Rc⟩
inductive Sq (P:Program) (N n0:Nat) (y:Code) (Q:Exit→St→Prop):Exit→St→Prop
  | n (s:St) (h:W P N n0 y Q s):Sq P N n0 y Q .normal s
  | e (e:Exit) (s:St) (hi:rX e=false) (h:Q e s):Sq P N n0 y Q e s
inductive Bq (id:Nat) (Q:Exit→St→Prop):Exit→St→Prop
  | n (s:St) (h:Q .normal s):Bq id Q .normal s
  | x (s:St) (h:Q .normal s):Bq id Q (.exit id) s
  | e (e:Exit) (s:St) (hi:BY id e=false) (h:Q e s):Bq id Q e s
section
variable {P:Program} {N n0:Nat} {σ:St} {Q:Exit→St→Prop}
theorem Xk {x y:Code} (h:W P N n0 x (Sq P N n0 y Q) σ):W P N n0 (.seq x y) Q σ:=Wk fun _ h1 h2=>M1 h fun _ _ h=>by
  cases h with
  | n _ h=>exact h1 _ h
  | e _ _ hi h=>exact h2 _ _ hi h
theorem Xb {id:Nat} {c:Code} (h:W P N n0 c (Bq id Q) σ):W P N n0 (.block id c) Q σ:=Wb fun _ h1 h2 h3=>M1 h fun _ _ h=>by
  cases h with
  | n _ h=>exact h1 _ h
  | x _ h=>exact h2 _ h
  | e _ _ hi h=>exact h3 _ _ hi h
theorem hn {y:Code} (s:St) (h:W P N n0 y Q s):Sq P N n0 y Q .normal s:=.n s h
theorem he {y:Code} (e:Exit) (s:St) (hi:rX e=false) (h:Q e s):Sq P N n0 y Q e s:=.e e s hi h
theorem y6 {id:Nat} (s:St) (h:Q .normal s):Bq id Q .normal s:=.n s h
theorem IQ {x y:Code} (h:∀ Q':Exit→St→Prop,(∀ s,W P N n0 y Q s→Q' .normal s)→(∀ e s,rX e=false→Q e s→Q' e s)→W P N n0 x Q' σ):W P N n0 x (Sq P N n0 y Q) σ:=h _ .n .e
theorem TJ {x y z:Code} (h:∀ Q':Exit→St→Prop,(∀ s,W P N n0 y Q s→Q' .normal s)→(∀ e s,rX e=false→Q e s→Q' e s)→W P N n0 x (Sq P N n0 z Q') σ):W P N n0 x (Sq P N n0 z (Sq P N n0 y Q)) σ:=h _ .n .e
theorem aaQ {x y z:Code} {id:Nat} (h:∀ Q':Exit→St→Prop,(∀ s,W P N n0 y Q s→Q' .normal s)→(∀ e s,rX e=false→Q e s→Q' e s)→W P N n0 x (Sq P N n0 z (Bq id Q')) σ):W P N n0 x (Sq P N n0 z (Bq id (Sq P N n0 y Q))) σ:=h _ .n .e
end
theorem X0:True:=trivial
theorem X2 {a b:Prop} (x:a) (y:b):a∧b:=⟨x,y⟩
theorem X3 {a b c:Prop} (x:a) (y:b) (z:c):a∧b∧c:=⟨x,y,z⟩
theorem X4 {a b c d:Prop} (x:a) (y:b) (z:c) (u:d):a∧b∧c∧d:=⟨x,y,z,u⟩
theorem X5 {a b c d e:Prop} (x:a) (y:b) (z:c) (u:d) (v:e):a∧b∧c∧d∧e:=⟨x,y,z,u,v⟩
theorem Xr {p q e:Prop} (x:e) (h:q) (k:e→q→p:=by first|(intro hx hq;(first|refine rr ?_|refine th ?_);intro K hK;simp (disch:=omega) only[Ac,↓Pc,simprocAttr,hx];revert hK;revert K;exact hq)|fail):p:=k x h
theorem Xq {p q e:Prop} (x:e) (h:q) (k:e→q→p:=by first|(intro hx hq;(first|refine rr ?_|refine th ?_|refine rb ?_|refine BZ ?_|refine ra ?_|refine B0 ?_);intro K hK;simp (disch:=omega) only[Ac,↓Pc,simprocAttr,hx];revert hK;revert K;exact hq)|fail):p:=k x h
theorem Xo {p q e:Prop} (x:e) (h:q) (k:e→q→p:=by first|(intro hx hq;with_reducible refine gO ?_;simp (disch:=omega) only[Ac,↓Pc,simprocAttr,hx];exact hq)|fail):p:=k x h
theorem Xc {p q t:Prop} (c:t) (h:q) (k:t→q→p:=by first|(intro hc hq;(first|refine bW hc rfl rfl ?_|refine bY hc rfl rfl ?_);exact hq)|fail):p:=k c h
theorem Xg {p q r e:Prop} (x:e) (h:q) (h2:r) (k:e→q→r→p∧True:=by first|(intro hx hq hr;refine And.intro ?_ ?_;(with_reducible refine gS (fun cU=>?_) (fun cU=>?_));(focus (have hb:=cU;(try simp only[zs,simprocAttr] at hb);all_goals (simp (disch:=omega) only[Ac,↓Pc,simprocAttr,hx,cU]);all_goals (clear cU;revert hb;exact hq)));(focus (have hb:=cU;(try simp only[zs,simprocAttr] at hb);all_goals (simp (disch:=omega) only[Ac,↓Pc,simprocAttr,hx,cU]);all_goals (clear cU;revert hb;exact hr)));((try have _:True:=hq);(try have _:True:=hr);trivial))|fail):p:=(k x h h2).1
theorem Xi {p q r:Prop} (h:q) (h2:r) (k:q→r→p∧True:=by first|(intro hq hr;refine And.intro ?_ ?_;refine Wc ?_ ?_;(focus (intro ht;(try simp only[zs,simprocAttr] at ht);all_goals (revert ht;exact hq)));(focus (intro ht;(try simp only[zs,simprocAttr] at ht);all_goals (revert ht;exact hr)));((try have _:True:=hq);(try have _:True:=hr);trivial))|fail):p:=(k h h2).1
theorem Xz {p q:Prop} (h:q) (k:q→p:=by first|(intro hq;(first|refine Wz rfl ?_|refine Xk ?_|refine Xb ?_|refine Sq.n _ ?_|refine Sq.e _ _ rfl ?_|refine Bq.n _ ?_|refine Bq.x _ ?_|refine Bq.e _ _ rfl ?_|refine hn _ ?_|refine he _ _ rfl ?_);(repeat (first|refine Wz rfl ?_|refine Xk ?_|refine Xb ?_|refine Sq.n _ ?_|refine Sq.e _ _ rfl ?_|refine Bq.n _ ?_|refine Bq.x _ ?_|refine Bq.e _ _ rfl ?_|refine hn _ ?_|refine he _ _ rfl ?_));exact hq)|fail):p:=k h
theorem Xh {p q:Prop} (h:q) (k:q→p:=by first|(intro hq;(first|refine aq _ _ rfl ?_|refine a8 _ _ rfl ?_|refine eX _ _ rfl ?_|refine tn _ _ rfl ?_);exact hq)|fail):p:=k h
theorem Xu {p q:Prop} (h:q) (k:q→p:=by first|(intro hq;(first|refine Sq.n _ ?_|refine Sq.e _ _ rfl ?_|refine Bq.n _ ?_|refine Bq.x _ ?_|refine Bq.e _ _ rfl ?_|refine hn _ ?_|refine he _ _ rfl ?_|refine aq _ _ rfl ?_|refine a8 _ _ rfl ?_|refine eX _ _ rfl ?_|refine tn _ _ rfl ?_);exact hq)|fail):p:=k h
theorem Xe {p q:Prop} (h:q) (k:q→p:=by first|(intro hq;simp only[Qc,Kc,simprocAttr];exact hq)|fail):p:=k h
theorem Xy {p q:Prop} (h:q) (k:q→p:=by first|(intro hq;refine Xz ?_;exact hq)|(intro hq;refine Xe ?_;exact hq)|fail):p:=k h
theorem XY {p q:Prop} (h:q) (k:q→p:=by first|(intro hq;refine Xz ?_;exact hq)|(intro hq;refine Xh ?_;exact hq)|(intro hq;refine Xe ?_;exact hq)|fail):p:=k h
theorem Xx {p:Prop} (h:p:=by first|omega|with_reducible rfl|exact trivial|fail):p:=h
theorem Xl {n0:Nat} {e:Nat→AV} {os:List Ob} {v res:AV} {ba:List Ob} (ho:os=ba) (h:v=res) (hl:n0≤ba.length:=by (simp only[List.length_cons,List.length_nil];omega)):m5 n0 ⟨e,os⟩ v res ba:=gR ho hl h
theorem Xd {p q r:Prop} (h:q) (h2:r) (k:q→r→p:=by first|(intro hq hr;with_reducible refine And.intro ?_ ?_;exact hq;exact hr)|fail):p:=k h h2
theorem Xv {n0:Nat} {σ S:St} {e:Prop} (x:e) (k:e→aA n0 σ S:=by first|(intro hx;refine aA.av _ _ rfl ?_;simp only[Tc,↓reduceIte,reduceEqDiff,Nat.reduceBEq,reduceAdd,hx];(try trivial);done)|fail):aA n0 σ S:=k x
theorem Xs {n0:Nat} {σ:St} {l:List (Nat × AV)} {co:List Ob} {e:Prop} (snap:Bool) (aj:List Nat) (x:e) (h1:e→nQ (bd σ.aa.length aj) σ.aa aj co:=by (intro hx;simp only[Oc,simprocAttr,hx])) (h2:e→qo (aN σ (kept aj co) (bd σ.aa.length aj) snap) σ.env l:=by (intro hx;simp only[Hr,↓reduceIte,reduceEqDiff,Nat.reduceBEq,reduceAdd,hx];(try (and_intros<;>first|exact .pure rfl|exact .eq rfl|exact .fz rfl (by simp only[Bc,Rc]))))) (bR:aj.Nodup:=by decide) (hn:n0≤aj.length:=by decide) (cN:∀ i,i<n0→aj.getD i 0=i:=by decide):aA n0 σ ⟨av l,co⟩:=aA.se aj snap (h1 x) (h2 x) bR hn cN
theorem Xw {n0:Nat} {σ:St} {v res:AV} {ba:List Ob} {e:Prop} (snap:Bool) (aj:List Nat) (x:e) (h1:e→nQ (bd σ.aa.length aj) σ.aa aj ba:=by (intro hx;simp only[Oc,simprocAttr,hx])) (h2:aN σ (kept aj ba) (bd σ.aa.length aj) snap res v:=by first|exact .pure rfl|exact .eq rfl|exact .fz rfl (by simp only[Bc,Rc])) (bR:aj.Nodup:=by decide) (hn:n0≤aj.length:=by decide) (cN:∀ i,i<n0→aj.getD i 0=i:=by decide):m5 n0 σ v res ba:=IK aj snap (h1 x) h2 bR hn cN
theorem Xn (aj:List Nat) {P:Program} {σ:St} {f:FuncId} {args cW:List AV} {bM:List Ob} {dst:Option Tmp} {K:St→Prop} {res:AV} {cz:List Ob} (h:ao P f cW bM res cz)
    (hK:K (({ σ with aa:=dM σ.aa aj (cz.map (bC (bd σ.aa.length aj))) }:St).put dst (aX (bd σ.aa.length aj) res)))
    (bR:aj.Nodup:=by decide) (ho:tX (bd σ.aa.length aj) σ.aa aj bM:=by ((repeat' (first|exact trivial|with_reducible refine And.intro ?_ ?_|refine And.intro ?_ ?_))<;>first|rfl|(rw[ry];rfl)|(rw[wW];rfl)|(rw[zo];rfl)|(rw[DC];rfl))) (ha:fD (aN σ (·∈aj) (bd σ.aa.length aj) false) cW args:=by ((repeat' (first|exact trivial|refine And.intro ?_ ?_))<;>(first|exact .pure rfl|exact .eq rfl|exact .fz rfl (by simp only[Bc,Rc])))):pD P f args dst K σ:=ic aj h bR ho ha hK
theorem Xf (aj:List Nat) {P:Program} {σ:St} {f:FuncId} {args cW:List AV} {bM:List Ob} {dst:Option Tmp} {K:St→Prop} {res:AV} {cz:List Ob} (h:ao P f cW bM res cz)
    (hK:K (({ σ with aa:=dM σ.aa aj (cz.map (bC (bd σ.aa.length aj))) }:St).put dst (aX (bd σ.aa.length aj) res)))
    (bR:aj.Nodup:=by decide) (ho:tX (bd σ.aa.length aj) σ.aa aj bM:=by ((repeat' (first|exact trivial|with_reducible refine And.intro ?_ ?_|refine And.intro ?_ ?_))<;>first|rfl|(rw[ry];rfl)|(rw[wW];rfl)|(rw[zo];rfl)|(rw[DC];rfl))) (ha:fD (aN σ (·∈aj) (bd σ.aa.length aj) true) cW args:=by ((repeat' (first|exact trivial|refine And.intro ?_ ?_))<;>(first|exact .pure rfl|exact .eq rfl|exact .fz rfl (by simp only[Bc,Rc])))) (dE:flat res=true:=by rfl) (wM:∀ o∈cz,tY o:=by simp[tY]):pD P f args dst K σ:=nR aj h bR ho ha dE wM hK
theorem Pw:type_of% @Mo∧type_of% @yM∧type_of% @vx∧type_of% @vw∧type_of% @cO.eq_1∧type_of% @dV.eq_1:=⟨@Mo,@yM,@vx,@vw,@cO.eq_1,@dV.eq_1⟩
theorem Va {p q e:Prop} (x:e) (h:q) (k:e→q→p:=by first|(intro hx hq;(try with_reducible intro K hK);(first|((first|refine rr ?_|refine th ?_);intro K hK;simp (disch:=omega) only[Ac,↓Pc,simprocAttr,hx];show _)|(with_reducible refine gO ?_;simp (disch:=omega) only[Ac,↓Pc,simprocAttr,hx];show _)|(refine hK _ ?_;clear hK K)|refine Wz rfl ?_|refine Xk ?_|refine Xb ?_|refine Sq.n _ ?_|refine Sq.e _ _ rfl ?_|refine Bq.n _ ?_|refine Bq.x _ ?_|refine Bq.e _ _ rfl ?_|refine hn _ ?_|refine he _ _ rfl ?_|(simp only[Qc,Kc,simprocAttr];show _)|(with_reducible refine And.intro ?_ ?_;(focus (clear hq;first|omega|with_reducible rfl|exact trivial))));(repeat (first|((first|refine rr ?_|refine th ?_);intro K hK;simp (disch:=omega) only[Ac,↓Pc,simprocAttr,hx];show _)|(with_reducible refine gO ?_;simp (disch:=omega) only[Ac,↓Pc,simprocAttr,hx];show _)|(refine hK _ ?_;clear hK K)|refine Wz rfl ?_|refine Xk ?_|refine Xb ?_|refine Sq.n _ ?_|refine Sq.e _ _ rfl ?_|refine Bq.n _ ?_|refine Bq.x _ ?_|refine Bq.e _ _ rfl ?_|refine hn _ ?_|refine he _ _ rfl ?_|(simp only[Qc,Kc,simprocAttr];show _)|(with_reducible refine And.intro ?_ ?_;(focus (clear hq;first|omega|with_reducible rfl|exact trivial)))));(try revert hK);(try revert K);exact hq)|fail):p:=k x h
theorem Vb {p q e:Prop} (x:e) (h:q) (k:e→q→p:=by first|(intro hx hq;(try with_reducible intro K hK);(first|((first|refine rr ?_|refine th ?_);intro K hK;simp (disch:=omega) only[Ac,↓Pc,simprocAttr,hx];show _)|(with_reducible refine gO ?_;simp (disch:=omega) only[Ac,↓Pc,simprocAttr,hx];show _)|(refine hK _ ?_;clear hK K)|refine Wz rfl ?_|refine Xk ?_|refine Xb ?_|refine Sq.n _ ?_|refine Sq.e _ _ rfl ?_|refine Bq.n _ ?_|refine Bq.x _ ?_|refine Bq.e _ _ rfl ?_|refine hn _ ?_|refine he _ _ rfl ?_|refine aq _ _ rfl ?_|refine a8 _ _ rfl ?_|refine eX _ _ rfl ?_|refine tn _ _ rfl ?_|(simp only[Qc,Kc,simprocAttr];show _)|(with_reducible refine And.intro ?_ ?_;(focus (clear hq;first|omega|with_reducible rfl|exact trivial))));(repeat (first|((first|refine rr ?_|refine th ?_);intro K hK;simp (disch:=omega) only[Ac,↓Pc,simprocAttr,hx];show _)|(with_reducible refine gO ?_;simp (disch:=omega) only[Ac,↓Pc,simprocAttr,hx];show _)|(refine hK _ ?_;clear hK K)|refine Wz rfl ?_|refine Xk ?_|refine Xb ?_|refine Sq.n _ ?_|refine Sq.e _ _ rfl ?_|refine Bq.n _ ?_|refine Bq.x _ ?_|refine Bq.e _ _ rfl ?_|refine hn _ ?_|refine he _ _ rfl ?_|refine aq _ _ rfl ?_|refine a8 _ _ rfl ?_|refine eX _ _ rfl ?_|refine tn _ _ rfl ?_|(simp only[Qc,Kc,simprocAttr];show _)|(with_reducible refine And.intro ?_ ?_;(focus (clear hq;first|omega|with_reducible rfl|exact trivial)))));(try revert hK);(try revert K);exact hq)|fail):p:=k x h
theorem Vc {p q e t:Prop} (x:e) (c:t) (h:q) (k:e→t→q→p:=by first|(intro hx hc hq;(try with_reducible intro K hK);(first|((first|refine rr ?_|refine th ?_|refine rb ?_|refine BZ ?_|refine ra ?_|refine B0 ?_);intro K hK;simp (disch:=omega) only[Ac,↓Pc,simprocAttr,hx];show _)|(with_reducible refine gO ?_;simp (disch:=omega) only[Ac,↓Pc,simprocAttr,hx];show _)|(refine hK _ ?_;clear hK K)|refine Wz rfl ?_|refine Xk ?_|refine Xb ?_|refine Sq.n _ ?_|refine Sq.e _ _ rfl ?_|refine Bq.n _ ?_|refine Bq.x _ ?_|refine Bq.e _ _ rfl ?_|refine hn _ ?_|refine he _ _ rfl ?_|(simp only[Qc,Kc,simprocAttr];show _)|(with_reducible refine And.intro ?_ ?_;(focus (clear hq;first|omega|with_reducible rfl|exact trivial)))|refine bW hc rfl rfl ?_|refine bW hc.1 rfl rfl ?_|refine bW hc.2 rfl rfl ?_|refine bW hc.2.1 rfl rfl ?_|refine bW hc.2.2 rfl rfl ?_|refine bW hc.2.2.1 rfl rfl ?_|refine bW hc.2.2.2 rfl rfl ?_|refine bW hc.2.2.2.1 rfl rfl ?_|refine bW hc.2.2.2.2 rfl rfl ?_|refine bW hc.2.2.2.2.1 rfl rfl ?_|refine bW hc.2.2.2.2.2 rfl rfl ?_|refine bW hc.2.2.2.2.2.1 rfl rfl ?_|refine bW hc.2.2.2.2.2.2 rfl rfl ?_|refine bW hc.2.2.2.2.2.2.1 rfl rfl ?_|refine bW hc.2.2.2.2.2.2.2 rfl rfl ?_|refine bW hc.2.2.2.2.2.2.2.1 rfl rfl ?_|refine bW hc.2.2.2.2.2.2.2.2 rfl rfl ?_|refine bY hc rfl rfl ?_|refine bY hc.1 rfl rfl ?_|refine bY hc.2 rfl rfl ?_|refine bY hc.2.1 rfl rfl ?_|refine bY hc.2.2 rfl rfl ?_|refine bY hc.2.2.1 rfl rfl ?_|refine bY hc.2.2.2 rfl rfl ?_|refine bY hc.2.2.2.1 rfl rfl ?_|refine bY hc.2.2.2.2 rfl rfl ?_|refine bY hc.2.2.2.2.1 rfl rfl ?_|refine bY hc.2.2.2.2.2 rfl rfl ?_|refine bY hc.2.2.2.2.2.1 rfl rfl ?_|refine bY hc.2.2.2.2.2.2 rfl rfl ?_|refine bY hc.2.2.2.2.2.2.1 rfl rfl ?_|refine bY hc.2.2.2.2.2.2.2 rfl rfl ?_|refine bY hc.2.2.2.2.2.2.2.1 rfl rfl ?_|refine bY hc.2.2.2.2.2.2.2.2 rfl rfl ?_);(repeat (first|((first|refine rr ?_|refine th ?_|refine rb ?_|refine BZ ?_|refine ra ?_|refine B0 ?_);intro K hK;simp (disch:=omega) only[Ac,↓Pc,simprocAttr,hx];show _)|(with_reducible refine gO ?_;simp (disch:=omega) only[Ac,↓Pc,simprocAttr,hx];show _)|(refine hK _ ?_;clear hK K)|refine Wz rfl ?_|refine Xk ?_|refine Xb ?_|refine Sq.n _ ?_|refine Sq.e _ _ rfl ?_|refine Bq.n _ ?_|refine Bq.x _ ?_|refine Bq.e _ _ rfl ?_|refine hn _ ?_|refine he _ _ rfl ?_|(simp only[Qc,Kc,simprocAttr];show _)|(with_reducible refine And.intro ?_ ?_;(focus (clear hq;first|omega|with_reducible rfl|exact trivial)))|refine bW hc rfl rfl ?_|refine bW hc.1 rfl rfl ?_|refine bW hc.2 rfl rfl ?_|refine bW hc.2.1 rfl rfl ?_|refine bW hc.2.2 rfl rfl ?_|refine bW hc.2.2.1 rfl rfl ?_|refine bW hc.2.2.2 rfl rfl ?_|refine bW hc.2.2.2.1 rfl rfl ?_|refine bW hc.2.2.2.2 rfl rfl ?_|refine bW hc.2.2.2.2.1 rfl rfl ?_|refine bW hc.2.2.2.2.2 rfl rfl ?_|refine bW hc.2.2.2.2.2.1 rfl rfl ?_|refine bW hc.2.2.2.2.2.2 rfl rfl ?_|refine bW hc.2.2.2.2.2.2.1 rfl rfl ?_|refine bW hc.2.2.2.2.2.2.2 rfl rfl ?_|refine bW hc.2.2.2.2.2.2.2.1 rfl rfl ?_|refine bW hc.2.2.2.2.2.2.2.2 rfl rfl ?_|refine bY hc rfl rfl ?_|refine bY hc.1 rfl rfl ?_|refine bY hc.2 rfl rfl ?_|refine bY hc.2.1 rfl rfl ?_|refine bY hc.2.2 rfl rfl ?_|refine bY hc.2.2.1 rfl rfl ?_|refine bY hc.2.2.2 rfl rfl ?_|refine bY hc.2.2.2.1 rfl rfl ?_|refine bY hc.2.2.2.2 rfl rfl ?_|refine bY hc.2.2.2.2.1 rfl rfl ?_|refine bY hc.2.2.2.2.2 rfl rfl ?_|refine bY hc.2.2.2.2.2.1 rfl rfl ?_|refine bY hc.2.2.2.2.2.2 rfl rfl ?_|refine bY hc.2.2.2.2.2.2.1 rfl rfl ?_|refine bY hc.2.2.2.2.2.2.2 rfl rfl ?_|refine bY hc.2.2.2.2.2.2.2.1 rfl rfl ?_|refine bY hc.2.2.2.2.2.2.2.2 rfl rfl ?_));(try revert hK);(try revert K);exact hq)|fail):p:=k x c h
theorem Vd {p q e t:Prop} (x:e) (c:t) (h:q) (k:e→t→q→p:=by first|(intro hx hc hq;(try with_reducible intro K hK);(first|((first|refine rr ?_|refine th ?_|refine rb ?_|refine BZ ?_|refine ra ?_|refine B0 ?_);intro K hK;simp (disch:=omega) only[Ac,↓Pc,simprocAttr,hx];show _)|(with_reducible refine gO ?_;simp (disch:=omega) only[Ac,↓Pc,simprocAttr,hx];show _)|(refine hK _ ?_;clear hK K)|refine Wz rfl ?_|refine Xk ?_|refine Xb ?_|refine Sq.n _ ?_|refine Sq.e _ _ rfl ?_|refine Bq.n _ ?_|refine Bq.x _ ?_|refine Bq.e _ _ rfl ?_|refine hn _ ?_|refine he _ _ rfl ?_|refine aq _ _ rfl ?_|refine a8 _ _ rfl ?_|refine eX _ _ rfl ?_|refine tn _ _ rfl ?_|(simp only[Qc,Kc,simprocAttr];show _)|(with_reducible refine And.intro ?_ ?_;(focus (clear hq;first|omega|with_reducible rfl|exact trivial)))|refine bW hc rfl rfl ?_|refine bW hc.1 rfl rfl ?_|refine bW hc.2 rfl rfl ?_|refine bW hc.2.1 rfl rfl ?_|refine bW hc.2.2 rfl rfl ?_|refine bW hc.2.2.1 rfl rfl ?_|refine bW hc.2.2.2 rfl rfl ?_|refine bW hc.2.2.2.1 rfl rfl ?_|refine bW hc.2.2.2.2 rfl rfl ?_|refine bW hc.2.2.2.2.1 rfl rfl ?_|refine bW hc.2.2.2.2.2 rfl rfl ?_|refine bW hc.2.2.2.2.2.1 rfl rfl ?_|refine bW hc.2.2.2.2.2.2 rfl rfl ?_|refine bW hc.2.2.2.2.2.2.1 rfl rfl ?_|refine bW hc.2.2.2.2.2.2.2 rfl rfl ?_|refine bW hc.2.2.2.2.2.2.2.1 rfl rfl ?_|refine bW hc.2.2.2.2.2.2.2.2 rfl rfl ?_|refine bY hc rfl rfl ?_|refine bY hc.1 rfl rfl ?_|refine bY hc.2 rfl rfl ?_|refine bY hc.2.1 rfl rfl ?_|refine bY hc.2.2 rfl rfl ?_|refine bY hc.2.2.1 rfl rfl ?_|refine bY hc.2.2.2 rfl rfl ?_|refine bY hc.2.2.2.1 rfl rfl ?_|refine bY hc.2.2.2.2 rfl rfl ?_|refine bY hc.2.2.2.2.1 rfl rfl ?_|refine bY hc.2.2.2.2.2 rfl rfl ?_|refine bY hc.2.2.2.2.2.1 rfl rfl ?_|refine bY hc.2.2.2.2.2.2 rfl rfl ?_|refine bY hc.2.2.2.2.2.2.1 rfl rfl ?_|refine bY hc.2.2.2.2.2.2.2 rfl rfl ?_|refine bY hc.2.2.2.2.2.2.2.1 rfl rfl ?_|refine bY hc.2.2.2.2.2.2.2.2 rfl rfl ?_);(repeat (first|((first|refine rr ?_|refine th ?_|refine rb ?_|refine BZ ?_|refine ra ?_|refine B0 ?_);intro K hK;simp (disch:=omega) only[Ac,↓Pc,simprocAttr,hx];show _)|(with_reducible refine gO ?_;simp (disch:=omega) only[Ac,↓Pc,simprocAttr,hx];show _)|(refine hK _ ?_;clear hK K)|refine Wz rfl ?_|refine Xk ?_|refine Xb ?_|refine Sq.n _ ?_|refine Sq.e _ _ rfl ?_|refine Bq.n _ ?_|refine Bq.x _ ?_|refine Bq.e _ _ rfl ?_|refine hn _ ?_|refine he _ _ rfl ?_|refine aq _ _ rfl ?_|refine a8 _ _ rfl ?_|refine eX _ _ rfl ?_|refine tn _ _ rfl ?_|(simp only[Qc,Kc,simprocAttr];show _)|(with_reducible refine And.intro ?_ ?_;(focus (clear hq;first|omega|with_reducible rfl|exact trivial)))|refine bW hc rfl rfl ?_|refine bW hc.1 rfl rfl ?_|refine bW hc.2 rfl rfl ?_|refine bW hc.2.1 rfl rfl ?_|refine bW hc.2.2 rfl rfl ?_|refine bW hc.2.2.1 rfl rfl ?_|refine bW hc.2.2.2 rfl rfl ?_|refine bW hc.2.2.2.1 rfl rfl ?_|refine bW hc.2.2.2.2 rfl rfl ?_|refine bW hc.2.2.2.2.1 rfl rfl ?_|refine bW hc.2.2.2.2.2 rfl rfl ?_|refine bW hc.2.2.2.2.2.1 rfl rfl ?_|refine bW hc.2.2.2.2.2.2 rfl rfl ?_|refine bW hc.2.2.2.2.2.2.1 rfl rfl ?_|refine bW hc.2.2.2.2.2.2.2 rfl rfl ?_|refine bW hc.2.2.2.2.2.2.2.1 rfl rfl ?_|refine bW hc.2.2.2.2.2.2.2.2 rfl rfl ?_|refine bY hc rfl rfl ?_|refine bY hc.1 rfl rfl ?_|refine bY hc.2 rfl rfl ?_|refine bY hc.2.1 rfl rfl ?_|refine bY hc.2.2 rfl rfl ?_|refine bY hc.2.2.1 rfl rfl ?_|refine bY hc.2.2.2 rfl rfl ?_|refine bY hc.2.2.2.1 rfl rfl ?_|refine bY hc.2.2.2.2 rfl rfl ?_|refine bY hc.2.2.2.2.1 rfl rfl ?_|refine bY hc.2.2.2.2.2 rfl rfl ?_|refine bY hc.2.2.2.2.2.1 rfl rfl ?_|refine bY hc.2.2.2.2.2.2 rfl rfl ?_|refine bY hc.2.2.2.2.2.2.1 rfl rfl ?_|refine bY hc.2.2.2.2.2.2.2 rfl rfl ?_|refine bY hc.2.2.2.2.2.2.2.1 rfl rfl ?_|refine bY hc.2.2.2.2.2.2.2.2 rfl rfl ?_));(try revert hK);(try revert K);exact hq)|fail):p:=k x c h
theorem V2 {p q r e:Prop} (x:e) (h:q) (h2:r) (k:e→q→r→p∧True:=by first|(intro hx hq hr;refine And.intro ?_ ?_;(try with_reducible intro K hK);(with_reducible refine gS (fun cU=>?_) (fun cU=>?_));(focus (have hb:=cU;(try simp only[zs,simprocAttr] at hb);all_goals (simp (disch:=omega) only[Ac,↓Pc,simprocAttr,hx,cU]);all_goals (clear cU;(try revert hK);(try revert K);revert hb;exact hq)));(focus (have hb:=cU;(try simp only[zs,simprocAttr] at hb);all_goals (simp (disch:=omega) only[Ac,↓Pc,simprocAttr,hx,cU]);all_goals (clear cU;(try revert hK);(try revert K);revert hb;exact hr)));((try have _:True:=hq);(try have _:True:=hr);trivial))|fail):p:=(k x h h2).1
theorem VD {p q r:Prop} (h:q) (h2:r) (k:q→r→p:=by first|(intro hq hr;(try with_reducible intro K hK);with_reducible refine And.intro ?_ ?_;(focus ((try clear hK K);(try revert hK);(try revert K);exact hq));(focus ((try clear hK K);(try revert hK);(try revert K);exact hr)))|fail):p:=k h h2
end T
namespace T
theorem ab3 (n m:Int) (hm:fR m):ao Tryz.prog 23 [.lit (.int .i64 n),.lit (.int .i64 m)] [] (.lit (.int .i64 (vX n m))) []:=by
  unfold fR at hm
  refine ao.aF (fn:=Tryz.f23) 16 0 [.tmp 4] Tryz.func23 rfl rfl rfl rfl rfl (by simp) ?_
  repeat' (first|(refine Xr X0 ?_;intro K hK)|(refine hK _ ?_;clear hK K)|(refine Xi ?_ ?_<;>try intro ht)|refine Xz ?_|(refine Xe ?_;first|refine aC rfl ?_|refine Xl ?_ ?_)|refine Xd ?_ ?_|exact Xx|fail)
  · rw[vX,if_pos ht]
  · have:=IC n m (by omega);omega
  · rw[vX,if_neg (by omega),(IC n m (by omega)).1 ht]
  · rw[vX,if_neg (by omega),(IC n m (by omega)).2.1 ht]
theorem Z7 (xs:List Int):ao Tryz.prog 11 [.tree 1 (ints xs)] [] (.lit (.bool (decide (xs.length≤400)))) []:=by
  refine ao.aF (fn:=Tryz.f11) 6 0 [.tmp 2] Tryz.func11 rfl rfl rfl rfl rfl (by simp) ?_
  repeat' (first|(refine Xr X0 ?_;intro K hK)|(refine hK _ ?_;clear hK K)|refine Xz ?_|(refine Xe ?_;first|refine aC rfl ?_|refine Xl ?_ ?_)|fail)
  · congr 3;simp;omega
theorem jr (L:List Int) (k:Nat) (n:Int) (hn:fR n) (hk:k≤L.length) (hL:L.length<1000000):ao Tryz.prog 63 [.ptr 0 0 0,.lit (.int .i64 n)] [.var [.tree 1 (ints L),.lit (.int .i64 k)]] (.lit (.int .i64 (eC L k n)))
    [.var [.tree 1 (ints L),.lit (.int .i64 (cQ L k))]]:=by
  refine ao.aF (fn:=Tryz.f63) 35 1 [.tmp 4] Tryz.func63 rfl rfl rfl rfl rfl (by simp) ?_
  repeat' (first|(refine Xq X0 ?_;intro K hK)|refine Xo X0 ?_|refine Xc (ab3 _ _ hn) ?_|(refine hK _ ?_;clear hK K)|(refine Xi ?_ ?_<;>try intro ht)|refine Xz ?_|(refine Xe ?_;first|refine aC rfl ?_|refine Xl ?_ ?_)|refine Xd ?_ ?_|exact Xx|fail)
  · rw[cQ,if_pos (by omega)]
  · rw[eC,if_pos (by omega)]
  · rw[cQ,if_neg (by omega),vj];rfl
  · rw[eC,if_neg (by omega),show ((k:Int)+1 - 1).toNat=k by omega]
theorem B6 (L:List Int) (k:Nat) (n:Int) (hn:fR n) (cV:0<n) (hk:k≤L.length) (hL:L.length<1000000):ao Tryz.prog 42 [.ptr 0 0 0,.lit (.int .i64 n)] [.var [.tree 1 (ints L),.lit (.int .i64 k)]] (.lit (.bool (zS L k n)))
    [.var [.tree 1 (ints L),.lit (.int .i64 (cQ L k))]]:=by
  refine ao.aF (fn:=Tryz.f42) 11 1 [.tmp 4] Tryz.func42 rfl rfl rfl rfl rfl (by simp) ?_
  repeat' (first|(refine Xr X0 ?_;intro K hK)|(refine hK _ ?_;clear hK K)|fail)
  refine mD (jr L k n hn hk hL) (by simp) ?_
  unfold fR at hn
  repeat' (first|refine Xo X0 ?_|(refine hK _ ?_;clear hK K)|refine Xz ?_|(refine Xe ?_;first|refine aC rfl ?_|refine Xl ?_ ?_)|refine Xd ?_ ?_|exact Xx|fail)
  · rfl
theorem IS (L:List Int) (k:Nat) (hk:k≤L.length) (hL:L.length<1000000):ao Tryz.prog 64 [.ptr 0 0 0] [.var [.tree 1 (ints L),.lit (.int .i64 k)]] (.lit (.int .i64 (oe L k)))
    [.var [.tree 1 (ints L),.lit (.int .i64 (s5 L k))]]:=by
  have h6:=mi (L:=L) (k:=k) (n:=6) (by omega)
  have h20:=mi (L:=L) (k:=cQ L k) (n:=20) (by omega)
  refine ao.aF (fn:=Tryz.f64) 14 1 [.tmp 2] Tryz.func64 rfl rfl rfl rfl rfl (by simp) ?_
  repeat' (first|(refine Xr X0 ?_;intro K hK)|(refine hK _ ?_;clear hK K)|refine Xz ?_|fail)
  refine mD (jr L k 6 (by unfold fR;omega) hk hL) (by simp) ?_
  have c1:eC L k 6≤3→s5 L k=cQ L k:=fun h=>by rw[s5,if_pos h]
  have c2:eC L k 6<3→oe L k=0:=fun h=>by rw[oe,if_pos h]
  have c3:eC L k 6=3→oe L k=1099511627776:=fun h=>by rw[oe,if_neg (by omega),if_pos h]
  have c4:¬ eC L k 6≤3→s5 L k=cQ L (cQ L k):=fun h=>by rw[s5,if_neg h]
  have c5:¬ eC L k 6≤3→oe L k=1+eC L (cQ L k) 20:=fun h=>by rw[oe,if_neg (by omega),if_neg (by omega)]
  repeat' (first|(refine Xr X0 ?_;intro K hK)|(refine hK _ ?_;clear hK K)|(refine Xi ?_ ?_<;>try intro ht)|refine Xz ?_|(refine Xe ?_;first|refine aC rfl ?_|refine Xl ?_ ?_)|exact Xx|fail)
  iterate 3
    · rw[c1 (by omega)]
    · rw[c2 (by omega)]
  · rw[c1 (by omega)]
  · rw[c3 (by omega)]
  · refine mD (jr L (cQ L k) 20 (by unfold fR;omega) (gM hk) hL) (by simp) ?_
    repeat' (first|refine Xo X0 ?_|(refine hK _ ?_;clear hK K)|refine Xz ?_|(refine Xe ?_;first|refine aC rfl ?_|refine Xl ?_ ?_)|refine Xd ?_ ?_|exact Xx|fail)
    · rw[c4 (by omega)]
    · rw[c5 (by omega)]
theorem Z9 (L:List Int):ao Tryz.prog 14 [.tree 1 (ints L)] [] (.ptr 0 0 0) [.var [.tree 1 (ints L),.lit (.int .i64 (0:Nat))]]:=by
  refine ao.aF (fn:=Tryz.f14) 6 0 [.tmp 2] Tryz.func14 rfl rfl rfl rfl rfl (by simp) ?_
  refine Vb X0 ?_
  rw[show (0:Int)=((0:Nat):Int) from rfl]
  exact gR rfl (by simp) rfl
theorem Ef (a b:List Int) (hl:a.length<9223372036854775808):ao Tryz.prog 21 [.tree 1 (ints a),.tree 1 (ints b)] [] (.lit (.bool (decide (a=b)))) []:=by
  refine ao.aF (fn:=Tryz.f21) 26 0 [.tmp 4] Tryz.func21 rfl rfl rfl rfl rfl (by simp) ?_
  repeat' (first|(refine Xr X0 ?_;intro K hK)|(refine hK _ ?_;clear hK K)|(refine Xi ?_ ?_<;>try intro ht)|refine Xz ?_|(refine Xe ?_;first|refine aC rfl ?_|refine Xl ?_ ?_)|fail)
  · congr 2;simp;intro h;subst h;exact absurd rfl ht
  · refine aI (fun k:Nat=>(⟨av [(0,.tree 1 (ints a)),(1,.tree 1 (ints b)),(5,.lit (.int .i64 k))],[]⟩:St)) (fun k=>k≤a.length∧(a=b↔a.drop k=b.drop k)) (fun k=>a.length - k) 0 ⟨aD _,by simp⟩ (Xv X0) ?_
    intro k ⟨hk,hc⟩ Ql ak aq
    repeat' (first|(refine Xr X0 ?_;intro K hK)|(refine hK _ ?_;clear hK K)|(refine Xi ?_ ?_<;>try intro ht)|refine Xz ?_|refine Xh ?_|(refine Xe ?_;first|refine aC rfl ?_|refine Xl ?_ ?_)|refine Xd ?_ ?_|exact Xx|fail)
    · congr 2;simp only[decide_eq_false_iff_not,eq_comm (a:=false)]
      rw[hc,dr _ _ 0 (by omega),dr b _ 0 (by omega)]
      simp only[List.cons.injEq]
      exact fun h=>ht h.1
    · refine ak _ (k+1) ⟨by omega,?_⟩ (by omega) (Xv X0)
      rw[hc,dr _ _ 0 (by omega),dr b _ 0 (by omega),ht]
      simp
    · congr 2
      rw[show a=b by rw[hc,dw (by omega),dw (by omega)]]
      simp
theorem ab4 (a b:Int) (ha:bP a) (hb:bP b):ao Tryz.prog 168 [.lit (.int .i64 a),.lit (.int .i64 b)] [] (.lit (.int .i64 (dQ a b))) []:=by
  unfold bP at *
  refine ao.aF (fn:=Tryz.f168) 9 0 [.tmp 4] Tryz.func168 rfl rfl rfl rfl rfl (by simp) ?_
  repeat' (first|(refine Xr X0 ?_;intro K hK)|(refine hK _ ?_;clear hK K)|refine Xz ?_|(refine Xe ?_;first|refine aC rfl ?_|refine Xl ?_ ?_)|refine Xd ?_ ?_|exact Xx|fail)
  · rfl
theorem B7 (a b:Int) (ha:bP a) (hb:bP b):ao Tryz.prog 100 [.lit (.int .i64 a),.lit (.int .i64 b)] [] (.lit (.int .i64 (dQ a b))) []:=by
  unfold bP at *
  refine ao.aF (fn:=Tryz.f100) 9 0 [.tmp 4] Tryz.func100 rfl rfl rfl rfl rfl (by simp) ?_
  repeat' (first|(refine Xr X0 ?_;intro K hK)|(refine hK _ ?_;clear hK K)|refine Xz ?_|(refine Xe ?_;first|refine aC rfl ?_|refine Xl ?_ ?_)|refine Xd ?_ ?_|exact Xx|fail)
  · rfl
theorem IN (n:Int):ao Tryz.prog 140 [.lit (.int .i64 n)] [] (.lit (.bool (iM n))) []:=by
  refine ao.aF (fn:=Tryz.f140) 13 0 [.tmp 2] Tryz.func140 rfl rfl rfl rfl rfl (by simp) ?_
  repeat' (first|(refine Xr X0 ?_;intro K hK)|(refine hK _ ?_;clear hK K)|(refine Xg X0 ?_ ?_<;>try intro hb)|refine Xz ?_|(refine Xe ?_;first|refine aC rfl ?_|refine Xl ?_ ?_)|fail)
  all_goals (refine congrArg (fun b=>AV.lit (Value.bool b)) ?_;rw[mB];simp only[iM,decide_eq_true_eq,beq_iff_eq,bne_iff_ne,bh,kB,j4,decide_eq_false_iff_not,jv,reduceCtorEq,iff_true,iff_false,true_iff,false_iff,eq_self];omega)
theorem IT (n:Int):ao Tryz.prog 60 [.lit (.int .i64 n)] [] (.lit (.bool (iM n))) []:=by
  refine ao.aF (fn:=Tryz.f60) 13 0 [.tmp 2] Tryz.func60 rfl rfl rfl rfl rfl (by simp) ?_
  repeat' (first|(refine Xr X0 ?_;intro K hK)|(refine hK _ ?_;clear hK K)|(refine Xg X0 ?_ ?_<;>try intro hb)|refine Xz ?_|(refine Xe ?_;first|refine aC rfl ?_|refine Xl ?_ ?_)|fail)
  all_goals (refine congrArg (fun b=>AV.lit (Value.bool b)) ?_;rw[mB];simp only[iM,decide_eq_true_eq,beq_iff_eq,bne_iff_ne,bh,kB,j4,decide_eq_false_iff_not,jv,reduceCtorEq,iff_true,iff_false,true_iff,false_iff,eq_self];omega)
theorem IM (m:ah) (n:Int):ao Tryz.prog 139 [.agg (ar m),.lit (.int .i64 n)] [] (.lit (.bool (iL m.rules n))) []:=by
  refine ao.aF (fn:=Tryz.f139) 13 0 [.tmp 4] Tryz.func139 rfl rfl rfl rfl rfl (by simp) ?_
  repeat' (first|(refine Xr @ar.eq_1 ?_;intro K hK)|(refine hK _ ?_;clear hK K)|(refine Xg @ar.eq_1 ?_ ?_<;>try intro hb)|refine Xz ?_|(refine Xe ?_;first|refine aC rfl ?_|refine Xl ?_ ?_)|fail)
  all_goals (refine congrArg (fun b=>AV.lit (Value.bool b)) ?_;rw[mB];simp only[iL,decide_eq_true_eq,beq_iff_eq,bne_iff_ne,bh,kB,j4,decide_eq_false_iff_not,jv,reduceCtorEq,iff_true,iff_false,true_iff,false_iff,eq_self];omega)
theorem IU (m:ah) (n:Int):ao Tryz.prog 59 [.agg (ar m),.lit (.int .i64 n)] [] (.lit (.bool (iL m.rules n))) []:=by
  refine ao.aF (fn:=Tryz.f59) 13 0 [.tmp 4] Tryz.func59 rfl rfl rfl rfl rfl (by simp) ?_
  repeat' (first|(refine Xr @ar.eq_1 ?_;intro K hK)|(refine hK _ ?_;clear hK K)|(refine Xg @ar.eq_1 ?_ ?_<;>try intro hb)|refine Xz ?_|(refine Xe ?_;first|refine aC rfl ?_|refine Xl ?_ ?_)|fail)
  all_goals (refine congrArg (fun b=>AV.lit (Value.bool b)) ?_;rw[mB];simp only[iL,decide_eq_true_eq,beq_iff_eq,bne_iff_ne,bh,kB,j4,decide_eq_false_iff_not,jv,reduceCtorEq,iff_true,iff_false,true_iff,false_iff,eq_self];omega)
theorem ab5 (n:Int):ao Tryz.prog 183 [.lit (.int .i64 n)] [] (.lit (.bool false)) []:=by
  refine ao.aF (fn:=Tryz.f183) 6 0 [.tmp 2] Tryz.func183 rfl rfl rfl rfl rfl (by simp) ?_
  repeat' (first|(refine Xr @bne_self_eq_false.{0} ?_;intro K hK)|(refine hK _ ?_;clear hK K)|refine Xz ?_|(refine Xe ?_;first|refine aC rfl ?_|refine Xl ?_ ?_)|exact Xx|fail)
theorem Q2 (a b:Int):ao Tryz.prog 144 [.lit (.int .i64 a),.lit (.int .i64 b)] [] (.lit (.int .i64 (nA a b))) []:=by
  refine ao.aF (fn:=Tryz.f144) 20 0 [.tmp 4] Tryz.func144 rfl rfl rfl rfl rfl (by simp) ?_
  repeat' (first|(refine Xq X0 ?_;intro K hK)|refine Xo X0 ?_|refine Xc (ab5 _) ?_|(refine hK _ ?_;clear hK K)|(refine Xi ?_ ?_<;>try intro ht)|refine Xz ?_|(refine Xe ?_;first|refine aC rfl ?_|refine Xl ?_ ?_)|exact Xx|fail)
  all_goals (unfold nA;congr 2;(repeat' split)<;>omega)
theorem Q3 (l:List Int) (hl:l.length<1000000):ao Tryz.prog 143 [.tree 1 (ints l)] [] (.lit (.int .i64 (rW l))) []:=by
  generalize an:rW l=res
  refine ao.aF (fn:=Tryz.f143) 18 0 [.tmp 2] Tryz.func143 rfl rfl rfl rfl rfl (by simp) ?_
  repeat' (first|(refine Xr X0 ?_;intro K hK)|(refine hK _ ?_;clear hK K)|refine Xz ?_|fail)
  refine aI (fun k:Nat=>(⟨av [(3,.lit (.int .i64 0)),(6,.tree 1 (ints l)),(7,.lit (.int .i64 l.length)),(8,.lit (.int .i64 k))],[]⟩:St)) (fun k=>k≤l.length∧rW (l.drop k)=res) (fun k=>l.length - k) 0 ⟨aD _,an⟩ (Xv X0) ?_
  rintro k ⟨hk,hr⟩ Ql ak aq
  repeat' (first|(refine Xr X0 ?_;intro K hK)|(refine hK _ ?_;clear hK K)|(refine Xi ?_ ?_<;>try intro ht)|refine Xz ?_|refine Xh ?_|(refine Xe ?_;first|refine aC rfl ?_|refine Xl ?_ ?_)|refine Xd ?_ ?_|exact Xx|fail)
  · rw[dr _ _ 0 (by omega),rW,if_pos (by assumption)] at hr
    rw[hr]
  · rw[dr _ _ 0 (by omega),rW,if_neg (by omega)] at hr
    exact ak _ (k+1) ⟨by omega,hr⟩ (by omega) (Xv X0)
  · rw[dw (by omega),rW] at hr
    rw[hr]
theorem abY (m:ah) (c o:Int):ao Tryz.prog 145 [.agg (ar m),.lit (.int .i64 c),.lit (.int .i64 o)] [] (.lit (.bool (eP m c o))) []:=by
  refine ao.aF (fn:=Tryz.f145) 30 0 [.tmp 6] Tryz.func145 rfl rfl rfl rfl rfl (by simp) ?_
  repeat' (first|(refine Xr (X4 @ar.eq_1 @b5 @gr @bn.eq_1) ?_;intro K hK)|(refine hK _ ?_;clear hK K)|(refine Xg (X4 @ar.eq_1 @b5 @gr @bn.eq_1) ?_ ?_<;>try intro hb)|refine Xz ?_|(refine Xe ?_;first|refine aC rfl ?_|refine Xl ?_ ?_)|refine Xd ?_ ?_|exact Xx|fail)
  all_goals (refine congrArg (fun b=>AV.lit (Value.bool b)) ?_;rw[mB];simp only[eP,decide_eq_true_eq,beq_iff_eq,bne_iff_ne,bh,kB,j4,decide_eq_false_iff_not,jv,reduceCtorEq,iff_true,iff_false,true_iff,false_iff,eq_self];omega)
theorem B8 (m:ah) (c o:Int):ao Tryz.prog 101 [.agg (ar m),.lit (.int .i64 c),.lit (.int .i64 o)] [] (.lit (.bool (eP m c o))) []:=by
  refine ao.aF (fn:=Tryz.f101) 30 0 [.tmp 6] Tryz.func101 rfl rfl rfl rfl rfl (by simp) ?_
  repeat' (first|(refine Xr (X4 @ar.eq_1 @b5 @gr @bn.eq_1) ?_;intro K hK)|(refine hK _ ?_;clear hK K)|(refine Xg (X4 @ar.eq_1 @b5 @gr @bn.eq_1) ?_ ?_<;>try intro hb)|refine Xz ?_|(refine Xe ?_;first|refine aC rfl ?_|refine Xl ?_ ?_)|refine Xd ?_ ?_|exact Xx|fail)
  all_goals (refine congrArg (fun b=>AV.lit (Value.bool b)) ?_;rw[mB];simp only[eP,decide_eq_true_eq,beq_iff_eq,bne_iff_ne,bh,kB,j4,decide_eq_false_iff_not,jv,reduceCtorEq,iff_true,iff_false,true_iff,false_iff,eq_self];omega)
theorem TK (n c:Int) (h2:n≤1048576) (h4:bP c):ao Tryz.prog 153 [.lit (.int .i64 n),.lit (.int .i64 c)] [] (.lit (.int .i64 (zT n c))) []:=by
  unfold bP at h4
  have hm:0<n→0≤n * c∧n * c≤1048576 * 1099511627776:=fun h=>⟨Int.mul_nonneg (by omega) h4.1,Int.mul_le_mul (by omega) h4.2 h4.1 (by omega)⟩
  refine ao.aF (fn:=Tryz.f153) 13 0 [.tmp 4] Tryz.func153 rfl rfl rfl rfl rfl (by simp) ?_
  repeat' (first|(refine Xr X0 ?_;intro K hK)|(refine hK _ ?_;clear hK K)|(refine Xi ?_ ?_<;>try intro ht)|refine Xz ?_|(refine Xe ?_;first|refine aC rfl ?_|refine Xl ?_ ?_)|refine Xd ?_ ?_|exact Xx|fail)
  · rw[zT,if_pos ht]
  · rw[zT,if_neg (by omega),if_pos (by omega)]
  · rw[zT,if_neg (by omega),if_neg (by omega)]
end T
namespace T
def fy {α:Type} (p:α→Bool):Nat→List α→Int
  | _,[]=>-1
  | k,x::r=>if p x=true then (k:Int) else fy p (k+1) r
theorem B9 {α:Type} (p:α→Bool):∀ (l:List α) (k:Nat),decide (0≤fy p k l)=l.any p
  | [],k=>rfl
  | x::r,k=>by
    rw[fy,List.any_cons]
    split
    · rename_i h;rw[h];simp
    · rename_i h;rw[B9 p r (k+1)];simp_all
theorem ab6 (l:List (List bK)) (g:FuncId) (bk:List AV) (aa:List Ob) (p:(List bK)→Bool) (hl:l.length<9223372036854775808) (hg:∀ x∈l,ao Tryz.prog g ([.tree 6 (rowsOf bX x)]++bk) aa (.lit (.bool (p x))) aa) :
    ao Tryz.prog 181 [.tree 1 (rowsOf bn l),.fn g bk] aa (.lit (.int .i64 (fy p 0 l))) aa:=by
  generalize an:fy p 0 l=res
  refine ao.aF (fn:=Tryz.f181) 19 aa.length [.tmp 4] Tryz.func181 rfl rfl rfl rfl rfl (by simp) ?_
  refine Vb (X3 @b5 @gr @bn.eq_1) ?_
  refine aI (fun k:Nat=>(⟨av [(0,.tree 1 (rowsOf bn l)),(1,.fn g bk),(7,.lit (.int .i64 l.length)),(8,.lit (.int .i64 k))],aa⟩:St)) (fun k=>k≤l.length∧fy p k (l.drop k)=res) (fun k=>l.length - k) 0 ⟨aD _,an⟩ (Xv X0) ?_
  rintro k ⟨hk,hr⟩ Ql ak aq
  by_cases aP:k<l.length
  · have hx:=hg _ (az (d:=default) aP)
    have hd:=dr l k default aP
    generalize bA:l.getD k default=x at *
    rw[hd,fy] at hr
    simp only[dG,dK,bn] at hx
    ((repeat' (first|refine Vb (X4 @b5 @gr @bn.eq_1 @bA) ?_|(refine Xi ?_ ?_<;>try intro ht)|exact Xx|fail))<;>try with_reducible intro K hK)
    refine mD hx (aH _) ?_
    ((try revert hK K);(repeat' (first|refine Vb (X3 @b5 @gr @bn.eq_1) ?_|(refine Xi ?_ ?_<;>try intro ht)|fail)))
    · rw[if_pos (by assumption)] at hr
      rw[← hr]
      exact gR rfl (aH _) rfl
    · rw[if_neg (by simp_all)] at hr
      exact ak _ (k+1) ⟨by omega,hr⟩ (by omega) (Xv X0)
  · ((repeat' (first|refine Vb (X3 @b5 @gr @bn.eq_1) ?_|(refine Xi ?_ ?_<;>try intro ht)|exact Xx|fail)))
    rw[dw (by omega),fy] at hr
    rw[← hr]
    exact gR rfl (aH _) rfl
theorem abS (l:List (List bK)) (g:FuncId) (bk:List AV) (aa:List Ob) (p:(List bK)→Bool) (hl:l.length<9223372036854775808) (hg:∀ x∈l,ao Tryz.prog g ([.tree 6 (rowsOf bX x)]++bk) aa (.lit (.bool (p x))) aa) :
    ao Tryz.prog 137 [.tree 1 (rowsOf bn l),.fn g bk] aa (.lit (.bool (l.any p))) aa:=by
  rw[← B9 p l 0]
  refine ao.aF (fn:=Tryz.f137) 9 aa.length [.tmp 4] Tryz.func137 rfl rfl rfl rfl rfl (by simp) ?_
  ((refine Vb (X3 @b5 @gr @bn.eq_1) ?_)<;>try with_reducible intro K hK)
  refine mD (ab6 l g bk aa p hl hg) (aH _) ?_
  ((try revert hK K);(refine Vb (X3 @b5 @gr @bn.eq_1) ?_))
  exact gR rfl (aH _) rfl
theorem ab7 (l:List bK) (g:FuncId) (bk:List AV) (aa:List Ob) (p:bK→Bool) (hl:l.length<9223372036854775808) (hg:∀ x∈l,ao Tryz.prog g ([.agg (bX x)]++bk) aa (.lit (.bool (p x))) aa) :
    ao Tryz.prog 138 [.tree 6 (rowsOf bX l),.fn g bk] aa (.lit (.int .i64 (fy p 0 l))) aa:=by
  generalize an:fy p 0 l=res
  refine ao.aF (fn:=Tryz.f138) 19 aa.length [.tmp 4] Tryz.func138 rfl rfl rfl rfl rfl (by simp) ?_
  refine Vb (X3 @b5 @gr @bX.eq_1) ?_
  refine aI (fun k:Nat=>(⟨av [(0,.tree 6 (rowsOf bX l)),(1,.fn g bk),(7,.lit (.int .i64 l.length)),(8,.lit (.int .i64 k))],aa⟩:St)) (fun k=>k≤l.length∧fy p k (l.drop k)=res) (fun k=>l.length - k) 0 ⟨aD _,an⟩ (Xv X0) ?_
  rintro k ⟨hk,hr⟩ Ql ak aq
  by_cases aP:k<l.length
  · have hx:=hg _ (az (d:=default) aP)
    have hd:=dr l k default aP
    generalize bA:l.getD k default=x at *
    rw[hd,fy] at hr
    simp only[dG,dK,bX] at hx
    ((repeat' (first|refine Vb (X4 @b5 @gr @bX.eq_1 @bA) ?_|(refine Xi ?_ ?_<;>try intro ht)|exact Xx|fail))<;>try with_reducible intro K hK)
    refine mD hx (aH _) ?_
    ((try revert hK K);(repeat' (first|refine Vb (X3 @b5 @gr @bX.eq_1) ?_|(refine Xi ?_ ?_<;>try intro ht)|fail)))
    · rw[if_pos (by assumption)] at hr
      rw[← hr]
      exact gR rfl (aH _) rfl
    · rw[if_neg (by simp_all)] at hr
      exact ak _ (k+1) ⟨by omega,hr⟩ (by omega) (Xv X0)
  · ((repeat' (first|refine Vb (X3 @b5 @gr @bX.eq_1) ?_|(refine Xi ?_ ?_<;>try intro ht)|exact Xx|fail)))
    rw[dw (by omega),fy] at hr
    rw[← hr]
    exact gR rfl (aH _) rfl
theorem ab1 (l:List bK) (g:FuncId) (bk:List AV) (aa:List Ob) (p:bK→Bool) (hl:l.length<9223372036854775808) (hg:∀ x∈l,ao Tryz.prog g ([.agg (bX x)]++bk) aa (.lit (.bool (p x))) aa) :
    ao Tryz.prog 81 [.tree 6 (rowsOf bX l),.fn g bk] aa (.lit (.bool (l.any p))) aa:=by
  rw[← B9 p l 0]
  refine ao.aF (fn:=Tryz.f81) 9 aa.length [.tmp 4] Tryz.func81 rfl rfl rfl rfl rfl (by simp) ?_
  ((refine Vb (X3 @b5 @gr @bX.eq_1) ?_)<;>try with_reducible intro K hK)
  refine mD (ab7 l g bk aa p hl hg) (aH _) ?_
  ((try revert hK K);(refine Vb (X3 @b5 @gr @bX.eq_1) ?_))
  exact gR rfl (aH _) rfl
theorem TL (l:List Ct) (g:FuncId) (bk:List AV) (aa:List Ob) (p:Ct→Bool) (hl:l.length<9223372036854775808) (hg:∀ x∈l,ao Tryz.prog g ([.agg (aU x)]++bk) aa (.lit (.bool (p x))) aa) :
    ao Tryz.prog 93 [.tree 4 (rowsOf aU l),.fn g bk] aa (.lit (.int .i64 (fy p 0 l))) aa:=by
  generalize an:fy p 0 l=res
  refine ao.aF (fn:=Tryz.f93) 19 aa.length [.tmp 4] Tryz.func93 rfl rfl rfl rfl rfl (by simp) ?_
  refine Vb (X3 @b5 @gr @aU.eq_1) ?_
  refine aI (fun k:Nat=>(⟨av [(0,.tree 4 (rowsOf aU l)),(1,.fn g bk),(7,.lit (.int .i64 l.length)),(8,.lit (.int .i64 k))],aa⟩:St)) (fun k=>k≤l.length∧fy p k (l.drop k)=res) (fun k=>l.length - k) 0 ⟨aD _,an⟩ (Xv X0) ?_
  rintro k ⟨hk,hr⟩ Ql ak aq
  by_cases aP:k<l.length
  · have hx:=hg _ (az (d:=default) aP)
    have hd:=dr l k default aP
    generalize bA:l.getD k default=x at *
    rw[hd,fy] at hr
    simp only[dG,dK,aU] at hx
    ((repeat' (first|refine Vb (X4 @b5 @gr @aU.eq_1 @bA) ?_|(refine Xi ?_ ?_<;>try intro ht)|exact Xx|fail))<;>try with_reducible intro K hK)
    refine mD hx (aH _) ?_
    ((try revert hK K);(repeat' (first|refine Vb (X3 @b5 @gr @aU.eq_1) ?_|(refine Xi ?_ ?_<;>try intro ht)|fail)))
    · rw[if_pos (by assumption)] at hr
      rw[← hr]
      exact gR rfl (aH _) rfl
    · rw[if_neg (by simp_all)] at hr
      exact ak _ (k+1) ⟨by omega,hr⟩ (by omega) (Xv X0)
  · ((repeat' (first|refine Vb (X3 @b5 @gr @aU.eq_1) ?_|(refine Xi ?_ ?_<;>try intro ht)|exact Xx|fail)))
    rw[dw (by omega),fy] at hr
    rw[← hr]
    exact gR rfl (aH _) rfl
theorem ab2 (l:List Ct) (g:FuncId) (bk:List AV) (aa:List Ob) (p:Ct→Bool) (hl:l.length<9223372036854775808) (hg:∀ x∈l,ao Tryz.prog g ([.agg (aU x)]++bk) aa (.lit (.bool (p x))) aa) :
    ao Tryz.prog 86 [.tree 4 (rowsOf aU l),.fn g bk] aa (.lit (.bool (l.any p))) aa:=by
  rw[← B9 p l 0]
  refine ao.aF (fn:=Tryz.f86) 9 aa.length [.tmp 4] Tryz.func86 rfl rfl rfl rfl rfl (by simp) ?_
  ((refine Vb (X3 @b5 @gr @aU.eq_1) ?_)<;>try with_reducible intro K hK)
  refine mD (TL l g bk aa p hl hg) (aH _) ?_
  ((try revert hK K);(refine Vb (X3 @b5 @gr @aU.eq_1) ?_))
  exact gR rfl (aH _) rfl
theorem ab8 (l:List Int) (g:FuncId) (bk:List AV) (aa:List Ob) (p:Int→Bool) (hl:l.length<9223372036854775808) (hg:∀ x∈l,ao Tryz.prog g ([.lit (.int .i64 x)]++bk) aa (.lit (.bool (p x))) aa) :
    ao Tryz.prog 182 [.tree 1 (ints l),.fn g bk] aa (.lit (.int .i64 (fy p 0 l))) aa:=by
  generalize an:fy p 0 l=res
  refine ao.aF (fn:=Tryz.f182) 19 aa.length [.tmp 4] Tryz.func182 rfl rfl rfl rfl rfl (by simp) ?_
  refine Vb @g7 ?_
  refine aI (fun k:Nat=>(⟨av [(0,.tree 1 (ints l)),(1,.fn g bk),(7,.lit (.int .i64 l.length)),(8,.lit (.int .i64 k))],aa⟩:St)) (fun k=>k≤l.length∧fy p k (l.drop k)=res) (fun k=>l.length - k) 0 ⟨aD _,an⟩ (Xv X0) ?_
  rintro k ⟨hk,hr⟩ Ql ak aq
  by_cases aP:k<l.length
  · have hx:=hg _ (az (d:=0) aP)
    have hd:=dr l k 0 aP
    generalize bA:l.getD k 0=x at *
    rw[hd,fy] at hr
    simp only[dG,dK] at hx
    ((repeat' (first|refine Vb (X2 @g7 @bA) ?_|(refine Xi ?_ ?_<;>try intro ht)|exact Xx|fail))<;>try with_reducible intro K hK)
    refine mD hx (aH _) ?_
    ((try revert hK K);(repeat' (first|refine Vb @g7 ?_|(refine Xi ?_ ?_<;>try intro ht)|fail)))
    · rw[if_pos (by assumption)] at hr
      rw[← hr]
      exact gR rfl (aH _) rfl
    · rw[if_neg (by simp_all)] at hr
      exact ak _ (k+1) ⟨by omega,hr⟩ (by omega) (Xv X0)
  · ((repeat' (first|refine Vb @g7 ?_|(refine Xi ?_ ?_<;>try intro ht)|exact Xx|fail)))
    rw[dw (by omega),fy] at hr
    rw[← hr]
    exact gR rfl (aH _) rfl
theorem OA (l:List Int) (g:FuncId) (bk:List AV) (aa:List Ob) (p:Int→Bool) (hl:l.length<9223372036854775808) (hg:∀ x∈l,ao Tryz.prog g ([.lit (.int .i64 x)]++bk) aa (.lit (.bool (p x))) aa) :
    ao Tryz.prog 141 [.tree 1 (ints l),.fn g bk] aa (.lit (.bool (l.any p))) aa:=by
  rw[← B9 p l 0]
  refine ao.aF (fn:=Tryz.f141) 9 aa.length [.tmp 4] Tryz.func141 rfl rfl rfl rfl rfl (by simp) ?_
  ((refine Vb @g7 ?_)<;>try with_reducible intro K hK)
  refine mD (ab8 l g bk aa p hl hg) (aH _) ?_
  ((try revert hK K);(refine Vb @g7 ?_))
  exact gR rfl (aH _) rfl
end T

