import Derived.Test.YtdipcmigdbnheaaGreatX06
import Derived.Test.YtdipcmigdbnheaaGreatX07
import Derived.Test.YtdipcmigdbnheaaGreatX09
import Derived.Test.YtdipcmigdbnheaaGreatProg
import Derived.KernelRfl
set_option linter.unusedVariables false
set_option linter.unusedSimpArgs false
set_option linter.unnecessarySimpa false
set_option linter.unusedSectionVars false
set_option maxHeartbeats 64000000
set_option maxRecDepth 20000
open Int renaming natCast_add→uQ,cast_ofNat_Int→B9,mul_nonneg→p6,mul_le_mul→pj
open List renaming length_append→bV,length_cons→dH,length_nil→mQ,drop_eq_nil_of_le→cB
open Nat renaming zero_add→fi,zero_le→aM
open Bool renaming eq_iff_iff→oC,and_eq_true→bk,or_eq_true→kv,not_eq_true'→kx,false_eq_true→jF
open Go Go.Am Go.Proofs
open Nat (reduceEqDiff reduceAdd reduceLeDiff reduceMul)
open Int (reduceNeg reduceLE reduceToNat)
namespace T
theorem OI:ty Tryz.prog 2 = { kind:=5,size:=1,bytes:=8,elem:=0,len:=0,zero:=some [.int .i64 0],aL:=[] }:=by kernel_rfl
theorem OJ:ty Tryz.prog 3 = { kind:=5,size:=1,bytes:=8,elem:=0,len:=0,zero:=some [.int .i64 0],aL:=[] }:=by kernel_rfl
theorem OK:ty Tryz.prog 4 = { kind:=6,size:=1,bytes:=1,elem:=0,len:=0,zero:=some [.bool false],aL:=[] }:=by kernel_rfl
theorem OL:ty Tryz.prog 5 = { kind:=5,size:=1,bytes:=1,elem:=0,len:=0,zero:=some [.int .u8 0],aL:=[] }:=by kernel_rfl
theorem ON:ty Tryz.prog 6 = { kind:=5,size:=1,bytes:=1,elem:=0,len:=0,zero:=some [.int .u8 0],aL:=[] }:=by kernel_rfl
theorem OO:ty Tryz.prog 7 = { kind:=3,size:=4,bytes:=24,elem:=0,len:=0,zero:=some [.int .i64 0,.int .i64 0,.bool false,.int .u8 0],aL:=[(0,2,1),(1,3,1),(2,4,1),(3,6,1)] }:=by kernel_rfl
theorem OP:ty Tryz.prog 8 = { kind:=3,size:=4,bytes:=24,elem:=0,len:=0,zero:=some [.int .i64 0,.int .i64 0,.bool false,.int .u8 0],aL:=[(0,2,1),(1,3,1),(2,4,1),(3,6,1)] }:=by kernel_rfl
theorem OQ:ty Tryz.prog 9 = { kind:=4,size:=1,bytes:=16,elem:=0,len:=0,zero:=some [.string ⟨#[]⟩],aL:=[] }:=by kernel_rfl
theorem OR:ty Tryz.prog 10 = { kind:=4,size:=1,bytes:=16,elem:=0,len:=0,zero:=some [.string ⟨#[]⟩],aL:=[] }:=by kernel_rfl
theorem OS:ty Tryz.prog 11 = { kind:=4,size:=1,bytes:=16,elem:=0,len:=0,zero:=some [.string ⟨#[]⟩],aL:=[] }:=by kernel_rfl
theorem OT:ty Tryz.prog 12 = { kind:=5,size:=1,bytes:=8,elem:=0,len:=0,zero:=some [.int .u64 0],aL:=[] }:=by kernel_rfl
theorem OU:ty Tryz.prog 13 = { kind:=3,size:=2,bytes:=24,elem:=0,len:=0,zero:=some [.string ⟨#[]⟩,.int .u64 0],aL:=[(0,9,1),(1,12,1)] }:=by kernel_rfl
theorem OV:ty Tryz.prog 14 = { kind:=3,size:=2,bytes:=24,elem:=0,len:=0,zero:=some [.string ⟨#[]⟩,.int .u64 0],aL:=[(0,9,1),(1,12,1)] }:=by kernel_rfl
theorem OW:ty Tryz.prog 15 = { kind:=7,size:=1,bytes:=8,elem:=278,len:=0,zero:=some [.pointer none],aL:=[] }:=by kernel_rfl
theorem OX:ty Tryz.prog 16 = { kind:=7,size:=1,bytes:=8,elem:=281,len:=0,zero:=some [.pointer none],aL:=[] }:=by kernel_rfl
theorem OY:ty Tryz.prog 17 = { kind:=7,size:=1,bytes:=8,elem:=289,len:=0,zero:=some [.pointer none],aL:=[] }:=by kernel_rfl
theorem OZ:ty Tryz.prog 18 = { kind:=3,size:=1,bytes:=8,elem:=0,len:=0,zero:=some [.pointer none],aL:=[(0,17,1)] }:=by kernel_rfl
theorem O0:ty Tryz.prog 19 = { kind:=3,size:=1,bytes:=8,elem:=0,len:=0,zero:=some [.pointer none],aL:=[(0,17,1)] }:=by kernel_rfl
theorem O1:ty Tryz.prog 21 = { kind:=5,size:=1,bytes:=4,elem:=0,len:=0,zero:=some [.int .i32 0],aL:=[] }:=by kernel_rfl
theorem O2:ty Tryz.prog 22 = { kind:=1,size:=1,bytes:=24,elem:=3,len:=0,zero:=some [.slice none 0 0],aL:=[] }:=by kernel_rfl
theorem O3:ty Tryz.prog 25 = { kind:=1,size:=1,bytes:=24,elem:=82,len:=0,zero:=some [.slice none 0 0],aL:=[] }:=by kernel_rfl
theorem O4:ty Tryz.prog 26 = { kind:=1,size:=1,bytes:=24,elem:=84,len:=0,zero:=some [.slice none 0 0],aL:=[] }:=by kernel_rfl
theorem O5:ty Tryz.prog 27 = { kind:=1,size:=1,bytes:=24,elem:=98,len:=0,zero:=some [.slice none 0 0],aL:=[] }:=by kernel_rfl
theorem O6:ty Tryz.prog 28 = { kind:=3,size:=4,bytes:=80,elem:=0,len:=0,zero:=some [.slice none 0 0,.slice none 0 0,.slice none 0 0,.int .i64 0],aL:=[(0,25,1),(1,26,1),(2,27,1),(3,3,1)] }:=by kernel_rfl
theorem O7:ty Tryz.prog 29 = { kind:=3,size:=4,bytes:=80,elem:=0,len:=0,zero:=some [.slice none 0 0,.slice none 0 0,.slice none 0 0,.int .i64 0],aL:=[(0,25,1),(1,26,1),(2,27,1),(3,3,1)] }:=by kernel_rfl
theorem O8:ty Tryz.prog 31 = { kind:=7,size:=1,bytes:=8,elem:=90,len:=0,zero:=some [.pointer none],aL:=[] }:=by kernel_rfl
theorem O9:ty Tryz.prog 33 = { kind:=5,size:=1,bytes:=8,elem:=0,len:=0,zero:=some [.int .i64 0],aL:=[] }:=by kernel_rfl
theorem O':ty Tryz.prog 37 = { kind:=1,size:=1,bytes:=24,elem:=68,len:=0,zero:=some [.slice none 0 0],aL:=[] }:=by kernel_rfl
theorem Pa:ty Tryz.prog 38 = { kind:=3,size:=1,bytes:=24,elem:=0,len:=0,zero:=some [.slice none 0 0],aL:=[(0,37,1)] }:=by kernel_rfl
theorem Pb:ty Tryz.prog 39 = { kind:=3,size:=1,bytes:=24,elem:=0,len:=0,zero:=some [.slice none 0 0],aL:=[(0,37,1)] }:=by kernel_rfl
theorem Pe:ty Tryz.prog 40 = { kind:=3,size:=4,bytes:=64,elem:=0,len:=0,zero:=some [.slice none 0 0,.int .i64 0,.int .i64 0,.slice none 0 0],aL:=[(0,22,1),(1,3,1),(2,3,1),(3,39,1)] }:=by kernel_rfl
theorem Pf:ty Tryz.prog 41 = { kind:=3,size:=4,bytes:=64,elem:=0,len:=0,zero:=some [.slice none 0 0,.int .i64 0,.int .i64 0,.slice none 0 0],aL:=[(0,22,1),(1,3,1),(2,3,1),(3,39,1)] }:=by kernel_rfl
theorem Pg:ty Tryz.prog 57 = { kind:=1,size:=1,bytes:=24,elem:=22,len:=0,zero:=some [.slice none 0 0],aL:=[] }:=by kernel_rfl
theorem Ph:ty Tryz.prog 58 = { kind:=3,size:=3,bytes:=72,elem:=0,len:=0,zero:=some [.slice none 0 0,.slice none 0 0,.slice none 0 0],aL:=[(0,22,1),(1,39,1),(2,57,1)] }:=by kernel_rfl
theorem Pj:ty Tryz.prog 59 = { kind:=3,size:=3,bytes:=72,elem:=0,len:=0,zero:=some [.slice none 0 0,.slice none 0 0,.slice none 0 0],aL:=[(0,22,1),(1,39,1),(2,57,1)] }:=by kernel_rfl
theorem Pk:ty Tryz.prog 65 = { kind:=1,size:=1,bytes:=24,elem:=184,len:=0,zero:=some [.slice none 0 0],aL:=[] }:=by kernel_rfl
theorem Pl:ty Tryz.prog 66 = { kind:=1,size:=1,bytes:=24,elem:=175,len:=0,zero:=some [.slice none 0 0],aL:=[] }:=by kernel_rfl
theorem Pm:ty Tryz.prog 67 = { kind:=3,size:=5,bytes:=104,elem:=0,len:=0,zero:=some [.int .i64 0,.slice none 0 0,.slice none 0 0,.slice none 0 0,.slice none 0 0],aL:=[(0,3,1),(1,22,1),(2,65,1),(3,22,1),(4,66,1)] }:=by kernel_rfl
theorem Pn:ty Tryz.prog 68 = { kind:=3,size:=5,bytes:=104,elem:=0,len:=0,zero:=some [.int .i64 0,.slice none 0 0,.slice none 0 0,.slice none 0 0,.slice none 0 0],aL:=[(0,3,1),(1,22,1),(2,65,1),(3,22,1),(4,66,1)] }:=by kernel_rfl
theorem Po:ty Tryz.prog 70 = { kind:=1,size:=1,bytes:=24,elem:=59,len:=0,zero:=some [.slice none 0 0],aL:=[] }:=by kernel_rfl
theorem Pp:ty Tryz.prog 73 = { kind:=1,size:=1,bytes:=24,elem:=4,len:=0,zero:=some [.slice none 0 0],aL:=[] }:=by kernel_rfl
theorem Pq:ty Tryz.prog 75 = { kind:=3,size:=4,bytes:=32,elem:=0,len:=0,zero:=some [.int .i64 0,.int .i64 0,.int .i64 0,.int .i64 0],aL:=[(0,3,1),(1,3,1),(2,3,1),(3,3,1)] }:=by kernel_rfl
theorem Ps:ty Tryz.prog 76 = { kind:=3,size:=4,bytes:=32,elem:=0,len:=0,zero:=some [.int .i64 0,.int .i64 0,.int .i64 0,.int .i64 0],aL:=[(0,3,1),(1,3,1),(2,3,1),(3,3,1)] }:=by kernel_rfl
theorem Pt:ty Tryz.prog 77 = { kind:=3,size:=5,bytes:=40,elem:=0,len:=0,zero:=some [.int .i64 0,.int .i64 0,.int .i64 0,.int .i64 0,.int .i64 0],aL:=[(0,76,4),(4,3,1)] }:=by kernel_rfl
theorem Pu:ty Tryz.prog 78 = { kind:=3,size:=5,bytes:=40,elem:=0,len:=0,zero:=some [.int .i64 0,.int .i64 0,.int .i64 0,.int .i64 0,.int .i64 0],aL:=[(0,76,4),(4,3,1)] }:=by kernel_rfl
theorem Pv:ty Tryz.prog 79 = { kind:=1,size:=1,bytes:=24,elem:=93,len:=0,zero:=some [.slice none 0 0],aL:=[] }:=by kernel_rfl
theorem Px:ty Tryz.prog 80 = { kind:=3,size:=6,bytes:=64,elem:=0,len:=0,zero:=some [.int .i64 0,.int .i64 0,.int .i64 0,.int .i64 0,.int .i64 0,.slice none 0 0],aL:=[(0,78,5),(5,79,1)] }:=by kernel_rfl
theorem Py:ty Tryz.prog 81 = { kind:=3,size:=6,bytes:=64,elem:=0,len:=0,zero:=some [.int .i64 0,.int .i64 0,.int .i64 0,.int .i64 0,.int .i64 0,.slice none 0 0],aL:=[(0,78,5),(5,79,1)] }:=by kernel_rfl
theorem Pz:ty Tryz.prog 82 = { kind:=1,size:=1,bytes:=24,elem:=81,len:=0,zero:=some [.slice none 0 0],aL:=[] }:=by kernel_rfl
theorem PA:ty Tryz.prog 83 = { kind:=3,size:=4,bytes:=48,elem:=0,len:=0,zero:=some [.int .i64 0,.int .i64 0,.int .i64 0,.slice none 0 0],aL:=[(0,3,1),(1,3,1),(2,3,1),(3,22,1)] }:=by kernel_rfl
theorem PD:ty Tryz.prog 84 = { kind:=3,size:=4,bytes:=48,elem:=0,len:=0,zero:=some [.int .i64 0,.int .i64 0,.int .i64 0,.slice none 0 0],aL:=[(0,3,1),(1,3,1),(2,3,1),(3,22,1)] }:=by kernel_rfl
theorem PE:ty Tryz.prog 89 = { kind:=3,size:=2,bytes:=32,elem:=0,len:=0,zero:=some [.slice none 0 0,.int .i64 0],aL:=[(0,22,1),(1,3,1)] }:=by kernel_rfl
theorem PG:ty Tryz.prog 90 = { kind:=3,size:=2,bytes:=32,elem:=0,len:=0,zero:=some [.slice none 0 0,.int .i64 0],aL:=[(0,22,1),(1,3,1)] }:=by kernel_rfl
theorem PH:ty Tryz.prog 92 = { kind:=3,size:=2,bytes:=16,elem:=0,len:=0,zero:=some [.int .i64 0,.int .i64 0],aL:=[(0,3,1),(1,3,1)] }:=by kernel_rfl
theorem PI:ty Tryz.prog 93 = { kind:=3,size:=2,bytes:=16,elem:=0,len:=0,zero:=some [.int .i64 0,.int .i64 0],aL:=[(0,3,1),(1,3,1)] }:=by kernel_rfl
theorem PJ:ty Tryz.prog 96 = { kind:=1,size:=1,bytes:=24,elem:=102,len:=0,zero:=some [.slice none 0 0],aL:=[] }:=by kernel_rfl
theorem PL:ty Tryz.prog 97 = { kind:=3,size:=4,bytes:=48,elem:=0,len:=0,zero:=some [.int .i64 0,.slice none 0 0,.int .i64 0,.int .i64 0],aL:=[(0,3,1),(1,96,1),(2,3,1),(3,3,1)] }:=by kernel_rfl
theorem PN:ty Tryz.prog 98 = { kind:=3,size:=4,bytes:=48,elem:=0,len:=0,zero:=some [.int .i64 0,.slice none 0 0,.int .i64 0,.int .i64 0],aL:=[(0,3,1),(1,96,1),(2,3,1),(3,3,1)] }:=by kernel_rfl
theorem PO:ty Tryz.prog 101 = { kind:=3,size:=3,bytes:=24,elem:=0,len:=0,zero:=some [.int .i64 0,.int .i64 0,.int .i64 0],aL:=[(0,3,1),(1,3,1),(2,3,1)] }:=by kernel_rfl
theorem PQ:ty Tryz.prog 102 = { kind:=3,size:=3,bytes:=24,elem:=0,len:=0,zero:=some [.int .i64 0,.int .i64 0,.int .i64 0],aL:=[(0,3,1),(1,3,1),(2,3,1)] }:=by kernel_rfl
theorem PR:ty Tryz.prog 115 = { kind:=1,size:=1,bytes:=24,elem:=3,len:=0,zero:=some [.slice none 0 0],aL:=[] }:=by kernel_rfl
theorem PS:ty Tryz.prog 123 = { kind:=7,size:=1,bytes:=8,elem:=39,len:=0,zero:=some [.pointer none],aL:=[] }:=by kernel_rfl
theorem PU:ty Tryz.prog 125 = { kind:=1,size:=1,bytes:=24,elem:=73,len:=0,zero:=some [.slice none 0 0],aL:=[] }:=by kernel_rfl
theorem PV:ty Tryz.prog 126 = { kind:=3,size:=2,bytes:=32,elem:=0,len:=0,zero:=some [.int .i64 0,.slice none 0 0],aL:=[(0,3,1),(1,125,1)] }:=by kernel_rfl
theorem PW:ty Tryz.prog 127 = { kind:=3,size:=2,bytes:=32,elem:=0,len:=0,zero:=some [.int .i64 0,.slice none 0 0],aL:=[(0,3,1),(1,125,1)] }:=by kernel_rfl
theorem PX:ty Tryz.prog 144 = { kind:=1,size:=1,bytes:=24,elem:=194,len:=0,zero:=some [.slice none 0 0],aL:=[] }:=by kernel_rfl
theorem PY:ty Tryz.prog 170 = { kind:=3,size:=3,bytes:=56,elem:=0,len:=0,zero:=some [.int .i64 0,.slice none 0 0,.slice none 0 0],aL:=[(0,127,2),(2,22,1)] }:=by kernel_rfl
theorem PZ:ty Tryz.prog 171 = { kind:=3,size:=3,bytes:=56,elem:=0,len:=0,zero:=some [.int .i64 0,.slice none 0 0,.slice none 0 0],aL:=[(0,127,2),(2,22,1)] }:=by kernel_rfl
theorem P0:ty Tryz.prog 172 = { kind:=1,size:=1,bytes:=24,elem:=171,len:=0,zero:=some [.slice none 0 0],aL:=[] }:=by kernel_rfl
theorem P1:ty Tryz.prog 175 = { kind:=1,size:=1,bytes:=24,elem:=180,len:=0,zero:=some [.slice none 0 0],aL:=[] }:=by kernel_rfl
theorem P3:ty Tryz.prog 179 = { kind:=3,size:=2,bytes:=16,elem:=0,len:=0,zero:=some [.int .i64 0,.int .i64 0],aL:=[(0,3,1),(1,3,1)] }:=by kernel_rfl
theorem P4:ty Tryz.prog 180 = { kind:=3,size:=2,bytes:=16,elem:=0,len:=0,zero:=some [.int .i64 0,.int .i64 0],aL:=[(0,3,1),(1,3,1)] }:=by kernel_rfl
theorem P5:ty Tryz.prog 181 = { kind:=7,size:=1,bytes:=8,elem:=227,len:=0,zero:=some [.pointer none],aL:=[] }:=by kernel_rfl
theorem P6:ty Tryz.prog 183 = { kind:=3,size:=4,bytes:=32,elem:=0,len:=0,zero:=some [.int .i64 0,.int .i64 0,.int .i64 0,.int .i64 0],aL:=[(0,3,1),(1,3,1),(2,3,1),(3,3,1)] }:=by kernel_rfl
theorem P7:ty Tryz.prog 184 = { kind:=3,size:=4,bytes:=32,elem:=0,len:=0,zero:=some [.int .i64 0,.int .i64 0,.int .i64 0,.int .i64 0],aL:=[(0,3,1),(1,3,1),(2,3,1),(3,3,1)] }:=by kernel_rfl
theorem P8:ty Tryz.prog 193 = { kind:=3,size:=2,bytes:=16,elem:=0,len:=0,zero:=some [.int .i64 0,.int .i64 0],aL:=[(0,3,1),(1,3,1)] }:=by kernel_rfl
theorem P9:ty Tryz.prog 194 = { kind:=3,size:=2,bytes:=16,elem:=0,len:=0,zero:=some [.int .i64 0,.int .i64 0],aL:=[(0,3,1),(1,3,1)] }:=by kernel_rfl
theorem Qa:ty Tryz.prog 198 = { kind:=1,size:=1,bytes:=24,elem:=199,len:=0,zero:=some [.slice none 0 0],aL:=[] }:=by kernel_rfl
theorem Qd:ty Tryz.prog 199 = { kind:=1,size:=1,bytes:=24,elem:=203,len:=0,zero:=some [.slice none 0 0],aL:=[] }:=by kernel_rfl
theorem Qe:ty Tryz.prog 202 = { kind:=3,size:=2,bytes:=16,elem:=0,len:=0,zero:=some [.bool false,.int .i64 0],aL:=[(0,4,1),(1,3,1)] }:=by kernel_rfl
theorem Qf:ty Tryz.prog 203 = { kind:=3,size:=2,bytes:=16,elem:=0,len:=0,zero:=some [.bool false,.int .i64 0],aL:=[(0,4,1),(1,3,1)] }:=by kernel_rfl
theorem Qg:ty Tryz.prog 217 = { kind:=7,size:=1,bytes:=8,elem:=219,len:=0,zero:=some [.pointer none],aL:=[] }:=by kernel_rfl
theorem Qh:ty Tryz.prog 218 = { kind:=3,size:=1,bytes:=24,elem:=0,len:=0,zero:=some [.slice none 0 0],aL:=[(0,22,1)] }:=by kernel_rfl
theorem Qi:ty Tryz.prog 219 = { kind:=3,size:=1,bytes:=24,elem:=0,len:=0,zero:=some [.slice none 0 0],aL:=[(0,22,1)] }:=by kernel_rfl
theorem Qj:ty Tryz.prog 225 = { kind:=1,size:=1,bytes:=24,elem:=228,len:=0,zero:=some [.slice none 0 0],aL:=[] }:=by kernel_rfl
theorem Qk:ty Tryz.prog 226 = { kind:=3,size:=6,bytes:=128,elem:=0,len:=0,zero:=some [.slice none 0 0,.slice none 0 0,.slice none 0 0,.int .i64 0,.slice none 0 0,.slice none 0 0],aL:=[(0,29,4),(4,225,1),(5,225,1)] }:=by kernel_rfl
theorem Qm:ty Tryz.prog 227 = { kind:=3,size:=6,bytes:=128,elem:=0,len:=0,zero:=some [.slice none 0 0,.slice none 0 0,.slice none 0 0,.int .i64 0,.slice none 0 0,.slice none 0 0],aL:=[(0,29,4),(4,225,1),(5,225,1)] }:=by kernel_rfl
theorem Qn:ty Tryz.prog 228 = { kind:=1,size:=1,bytes:=24,elem:=230,len:=0,zero:=some [.slice none 0 0],aL:=[] }:=by kernel_rfl
theorem Qo:ty Tryz.prog 229 = { kind:=3,size:=2,bytes:=16,elem:=0,len:=0,zero:=some [.int .i64 0,.bool false],aL:=[(0,3,1),(1,4,1)] }:=by kernel_rfl
theorem Qp:ty Tryz.prog 230 = { kind:=3,size:=2,bytes:=16,elem:=0,len:=0,zero:=some [.int .i64 0,.bool false],aL:=[(0,3,1),(1,4,1)] }:=by kernel_rfl
theorem Qq:ty Tryz.prog 238 = { kind:=5,size:=1,bytes:=8,elem:=0,len:=0,zero:=some [.int .u64 0],aL:=[] }:=by kernel_rfl
theorem Qr:ty Tryz.prog 242 = { kind:=1,size:=1,bytes:=24,elem:=245,len:=0,zero:=some [.slice none 0 0],aL:=[] }:=by kernel_rfl
theorem Qs:ty Tryz.prog 243 = { kind:=1,size:=1,bytes:=24,elem:=245,len:=0,zero:=some [.slice none 0 0],aL:=[] }:=by kernel_rfl
theorem Qt:ty Tryz.prog 244 = { kind:=3,size:=3,bytes:=24,elem:=0,len:=0,zero:=some [.int .i64 0,.int .i64 0,.int .i64 0],aL:=[(0,3,1),(1,3,1),(2,3,1)] }:=by kernel_rfl
theorem Qu:ty Tryz.prog 245 = { kind:=3,size:=3,bytes:=24,elem:=0,len:=0,zero:=some [.int .i64 0,.int .i64 0,.int .i64 0],aL:=[(0,3,1),(1,3,1),(2,3,1)] }:=by kernel_rfl
theorem Qv:ty Tryz.prog 248 = { kind:=7,size:=1,bytes:=8,elem:=243,len:=0,zero:=some [.pointer none],aL:=[] }:=by kernel_rfl
theorem Qw:ty Tryz.prog 251 = { kind:=2,size:=2,bytes:=16,elem:=3,len:=2,zero:=some [.int .i64 0,.int .i64 0],aL:=[] }:=by kernel_rfl
theorem Qx:ty Tryz.prog 252 = { kind:=2,size:=2,bytes:=16,elem:=3,len:=2,zero:=some [.int .i64 0,.int .i64 0],aL:=[] }:=by kernel_rfl
theorem Qy:ty Tryz.prog 256 = { kind:=7,size:=1,bytes:=8,elem:=230,len:=0,zero:=some [.pointer none],aL:=[] }:=by kernel_rfl
theorem Qz:ty Tryz.prog 257 = { kind:=8,size:=1,bytes:=8,elem:=258,len:=0,zero:=some [.map none],aL:=[] }:=by kernel_rfl
theorem QA:ty Tryz.prog 258 = { kind:=8,size:=1,bytes:=8,elem:=3,len:=0,zero:=some [.map none],aL:=[] }:=by kernel_rfl
theorem QB:ty Tryz.prog 259 = { kind:=5,size:=1,bytes:=4,elem:=0,len:=0,zero:=some [.int .u32 0],aL:=[] }:=by kernel_rfl
theorem QC:ty Tryz.prog 262 = { kind:=5,size:=1,bytes:=8,elem:=0,len:=0,zero:=some [.int .u64 0],aL:=[] }:=by kernel_rfl
theorem QD:ty Tryz.prog 265 = { kind:=1,size:=1,bytes:=24,elem:=266,len:=0,zero:=some [.slice none 0 0],aL:=[] }:=by kernel_rfl
theorem QE:ty Tryz.prog 266 = { kind:=8,size:=1,bytes:=8,elem:=4,len:=0,zero:=some [.map none],aL:=[] }:=by kernel_rfl
theorem QF:ty Tryz.prog 275 = { kind:=7,size:=1,bytes:=8,elem:=252,len:=0,zero:=some [.pointer none],aL:=[] }:=by kernel_rfl
theorem QG:ty Tryz.prog 277 = { kind:=3,size:=4,bytes:=40,elem:=0,len:=0,zero:=some [.pointer none,.pointer none,.pointer none,.string ⟨#[]⟩],aL:=[(0,17,1),(1,17,1),(2,17,1),(3,9,1)] }:=by kernel_rfl
theorem QH:ty Tryz.prog 278 = { kind:=3,size:=4,bytes:=40,elem:=0,len:=0,zero:=some [.pointer none,.pointer none,.pointer none,.string ⟨#[]⟩],aL:=[(0,17,1),(1,17,1),(2,17,1),(3,9,1)] }:=by kernel_rfl
theorem QI:ty Tryz.prog 279 = { kind:=2,size:=0,bytes:=0,elem:=16,len:=0,zero:=some [],aL:=[] }:=by kernel_rfl
theorem QJ:ty Tryz.prog 280 = { kind:=3,size:=0,bytes:=0,elem:=0,len:=0,zero:=some [],aL:=[(0,279,0)] }:=by kernel_rfl
theorem QK:ty Tryz.prog 281 = { kind:=3,size:=0,bytes:=0,elem:=0,len:=0,zero:=some [],aL:=[(0,279,0)] }:=by kernel_rfl
theorem QL:ty Tryz.prog 282 = { kind:=5,size:=1,bytes:=1,elem:=0,len:=0,zero:=some [.int .u8 0],aL:=[] }:=by kernel_rfl
theorem QM:ty Tryz.prog 283 = { kind:=5,size:=1,bytes:=1,elem:=0,len:=0,zero:=some [.int .u8 0],aL:=[] }:=by kernel_rfl
theorem QN:ty Tryz.prog 285 = { kind:=7,size:=1,bytes:=8,elem:=5,len:=0,zero:=some [.pointer none],aL:=[] }:=by kernel_rfl
theorem QO:ty Tryz.prog 286 = { kind:=5,size:=1,bytes:=4,elem:=0,len:=0,zero:=some [.int .i32 0],aL:=[] }:=by kernel_rfl
theorem QP:ty Tryz.prog 287 = { kind:=5,size:=1,bytes:=4,elem:=0,len:=0,zero:=some [.int .i32 0],aL:=[] }:=by kernel_rfl
theorem QQ:ty Tryz.prog 288 = { kind:=3,size:=11,bytes:=48,elem:=0,len:=0,zero:=some [.int .u64 0,.int .u64 0,.int .u32 0,.int .u8 0,.int .u8 0,.int .u8 0,.int .u8 0,.nilFunc,.pointer none,.int .i32 0,.int .i32 0],aL:=[(0,12,1),(1,12,1),(2,259,1),(3,282,1),(4,5,1),(5,5,1),(6,283,1),(7,284,1),(8,285,1),(9,286,1),(10,287,1)] }:=by kernel_rfl
theorem QR:ty Tryz.prog 289 = { kind:=3,size:=11,bytes:=48,elem:=0,len:=0,zero:=some [.int .u64 0,.int .u64 0,.int .u32 0,.int .u8 0,.int .u8 0,.int .u8 0,.int .u8 0,.nilFunc,.pointer none,.int .i32 0,.int .i32 0],aL:=[(0,12,1),(1,12,1),(2,259,1),(3,282,1),(4,5,1),(5,5,1),(6,283,1),(7,284,1),(8,285,1),(9,286,1),(10,287,1)] }:=by kernel_rfl
theorem QT:Tryz.prog.underlying 2=some (.int .i64):=by kernel_rfl
theorem QU:Tryz.prog.underlying 3=some (.int .i64):=by kernel_rfl
theorem QV:Tryz.prog.underlying 5=some (.int .u8):=by kernel_rfl
theorem QW:Tryz.prog.underlying 6=some (.int .u8):=by kernel_rfl
theorem QX:Tryz.prog.underlying 12=some (.int .u64):=by kernel_rfl
theorem QY:Tryz.prog.underlying 21=some (.int .i32):=by kernel_rfl
theorem QZ:Tryz.prog.underlying 33=some (.int .i64):=by kernel_rfl
theorem Q2:Tryz.prog.underlying 238=some (.int .u64):=by kernel_rfl
theorem Q3:Tryz.prog.underlying 259=some (.int .u32):=by kernel_rfl
theorem Q4:Tryz.prog.underlying 262=some (.int .u64):=by kernel_rfl
theorem Q5:Tryz.prog.underlying 282=some (.int .u8):=by kernel_rfl
theorem Q6:Tryz.prog.underlying 283=some (.int .u8):=by kernel_rfl
theorem Q7:Tryz.prog.underlying 286=some (.int .i32):=by kernel_rfl
theorem Q8:Tryz.prog.underlying 287=some (.int .i32):=by kernel_rfl
theorem Q9:zeroV Tryz.prog 258=some (.map none):=by kernel_rfl
theorem Ra:x8 Tryz.prog 257=0:=by kernel_rfl
theorem Rb:ke Tryz.prog 257 0:=ke.int (kt:=3) (et:=258) (by kernel_rfl) (by kernel_rfl)
theorem Rd:zeroV Tryz.prog 3=some (.int .i64 0):=by kernel_rfl
theorem Re:x8 Tryz.prog 258=0:=by kernel_rfl
theorem Rf:ke Tryz.prog 258 0:=ke.int (kt:=3) (et:=3) (by kernel_rfl) (by kernel_rfl)
theorem Rg:zeroV Tryz.prog 4=some (.bool false):=by kernel_rfl
theorem Rh:x8 Tryz.prog 266=0:=by kernel_rfl
theorem Ri:ke Tryz.prog 266 0:=ke.int (kt:=3) (et:=4) (by kernel_rfl) (by kernel_rfl)
theorem Rj:tN Tryz.prog 9=false:=by kernel_rfl
theorem Rk:tN Tryz.prog 245=false:=by kernel_rfl
theorem Rl:tN Tryz.prog 248=false:=by kernel_rfl
theorem Rm : u3 Tryz.prog 248 "Len" = some (224, some 243) := by kernel_rfl
theorem Rn : u3 Tryz.prog 248 "Less" = some (225, some 243) := by kernel_rfl
theorem Ro : u3 Tryz.prog 248 "Pop" = some (227, none) := by kernel_rfl
theorem Rp : u3 Tryz.prog 248 "Swap" = some (226, some 243) := by kernel_rfl
theorem oW:type_of% OI∧type_of% OJ∧type_of% OK∧type_of% OL∧type_of% ON∧type_of% OO∧type_of% OP∧type_of% OQ∧type_of% OR∧type_of% OS∧type_of% OT∧type_of% OU∧type_of% OV∧type_of% OW∧type_of% OX∧type_of% OY∧type_of% OZ∧type_of% O0∧type_of% O1∧type_of% O2∧type_of% O3∧type_of% O4∧type_of% O5∧type_of% O6∧type_of% O7∧type_of% O8∧type_of% O9∧type_of% O'∧type_of% Pa∧type_of% Pb∧type_of% Pe∧type_of% Pf∧type_of% Pg∧type_of% Ph∧type_of% Pj∧type_of% Pk∧type_of% Pl∧type_of% Pm∧type_of% Pn∧type_of% Po∧type_of% Pp∧type_of% Pq∧type_of% Ps∧type_of% Pt∧type_of% Pu∧type_of% Pv∧type_of% Px∧type_of% Py∧type_of% Pz∧type_of% PA∧type_of% PD∧type_of% PE∧type_of% PG∧type_of% PH∧type_of% PI∧type_of% PJ∧type_of% PL∧type_of% PN∧type_of% PO∧type_of% PQ∧type_of% PR∧type_of% PS∧type_of% PU∧type_of% PV∧type_of% PW∧type_of% PX∧type_of% PY∧type_of% PZ∧type_of% P0∧type_of% P1∧type_of% P3∧type_of% P4∧type_of% P5∧type_of% P6∧type_of% P7∧type_of% P8∧type_of% P9∧type_of% Qa∧type_of% Qd∧type_of% Qe∧type_of% Qf∧type_of% Qg∧type_of% Qh∧type_of% Qi∧type_of% Qj∧type_of% Qk∧type_of% Qm∧type_of% Qn∧type_of% Qo∧type_of% Qp∧type_of% Qq∧type_of% Qr∧type_of% Qs∧type_of% Qt∧type_of% Qu∧type_of% Qv∧type_of% Qw∧type_of% Qx∧type_of% Qy∧type_of% Qz∧type_of% QA∧type_of% QB∧type_of% QC∧type_of% QD∧type_of% QE∧type_of% QF∧type_of% QG∧type_of% QH∧type_of% QI∧type_of% QJ∧type_of% QK∧type_of% QL∧type_of% QM∧type_of% QN∧type_of% QO∧type_of% QP∧type_of% QQ∧type_of% QR∧type_of% QT∧type_of% QU∧type_of% QV∧type_of% QW∧type_of% QX∧type_of% QY∧type_of% QZ∧type_of% Q2∧type_of% Q3∧type_of% Q4∧type_of% Q5∧type_of% Q6∧type_of% Q7∧type_of% Q8∧type_of% Q9∧type_of% Ra∧type_of% Rb∧type_of% Rd∧type_of% Re∧type_of% Rf∧type_of% Rg∧type_of% Rh∧type_of% Ri∧type_of% Rj∧type_of% Rk∧type_of% Rl∧type_of% Rm∧type_of% Rn∧type_of% Ro∧type_of% Rp :=
  ⟨OI,OJ,OK,OL,ON,OO,OP,OQ,OR,OS,OT,OU,OV,OW,OX,OY,OZ,O0,O1,O2,O3,O4,O5,O6,O7,O8,O9,O',Pa,Pb,Pe,Pf,Pg,Ph,Pj,Pk,Pl,Pm,Pn,Po,Pp,Pq,Ps,Pt,Pu,Pv,Px,Py,Pz,PA,PD,PE,PG,PH,PI,PJ,PL,PN,PO,PQ,PR,PS,PU,PV,PW,PX,PY,PZ,P0,P1,P3,P4,P5,P6,P7,P8,P9,Qa,Qd,Qe,Qf,Qg,Qh,Qi,Qj,Qk,Qm,Qn,Qo,Qp,Qq,Qr,Qs,Qt,Qu,Qv,Qw,Qx,Qy,Qz,QA,QB,QC,QD,QE,QF,QG,QH,QI,QJ,QK,QL,QM,QN,QO,QP,QQ,QR,QT,QU,QV,QW,QX,QY,QZ,Q2,Q3,Q4,Q5,Q6,Q7,Q8,Q9,Ra,Rb,Rd,Re,Rf,Rg,Rh,Ri,Rj,Rk,Rl,Rm,Rn,Ro,Rp⟩
theorem Ac:type_of% @oW∧type_of% @Bc∧type_of% @Sc∧type_of% @Rc :=
  ⟨@oW,@Bc,@Sc,@Rc⟩
theorem Kc:type_of% @mD∧type_of% @Lc∧type_of% @oW∧type_of% @Rc :=
  ⟨@mD,@Lc,@oW,@Rc⟩
theorem Oc:type_of% @nE.eq_1∧type_of% @nE.eq_2∧type_of% @or_true∧type_of% @false_or∧type_of% @Bc∧type_of% @Sc∧type_of% @Rc :=
  ⟨@nE.eq_1,@nE.eq_2,@or_true,@false_or,@Bc,@Sc,@Rc⟩
theorem Hr:type_of% @qg.eq_1∧type_of% @qg.eq_2∧type_of% @Bc∧type_of% @Rc∧type_of% @mD∧type_of% @Lc∧type_of% @oW∧type_of% @and_true∧type_of% @uQ∧type_of% @B9 :=
  ⟨@qg.eq_1,@qg.eq_2,@Bc,@Rc,@mD,@Lc,@oW,@and_true,@uQ,@B9⟩
theorem Tc:type_of% @Has.eq_1∧type_of% @Has.eq_2∧type_of% @bV.{0}∧type_of% @dH.{0}∧type_of% @mQ.{0}∧type_of% @fi∧type_of% @mD∧type_of% @Lc∧type_of% @oW∧type_of% @Rc∧type_of% @and_true∧type_of% @uQ∧type_of% @B9 :=
  ⟨@Has.eq_1,@Has.eq_2,@bV.{0},@dH.{0},@mQ.{0},@fi,@mD,@Lc,@oW,@Rc,@and_true,@uQ,@B9⟩
theorem Qc:type_of% @ye.eq_1∧type_of% @ye.eq_2∧type_of% @dX.eq_1∧type_of% @dX.eq_2∧type_of% @dX.eq_3∧type_of% @dQ.eq_1∧type_of% @NS∧type_of% @NT∧type_of% @mQ.{0}∧type_of% @mD∧type_of% @Lc∧type_of% @oW∧type_of% @Rc :=
  ⟨@ye.eq_1,@ye.eq_2,@dX.eq_1,@dX.eq_2,@dX.eq_3,@dQ.eq_1,@NS,@NT,@mQ.{0},@mD,@Lc,@oW,@Rc⟩
inductive Sq (P:Program) (N n0:Nat) (y:Code) (Q:Exit→St→Prop):Exit→St→Prop
  | n (s:St) (h:W P N n0 y Q s):Sq P N n0 y Q .normal s
  | e (e:Exit) (s:St) (hi:ua e=false) (h:Q e s):Sq P N n0 y Q e s
inductive Bq (id:Nat) (Q:Exit→St→Prop):Exit→St→Prop
  | n (s:St) (h:Q .normal s):Bq id Q .normal s
  | x (s:St) (h:Q .normal s):Bq id Q (.exit id) s
  | e (e:Exit) (s:St) (hi:AA id e=false) (h:Q e s):Bq id Q e s
section
variable {P:Program} {N n0:Nat} {σ:St} {Q:Exit→St→Prop}
theorem Xk {x y:Code} (h:W P N n0 x (Sq P N n0 y Q) σ):W P N n0 (.seq x y) Q σ:=Wk fun _ h1 h2=>LL h fun _ _ h=>by
  cases h with
  | n _ h=>exact h1 _ h
  | e _ _ hi h=>exact h2 _ _ hi h
theorem Xb {id:Nat} {c:Code} (h:W P N n0 c (Bq id Q) σ):W P N n0 (.block id c) Q σ:=Wb fun _ h1 h2 h3=>LL h fun _ _ h=>by
  cases h with
  | n _ h=>exact h1 _ h
  | x _ h=>exact h2 _ h
  | e _ _ hi h=>exact h3 _ _ hi h
theorem hn {y:Code} (s:St) (h:W P N n0 y Q s):Sq P N n0 y Q .normal s:=.n s h
theorem he {y:Code} (e:Exit) (s:St) (hi:ua e=false) (h:Q e s):Sq P N n0 y Q e s:=.e e s hi h
theorem yh {id:Nat} (s:St) (h:Q .normal s):Bq id Q .normal s:=.n s h
theorem aaG {x y:Code} (h:∀ Q':Exit→St→Prop,(∀ s,W P N n0 y Q s→Q' .normal s)→(∀ e s,ua e=false→Q e s→Q' e s)→W P N n0 x Q' σ):W P N n0 x (Sq P N n0 y Q) σ:=h _ .n .e
theorem afJ {x y z:Code} (h:∀ Q':Exit→St→Prop,(∀ s,W P N n0 y Q s→Q' .normal s)→(∀ e s,ua e=false→Q e s→Q' e s)→W P N n0 x (Sq P N n0 z Q') σ):W P N n0 x (Sq P N n0 z (Sq P N n0 y Q)) σ:=h _ .n .e
theorem aaH {x y z:Code} {id:Nat} (h:∀ Q':Exit→St→Prop,(∀ s,W P N n0 y Q s→Q' .normal s)→(∀ e s,ua e=false→Q e s→Q' e s)→W P N n0 x (Sq P N n0 z (Bq id Q')) σ):W P N n0 x (Sq P N n0 z (Bq id (Sq P N n0 y Q))) σ:=h _ .n .e
end
theorem X0:True:=trivial
theorem X2 {a b:Prop} (x:a) (y:b):a∧b:=⟨x,y⟩
theorem X3 {a b c:Prop} (x:a) (y:b) (z:c):a∧b∧c:=⟨x,y,z⟩
theorem X4 {a b c d:Prop} (x:a) (y:b) (z:c) (u:d):a∧b∧c∧d:=⟨x,y,z,u⟩
theorem X5 {a b c d e:Prop} (x:a) (y:b) (z:c) (u:d) (v:e):a∧b∧c∧d∧e:=⟨x,y,z,u,v⟩
theorem Xr {p q e:Prop} (x:e) (h:q) (k:e→q→p:=by first|(intro hx hq;(first|refine rr ?_|refine sQ ?_);intro K hK;simp (disch:=omega) only[Ac,↓Pc,simprocAttr,hx];revert hK;revert K;exact hq)|fail):p:=k x h
theorem Xq {p q e:Prop} (x:e) (h:q) (k:e→q→p:=by first|(intro hx hq;(first|refine rr ?_|refine sQ ?_|refine rb ?_|refine AB ?_|refine ra ?_|refine AD ?_);intro K hK;simp (disch:=omega) only[Ac,↓Pc,simprocAttr,hx];revert hK;revert K;exact hq)|fail):p:=k x h
theorem Xo {p q e:Prop} (x:e) (h:q) (k:e→q→p:=by first|(intro hx hq;with_reducible refine gO ?_;simp (disch:=omega) only[Ac,↓Pc,simprocAttr,hx];exact hq)|fail):p:=k x h
theorem Xc {p q t:Prop} (c:t) (h:q) (k:t→q→p:=by first|(intro hc hq;(first|refine bZ hc rfl rfl ?_|refine bH hc rfl rfl ?_);exact hq)|fail):p:=k c h
theorem Xg {p q r e:Prop} (x:e) (h:q) (h2:r) (k:e→q→r→p∧True:=by first|(intro hx hq hr;refine And.intro ?_ ?_;(with_reducible refine gS (fun db=>?_) (fun db=>?_));(focus (have hb:=db;(try simp only[yw,simprocAttr] at hb);all_goals (simp (disch:=omega) only[Ac,↓Pc,simprocAttr,hx,db]);all_goals (clear db;revert hb;exact hq)));(focus (have hb:=db;(try simp only[yw,simprocAttr] at hb);all_goals (simp (disch:=omega) only[Ac,↓Pc,simprocAttr,hx,db]);all_goals (clear db;revert hb;exact hr)));((try have _:True:=hq);(try have _:True:=hr);trivial))|fail):p:=(k x h h2).1
theorem Xi {p q r:Prop} (h:q) (h2:r) (k:q→r→p∧True:=by first|(intro hq hr;refine And.intro ?_ ?_;refine Wc ?_ ?_;(focus (intro ht;(try simp only[yw,simprocAttr] at ht);all_goals (revert ht;exact hq)));(focus (intro ht;(try simp only[yw,simprocAttr] at ht);all_goals (revert ht;exact hr)));((try have _:True:=hq);(try have _:True:=hr);trivial))|fail):p:=(k h h2).1
theorem Xz {p q:Prop} (h:q) (k:q→p:=by first|(intro hq;(first|refine Wz rfl ?_|refine Xk ?_|refine Xb ?_|refine Sq.n _ ?_|refine Sq.e _ _ rfl ?_|refine Bq.n _ ?_|refine Bq.x _ ?_|refine Bq.e _ _ rfl ?_|refine hn _ ?_|refine he _ _ rfl ?_);(repeat (first|refine Wz rfl ?_|refine Xk ?_|refine Xb ?_|refine Sq.n _ ?_|refine Sq.e _ _ rfl ?_|refine Bq.n _ ?_|refine Bq.x _ ?_|refine Bq.e _ _ rfl ?_|refine hn _ ?_|refine he _ _ rfl ?_));exact hq)|fail):p:=k h
theorem Xh {p q:Prop} (h:q) (k:q→p:=by first|(intro hq;(first|refine av _ _ rfl ?_|refine bM _ _ rfl ?_|refine eV _ _ rfl ?_|refine lh _ _ rfl ?_);exact hq)|fail):p:=k h
theorem Xu {p q:Prop} (h:q) (k:q→p:=by first|(intro hq;(first|refine Sq.n _ ?_|refine Sq.e _ _ rfl ?_|refine Bq.n _ ?_|refine Bq.x _ ?_|refine Bq.e _ _ rfl ?_|refine hn _ ?_|refine he _ _ rfl ?_|refine av _ _ rfl ?_|refine bM _ _ rfl ?_|refine eV _ _ rfl ?_|refine lh _ _ rfl ?_);exact hq)|fail):p:=k h
theorem Xe {p q:Prop} (h:q) (k:q→p:=by first|(intro hq;simp only[Qc,Kc,simprocAttr];exact hq)|fail):p:=k h
theorem Xy {p q:Prop} (h:q) (k:q→p:=by first|(intro hq;refine Xz ?_;exact hq)|(intro hq;refine Xe ?_;exact hq)|fail):p:=k h
theorem XY {p q:Prop} (h:q) (k:q→p:=by first|(intro hq;refine Xz ?_;exact hq)|(intro hq;refine Xh ?_;exact hq)|(intro hq;refine Xe ?_;exact hq)|fail):p:=k h
theorem Xx {p:Prop} (h:p:=by first|omega|with_reducible rfl|exact trivial|fail):p:=h
theorem Xl {n0:Nat} {e:Nat→AV} {os:List Ob} {v res:AV} {a8:List Ob} (ho:os=a8) (h:v=res) (hl:n0≤a8.length:=by (simp only[List.length_cons,List.length_nil];omega)):mT n0 ⟨e,os⟩ v res a8:=fJ ho hl h
theorem Xd {p q r:Prop} (h:q) (h2:r) (k:q→r→p:=by first|(intro hq hr;with_reducible refine And.intro ?_ ?_;exact hq;exact hr)|fail):p:=k h h2
theorem Xv {n0:Nat} {σ S:St} {e:Prop} (x:e) (k:e→aB n0 σ S:=by first|(intro hx;refine aB.aw _ _ rfl ?_;simp only[Tc,↓reduceIte,reduceEqDiff,Nat.reduceBEq,reduceAdd,hx];(try trivial);done)|fail):aB n0 σ S:=k x
theorem Xs {n0:Nat} {σ:St} {l:List (Nat × AV)} {co:List Ob} {e:Prop} (snap:Bool) (ak:List Nat) (x:e) (h1:e→nE (br σ.aa.length ak) σ.aa ak co:=by (intro hx;simp only[Oc,simprocAttr,hx])) (h2:e→qg (aE σ (kept ak co) (br σ.aa.length ak) snap) σ.env l:=by (intro hx;simp only[Hr,↓reduceIte,reduceEqDiff,Nat.reduceBEq,reduceAdd,hx];(try (and_intros<;>first|exact .pure rfl|exact .eq rfl|exact .fz rfl (by simp only[Bc,Rc]))))) (cC:ak.Nodup:=by decide) (hn:n0≤ak.length:=by decide) (cV:∀ i,i<n0→ak.getD i 0=i:=by decide):aB n0 σ ⟨aw l,co⟩:=aB.se ak snap (h1 x) (h2 x) cC hn cV
theorem Xw {n0:Nat} {σ:St} {v res:AV} {a8:List Ob} {e:Prop} (snap:Bool) (ak:List Nat) (x:e) (h1:e→nE (br σ.aa.length ak) σ.aa ak a8:=by (intro hx;simp only[Oc,simprocAttr,hx])) (h2:aE σ (kept ak a8) (br σ.aa.length ak) snap res v:=by first|exact .pure rfl|exact .eq rfl|exact .fz rfl (by simp only[Bc,Rc])) (cC:ak.Nodup:=by decide) (hn:n0≤ak.length:=by decide) (cV:∀ i,i<n0→ak.getD i 0=i:=by decide):mT n0 σ v res a8:=Zo ak snap (h1 x) h2 cC hn cV
theorem Xn (ak:List Nat) {P:Program} {σ:St} {f:FuncId} {args cZ:List AV} {bR:List Ob} {dst:Option Tmp} {K:St→Prop} {res:AV} {cG:List Ob} (h:an P f cZ bR res cG)
    (hK:K (({ σ with aa:=dV σ.aa ak (cG.map (bO (br σ.aa.length ak))) }:St).put dst (a6 (br σ.aa.length ak) res)))
    (cC:ak.Nodup:=by decide) (ho:tO (br σ.aa.length ak) σ.aa ak bR:=by ((repeat' (first|exact trivial|with_reducible refine And.intro ?_ ?_|refine And.intro ?_ ?_))<;>first|rfl|(rw[oD];rfl)|(rw[x5];rfl)|(rw[qo];rfl)|(rw[Cy];rfl))) (ha:dY (aE σ (·∈ak) (br σ.aa.length ak) false) cZ args:=by ((repeat' (first|exact trivial|refine And.intro ?_ ?_))<;>(first|exact .pure rfl|exact .eq rfl|exact .fz rfl (by simp only[Bc,Rc])))):pt P f args dst K σ:=iz ak h cC ho ha hK
theorem Xf (ak:List Nat) {P:Program} {σ:St} {f:FuncId} {args cZ:List AV} {bR:List Ob} {dst:Option Tmp} {K:St→Prop} {res:AV} {cG:List Ob} (h:an P f cZ bR res cG)
    (hK:K (({ σ with aa:=dV σ.aa ak (cG.map (bO (br σ.aa.length ak))) }:St).put dst (a6 (br σ.aa.length ak) res)))
    (cC:ak.Nodup:=by decide) (ho:tO (br σ.aa.length ak) σ.aa ak bR:=by ((repeat' (first|exact trivial|with_reducible refine And.intro ?_ ?_|refine And.intro ?_ ?_))<;>first|rfl|(rw[oD];rfl)|(rw[x5];rfl)|(rw[qo];rfl)|(rw[Cy];rfl))) (ha:dY (aE σ (·∈ak) (br σ.aa.length ak) true) cZ args:=by ((repeat' (first|exact trivial|refine And.intro ?_ ?_))<;>(first|exact .pure rfl|exact .eq rfl|exact .fz rfl (by simp only[Bc,Rc])))) (dK:flat res=true:=by rfl) (wC:∀ o∈cG,tP o:=by simp[tP]):pt P f args dst K σ:=nI ak h cC ho ha dK wC hK
theorem Pw:type_of% @Ka∧type_of% @xV∧type_of% @uW∧type_of% @uV∧type_of% @cW.eq_1∧type_of% @dT.eq_1:=⟨@Ka,@xV,@uW,@uV,@cW.eq_1,@dT.eq_1⟩
theorem Va {p q e:Prop} (x:e) (h:q) (k:e→q→p:=by first|(intro hx hq;(try with_reducible intro K hK);(first|((first|refine rr ?_|refine sQ ?_);intro K hK;simp (disch:=omega) only[Ac,↓Pc,simprocAttr,hx];show _)|(with_reducible refine gO ?_;simp (disch:=omega) only[Ac,↓Pc,simprocAttr,hx];show _)|(refine hK _ ?_;clear hK K)|refine Wz rfl ?_|refine Xk ?_|refine Xb ?_|refine Sq.n _ ?_|refine Sq.e _ _ rfl ?_|refine Bq.n _ ?_|refine Bq.x _ ?_|refine Bq.e _ _ rfl ?_|refine hn _ ?_|refine he _ _ rfl ?_|(simp only[Qc,Kc,simprocAttr];show _)|(with_reducible refine And.intro ?_ ?_;(focus (clear hq;first|omega|with_reducible rfl|exact trivial))));(repeat (first|((first|refine rr ?_|refine sQ ?_);intro K hK;simp (disch:=omega) only[Ac,↓Pc,simprocAttr,hx];show _)|(with_reducible refine gO ?_;simp (disch:=omega) only[Ac,↓Pc,simprocAttr,hx];show _)|(refine hK _ ?_;clear hK K)|refine Wz rfl ?_|refine Xk ?_|refine Xb ?_|refine Sq.n _ ?_|refine Sq.e _ _ rfl ?_|refine Bq.n _ ?_|refine Bq.x _ ?_|refine Bq.e _ _ rfl ?_|refine hn _ ?_|refine he _ _ rfl ?_|(simp only[Qc,Kc,simprocAttr];show _)|(with_reducible refine And.intro ?_ ?_;(focus (clear hq;first|omega|with_reducible rfl|exact trivial)))));(try revert hK);(try revert K);exact hq)|fail):p:=k x h
theorem Vb {p q e:Prop} (x:e) (h:q) (k:e→q→p:=by first|(intro hx hq;(try with_reducible intro K hK);(first|((first|refine rr ?_|refine sQ ?_);intro K hK;simp (disch:=omega) only[Ac,↓Pc,simprocAttr,hx];show _)|(with_reducible refine gO ?_;simp (disch:=omega) only[Ac,↓Pc,simprocAttr,hx];show _)|(refine hK _ ?_;clear hK K)|refine Wz rfl ?_|refine Xk ?_|refine Xb ?_|refine Sq.n _ ?_|refine Sq.e _ _ rfl ?_|refine Bq.n _ ?_|refine Bq.x _ ?_|refine Bq.e _ _ rfl ?_|refine hn _ ?_|refine he _ _ rfl ?_|refine av _ _ rfl ?_|refine bM _ _ rfl ?_|refine eV _ _ rfl ?_|refine lh _ _ rfl ?_|(simp only[Qc,Kc,simprocAttr];show _)|(with_reducible refine And.intro ?_ ?_;(focus (clear hq;first|omega|with_reducible rfl|exact trivial))));(repeat (first|((first|refine rr ?_|refine sQ ?_);intro K hK;simp (disch:=omega) only[Ac,↓Pc,simprocAttr,hx];show _)|(with_reducible refine gO ?_;simp (disch:=omega) only[Ac,↓Pc,simprocAttr,hx];show _)|(refine hK _ ?_;clear hK K)|refine Wz rfl ?_|refine Xk ?_|refine Xb ?_|refine Sq.n _ ?_|refine Sq.e _ _ rfl ?_|refine Bq.n _ ?_|refine Bq.x _ ?_|refine Bq.e _ _ rfl ?_|refine hn _ ?_|refine he _ _ rfl ?_|refine av _ _ rfl ?_|refine bM _ _ rfl ?_|refine eV _ _ rfl ?_|refine lh _ _ rfl ?_|(simp only[Qc,Kc,simprocAttr];show _)|(with_reducible refine And.intro ?_ ?_;(focus (clear hq;first|omega|with_reducible rfl|exact trivial)))));(try revert hK);(try revert K);exact hq)|fail):p:=k x h
theorem Vc {p q e t:Prop} (x:e) (c:t) (h:q) (k:e→t→q→p:=by first|(intro hx hc hq;(try with_reducible intro K hK);(first|((first|refine rr ?_|refine sQ ?_|refine rb ?_|refine AB ?_|refine ra ?_|refine AD ?_);intro K hK;simp (disch:=omega) only[Ac,↓Pc,simprocAttr,hx];show _)|(with_reducible refine gO ?_;simp (disch:=omega) only[Ac,↓Pc,simprocAttr,hx];show _)|(refine hK _ ?_;clear hK K)|refine Wz rfl ?_|refine Xk ?_|refine Xb ?_|refine Sq.n _ ?_|refine Sq.e _ _ rfl ?_|refine Bq.n _ ?_|refine Bq.x _ ?_|refine Bq.e _ _ rfl ?_|refine hn _ ?_|refine he _ _ rfl ?_|(simp only[Qc,Kc,simprocAttr];show _)|(with_reducible refine And.intro ?_ ?_;(focus (clear hq;first|omega|with_reducible rfl|exact trivial)))|refine bZ hc rfl rfl ?_|refine bZ hc.1 rfl rfl ?_|refine bZ hc.2 rfl rfl ?_|refine bZ hc.2.1 rfl rfl ?_|refine bZ hc.2.2 rfl rfl ?_|refine bZ hc.2.2.1 rfl rfl ?_|refine bZ hc.2.2.2 rfl rfl ?_|refine bZ hc.2.2.2.1 rfl rfl ?_|refine bZ hc.2.2.2.2 rfl rfl ?_|refine bZ hc.2.2.2.2.1 rfl rfl ?_|refine bZ hc.2.2.2.2.2 rfl rfl ?_|refine bZ hc.2.2.2.2.2.1 rfl rfl ?_|refine bZ hc.2.2.2.2.2.2 rfl rfl ?_|refine bZ hc.2.2.2.2.2.2.1 rfl rfl ?_|refine bZ hc.2.2.2.2.2.2.2 rfl rfl ?_|refine bZ hc.2.2.2.2.2.2.2.1 rfl rfl ?_|refine bZ hc.2.2.2.2.2.2.2.2 rfl rfl ?_|refine bH hc rfl rfl ?_|refine bH hc.1 rfl rfl ?_|refine bH hc.2 rfl rfl ?_|refine bH hc.2.1 rfl rfl ?_|refine bH hc.2.2 rfl rfl ?_|refine bH hc.2.2.1 rfl rfl ?_|refine bH hc.2.2.2 rfl rfl ?_|refine bH hc.2.2.2.1 rfl rfl ?_|refine bH hc.2.2.2.2 rfl rfl ?_|refine bH hc.2.2.2.2.1 rfl rfl ?_|refine bH hc.2.2.2.2.2 rfl rfl ?_|refine bH hc.2.2.2.2.2.1 rfl rfl ?_|refine bH hc.2.2.2.2.2.2 rfl rfl ?_|refine bH hc.2.2.2.2.2.2.1 rfl rfl ?_|refine bH hc.2.2.2.2.2.2.2 rfl rfl ?_|refine bH hc.2.2.2.2.2.2.2.1 rfl rfl ?_|refine bH hc.2.2.2.2.2.2.2.2 rfl rfl ?_);(repeat (first|((first|refine rr ?_|refine sQ ?_|refine rb ?_|refine AB ?_|refine ra ?_|refine AD ?_);intro K hK;simp (disch:=omega) only[Ac,↓Pc,simprocAttr,hx];show _)|(with_reducible refine gO ?_;simp (disch:=omega) only[Ac,↓Pc,simprocAttr,hx];show _)|(refine hK _ ?_;clear hK K)|refine Wz rfl ?_|refine Xk ?_|refine Xb ?_|refine Sq.n _ ?_|refine Sq.e _ _ rfl ?_|refine Bq.n _ ?_|refine Bq.x _ ?_|refine Bq.e _ _ rfl ?_|refine hn _ ?_|refine he _ _ rfl ?_|(simp only[Qc,Kc,simprocAttr];show _)|(with_reducible refine And.intro ?_ ?_;(focus (clear hq;first|omega|with_reducible rfl|exact trivial)))|refine bZ hc rfl rfl ?_|refine bZ hc.1 rfl rfl ?_|refine bZ hc.2 rfl rfl ?_|refine bZ hc.2.1 rfl rfl ?_|refine bZ hc.2.2 rfl rfl ?_|refine bZ hc.2.2.1 rfl rfl ?_|refine bZ hc.2.2.2 rfl rfl ?_|refine bZ hc.2.2.2.1 rfl rfl ?_|refine bZ hc.2.2.2.2 rfl rfl ?_|refine bZ hc.2.2.2.2.1 rfl rfl ?_|refine bZ hc.2.2.2.2.2 rfl rfl ?_|refine bZ hc.2.2.2.2.2.1 rfl rfl ?_|refine bZ hc.2.2.2.2.2.2 rfl rfl ?_|refine bZ hc.2.2.2.2.2.2.1 rfl rfl ?_|refine bZ hc.2.2.2.2.2.2.2 rfl rfl ?_|refine bZ hc.2.2.2.2.2.2.2.1 rfl rfl ?_|refine bZ hc.2.2.2.2.2.2.2.2 rfl rfl ?_|refine bH hc rfl rfl ?_|refine bH hc.1 rfl rfl ?_|refine bH hc.2 rfl rfl ?_|refine bH hc.2.1 rfl rfl ?_|refine bH hc.2.2 rfl rfl ?_|refine bH hc.2.2.1 rfl rfl ?_|refine bH hc.2.2.2 rfl rfl ?_|refine bH hc.2.2.2.1 rfl rfl ?_|refine bH hc.2.2.2.2 rfl rfl ?_|refine bH hc.2.2.2.2.1 rfl rfl ?_|refine bH hc.2.2.2.2.2 rfl rfl ?_|refine bH hc.2.2.2.2.2.1 rfl rfl ?_|refine bH hc.2.2.2.2.2.2 rfl rfl ?_|refine bH hc.2.2.2.2.2.2.1 rfl rfl ?_|refine bH hc.2.2.2.2.2.2.2 rfl rfl ?_|refine bH hc.2.2.2.2.2.2.2.1 rfl rfl ?_|refine bH hc.2.2.2.2.2.2.2.2 rfl rfl ?_));(try revert hK);(try revert K);exact hq)|fail):p:=k x c h
theorem Vd {p q e t:Prop} (x:e) (c:t) (h:q) (k:e→t→q→p:=by first|(intro hx hc hq;(try with_reducible intro K hK);(first|((first|refine rr ?_|refine sQ ?_|refine rb ?_|refine AB ?_|refine ra ?_|refine AD ?_);intro K hK;simp (disch:=omega) only[Ac,↓Pc,simprocAttr,hx];show _)|(with_reducible refine gO ?_;simp (disch:=omega) only[Ac,↓Pc,simprocAttr,hx];show _)|(refine hK _ ?_;clear hK K)|refine Wz rfl ?_|refine Xk ?_|refine Xb ?_|refine Sq.n _ ?_|refine Sq.e _ _ rfl ?_|refine Bq.n _ ?_|refine Bq.x _ ?_|refine Bq.e _ _ rfl ?_|refine hn _ ?_|refine he _ _ rfl ?_|refine av _ _ rfl ?_|refine bM _ _ rfl ?_|refine eV _ _ rfl ?_|refine lh _ _ rfl ?_|(simp only[Qc,Kc,simprocAttr];show _)|(with_reducible refine And.intro ?_ ?_;(focus (clear hq;first|omega|with_reducible rfl|exact trivial)))|refine bZ hc rfl rfl ?_|refine bZ hc.1 rfl rfl ?_|refine bZ hc.2 rfl rfl ?_|refine bZ hc.2.1 rfl rfl ?_|refine bZ hc.2.2 rfl rfl ?_|refine bZ hc.2.2.1 rfl rfl ?_|refine bZ hc.2.2.2 rfl rfl ?_|refine bZ hc.2.2.2.1 rfl rfl ?_|refine bZ hc.2.2.2.2 rfl rfl ?_|refine bZ hc.2.2.2.2.1 rfl rfl ?_|refine bZ hc.2.2.2.2.2 rfl rfl ?_|refine bZ hc.2.2.2.2.2.1 rfl rfl ?_|refine bZ hc.2.2.2.2.2.2 rfl rfl ?_|refine bZ hc.2.2.2.2.2.2.1 rfl rfl ?_|refine bZ hc.2.2.2.2.2.2.2 rfl rfl ?_|refine bZ hc.2.2.2.2.2.2.2.1 rfl rfl ?_|refine bZ hc.2.2.2.2.2.2.2.2 rfl rfl ?_|refine bH hc rfl rfl ?_|refine bH hc.1 rfl rfl ?_|refine bH hc.2 rfl rfl ?_|refine bH hc.2.1 rfl rfl ?_|refine bH hc.2.2 rfl rfl ?_|refine bH hc.2.2.1 rfl rfl ?_|refine bH hc.2.2.2 rfl rfl ?_|refine bH hc.2.2.2.1 rfl rfl ?_|refine bH hc.2.2.2.2 rfl rfl ?_|refine bH hc.2.2.2.2.1 rfl rfl ?_|refine bH hc.2.2.2.2.2 rfl rfl ?_|refine bH hc.2.2.2.2.2.1 rfl rfl ?_|refine bH hc.2.2.2.2.2.2 rfl rfl ?_|refine bH hc.2.2.2.2.2.2.1 rfl rfl ?_|refine bH hc.2.2.2.2.2.2.2 rfl rfl ?_|refine bH hc.2.2.2.2.2.2.2.1 rfl rfl ?_|refine bH hc.2.2.2.2.2.2.2.2 rfl rfl ?_);(repeat (first|((first|refine rr ?_|refine sQ ?_|refine rb ?_|refine AB ?_|refine ra ?_|refine AD ?_);intro K hK;simp (disch:=omega) only[Ac,↓Pc,simprocAttr,hx];show _)|(with_reducible refine gO ?_;simp (disch:=omega) only[Ac,↓Pc,simprocAttr,hx];show _)|(refine hK _ ?_;clear hK K)|refine Wz rfl ?_|refine Xk ?_|refine Xb ?_|refine Sq.n _ ?_|refine Sq.e _ _ rfl ?_|refine Bq.n _ ?_|refine Bq.x _ ?_|refine Bq.e _ _ rfl ?_|refine hn _ ?_|refine he _ _ rfl ?_|refine av _ _ rfl ?_|refine bM _ _ rfl ?_|refine eV _ _ rfl ?_|refine lh _ _ rfl ?_|(simp only[Qc,Kc,simprocAttr];show _)|(with_reducible refine And.intro ?_ ?_;(focus (clear hq;first|omega|with_reducible rfl|exact trivial)))|refine bZ hc rfl rfl ?_|refine bZ hc.1 rfl rfl ?_|refine bZ hc.2 rfl rfl ?_|refine bZ hc.2.1 rfl rfl ?_|refine bZ hc.2.2 rfl rfl ?_|refine bZ hc.2.2.1 rfl rfl ?_|refine bZ hc.2.2.2 rfl rfl ?_|refine bZ hc.2.2.2.1 rfl rfl ?_|refine bZ hc.2.2.2.2 rfl rfl ?_|refine bZ hc.2.2.2.2.1 rfl rfl ?_|refine bZ hc.2.2.2.2.2 rfl rfl ?_|refine bZ hc.2.2.2.2.2.1 rfl rfl ?_|refine bZ hc.2.2.2.2.2.2 rfl rfl ?_|refine bZ hc.2.2.2.2.2.2.1 rfl rfl ?_|refine bZ hc.2.2.2.2.2.2.2 rfl rfl ?_|refine bZ hc.2.2.2.2.2.2.2.1 rfl rfl ?_|refine bZ hc.2.2.2.2.2.2.2.2 rfl rfl ?_|refine bH hc rfl rfl ?_|refine bH hc.1 rfl rfl ?_|refine bH hc.2 rfl rfl ?_|refine bH hc.2.1 rfl rfl ?_|refine bH hc.2.2 rfl rfl ?_|refine bH hc.2.2.1 rfl rfl ?_|refine bH hc.2.2.2 rfl rfl ?_|refine bH hc.2.2.2.1 rfl rfl ?_|refine bH hc.2.2.2.2 rfl rfl ?_|refine bH hc.2.2.2.2.1 rfl rfl ?_|refine bH hc.2.2.2.2.2 rfl rfl ?_|refine bH hc.2.2.2.2.2.1 rfl rfl ?_|refine bH hc.2.2.2.2.2.2 rfl rfl ?_|refine bH hc.2.2.2.2.2.2.1 rfl rfl ?_|refine bH hc.2.2.2.2.2.2.2 rfl rfl ?_|refine bH hc.2.2.2.2.2.2.2.1 rfl rfl ?_|refine bH hc.2.2.2.2.2.2.2.2 rfl rfl ?_));(try revert hK);(try revert K);exact hq)|fail):p:=k x c h
theorem V2 {p q r e:Prop} (x:e) (h:q) (h2:r) (k:e→q→r→p∧True:=by first|(intro hx hq hr;refine And.intro ?_ ?_;(try with_reducible intro K hK);(with_reducible refine gS (fun db=>?_) (fun db=>?_));(focus (have hb:=db;(try simp only[yw,simprocAttr] at hb);all_goals (simp (disch:=omega) only[Ac,↓Pc,simprocAttr,hx,db]);all_goals (clear db;(try revert hK);(try revert K);revert hb;exact hq)));(focus (have hb:=db;(try simp only[yw,simprocAttr] at hb);all_goals (simp (disch:=omega) only[Ac,↓Pc,simprocAttr,hx,db]);all_goals (clear db;(try revert hK);(try revert K);revert hb;exact hr)));((try have _:True:=hq);(try have _:True:=hr);trivial))|fail):p:=(k x h h2).1
theorem VD {p q r:Prop} (h:q) (h2:r) (k:q→r→p:=by first|(intro hq hr;(try with_reducible intro K hK);with_reducible refine And.intro ?_ ?_;(focus ((try clear hK K);(try revert hK);(try revert K);exact hq));(focus ((try clear hK K);(try revert hK);(try revert K);exact hr)))|fail):p:=k h h2
end T
namespace T
theorem Oh (n m:Int) (hm:fc m):an Tryz.prog 23 [.lit (.int .i64 n),.lit (.int .i64 m)] [] (.lit (.int .i64 (qy n m))) []:=by
  unfold fc at hm
  refine an.aD (fn:=Tryz.f23) 16 0 [.tmp 4] Tryz.func23 rfl rfl rfl rfl rfl (by simp) ?_
  repeat' (first|(refine Xr X0 ?_;intro K hK)|(refine hK _ ?_;clear hK K)|(refine Xi ?_ ?_<;>try intro ht)|refine Xz ?_|(refine Xe ?_;first|refine aK rfl ?_|refine Xl ?_ ?_)|refine Xd ?_ ?_|exact Xx|fail)
  · rw[qy,if_pos ht]
  · have:=Hg n m (by omega);omega
  · rw[qy,if_neg (by omega),(Hg n m (by omega)).1 ht]
  · rw[qy,if_neg (by omega),(Hg n m (by omega)).2.1 ht]
theorem Oa (xs:List Int):an Tryz.prog 11 [.tree 1 (ints xs)] [] (.lit (.bool (decide (xs.length≤400)))) []:=by
  refine an.aD (fn:=Tryz.f11) 6 0 [.tmp 2] Tryz.func11 rfl rfl rfl rfl rfl (by simp) ?_
  repeat' (first|(refine Xr X0 ?_;intro K hK)|(refine hK _ ?_;clear hK K)|refine Xz ?_|(refine Xe ?_;first|refine aK rfl ?_|refine Xl ?_ ?_)|fail)
  · congr 3;simp;omega
theorem jA (L:List Int) (k:Nat) (n:Int) (hn:fc n) (hk:k≤L.length) (hL:L.length<1000000):an Tryz.prog 63 [.ptr 0 0 0,.lit (.int .i64 n)] [.var [.tree 1 (ints L),.lit (.int .i64 k)]] (.lit (.int .i64 (eH L k n)))
    [.var [.tree 1 (ints L),.lit (.int .i64 (cU L k))]]:=by
  refine an.aD (fn:=Tryz.f63) 35 1 [.tmp 4] Tryz.func63 rfl rfl rfl rfl rfl (by simp) ?_
  repeat' (first|(refine Xq X0 ?_;intro K hK)|refine Xo X0 ?_|refine Xc (Oh _ _ hn) ?_|(refine hK _ ?_;clear hK K)|(refine Xi ?_ ?_<;>try intro ht)|refine Xz ?_|(refine Xe ?_;first|refine aK rfl ?_|refine Xl ?_ ?_)|refine Xd ?_ ?_|exact Xx|fail)
  · rw[cU,if_pos (by omega)]
  · rw[eH,if_pos (by omega)]
  · rw[cU,if_neg (by omega),uQ];rfl
  · rw[eH,if_neg (by omega),show ((k:Int)+1 - 1).toNat=k by omega]
theorem yQ (L:List Int) (k:Nat) (n:Int) (hn:fc n) (dR:0<n) (hk:k≤L.length) (hL:L.length<1000000):an Tryz.prog 42 [.ptr 0 0 0,.lit (.int .i64 n)] [.var [.tree 1 (ints L),.lit (.int .i64 k)]] (.lit (.bool (xc L k n)))
    [.var [.tree 1 (ints L),.lit (.int .i64 (cU L k))]]:=by
  refine an.aD (fn:=Tryz.f42) 11 1 [.tmp 4] Tryz.func42 rfl rfl rfl rfl rfl (by simp) ?_
  repeat' (first|(refine Xr X0 ?_;intro K hK)|(refine hK _ ?_;clear hK K)|fail)
  refine lB (jA L k n hn hk hL) (by simp) ?_
  unfold fc at hn
  repeat' (first|refine Xo X0 ?_|(refine hK _ ?_;clear hK K)|refine Xz ?_|(refine Xe ?_;first|refine aK rfl ?_|refine Xl ?_ ?_)|refine Xd ?_ ?_|exact Xx|fail)
  · rfl
theorem Hh (L:List Int) (k:Nat) (hk:k≤L.length) (hL:L.length<1000000):an Tryz.prog 64 [.ptr 0 0 0] [.var [.tree 1 (ints L),.lit (.int .i64 k)]] (.lit (.int .i64 (n7 L k)))
    [.var [.tree 1 (ints L),.lit (.int .i64 (s9 L k))]]:=by
  have h6:=mf (L:=L) (k:=k) (n:=6) (by omega)
  have h20:=mf (L:=L) (k:=cU L k) (n:=20) (by omega)
  refine an.aD (fn:=Tryz.f64) 14 1 [.tmp 2] Tryz.func64 rfl rfl rfl rfl rfl (by simp) ?_
  repeat' (first|(refine Xr X0 ?_;intro K hK)|(refine hK _ ?_;clear hK K)|refine Xz ?_|fail)
  refine lB (jA L k 6 (by unfold fc;omega) hk hL) (by simp) ?_
  have c1:eH L k 6≤3→s9 L k=cU L k:=fun h=>by rw[s9,if_pos h]
  have c2:eH L k 6<3→n7 L k=0:=fun h=>by rw[n7,if_pos h]
  have c3:eH L k 6=3→n7 L k=1099511627776:=fun h=>by rw[n7,if_neg (by omega),if_pos h]
  have c4:¬ eH L k 6≤3→s9 L k=cU L (cU L k):=fun h=>by rw[s9,if_neg h]
  have c5:¬ eH L k 6≤3→n7 L k=1+eH L (cU L k) 20:=fun h=>by rw[n7,if_neg (by omega),if_neg (by omega)]
  repeat' (first|(refine Xr X0 ?_;intro K hK)|(refine hK _ ?_;clear hK K)|(refine Xi ?_ ?_<;>try intro ht)|refine Xz ?_|(refine Xe ?_;first|refine aK rfl ?_|refine Xl ?_ ?_)|exact Xx|fail)
  iterate 3
    · rw[c1 (by omega)]
    · rw[c2 (by omega)]
  · rw[c1 (by omega)]
  · rw[c3 (by omega)]
  · refine lB (jA L (cU L k) 20 (by unfold fc;omega) (gw hk) hL) (by simp) ?_
    repeat' (first|refine Xo X0 ?_|(refine hK _ ?_;clear hK K)|refine Xz ?_|(refine Xe ?_;first|refine aK rfl ?_|refine Xl ?_ ?_)|refine Xd ?_ ?_|exact Xx|fail)
    · rw[c4 (by omega)]
    · rw[c5 (by omega)]
theorem Oe (L:List Int):an Tryz.prog 14 [.tree 1 (ints L)] [] (.ptr 0 0 0) [.var [.tree 1 (ints L),.lit (.int .i64 (0:Nat))]]:=by
  refine an.aD (fn:=Tryz.f14) 6 0 [.tmp 2] Tryz.func14 rfl rfl rfl rfl rfl (by simp) ?_
  refine Vb X0 ?_
  rw[show (0:Int)=((0:Nat):Int) from rfl]
  exact fJ rfl (by simp) rfl
theorem N' (a b:List Int) (hl:a.length<9223372036854775808):an Tryz.prog 21 [.tree 1 (ints a),.tree 1 (ints b)] [] (.lit (.bool (decide (a=b)))) []:=by
  refine an.aD (fn:=Tryz.f21) 26 0 [.tmp 4] Tryz.func21 rfl rfl rfl rfl rfl (by simp) ?_
  repeat' (first|(refine Xr X0 ?_;intro K hK)|(refine hK _ ?_;clear hK K)|(refine Xi ?_ ?_<;>try intro ht)|refine Xz ?_|(refine Xe ?_;first|refine aK rfl ?_|refine Xl ?_ ?_)|fail)
  · congr 2;simp;intro h;subst h;exact absurd rfl ht
  · refine aU (fun k:Nat=>(⟨aw [(0,.tree 1 (ints a)),(1,.tree 1 (ints b)),(5,.lit (.int .i64 k))],[]⟩:St)) (fun k=>k≤a.length∧(a=b↔a.drop k=b.drop k)) (fun k=>a.length - k) 0 ⟨aM _,by simp⟩ (Xv X0) ?_
    intro k ⟨hk,hc⟩ Ql aq av
    repeat' (first|(refine Xr X0 ?_;intro K hK)|(refine hK _ ?_;clear hK K)|(refine Xi ?_ ?_<;>try intro ht)|refine Xz ?_|refine Xh ?_|(refine Xe ?_;first|refine aK rfl ?_|refine Xl ?_ ?_)|refine Xd ?_ ?_|exact Xx|fail)
    · congr 2;simp only[decide_eq_false_iff_not,eq_comm (a:=false)]
      rw[hc,cA _ _ 0 (by omega),cA b _ 0 (by omega)]
      simp only[List.cons.injEq]
      exact fun h=>ht h.1
    · refine aq _ (k+1) ⟨by omega,?_⟩ (by omega) (Xv X0)
      rw[hc,cA _ _ 0 (by omega),cA b _ 0 (by omega),ht]
      simp
    · congr 2
      rw[show a=b by rw[hc,cB (by omega),cB (by omega)]]
      simp
theorem Hi (a b:Int) (ha:bF a) (hb:bF b):an Tryz.prog 168 [.lit (.int .i64 a),.lit (.int .i64 b)] [] (.lit (.int .i64 (dw a b))) []:=by
  unfold bF at *
  refine an.aD (fn:=Tryz.f168) 9 0 [.tmp 4] Tryz.func168 rfl rfl rfl rfl rfl (by simp) ?_
  repeat' (first|(refine Xr X0 ?_;intro K hK)|(refine hK _ ?_;clear hK K)|refine Xz ?_|(refine Xe ?_;first|refine aK rfl ?_|refine Xl ?_ ?_)|refine Xd ?_ ?_|exact Xx|fail)
  · rfl
theorem DQ (a b:Int) (ha:bF a) (hb:bF b):an Tryz.prog 100 [.lit (.int .i64 a),.lit (.int .i64 b)] [] (.lit (.int .i64 (dw a b))) []:=by
  unfold bF at *
  refine an.aD (fn:=Tryz.f100) 9 0 [.tmp 4] Tryz.func100 rfl rfl rfl rfl rfl (by simp) ?_
  repeat' (first|(refine Xr X0 ?_;intro K hK)|(refine hK _ ?_;clear hK K)|refine Xz ?_|(refine Xe ?_;first|refine aK rfl ?_|refine Xl ?_ ?_)|refine Xd ?_ ?_|exact Xx|fail)
  · rfl
theorem Hj (n:Int):an Tryz.prog 140 [.lit (.int .i64 n)] [] (.lit (.bool (iR n))) []:=by
  refine an.aD (fn:=Tryz.f140) 13 0 [.tmp 2] Tryz.func140 rfl rfl rfl rfl rfl (by simp) ?_
  repeat' (first|(refine Xr X0 ?_;intro K hK)|(refine hK _ ?_;clear hK K)|(refine Xg X0 ?_ ?_<;>try intro hb)|refine Xz ?_|(refine Xe ?_;first|refine aK rfl ?_|refine Xl ?_ ?_)|fail)
  all_goals (refine congrArg (fun b=>AV.lit (Value.bool b)) ?_;rw[oC];simp only[iR,decide_eq_true_eq,beq_iff_eq,bne_iff_ne,bk,kv,kx,decide_eq_false_iff_not,jF,reduceCtorEq,iff_true,iff_false,true_iff,false_iff,eq_self];omega)
theorem Hk (n:Int):an Tryz.prog 60 [.lit (.int .i64 n)] [] (.lit (.bool (iR n))) []:=by
  refine an.aD (fn:=Tryz.f60) 13 0 [.tmp 2] Tryz.func60 rfl rfl rfl rfl rfl (by simp) ?_
  repeat' (first|(refine Xr X0 ?_;intro K hK)|(refine hK _ ?_;clear hK K)|(refine Xg X0 ?_ ?_<;>try intro hb)|refine Xz ?_|(refine Xe ?_;first|refine aK rfl ?_|refine Xl ?_ ?_)|fail)
  all_goals (refine congrArg (fun b=>AV.lit (Value.bool b)) ?_;rw[oC];simp only[iR,decide_eq_true_eq,beq_iff_eq,bne_iff_ne,bk,kv,kx,decide_eq_false_iff_not,jF,reduceCtorEq,iff_true,iff_false,true_iff,false_iff,eq_self];omega)
theorem Hl (m:aj) (n:Int):an Tryz.prog 139 [.agg (ar m),.lit (.int .i64 n)] [] (.lit (.bool (iu m.rules n))) []:=by
  refine an.aD (fn:=Tryz.f139) 13 0 [.tmp 4] Tryz.func139 rfl rfl rfl rfl rfl (by simp) ?_
  repeat' (first|(refine Xr @ar.eq_1 ?_;intro K hK)|(refine hK _ ?_;clear hK K)|(refine Xg @ar.eq_1 ?_ ?_<;>try intro hb)|refine Xz ?_|(refine Xe ?_;first|refine aK rfl ?_|refine Xl ?_ ?_)|fail)
  all_goals (refine congrArg (fun b=>AV.lit (Value.bool b)) ?_;rw[oC];simp only[iu,decide_eq_true_eq,beq_iff_eq,bne_iff_ne,bk,kv,kx,decide_eq_false_iff_not,jF,reduceCtorEq,iff_true,iff_false,true_iff,false_iff,eq_self];omega)
theorem Hm (m:aj) (n:Int):an Tryz.prog 59 [.agg (ar m),.lit (.int .i64 n)] [] (.lit (.bool (iu m.rules n))) []:=by
  refine an.aD (fn:=Tryz.f59) 13 0 [.tmp 4] Tryz.func59 rfl rfl rfl rfl rfl (by simp) ?_
  repeat' (first|(refine Xr @ar.eq_1 ?_;intro K hK)|(refine hK _ ?_;clear hK K)|(refine Xg @ar.eq_1 ?_ ?_<;>try intro hb)|refine Xz ?_|(refine Xe ?_;first|refine aK rfl ?_|refine Xl ?_ ?_)|fail)
  all_goals (refine congrArg (fun b=>AV.lit (Value.bool b)) ?_;rw[oC];simp only[iu,decide_eq_true_eq,beq_iff_eq,bne_iff_ne,bk,kv,kx,decide_eq_false_iff_not,jF,reduceCtorEq,iff_true,iff_false,true_iff,false_iff,eq_self];omega)
theorem aaJ (n:Int):an Tryz.prog 183 [.lit (.int .i64 n)] [] (.lit (.bool false)) []:=by
  refine an.aD (fn:=Tryz.f183) 6 0 [.tmp 2] Tryz.func183 rfl rfl rfl rfl rfl (by simp) ?_
  repeat' (first|(refine Xr @bne_self_eq_false.{0} ?_;intro K hK)|(refine hK _ ?_;clear hK K)|refine Xz ?_|(refine Xe ?_;first|refine aK rfl ?_|refine Xl ?_ ?_)|exact Xx|fail)
theorem Rq (a b:Int):an Tryz.prog 144 [.lit (.int .i64 a),.lit (.int .i64 b)] [] (.lit (.int .i64 (m9 a b))) []:=by
  refine an.aD (fn:=Tryz.f144) 20 0 [.tmp 4] Tryz.func144 rfl rfl rfl rfl rfl (by simp) ?_
  repeat' (first|(refine Xq X0 ?_;intro K hK)|refine Xo X0 ?_|refine Xc (aaJ _) ?_|(refine hK _ ?_;clear hK K)|(refine Xi ?_ ?_<;>try intro ht)|refine Xz ?_|(refine Xe ?_;first|refine aK rfl ?_|refine Xl ?_ ?_)|exact Xx|fail)
  all_goals (unfold m9;congr 2;(repeat' split)<;>omega)
theorem Rr (l:List Int) (hl:l.length<1000000):an Tryz.prog 143 [.tree 1 (ints l)] [] (.lit (.int .i64 (rO l))) []:=by
  generalize ao:rO l=res
  refine an.aD (fn:=Tryz.f143) 18 0 [.tmp 2] Tryz.func143 rfl rfl rfl rfl rfl (by simp) ?_
  repeat' (first|(refine Xr X0 ?_;intro K hK)|(refine hK _ ?_;clear hK K)|refine Xz ?_|fail)
  refine aU (fun k:Nat=>(⟨aw [(3,.lit (.int .i64 0)),(6,.tree 1 (ints l)),(7,.lit (.int .i64 l.length)),(8,.lit (.int .i64 k))],[]⟩:St)) (fun k=>k≤l.length∧rO (l.drop k)=res) (fun k=>l.length - k) 0 ⟨aM _,ao⟩ (Xv X0) ?_
  rintro k ⟨hk,hr⟩ Ql aq av
  repeat' (first|(refine Xr X0 ?_;intro K hK)|(refine hK _ ?_;clear hK K)|(refine Xi ?_ ?_<;>try intro ht)|refine Xz ?_|refine Xh ?_|(refine Xe ?_;first|refine aK rfl ?_|refine Xl ?_ ?_)|refine Xd ?_ ?_|exact Xx|fail)
  · rw[cA _ _ 0 (by omega),rO,if_pos (by assumption)] at hr
    rw[hr]
  · rw[cA _ _ 0 (by omega),rO,if_neg (by omega)] at hr
    exact aq _ (k+1) ⟨by omega,hr⟩ (by omega) (Xv X0)
  · rw[cB (by omega),rO] at hr
    rw[hr]
theorem Rs (m:aj) (c o:Int):an Tryz.prog 145 [.agg (ar m),.lit (.int .i64 c),.lit (.int .i64 o)] [] (.lit (.bool (g7 m c o))) []:=by
  refine an.aD (fn:=Tryz.f145) 30 0 [.tmp 6] Tryz.func145 rfl rfl rfl rfl rfl (by simp) ?_
  repeat' (first|(refine Xr (X4 @ar.eq_1 @b8 @iB @bD.eq_1) ?_;intro K hK)|(refine hK _ ?_;clear hK K)|(refine Xg (X4 @ar.eq_1 @b8 @iB @bD.eq_1) ?_ ?_<;>try intro hb)|refine Xz ?_|(refine Xe ?_;first|refine aK rfl ?_|refine Xl ?_ ?_)|refine Xd ?_ ?_|exact Xx|fail)
  all_goals (refine congrArg (fun b=>AV.lit (Value.bool b)) ?_;rw[oC];simp only[g7,decide_eq_true_eq,beq_iff_eq,bne_iff_ne,bk,kv,kx,decide_eq_false_iff_not,jF,reduceCtorEq,iff_true,iff_false,true_iff,false_iff,eq_self];omega)
theorem Rt (m:aj) (c o:Int):an Tryz.prog 101 [.agg (ar m),.lit (.int .i64 c),.lit (.int .i64 o)] [] (.lit (.bool (g7 m c o))) []:=by
  refine an.aD (fn:=Tryz.f101) 30 0 [.tmp 6] Tryz.func101 rfl rfl rfl rfl rfl (by simp) ?_
  repeat' (first|(refine Xr (X4 @ar.eq_1 @b8 @iB @bD.eq_1) ?_;intro K hK)|(refine hK _ ?_;clear hK K)|(refine Xg (X4 @ar.eq_1 @b8 @iB @bD.eq_1) ?_ ?_<;>try intro hb)|refine Xz ?_|(refine Xe ?_;first|refine aK rfl ?_|refine Xl ?_ ?_)|refine Xd ?_ ?_|exact Xx|fail)
  all_goals (refine congrArg (fun b=>AV.lit (Value.bool b)) ?_;rw[oC];simp only[g7,decide_eq_true_eq,beq_iff_eq,bne_iff_ne,bk,kv,kx,decide_eq_false_iff_not,jF,reduceCtorEq,iff_true,iff_false,true_iff,false_iff,eq_self];omega)
theorem aaK (c:Ct) (n:Int) (h1:0≤c.most) (h2:n≤1048576) (h3:0≤n) (h4:bF c.bL):an Tryz.prog 167 [.agg (aO c),.lit (.int .i64 n)] [] (.lit (.int .i64 (jk c.most c.bL n))) []:=by
  unfold bF at h4
  have hm:c.most<n→0≤(n - c.most) * c.bL∧(n - c.most) * c.bL≤1048576 * 1099511627776:=fun h=>⟨p6 (by omega) h4.1,pj (by omega) h4.2 h4.1 (by omega)⟩
  refine an.aD (fn:=Tryz.f167) 17 0 [.tmp 4] Tryz.func167 rfl rfl rfl rfl rfl (by simp) ?_
  repeat' (first|(refine Xr @aO.eq_1 ?_;intro K hK)|(refine hK _ ?_;clear hK K)|(refine Xi ?_ ?_<;>try intro ht)|refine Xz ?_|(refine Xe ?_;first|refine aK rfl ?_|refine Xl ?_ ?_)|refine Xd ?_ ?_|exact Xx|fail)
  · rw[jk,if_pos ht]
  · rw[jk,if_neg (by omega)]
theorem aaL (n c:Int) (h2:n≤1048576) (h4:bF c):an Tryz.prog 153 [.lit (.int .i64 n),.lit (.int .i64 c)] [] (.lit (.int .i64 (yR n c))) []:=by
  unfold bF at h4
  have hm:0<n→0≤n * c∧n * c≤1048576 * 1099511627776:=fun h=>⟨p6 (by omega) h4.1,pj (by omega) h4.2 h4.1 (by omega)⟩
  refine an.aD (fn:=Tryz.f153) 13 0 [.tmp 4] Tryz.func153 rfl rfl rfl rfl rfl (by simp) ?_
  repeat' (first|(refine Xr X0 ?_;intro K hK)|(refine hK _ ?_;clear hK K)|(refine Xi ?_ ?_<;>try intro ht)|refine Xz ?_|(refine Xe ?_;first|refine aK rfl ?_|refine Xl ?_ ?_)|refine Xd ?_ ?_|exact Xx|fail)
  · rw[yR,if_pos ht]
  · rw[yR,if_neg (by omega),if_pos (by omega)]
  · rw[yR,if_neg (by omega),if_neg (by omega)]
theorem Hn (l:List Int) (r c:Int) (hr:0≤r∧r<l.length) (hc:bF c) (hl:bF (l.getD r.toNat 0)):an Tryz.prog 166 [.ptr 0 0 0,.lit (.int .i64 r),.lit (.int .i64 c)] [.var [.ref 1 1 0 l.length],.arr 1 (ints l)] (.bG [])
    [.var [.ref 1 1 0 l.length],.arr 1 (ints (l.set r.toNat (dw (l.getD r.toNat 0) c)))]:=by
  refine an.aD (fn:=Tryz.f166) 21 2 [] Tryz.func166 rfl rfl rfl rfl rfl (by simp) ?_
  (try (refine yz [13] rfl (by decide) (by decide +kernel) ?_);intro K hK;simp (disch:=omega) only[Ac,↓Pc,simprocAttr])
  repeat' (first|refine Xo X0 ?_|refine Xc (Hi _ _ hl hc) ?_|(refine hK _ ?_;clear hK K)|(refine Xe ?_;first|refine aK rfl ?_|refine Xl ?_ ?_)|refine Xd ?_ ?_|exact Xx|fail)
end T

