import Derived.Test.YtfoopmojjjpapaaGreatX18
import Derived.Test.YtfoopmojjjpapaaGreatX15
import Derived.Test.YtfoopmojjjpapaaGreatProg
import Derived.KernelRfl
set_option linter.all false
set_option maxHeartbeats 0
set_option maxRecDepth 20000
open Int renaming natCast_add→Cr,cast_ofNat_Int→E5,mul_nonneg→rZ,mul_le_mul→pT
open List renaming length_append→bF,length_cons→dt,length_nil→nR,drop_eq_nil_of_le→jr,cons_append→dh,nil_append→ec
open Nat renaming zero_add→gm,zero_le→aT,le_refl→bb,add_zero→iq
open Bool renaming eq_iff_iff→nS,and_eq_true→aZ,or_eq_true→kG,not_eq_true'→kH,false_eq_true→iS
open Go Go.Am Go.Proofs
namespace T
def Q4:ty Tryz.prog 2 = { kind:=5,size:=1,bytes:=8,elem:=0,len:=0,zero:=some [.int .i64 0],aM:=[] }:=by kernel_rfl
def Q5:ty Tryz.prog 3 = { kind:=5,size:=1,bytes:=8,elem:=0,len:=0,zero:=some [.int .i64 0],aM:=[] }:=by kernel_rfl
def Q6:ty Tryz.prog 4 = { kind:=6,size:=1,bytes:=1,elem:=0,len:=0,zero:=some [.bool false],aM:=[] }:=by kernel_rfl
def Q7:ty Tryz.prog 5 = { kind:=5,size:=1,bytes:=1,elem:=0,len:=0,zero:=some [.int .u8 0],aM:=[] }:=by kernel_rfl
def Q8:ty Tryz.prog 6 = { kind:=5,size:=1,bytes:=1,elem:=0,len:=0,zero:=some [.int .u8 0],aM:=[] }:=by kernel_rfl
def Q9:ty Tryz.prog 7 = { kind:=3,size:=4,bytes:=24,elem:=0,len:=0,zero:=some [.int .i64 0,.int .i64 0,.bool false,.int .u8 0],aM:=[(0,2,1),(1,3,1),(2,4,1),(3,6,1)] }:=by kernel_rfl
def Rb:ty Tryz.prog 8 = { kind:=3,size:=4,bytes:=24,elem:=0,len:=0,zero:=some [.int .i64 0,.int .i64 0,.bool false,.int .u8 0],aM:=[(0,2,1),(1,3,1),(2,4,1),(3,6,1)] }:=by kernel_rfl
def Re:ty Tryz.prog 9 = { kind:=4,size:=1,bytes:=16,elem:=0,len:=0,zero:=some [.string ⟨#[]⟩],aM:=[] }:=by kernel_rfl
def Rf:ty Tryz.prog 10 = { kind:=4,size:=1,bytes:=16,elem:=0,len:=0,zero:=some [.string ⟨#[]⟩],aM:=[] }:=by kernel_rfl
def Rg:ty Tryz.prog 11 = { kind:=4,size:=1,bytes:=16,elem:=0,len:=0,zero:=some [.string ⟨#[]⟩],aM:=[] }:=by kernel_rfl
def Rh:ty Tryz.prog 12 = { kind:=5,size:=1,bytes:=8,elem:=0,len:=0,zero:=some [.int .u64 0],aM:=[] }:=by kernel_rfl
def Ri:ty Tryz.prog 13 = { kind:=3,size:=2,bytes:=24,elem:=0,len:=0,zero:=some [.string ⟨#[]⟩,.int .u64 0],aM:=[(0,9,1),(1,12,1)] }:=by kernel_rfl
def Rj:ty Tryz.prog 14 = { kind:=3,size:=2,bytes:=24,elem:=0,len:=0,zero:=some [.string ⟨#[]⟩,.int .u64 0],aM:=[(0,9,1),(1,12,1)] }:=by kernel_rfl
def Rk:ty Tryz.prog 15 = { kind:=7,size:=1,bytes:=8,elem:=234,len:=0,zero:=some [.pointer none],aM:=[] }:=by kernel_rfl
def Rl:ty Tryz.prog 16 = { kind:=7,size:=1,bytes:=8,elem:=237,len:=0,zero:=some [.pointer none],aM:=[] }:=by kernel_rfl
def Rm:ty Tryz.prog 17 = { kind:=7,size:=1,bytes:=8,elem:=245,len:=0,zero:=some [.pointer none],aM:=[] }:=by kernel_rfl
def Rn:ty Tryz.prog 18 = { kind:=3,size:=1,bytes:=8,elem:=0,len:=0,zero:=some [.pointer none],aM:=[(0,17,1)] }:=by kernel_rfl
def Ro:ty Tryz.prog 19 = { kind:=3,size:=1,bytes:=8,elem:=0,len:=0,zero:=some [.pointer none],aM:=[(0,17,1)] }:=by kernel_rfl
def Rp:ty Tryz.prog 21 = { kind:=5,size:=1,bytes:=4,elem:=0,len:=0,zero:=some [.int .i32 0],aM:=[] }:=by kernel_rfl
def Rq:ty Tryz.prog 22 = { kind:=1,size:=1,bytes:=24,elem:=3,len:=0,zero:=some [.slice none 0 0],aM:=[] }:=by kernel_rfl
def Rr:ty Tryz.prog 23 = { kind:=1,size:=1,bytes:=24,elem:=49,len:=0,zero:=some [.slice none 0 0],aM:=[] }:=by kernel_rfl
def Rs:ty Tryz.prog 26 = { kind:=7,size:=1,bytes:=8,elem:=83,len:=0,zero:=some [.pointer none],aM:=[] }:=by kernel_rfl
def Rt:ty Tryz.prog 28 = { kind:=1,size:=1,bytes:=24,elem:=79,len:=0,zero:=some [.slice none 0 0],aM:=[] }:=by kernel_rfl
def Ru:ty Tryz.prog 29 = { kind:=1,size:=1,bytes:=24,elem:=81,len:=0,zero:=some [.slice none 0 0],aM:=[] }:=by kernel_rfl
def Rv:ty Tryz.prog 30 = { kind:=1,size:=1,bytes:=24,elem:=105,len:=0,zero:=some [.slice none 0 0],aM:=[] }:=by kernel_rfl
def Rw:ty Tryz.prog 31 = { kind:=3,size:=4,bytes:=80,elem:=0,len:=0,zero:=some [.slice none 0 0,.slice none 0 0,.slice none 0 0,.int .i64 0],aM:=[(0,28,1),(1,29,1),(2,30,1),(3,3,1)] }:=by kernel_rfl
def Rx:ty Tryz.prog 32 = { kind:=3,size:=4,bytes:=80,elem:=0,len:=0,zero:=some [.slice none 0 0,.slice none 0 0,.slice none 0 0,.int .i64 0],aM:=[(0,28,1),(1,29,1),(2,30,1),(3,3,1)] }:=by kernel_rfl
def Ry:ty Tryz.prog 36 = { kind:=1,size:=1,bytes:=24,elem:=23,len:=0,zero:=some [.slice none 0 0],aM:=[] }:=by kernel_rfl
def Rz:ty Tryz.prog 38 = { kind:=1,size:=1,bytes:=24,elem:=94,len:=0,zero:=some [.slice none 0 0],aM:=[] }:=by kernel_rfl
def RA:ty Tryz.prog 39 = { kind:=5,size:=1,bytes:=8,elem:=0,len:=0,zero:=some [.int .i64 0],aM:=[] }:=by kernel_rfl
def RB:ty Tryz.prog 49 = { kind:=1,size:=1,bytes:=24,elem:=4,len:=0,zero:=some [.slice none 0 0],aM:=[] }:=by kernel_rfl
def RC:ty Tryz.prog 51 = { kind:=1,size:=1,bytes:=24,elem:=109,len:=0,zero:=some [.slice none 0 0],aM:=[] }:=by kernel_rfl
def RD:ty Tryz.prog 52 = { kind:=3,size:=1,bytes:=24,elem:=0,len:=0,zero:=some [.slice none 0 0],aM:=[(0,51,1)] }:=by kernel_rfl
def RE:ty Tryz.prog 53 = { kind:=3,size:=1,bytes:=24,elem:=0,len:=0,zero:=some [.slice none 0 0],aM:=[(0,51,1)] }:=by kernel_rfl
def RF:ty Tryz.prog 65 = { kind:=1,size:=1,bytes:=24,elem:=22,len:=0,zero:=some [.slice none 0 0],aM:=[] }:=by kernel_rfl
def RG:ty Tryz.prog 70 = { kind:=3,size:=2,bytes:=16,elem:=0,len:=0,zero:=some [.int .i64 0,.int .i64 0],aM:=[(0,3,1),(1,3,1)] }:=by kernel_rfl
def RH:ty Tryz.prog 71 = { kind:=3,size:=2,bytes:=16,elem:=0,len:=0,zero:=some [.int .i64 0,.int .i64 0],aM:=[(0,3,1),(1,3,1)] }:=by kernel_rfl
def RJ:ty Tryz.prog 72 = { kind:=1,size:=1,bytes:=24,elem:=71,len:=0,zero:=some [.slice none 0 0],aM:=[] }:=by kernel_rfl
def RK:ty Tryz.prog 73 = { kind:=3,size:=4,bytes:=32,elem:=0,len:=0,zero:=some [.int .i64 0,.int .i64 0,.int .i64 0,.int .i64 0],aM:=[(0,3,1),(1,3,1),(2,3,1),(3,3,1)] }:=by kernel_rfl
def RL:ty Tryz.prog 74 = { kind:=3,size:=4,bytes:=32,elem:=0,len:=0,zero:=some [.int .i64 0,.int .i64 0,.int .i64 0,.int .i64 0],aM:=[(0,3,1),(1,3,1),(2,3,1),(3,3,1)] }:=by kernel_rfl
def RM:ty Tryz.prog 75 = { kind:=3,size:=5,bytes:=40,elem:=0,len:=0,zero:=some [.int .i64 0,.int .i64 0,.int .i64 0,.int .i64 0,.int .i64 0],aM:=[(0,74,4),(4,3,1)] }:=by kernel_rfl
def RN:ty Tryz.prog 76 = { kind:=3,size:=5,bytes:=40,elem:=0,len:=0,zero:=some [.int .i64 0,.int .i64 0,.int .i64 0,.int .i64 0,.int .i64 0],aM:=[(0,74,4),(4,3,1)] }:=by kernel_rfl
def RO:ty Tryz.prog 77 = { kind:=3,size:=6,bytes:=64,elem:=0,len:=0,zero:=some [.int .i64 0,.int .i64 0,.int .i64 0,.int .i64 0,.int .i64 0,.slice none 0 0],aM:=[(0,76,5),(5,72,1)] }:=by kernel_rfl
def RP:ty Tryz.prog 78 = { kind:=3,size:=6,bytes:=64,elem:=0,len:=0,zero:=some [.int .i64 0,.int .i64 0,.int .i64 0,.int .i64 0,.int .i64 0,.slice none 0 0],aM:=[(0,76,5),(5,72,1)] }:=by kernel_rfl
def RQ:ty Tryz.prog 79 = { kind:=1,size:=1,bytes:=24,elem:=78,len:=0,zero:=some [.slice none 0 0],aM:=[] }:=by kernel_rfl
def RR:ty Tryz.prog 80 = { kind:=3,size:=4,bytes:=48,elem:=0,len:=0,zero:=some [.int .i64 0,.int .i64 0,.int .i64 0,.slice none 0 0],aM:=[(0,3,1),(1,3,1),(2,3,1),(3,22,1)] }:=by kernel_rfl
def RS:ty Tryz.prog 81 = { kind:=3,size:=4,bytes:=48,elem:=0,len:=0,zero:=some [.int .i64 0,.int .i64 0,.int .i64 0,.slice none 0 0],aM:=[(0,3,1),(1,3,1),(2,3,1),(3,22,1)] }:=by kernel_rfl
def RT:ty Tryz.prog 82 = { kind:=3,size:=2,bytes:=32,elem:=0,len:=0,zero:=some [.slice none 0 0,.int .i64 0],aM:=[(0,22,1),(1,3,1)] }:=by kernel_rfl
def RU:ty Tryz.prog 83 = { kind:=3,size:=2,bytes:=32,elem:=0,len:=0,zero:=some [.slice none 0 0,.int .i64 0],aM:=[(0,22,1),(1,3,1)] }:=by kernel_rfl
def RV:ty Tryz.prog 86 = { kind:=7,size:=1,bytes:=8,elem:=132,len:=0,zero:=some [.pointer none],aM:=[] }:=by kernel_rfl
def RW:ty Tryz.prog 93 = { kind:=3,size:=4,bytes:=32,elem:=0,len:=0,zero:=some [.int .i64 0,.int .i64 0,.int .i64 0,.int .i64 0],aM:=[(0,3,1),(1,3,1),(2,3,1),(3,3,1)] }:=by kernel_rfl
def RX:ty Tryz.prog 94 = { kind:=3,size:=4,bytes:=32,elem:=0,len:=0,zero:=some [.int .i64 0,.int .i64 0,.int .i64 0,.int .i64 0],aM:=[(0,3,1),(1,3,1),(2,3,1),(3,3,1)] }:=by kernel_rfl
def RY:ty Tryz.prog 95 = { kind:=1,size:=1,bytes:=24,elem:=96,len:=0,zero:=some [.slice none 0 0],aM:=[] }:=by kernel_rfl
def RZ:ty Tryz.prog 96 = { kind:=1,size:=1,bytes:=24,elem:=100,len:=0,zero:=some [.slice none 0 0],aM:=[] }:=by kernel_rfl
def R0:ty Tryz.prog 99 = { kind:=3,size:=2,bytes:=16,elem:=0,len:=0,zero:=some [.bool false,.int .i64 0],aM:=[(0,4,1),(1,3,1)] }:=by kernel_rfl
def R2:ty Tryz.prog 100 = { kind:=3,size:=2,bytes:=16,elem:=0,len:=0,zero:=some [.bool false,.int .i64 0],aM:=[(0,4,1),(1,3,1)] }:=by kernel_rfl
def R3:ty Tryz.prog 103 = { kind:=1,size:=1,bytes:=24,elem:=121,len:=0,zero:=some [.slice none 0 0],aM:=[] }:=by kernel_rfl
def R4:ty Tryz.prog 104 = { kind:=3,size:=4,bytes:=48,elem:=0,len:=0,zero:=some [.int .i64 0,.slice none 0 0,.int .i64 0,.int .i64 0],aM:=[(0,3,1),(1,103,1),(2,3,1),(3,3,1)] }:=by kernel_rfl
def R5:ty Tryz.prog 105 = { kind:=3,size:=4,bytes:=48,elem:=0,len:=0,zero:=some [.int .i64 0,.slice none 0 0,.int .i64 0,.int .i64 0],aM:=[(0,3,1),(1,103,1),(2,3,1),(3,3,1)] }:=by kernel_rfl
def R6:ty Tryz.prog 107 = { kind:=1,size:=1,bytes:=24,elem:=150,len:=0,zero:=some [.slice none 0 0],aM:=[] }:=by kernel_rfl
def R7:ty Tryz.prog 108 = { kind:=3,size:=5,bytes:=104,elem:=0,len:=0,zero:=some [.int .i64 0,.slice none 0 0,.slice none 0 0,.slice none 0 0,.slice none 0 0],aM:=[(0,3,1),(1,22,1),(2,38,1),(3,22,1),(4,107,1)] }:=by kernel_rfl
def R8:ty Tryz.prog 109 = { kind:=3,size:=5,bytes:=104,elem:=0,len:=0,zero:=some [.int .i64 0,.slice none 0 0,.slice none 0 0,.slice none 0 0,.slice none 0 0],aM:=[(0,3,1),(1,22,1),(2,38,1),(3,22,1),(4,107,1)] }:=by kernel_rfl
def R9:ty Tryz.prog 110 = { kind:=1,size:=1,bytes:=24,elem:=149,len:=0,zero:=some [.slice none 0 0],aM:=[] }:=by kernel_rfl
def Sa:ty Tryz.prog 116 = { kind:=8,size:=1,bytes:=8,elem:=4,len:=0,zero:=some [.map none],aM:=[] }:=by kernel_rfl
def Sb:ty Tryz.prog 119 = { kind:=7,size:=1,bytes:=8,elem:=53,len:=0,zero:=some [.pointer none],aM:=[] }:=by kernel_rfl
def Sd:ty Tryz.prog 120 = { kind:=3,size:=3,bytes:=24,elem:=0,len:=0,zero:=some [.int .i64 0,.int .i64 0,.int .i64 0],aM:=[(0,3,1),(1,3,1),(2,3,1)] }:=by kernel_rfl
def Se:ty Tryz.prog 121 = { kind:=3,size:=3,bytes:=24,elem:=0,len:=0,zero:=some [.int .i64 0,.int .i64 0,.int .i64 0],aM:=[(0,3,1),(1,3,1),(2,3,1)] }:=by kernel_rfl
def Sf:ty Tryz.prog 126 = { kind:=3,size:=2,bytes:=32,elem:=0,len:=0,zero:=some [.int .i64 0,.slice none 0 0],aM:=[(0,3,1),(1,23,1)] }:=by kernel_rfl
def Sg:ty Tryz.prog 127 = { kind:=3,size:=2,bytes:=32,elem:=0,len:=0,zero:=some [.int .i64 0,.slice none 0 0],aM:=[(0,3,1),(1,23,1)] }:=by kernel_rfl
def Sh:ty Tryz.prog 130 = { kind:=8,size:=1,bytes:=8,elem:=3,len:=0,zero:=some [.map none],aM:=[] }:=by kernel_rfl
def Si:ty Tryz.prog 131 = { kind:=3,size:=8,bytes:=160,elem:=0,len:=0,zero:=some [.slice none 0 0,.slice none 0 0,.slice none 0 0,.int .i64 0,.slice none 0 0,.slice none 0 0,.slice none 0 0,.map none],aM:=[(0,32,4),(4,23,1),(5,65,1),(6,65,1),(7,130,1)] }:=by kernel_rfl
def Sj:ty Tryz.prog 132 = { kind:=3,size:=8,bytes:=160,elem:=0,len:=0,zero:=some [.slice none 0 0,.slice none 0 0,.slice none 0 0,.int .i64 0,.slice none 0 0,.slice none 0 0,.slice none 0 0,.map none],aM:=[(0,32,4),(4,23,1),(5,65,1),(6,65,1),(7,130,1)] }:=by kernel_rfl
def Sk:ty Tryz.prog 136 = { kind:=3,size:=3,bytes:=24,elem:=0,len:=0,zero:=some [.int .i64 0,.int .i64 0,.int .i64 0],aM:=[(0,3,1),(1,3,1),(2,3,1)] }:=by kernel_rfl
def Sl:ty Tryz.prog 137 = { kind:=3,size:=3,bytes:=24,elem:=0,len:=0,zero:=some [.int .i64 0,.int .i64 0,.int .i64 0],aM:=[(0,3,1),(1,3,1),(2,3,1)] }:=by kernel_rfl
def Sm:ty Tryz.prog 141 = { kind:=7,size:=1,bytes:=8,elem:=179,len:=0,zero:=some [.pointer none],aM:=[] }:=by kernel_rfl
def Sn:ty Tryz.prog 148 = { kind:=3,size:=2,bytes:=16,elem:=0,len:=0,zero:=some [.int .i64 0,.int .i64 0],aM:=[(0,3,1),(1,3,1)] }:=by kernel_rfl
def Sp:ty Tryz.prog 149 = { kind:=3,size:=2,bytes:=16,elem:=0,len:=0,zero:=some [.int .i64 0,.int .i64 0],aM:=[(0,3,1),(1,3,1)] }:=by kernel_rfl
def Sr:ty Tryz.prog 150 = { kind:=1,size:=1,bytes:=24,elem:=152,len:=0,zero:=some [.slice none 0 0],aM:=[] }:=by kernel_rfl
def Ss:ty Tryz.prog 151 = { kind:=3,size:=2,bytes:=16,elem:=0,len:=0,zero:=some [.int .i64 0,.int .i64 0],aM:=[(0,3,1),(1,3,1)] }:=by kernel_rfl
def Su:ty Tryz.prog 152 = { kind:=3,size:=2,bytes:=16,elem:=0,len:=0,zero:=some [.int .i64 0,.int .i64 0],aM:=[(0,3,1),(1,3,1)] }:=by kernel_rfl
def Sv:ty Tryz.prog 162 = { kind:=3,size:=3,bytes:=56,elem:=0,len:=0,zero:=some [.int .i64 0,.slice none 0 0,.slice none 0 0],aM:=[(0,127,2),(2,22,1)] }:=by kernel_rfl
def Sw:ty Tryz.prog 163 = { kind:=3,size:=3,bytes:=56,elem:=0,len:=0,zero:=some [.int .i64 0,.slice none 0 0,.slice none 0 0],aM:=[(0,127,2),(2,22,1)] }:=by kernel_rfl
def Sx:ty Tryz.prog 164 = { kind:=1,size:=1,bytes:=24,elem:=163,len:=0,zero:=some [.slice none 0 0],aM:=[] }:=by kernel_rfl
def Sy:ty Tryz.prog 174 = { kind:=5,size:=1,bytes:=8,elem:=0,len:=0,zero:=some [.int .u64 0],aM:=[] }:=by kernel_rfl
def Sz:ty Tryz.prog 177 = { kind:=1,size:=1,bytes:=24,elem:=180,len:=0,zero:=some [.slice none 0 0],aM:=[] }:=by kernel_rfl
def SA:ty Tryz.prog 178 = { kind:=3,size:=6,bytes:=128,elem:=0,len:=0,zero:=some [.slice none 0 0,.slice none 0 0,.slice none 0 0,.int .i64 0,.slice none 0 0,.slice none 0 0],aM:=[(0,32,4),(4,177,1),(5,177,1)] }:=by kernel_rfl
def SD:ty Tryz.prog 179 = { kind:=3,size:=6,bytes:=128,elem:=0,len:=0,zero:=some [.slice none 0 0,.slice none 0 0,.slice none 0 0,.int .i64 0,.slice none 0 0,.slice none 0 0],aM:=[(0,32,4),(4,177,1),(5,177,1)] }:=by kernel_rfl
def SE:ty Tryz.prog 180 = { kind:=1,size:=1,bytes:=24,elem:=182,len:=0,zero:=some [.slice none 0 0],aM:=[] }:=by kernel_rfl
def SF:ty Tryz.prog 181 = { kind:=3,size:=2,bytes:=16,elem:=0,len:=0,zero:=some [.int .i64 0,.bool false],aM:=[(0,3,1),(1,4,1)] }:=by kernel_rfl
def SG:ty Tryz.prog 182 = { kind:=3,size:=2,bytes:=16,elem:=0,len:=0,zero:=some [.int .i64 0,.bool false],aM:=[(0,3,1),(1,4,1)] }:=by kernel_rfl
def SH:ty Tryz.prog 200 = { kind:=5,size:=1,bytes:=8,elem:=0,len:=0,zero:=some [.int .i64 0],aM:=[] }:=by kernel_rfl
def SI:ty Tryz.prog 207 = { kind:=5,size:=1,bytes:=4,elem:=0,len:=0,zero:=some [.int .u32 0],aM:=[] }:=by kernel_rfl
def SJ:ty Tryz.prog 209 = { kind:=5,size:=1,bytes:=8,elem:=0,len:=0,zero:=some [.int .u64 0],aM:=[] }:=by kernel_rfl
def SK:ty Tryz.prog 210 = { kind:=7,size:=1,bytes:=8,elem:=182,len:=0,zero:=some [.pointer none],aM:=[] }:=by kernel_rfl
def SL:ty Tryz.prog 211 = { kind:=8,size:=1,bytes:=8,elem:=212,len:=0,zero:=some [.map none],aM:=[] }:=by kernel_rfl
def SM:ty Tryz.prog 212 = { kind:=8,size:=1,bytes:=8,elem:=3,len:=0,zero:=some [.map none],aM:=[] }:=by kernel_rfl
def SN:ty Tryz.prog 222 = { kind:=5,size:=1,bytes:=8,elem:=0,len:=0,zero:=some [.int .u64 0],aM:=[] }:=by kernel_rfl
def SO:ty Tryz.prog 226 = { kind:=7,size:=1,bytes:=8,elem:=3,len:=0,zero:=some [.pointer none],aM:=[] }:=by kernel_rfl
def SP:ty Tryz.prog 229 = { kind:=7,size:=1,bytes:=8,elem:=222,len:=0,zero:=some [.pointer none],aM:=[] }:=by kernel_rfl
def SQ:ty Tryz.prog 233 = { kind:=3,size:=4,bytes:=40,elem:=0,len:=0,zero:=some [.pointer none,.pointer none,.pointer none,.string ⟨#[]⟩],aM:=[(0,17,1),(1,17,1),(2,17,1),(3,9,1)] }:=by kernel_rfl
def SR:ty Tryz.prog 234 = { kind:=3,size:=4,bytes:=40,elem:=0,len:=0,zero:=some [.pointer none,.pointer none,.pointer none,.string ⟨#[]⟩],aM:=[(0,17,1),(1,17,1),(2,17,1),(3,9,1)] }:=by kernel_rfl
def SS:ty Tryz.prog 235 = { kind:=2,size:=0,bytes:=0,elem:=16,len:=0,zero:=some [],aM:=[] }:=by kernel_rfl
def SU:ty Tryz.prog 236 = { kind:=3,size:=0,bytes:=0,elem:=0,len:=0,zero:=some [],aM:=[(0,235,0)] }:=by kernel_rfl
def SV:ty Tryz.prog 237 = { kind:=3,size:=0,bytes:=0,elem:=0,len:=0,zero:=some [],aM:=[(0,235,0)] }:=by kernel_rfl
def SX:ty Tryz.prog 238 = { kind:=5,size:=1,bytes:=1,elem:=0,len:=0,zero:=some [.int .u8 0],aM:=[] }:=by kernel_rfl
def SY:ty Tryz.prog 239 = { kind:=5,size:=1,bytes:=1,elem:=0,len:=0,zero:=some [.int .u8 0],aM:=[] }:=by kernel_rfl
def SZ:ty Tryz.prog 241 = { kind:=7,size:=1,bytes:=8,elem:=5,len:=0,zero:=some [.pointer none],aM:=[] }:=by kernel_rfl
def S1:ty Tryz.prog 242 = { kind:=5,size:=1,bytes:=4,elem:=0,len:=0,zero:=some [.int .i32 0],aM:=[] }:=by kernel_rfl
def S2:ty Tryz.prog 243 = { kind:=5,size:=1,bytes:=4,elem:=0,len:=0,zero:=some [.int .i32 0],aM:=[] }:=by kernel_rfl
def S3:ty Tryz.prog 244 = { kind:=3,size:=11,bytes:=48,elem:=0,len:=0,zero:=some [.int .u64 0,.int .u64 0,.int .u32 0,.int .u8 0,.int .u8 0,.int .u8 0,.int .u8 0,.nilFunc,.pointer none,.int .i32 0,.int .i32 0],aM:=[(0,12,1),(1,12,1),(2,207,1),(3,238,1),(4,5,1),(5,5,1),(6,239,1),(7,240,1),(8,241,1),(9,242,1),(10,243,1)] }:=by kernel_rfl
def S4:ty Tryz.prog 245 = { kind:=3,size:=11,bytes:=48,elem:=0,len:=0,zero:=some [.int .u64 0,.int .u64 0,.int .u32 0,.int .u8 0,.int .u8 0,.int .u8 0,.int .u8 0,.nilFunc,.pointer none,.int .i32 0,.int .i32 0],aM:=[(0,12,1),(1,12,1),(2,207,1),(3,238,1),(4,5,1),(5,5,1),(6,239,1),(7,240,1),(8,241,1),(9,242,1),(10,243,1)] }:=by kernel_rfl
def S5:Tryz.prog.underlying 2=some (.int .i64):=by kernel_rfl
def S6:Tryz.prog.underlying 3=some (.int .i64):=by kernel_rfl
def S7:Tryz.prog.underlying 5=some (.int .u8):=by kernel_rfl
def S8:Tryz.prog.underlying 6=some (.int .u8):=by kernel_rfl
def S9:Tryz.prog.underlying 12=some (.int .u64):=by kernel_rfl
def Ta:Tryz.prog.underlying 21=some (.int .i32):=by kernel_rfl
def Tb:Tryz.prog.underlying 39=some (.int .i64):=by kernel_rfl
def Td:Tryz.prog.underlying 174=some (.int .u64):=by kernel_rfl
def Te:Tryz.prog.underlying 200=some (.int .i64):=by kernel_rfl
def Tf:Tryz.prog.underlying 207=some (.int .u32):=by kernel_rfl
def Tg:Tryz.prog.underlying 209=some (.int .u64):=by kernel_rfl
def Th:Tryz.prog.underlying 222=some (.int .u64):=by kernel_rfl
def Ti:Tryz.prog.underlying 238=some (.int .u8):=by kernel_rfl
def Tj:Tryz.prog.underlying 239=some (.int .u8):=by kernel_rfl
def Tk:Tryz.prog.underlying 242=some (.int .i32):=by kernel_rfl
def Tl:Tryz.prog.underlying 243=some (.int .i32):=by kernel_rfl
def Tm:zeroV Tryz.prog 4=some (.bool false):=by kernel_rfl
def Tn:y0 Tryz.prog 116=0:=by kernel_rfl
def To:jb Tryz.prog 116 0:=jb.int (kt:=3) (et:=4) (by kernel_rfl) (by kernel_rfl)
def Tp:zeroV Tryz.prog 3=some (.int .i64 0):=by kernel_rfl
def Tq:y0 Tryz.prog 130=3:=by kernel_rfl
def Ts:jb Tryz.prog 130 3:=jb.aew (kt:=137) (et:=3) (by kernel_rfl) (by kernel_rfl) NI (by kernel_rfl)
def Tt:zeroV Tryz.prog 212=some (.map none):=by kernel_rfl
def Tu:y0 Tryz.prog 211=0:=by kernel_rfl
def Tv:jb Tryz.prog 211 0:=jb.int (kt:=3) (et:=212) (by kernel_rfl) (by kernel_rfl)
def Tw:y0 Tryz.prog 212=0:=by kernel_rfl
def Tx:jb Tryz.prog 212 0:=jb.int (kt:=3) (et:=3) (by kernel_rfl) (by kernel_rfl)
def Tz:y7 Tryz.prog 9=false:=by kernel_rfl
def TA:Tryz.prog.underlying 9=some .string:=by kernel_rfl
def uo:type_of% Q4/\type_of% Q5/\type_of% Q6/\type_of% Q7/\type_of% Q8/\type_of% Q9/\type_of% Rb/\type_of% Re/\type_of% Rf/\type_of% Rg/\type_of% Rh/\type_of% Ri/\type_of% Rj/\type_of% Rk/\type_of% Rl/\type_of% Rm/\type_of% Rn/\type_of% Ro/\type_of% Rp/\type_of% Rq/\type_of% Rr/\type_of% Rs/\type_of% Rt/\type_of% Ru/\type_of% Rv/\type_of% Rw/\type_of% Rx/\type_of% Ry/\type_of% Rz/\type_of% RA/\type_of% RB/\type_of% RC/\type_of% RD/\type_of% RE/\type_of% RF/\type_of% RG/\type_of% RH/\type_of% RJ/\type_of% RK/\type_of% RL/\type_of% RM/\type_of% RN/\type_of% RO/\type_of% RP/\type_of% RQ/\type_of% RR/\type_of% RS/\type_of% RT/\type_of% RU/\type_of% RV/\type_of% RW/\type_of% RX/\type_of% RY/\type_of% RZ/\type_of% R0/\type_of% R2/\type_of% R3/\type_of% R4/\type_of% R5/\type_of% R6/\type_of% R7/\type_of% R8/\type_of% R9/\type_of% Sa/\type_of% Sb/\type_of% Sd/\type_of% Se/\type_of% Sf/\type_of% Sg/\type_of% Sh/\type_of% Si/\type_of% Sj/\type_of% Sk/\type_of% Sl/\type_of% Sm/\type_of% Sn/\type_of% Sp/\type_of% Sr/\type_of% Ss/\type_of% Su/\type_of% Sv/\type_of% Sw/\type_of% Sx/\type_of% Sy/\type_of% Sz/\type_of% SA/\type_of% SD/\type_of% SE/\type_of% SF/\type_of% SG/\type_of% SH/\type_of% SI/\type_of% SJ/\type_of% SK/\type_of% SL/\type_of% SM/\type_of% SN/\type_of% SO/\type_of% SP/\type_of% SQ/\type_of% SR/\type_of% SS/\type_of% SU/\type_of% SV/\type_of% SX/\type_of% SY/\type_of% SZ/\type_of% S1/\type_of% S2/\type_of% S3/\type_of% S4/\type_of% S5/\type_of% S6/\type_of% S7/\type_of% S8/\type_of% S9/\type_of% Ta/\type_of% Tb/\type_of% Td/\type_of% Te/\type_of% Tf/\type_of% Tg/\type_of% Th/\type_of% Ti/\type_of% Tj/\type_of% Tk/\type_of% Tl/\type_of% Tm/\type_of% Tn/\type_of% To/\type_of% Tp/\type_of% Tq/\type_of% Ts/\type_of% Tt/\type_of% Tu/\type_of% Tv/\type_of% Tw/\type_of% Tx/\type_of% Tz/\type_of% TA :=
 ⟨Q4,Q5,Q6,Q7,Q8,Q9,Rb,Re,Rf,Rg,Rh,Ri,Rj,Rk,Rl,Rm,Rn,Ro,Rp,Rq,Rr,Rs,Rt,Ru,Rv,Rw,Rx,Ry,Rz,RA,RB,RC,RD,RE,RF,RG,RH,RJ,RK,RL,RM,RN,RO,RP,RQ,RR,RS,RT,RU,RV,RW,RX,RY,RZ,R0,R2,R3,R4,R5,R6,R7,R8,R9,Sa,Sb,Sd,Se,Sf,Sg,Sh,Si,Sj,Sk,Sl,Sm,Sn,Sp,Sr,Ss,Su,Sv,Sw,Sx,Sy,Sz,SA,SD,SE,SF,SG,SH,SI,SJ,SK,SL,SM,SN,SO,SP,SQ,SR,SS,SU,SV,SX,SY,SZ,S1,S2,S3,S4,S5,S6,S7,S8,S9,Ta,Tb,Td,Te,Tf,Tg,Th,Ti,Tj,Tk,Tl,Tm,Tn,To,Tp,Tq,Ts,Tt,Tu,Tv,Tw,Tx,Tz,TA⟩
def Ac:=aap @uo @Bc @Sc @Rc
def Kc:=aap @sM @Lc @uo @Rc
def Oc:=aaF @oZ.eq_1 @oZ.eq_2 @or_true @false_or @Bc @Sc @Rc
def Hr:=aaI @sq.eq_1 @sq.eq_2 @Bc @Rc @sM @Lc @uo (N3 @and_true @Cr @E5)
def Tc:=aaI @Has.eq_1 @Has.eq_2 @bF.{0} @dt.{0} @nR.{0} @gm @sM (aaD @Lc @uo @Rc @and_true @Cr @E5)
def Qc:=aaI @Be.eq_1 @Be.eq_2 @dx.eq_1 @dx.eq_2 @dx.eq_3 @dv.eq_1 @TB (aaD @TC @nR.{0} @sM @Lc @uo @Rc)
inductive Sq(P:Program)(N n0:Nat)(y:Code)(Q:Exit->St->Prop):Exit->St->Prop
 |n (s:St) (h:W P N n0 y Q s):Sq P N n0 y Q .normal s
 |e (e:Exit) (s:St) (hi:uq e=false) (h:Q e s):Sq P N n0 y Q e s
inductive Bq(id:Nat)(Q:Exit->St->Prop):Exit->St->Prop
 |n (s:St) (h:Q .normal s):Bq id Q .normal s
 |x (s:St) (h:Q .normal s):Bq id Q (.exit id) s
 |e (e:Exit) (s:St) (hi:zI id e=false) (h:Q e s):Bq id Q e s
section
variable {P:Program} {N n0:Nat} {σ:St} {Q:Exit->St->Prop}
def Xk{x y:Code}(h:W P N n0 x (Sq P N n0 y Q) σ):W P N n0 (.seq x y) Q σ:=Wk λ_ h1 h2=>PX h λ_ _ h=>by
 cases h with
 |n _ h=>exact h1 _ h
 |e _ _ hi h=>exact h2 _ _ hi h
def Xb{id:Nat}{c:Code}(h:W P N n0 c (Bq id Q) σ):W P N n0 (.block id c) Q σ:=Wb λ_ h1 h2 h3=>PX h λ_ _ h=>by
 cases h with
 |n _ h=>exact h1 _ h
 |x _ h=>exact h2 _ h
 |e _ _ hi h=>exact h3 _ _ hi h
def hn{y:Code}(s:St)(h:W P N n0 y Q s):Sq P N n0 y Q .normal s:=.n s h
def he{y:Code}(e:Exit)(s:St)(hi:uq e=false)(h:Q e s):Sq P N n0 y Q e s:=.e e s hi h
def dC{id:Nat}(s:St)(h:Q .normal s):Bq id Q .normal s:=.n s h
def eI{id:Nat}(s:St)(h:Q .normal s):Bq id Q (.exit id) s:=.x s h
def fi{id:Nat}(e:Exit)(s:St)(hi:zI id e=false)(h:Q e s):Bq id Q e s:=.e e s hi h
def ur{x y:Code}(h:∀ Q':Exit->St->Prop,(∀ s,W P N n0 y Q s->Q' .normal s)->(∀ e s,uq e=false->Q e s->Q' e s)->W P N n0 x Q' σ):W P N n0 x (Sq P N n0 y Q) σ:=h _ .n .e
def alY{x y z:Code}(h:∀ Q':Exit->St->Prop,(∀ s,W P N n0 y Q s->Q' .normal s)->(∀ e s,uq e=false->Q e s->Q' e s)->W P N n0 x (Sq P N n0 z Q') σ):W P N n0 x (Sq P N n0 z (Sq P N n0 y Q)) σ:=h _ .n .e
def aex{x y z:Code}{id:Nat}(h:∀ Q':Exit->St->Prop,(∀ s,W P N n0 y Q s->Q' .normal s)->(∀ e s,uq e=false->Q e s->Q' e s)->W P N n0 x (Sq P N n0 z (Bq id Q')) σ):W P N n0 x (Sq P N n0 z (Bq id (Sq P N n0 y Q))) σ:=h _ .n .e
end
def X0:True:=trivial
def X2{a b:Prop}(x:a)(y:b):a/\b:=⟨x,y⟩
def X3{a b c:Prop}(x:a)(y:b)(z:c):a/\b/\c:=⟨x,y,z⟩
def X4{a b c d:Prop}(x:a)(y:b)(z:c)(u:d):a/\b/\c/\d:=⟨x,y,z,u⟩
def X5{a b c d e:Prop}(x:a)(y:b)(z:c)(u:d)(v:e):a/\b/\c/\d/\e:=⟨x,y,z,u,v⟩
theorem Xr{p q e:Prop}(x:e)(h:q)(k:e->q->p:=by first|(intro hx hq;(first|refine rr ?_|refine rq ?_);intro K hK;simp(disch:=omega)only[Ac,↓Pc,simprocAttr,hx];revert hK;revert K;exact hq)|fail):p:=k x h
theorem Xq{p q e:Prop}(x:e)(h:q)(k:e->q->p:=by first|(intro hx hq;(first|refine rr ?_|refine rq ?_|refine rb ?_|refine Da ?_|refine ra ?_|refine Db ?_);intro K hK;simp(disch:=omega)only[Ac,↓Pc,simprocAttr,hx];revert hK;revert K;exact hq)|fail):p:=k x h
theorem Xo{p q e:Prop}(x:e)(h:q)(k:e->q->p:=by first|(intro hx hq;with_reducible refine gO ?_;simp(disch:=omega)only[Ac,↓Pc,simprocAttr,hx];exact hq)|fail):p:=k x h
theorem Xc{p q t:Prop}(c:t)(h:q)(k:t->q->p:=by first|(intro hc hq;(first|refine bR hc rfl rfl ?_|refine b7 hc rfl rfl ?_);exact hq)|fail):p:=k c h
theorem Xg{p q r e:Prop}(x:e)(h:q)(h2:r)(k:e->q->r->p/\True:=by first|(intro hx hq hr;refine And.intro ?_ ?_;(with_reducible refine gS (fun aV=>?_) (fun aV=>?_));(focus (have hb:=aV;(try simp only[gN,simprocAttr]at hb);all_goals(simp(disch:=omega)only[Ac,↓Pc,simprocAttr,hx,aV]);all_goals(clear aV;revert hb;exact hq)));(focus (have hb:=aV;(try simp only[gN,simprocAttr]at hb);all_goals(simp(disch:=omega)only[Ac,↓Pc,simprocAttr,hx,aV]);all_goals(clear aV;revert hb;exact hr)));((try have _:True:=hq);(try have _:True:=hr);trivial))|fail):p:=(k x h h2).1
theorem Xi{p q r:Prop}(h:q)(h2:r)(k:q->r->p/\True:=by first|(intro hq hr;refine And.intro ?_ ?_;refine Wc ?_ ?_;(focus (intro ht;(try simp only[gN,simprocAttr]at ht);all_goals(revert ht;exact hq)));(focus (intro ht;(try simp only[gN,simprocAttr]at ht);all_goals(revert ht;exact hr)));((try have _:True:=hq);(try have _:True:=hr);trivial))|fail):p:=(k h h2).1
theorem Xz{p q:Prop}(h:q)(k:q->p:=by first|(intro hq;(first|refine Wz rfl ?_|refine Xk ?_|refine Xb ?_|refine Sq.n _ ?_|refine Sq.e _ _ rfl ?_|refine Bq.n _ ?_|refine Bq.x _ ?_|refine Bq.e _ _ rfl ?_|refine hn _ ?_|refine he _ _ rfl ?_);(repeat(first|refine Wz rfl ?_|refine Xk ?_|refine Xb ?_|refine Sq.n _ ?_|refine Sq.e _ _ rfl ?_|refine Bq.n _ ?_|refine Bq.x _ ?_|refine Bq.e _ _ rfl ?_|refine hn _ ?_|refine he _ _ rfl ?_));exact hq)|fail):p:=k h
theorem Xh{p q:Prop}(h:q)(k:q->p:=by first|(intro hq;(first|refine ar _ _ rfl ?_|refine bx _ _ rfl ?_|refine fI _ _ rfl ?_|refine sS _ _ rfl ?_);exact hq)|fail):p:=k h
theorem Xu{p q:Prop}(h:q)(k:q->p:=by first|(intro hq;(first|refine Sq.n _ ?_|refine Sq.e _ _ rfl ?_|refine Bq.n _ ?_|refine Bq.x _ ?_|refine Bq.e _ _ rfl ?_|refine hn _ ?_|refine he _ _ rfl ?_|refine ar _ _ rfl ?_|refine bx _ _ rfl ?_|refine fI _ _ rfl ?_|refine sS _ _ rfl ?_);exact hq)|fail):p:=k h
theorem Xe{p q:Prop}(h:q)(k:q->p:=by first|(intro hq;simp only[Qc,Kc,simprocAttr];exact hq)|fail):p:=k h
theorem Xy{p q:Prop}(h:q)(k:q->p:=by first|(intro hq;refine Xz ?_;exact hq)|(intro hq;refine Xe ?_;exact hq)|fail):p:=k h
theorem XY{p q:Prop}(h:q)(k:q->p:=by first|(intro hq;refine Xz ?_;exact hq)|(intro hq;refine Xh ?_;exact hq)|(intro hq;refine Xe ?_;exact hq)|fail):p:=k h
theorem Xx{p:Prop}(h:p:=by first|omega|with_reducible rfl|exact trivial|fail):p:=h
theorem Xl{n0:Nat}{e:Nat->AV}{os:List Ob}{v res:AV}{a8:List Ob}(ho:os=a8)(h:v=res)(hl:n0<=a8.length:=by(simp only[List.length_cons,List.length_nil];omega)):nW n0 ⟨e,os⟩ v res a8:=ed ho hl h
theorem Xd{p q r:Prop}(h:q)(h2:r)(k:q->r->p:=by first|(intro hq hr;with_reducible refine And.intro ?_ ?_;exact hq;exact hr)|fail):p:=k h h2
theorem Xv{n0:Nat}{σ S:St}{e:Prop}(x:e)(k:e->aF n0 σ S:=by first|(intro hx;refine aF.an _ _ rfl ?_;simp only[Tc,↓reduceIte,Nat.reduceEqDiff,Nat.reduceBEq,Nat.reduceAdd,hx];(try trivial);done)|fail):aF n0 σ S:=k x
theorem Xs{n0:Nat}{σ:St}{l:List (Nat×AV)}{co:List Ob}{e:Prop}(snap:Bool)(aj:List Nat)(x:e)(h1:e->oZ (bq σ.aa.length aj) σ.aa aj co:=by(intro hx;simp only[Oc,simprocAttr,hx]))(h2:e->sq (bw σ (kept aj co) (bq σ.aa.length aj) snap) σ.env l:=by(intro hx;simp only[Hr,↓reduceIte,Nat.reduceEqDiff,Nat.reduceBEq,Nat.reduceAdd,hx];(try(and_intros<;>first|exact .pure rfl|exact .eq rfl|exact .fz rfl (by simp only[Bc,Rc])))))(bU:aj.Nodup:=by decide)(hn:n0<=aj.length:=by decide)(bO:∀ i,i<n0->aj.getD i 0=i:=by decide):aF n0 σ ⟨an l,co⟩:=aF.se aj snap (h1 x) (h2 x) bU hn bO
theorem Xw{n0:Nat}{σ:St}{v res:AV}{a8:List Ob}{e:Prop}(snap:Bool)(aj:List Nat)(x:e)(h1:e->oZ (bq σ.aa.length aj) σ.aa aj a8:=by(intro hx;simp only[Oc,simprocAttr,hx]))(h2:bw σ (kept aj a8) (bq σ.aa.length aj) snap res v:=by first|exact .pure rfl|exact .eq rfl|exact .fz rfl (by simp only[Bc,Rc]))(bU:aj.Nodup:=by decide)(hn:n0<=aj.length:=by decide)(bO:∀ i,i<n0->aj.getD i 0=i:=by decide):nW n0 σ v res a8:=aey aj snap (h1 x) h2 bU hn bO
theorem Xn(aj:List Nat){P:Program}{σ:St}{f:FuncId}{args dz:List AV}{bP:List Ob}{dst:Option Tmp}{K:St->Prop}{res:AV}{cY:List Ob}(h:Holds P f dz bP res cY)(hK:K (({ σ with aa:=fl σ.aa aj (cY.map (bH (bq σ.aa.length aj))) }:St).put dst (bf (bq σ.aa.length aj) res)))(bU:aj.Nodup:=by decide)(ho:xP (bq σ.aa.length aj) σ.aa aj bP:=by((repeat'(first|exact trivial|with_reducible refine And.intro ?_ ?_|refine And.intro ?_ ?_))<;>first|rfl|(rw[Fo];rfl)|(rw[A8];rfl)|(rw[vr];rfl)|(rw[I9];rfl)))(ha:ju (bw σ (·∈aj) (bq σ.aa.length aj) false) dz args:=by((repeat'(first|exact trivial|refine And.intro ?_ ?_))<;>(first|exact .pure rfl|exact .eq rfl|exact .fz rfl (by simp only[Bc,Rc])))):r8 P f args dst K σ:=jv aj h bU ho ha hK
def Pw:=aaD @p9 @mO @lQ @lP @bZ.eq_1 @dX.eq_1
theorem Va{p q e:Prop}(x:e)(h:q)(k:e->q->p:=by first|(intro hx hq;(try with_reducible intro K hK);(first|((first|refine rr ?_|refine rq ?_);intro K hK;simp(disch:=omega)only[Ac,↓Pc,simprocAttr,hx];show _)|(with_reducible refine gO ?_;simp(disch:=omega)only[Ac,↓Pc,simprocAttr,hx];show _)|(refine hK _ ?_;clear hK K)|refine Wz rfl ?_|refine Xk ?_|refine Xb ?_|refine Sq.n _ ?_|refine Sq.e _ _ rfl ?_|refine Bq.n _ ?_|refine Bq.x _ ?_|refine Bq.e _ _ rfl ?_|refine hn _ ?_|refine he _ _ rfl ?_|(simp only[Qc,Kc,simprocAttr];show _)|(with_reducible refine And.intro ?_ ?_;(focus (clear hq;first|omega|with_reducible rfl|exact trivial))));(repeat(first|((first|refine rr ?_|refine rq ?_);intro K hK;simp(disch:=omega)only[Ac,↓Pc,simprocAttr,hx];show _)|(with_reducible refine gO ?_;simp(disch:=omega)only[Ac,↓Pc,simprocAttr,hx];show _)|(refine hK _ ?_;clear hK K)|refine Wz rfl ?_|refine Xk ?_|refine Xb ?_|refine Sq.n _ ?_|refine Sq.e _ _ rfl ?_|refine Bq.n _ ?_|refine Bq.x _ ?_|refine Bq.e _ _ rfl ?_|refine hn _ ?_|refine he _ _ rfl ?_|(simp only[Qc,Kc,simprocAttr];show _)|(with_reducible refine And.intro ?_ ?_;(focus (clear hq;first|omega|with_reducible rfl|exact trivial)))));(try revert hK);(try revert K);exact hq)|fail):p:=k x h
theorem Vb{p q e:Prop}(x:e)(h:q)(k:e->q->p:=by first|(intro hx hq;(try with_reducible intro K hK);(first|((first|refine rr ?_|refine rq ?_);intro K hK;simp(disch:=omega)only[Ac,↓Pc,simprocAttr,hx];show _)|(with_reducible refine gO ?_;simp(disch:=omega)only[Ac,↓Pc,simprocAttr,hx];show _)|(refine hK _ ?_;clear hK K)|refine Wz rfl ?_|refine Xk ?_|refine Xb ?_|refine Sq.n _ ?_|refine Sq.e _ _ rfl ?_|refine Bq.n _ ?_|refine Bq.x _ ?_|refine Bq.e _ _ rfl ?_|refine hn _ ?_|refine he _ _ rfl ?_|refine ar _ _ rfl ?_|refine bx _ _ rfl ?_|refine fI _ _ rfl ?_|refine sS _ _ rfl ?_|(simp only[Qc,Kc,simprocAttr];show _)|(with_reducible refine And.intro ?_ ?_;(focus (clear hq;first|omega|with_reducible rfl|exact trivial))));(repeat(first|((first|refine rr ?_|refine rq ?_);intro K hK;simp(disch:=omega)only[Ac,↓Pc,simprocAttr,hx];show _)|(with_reducible refine gO ?_;simp(disch:=omega)only[Ac,↓Pc,simprocAttr,hx];show _)|(refine hK _ ?_;clear hK K)|refine Wz rfl ?_|refine Xk ?_|refine Xb ?_|refine Sq.n _ ?_|refine Sq.e _ _ rfl ?_|refine Bq.n _ ?_|refine Bq.x _ ?_|refine Bq.e _ _ rfl ?_|refine hn _ ?_|refine he _ _ rfl ?_|refine ar _ _ rfl ?_|refine bx _ _ rfl ?_|refine fI _ _ rfl ?_|refine sS _ _ rfl ?_|(simp only[Qc,Kc,simprocAttr];show _)|(with_reducible refine And.intro ?_ ?_;(focus (clear hq;first|omega|with_reducible rfl|exact trivial)))));(try revert hK);(try revert K);exact hq)|fail):p:=k x h
theorem Vc{p q e t:Prop}(x:e)(c:t)(h:q)(k:e->t->q->p:=by first|(intro hx hc hq;(try with_reducible intro K hK);(first|((first|refine rr ?_|refine rq ?_|refine rb ?_|refine Da ?_|refine ra ?_|refine Db ?_);intro K hK;simp(disch:=omega)only[Ac,↓Pc,simprocAttr,hx];show _)|(with_reducible refine gO ?_;simp(disch:=omega)only[Ac,↓Pc,simprocAttr,hx];show _)|(refine hK _ ?_;clear hK K)|refine Wz rfl ?_|refine Xk ?_|refine Xb ?_|refine Sq.n _ ?_|refine Sq.e _ _ rfl ?_|refine Bq.n _ ?_|refine Bq.x _ ?_|refine Bq.e _ _ rfl ?_|refine hn _ ?_|refine he _ _ rfl ?_|(simp only[Qc,Kc,simprocAttr];show _)|(with_reducible refine And.intro ?_ ?_;(focus (clear hq;first|omega|with_reducible rfl|exact trivial)))|(apply bR;(focus(repeat(first|exact hc|exact hc.1|have hc:=hc.2)));rfl;rfl)|(apply b7;(focus(repeat(first|exact hc|exact hc.1|have hc:=hc.2)));rfl;rfl));(repeat(first|((first|refine rr ?_|refine rq ?_|refine rb ?_|refine Da ?_|refine ra ?_|refine Db ?_);intro K hK;simp(disch:=omega)only[Ac,↓Pc,simprocAttr,hx];show _)|(with_reducible refine gO ?_;simp(disch:=omega)only[Ac,↓Pc,simprocAttr,hx];show _)|(refine hK _ ?_;clear hK K)|refine Wz rfl ?_|refine Xk ?_|refine Xb ?_|refine Sq.n _ ?_|refine Sq.e _ _ rfl ?_|refine Bq.n _ ?_|refine Bq.x _ ?_|refine Bq.e _ _ rfl ?_|refine hn _ ?_|refine he _ _ rfl ?_|(simp only[Qc,Kc,simprocAttr];show _)|(with_reducible refine And.intro ?_ ?_;(focus (clear hq;first|omega|with_reducible rfl|exact trivial)))|(apply bR;(focus(repeat(first|exact hc|exact hc.1|have hc:=hc.2)));rfl;rfl)|(apply b7;(focus(repeat(first|exact hc|exact hc.1|have hc:=hc.2)));rfl;rfl)));(try revert hK);(try revert K);exact hq)|fail):p:=k x c h
theorem Vd{p q e t:Prop}(x:e)(c:t)(h:q)(k:e->t->q->p:=by first|(intro hx hc hq;(try with_reducible intro K hK);(first|((first|refine rr ?_|refine rq ?_|refine rb ?_|refine Da ?_|refine ra ?_|refine Db ?_);intro K hK;simp(disch:=omega)only[Ac,↓Pc,simprocAttr,hx];show _)|(with_reducible refine gO ?_;simp(disch:=omega)only[Ac,↓Pc,simprocAttr,hx];show _)|(refine hK _ ?_;clear hK K)|refine Wz rfl ?_|refine Xk ?_|refine Xb ?_|refine Sq.n _ ?_|refine Sq.e _ _ rfl ?_|refine Bq.n _ ?_|refine Bq.x _ ?_|refine Bq.e _ _ rfl ?_|refine hn _ ?_|refine he _ _ rfl ?_|refine ar _ _ rfl ?_|refine bx _ _ rfl ?_|refine fI _ _ rfl ?_|refine sS _ _ rfl ?_|(simp only[Qc,Kc,simprocAttr];show _)|(with_reducible refine And.intro ?_ ?_;(focus (clear hq;first|omega|with_reducible rfl|exact trivial)))|(apply bR;(focus(repeat(first|exact hc|exact hc.1|have hc:=hc.2)));rfl;rfl)|(apply b7;(focus(repeat(first|exact hc|exact hc.1|have hc:=hc.2)));rfl;rfl));(repeat(first|((first|refine rr ?_|refine rq ?_|refine rb ?_|refine Da ?_|refine ra ?_|refine Db ?_);intro K hK;simp(disch:=omega)only[Ac,↓Pc,simprocAttr,hx];show _)|(with_reducible refine gO ?_;simp(disch:=omega)only[Ac,↓Pc,simprocAttr,hx];show _)|(refine hK _ ?_;clear hK K)|refine Wz rfl ?_|refine Xk ?_|refine Xb ?_|refine Sq.n _ ?_|refine Sq.e _ _ rfl ?_|refine Bq.n _ ?_|refine Bq.x _ ?_|refine Bq.e _ _ rfl ?_|refine hn _ ?_|refine he _ _ rfl ?_|refine ar _ _ rfl ?_|refine bx _ _ rfl ?_|refine fI _ _ rfl ?_|refine sS _ _ rfl ?_|(simp only[Qc,Kc,simprocAttr];show _)|(with_reducible refine And.intro ?_ ?_;(focus (clear hq;first|omega|with_reducible rfl|exact trivial)))|(apply bR;(focus(repeat(first|exact hc|exact hc.1|have hc:=hc.2)));rfl;rfl)|(apply b7;(focus(repeat(first|exact hc|exact hc.1|have hc:=hc.2)));rfl;rfl)));(try revert hK);(try revert K);exact hq)|fail):p:=k x c h
theorem V2{p q r e:Prop}(x:e)(h:q)(h2:r)(k:e->q->r->p/\True:=by first|(intro hx hq hr;refine And.intro ?_ ?_;(try with_reducible intro K hK);(with_reducible refine gS (fun aV=>?_) (fun aV=>?_));(focus (have hb:=aV;(try simp only[gN,simprocAttr]at hb);all_goals(simp(disch:=omega)only[Ac,↓Pc,simprocAttr,hx,aV]);all_goals(clear aV;(try revert hK);(try revert K);revert hb;exact hq)));(focus (have hb:=aV;(try simp only[gN,simprocAttr]at hb);all_goals(simp(disch:=omega)only[Ac,↓Pc,simprocAttr,hx,aV]);all_goals(clear aV;(try revert hK);(try revert K);revert hb;exact hr)));((try have _:True:=hq);(try have _:True:=hr);trivial))|fail):p:=(k x h h2).1
theorem VD{p q r:Prop}(h:q)(h2:r)(k:q->r->p:=by first|(intro hq hr;(try with_reducible intro K hK);with_reducible refine And.intro ?_ ?_;(focus ((try clear hK K);(try revert hK);(try revert K);exact hq));(focus ((try clear hK K);(try revert hK);(try revert K);exact hr)))|fail):p:=k h h2
def TD(n m:Int)(hm:cS m):Holds Tryz.prog 14 [N0 n,N0 m] [] (N0 (vw n m)) []:=by
 unfold cS at hm;refine Holds.aK 16 0 [.tmp 4] Tryz.func14 ?_;repeat'(first|(refine Xr X0 ?_;intro K hK)|(refine hK _ ?_;clear hK K)|(refine Xi ?_ ?_<;>try intro ht)|refine Xz ?_|(refine Xe ?_;first|refine aS rfl ?_|refine Xl ?_ ?_)|refine Xd ?_ ?_|exact Xx|fail)
 ·rw[vw,if_pos ht]
 ·have:=Kb n m Ix;omega
 ·rw[vw,if_neg Ix,(Kb n m Ix).1 ht]
 ·rw[vw,if_neg Ix,(Kb n m Ix).2.1 ht]
def aez(xs:List Int):Holds Tryz.prog 8 [.tree 1 (ints xs)] [] (.lit (.bool (decide (xs.length<=400)))) []:=by
 refine Holds.aK 6 0 [.tmp 2] Tryz.func8 ?_;repeat'(first|(refine Xr X0 ?_;intro K hK)|(refine hK _ ?_;clear hK K)|refine Xz ?_|(refine Xe ?_;first|refine aS rfl ?_|refine Xl ?_ ?_)|fail)
 ·congr 3;simp;omega
def gD(L:List Int)(k:Nat)(n:Int)(hn:cS n)(hk:k<=L.length)(hL:L.length<1000000):Holds Tryz.prog 24 [.ptr 0 0 0,N0 n] [.var [.tree 1 (ints L),N0 k]] (N0 (dN L k n))
  [.var [.tree 1 (ints L),N0 (cj L k)]]:=by
 refine Holds.aK 35 1 [.tmp 4] Tryz.func24 ?_;repeat'(first|(refine Xq X0 ?_;intro K hK)|refine Xo X0 ?_|refine Xc (TD _ _ hn) ?_|(refine hK _ ?_;clear hK K)|(refine Xi ?_ ?_<;>try intro ht)|refine Xz ?_|(refine Xe ?_;first|refine aS rfl ?_|refine Xl ?_ ?_)|refine Xd ?_ ?_|exact Xx|fail)
 ·rw[cj,if_pos Ix]
 ·rw[dN,if_pos Ix]
 ·rw[cj,if_neg Ix,Cr];rfl
 ·rw[dN,if_neg Ix,show((k:Int)+1-1).toNat=k by omega]
def Bs(L:List Int)(k:Nat)(n:Int)(hn:cS n)(lh:0<n)(hk:k<=L.length)(hL:L.length<1000000):Holds Tryz.prog 31 [.ptr 0 0 0,N0 n] [.var [.tree 1 (ints L),N0 k]] (.lit (.bool (w0 L k n)))
  [.var [.tree 1 (ints L),N0 (cj L k)]]:=by
 refine Holds.aK 11 1 [.tmp 4] Tryz.func31 ?_;repeat'(first|(refine Xr X0 ?_;intro K hK)|(refine hK _ ?_;clear hK K)|fail)
 refine fF (gD L k n hn hk hL) Iy ?_;unfold cS at hn;repeat'(first|refine Xo X0 ?_|(refine hK _ ?_;clear hK K)|refine Xz ?_|(refine Xe ?_;first|refine aS rfl ?_|refine Xl ?_ ?_)|refine Xd ?_ ?_|exact Xx|fail)
 ·rfl
def Kd(L:List Int)(k:Nat)(hk:k<=L.length)(hL:L.length<1000000):Holds Tryz.prog 68 [.ptr 0 0 0] [.var [.tree 1 (ints L),N0 k]] (N0 (py L k))
  [.var [.tree 1 (ints L),N0 (vz L k)]]:=by
 have h6:=jB (L:=L) (k:=k) (n:=6) Ix;have h20:=jB (L:=L) (k:=cj L k) (n:=20) Ix;refine Holds.aK 14 1 [.tmp 2] Tryz.func68 ?_;repeat'(first|(refine Xr X0 ?_;intro K hK)|(refine hK _ ?_;clear hK K)|refine Xz ?_|fail)
 refine fF (gD L k 6 (by unfold cS;omega) hk hL) Iy ?_;have c1:dN L k 6<=3->vz L k=cj L k:=λh=>by rw[vz,if_pos h]
 have c2:dN L k 6<3->py L k=0:=λh=>by rw[py,if_pos h]
 have c3:dN L k 6=3->py L k=1099511627776:=λh=>by rw[py,if_neg Ix,if_pos h]
 have c4:¬ dN L k 6<=3->vz L k=cj L (cj L k):=λh=>by rw[vz,if_neg h]
 have c5:¬ dN L k 6<=3->py L k=1+dN L (cj L k) 20:=λh=>by rw[py,if_neg Ix,if_neg Ix]
 repeat'(first|(refine Xr X0 ?_;intro K hK)|(refine hK _ ?_;clear hK K)|(refine Xi ?_ ?_<;>try intro ht)|refine Xz ?_|(refine Xe ?_;first|refine aS rfl ?_|refine Xl ?_ ?_)|exact Xx|fail)
 iterate 3
  ·rw[c1 Ix]
  ·rw[c2 Ix]
 ·rw[c1 Ix]
 ·rw[c3 Ix]
 ·refine fF (gD L (cj L k) 20 (by unfold cS;omega) (eQ hk) hL) Iy ?_;repeat'(first|refine Xo X0 ?_|(refine hK _ ?_;clear hK K)|refine Xz ?_|(refine Xe ?_;first|refine aS rfl ?_|refine Xl ?_ ?_)|refine Xd ?_ ?_|exact Xx|fail)
  ·rw[c4 Ix]
  ·rw[c5 Ix]
def TE(L:List Int):Holds Tryz.prog 10 [.tree 1 (ints L)] [] (.ptr 0 0 0) [.var [.tree 1 (ints L),N0 (0:Nat)]]:=by
 refine Holds.aK 6 0 [.tmp 2] Tryz.func10 ?_;refine Vb X0 ?_;rw[show(0:Int)=((0:Nat):Int) from rfl];exact ed rfl Iy rfl
def aeB(a b:Int)(ha:bM a)(hb:bM b):Holds Tryz.prog 110 [N0 a,N0 b] [] (N0 (dZ a b)) []:=by
 unfold bM at *;refine Holds.aK 9 0 [.tmp 4] Tryz.func110 ?_;repeat'(first|(refine Xr X0 ?_;intro K hK)|(refine hK _ ?_;clear hK K)|refine Xz ?_|(refine Xe ?_;first|refine aS rfl ?_|refine Xl ?_ ?_)|refine Xd ?_ ?_|exact Xx|fail)
 ·rfl
def aeC(a b:Int)(ha:bM a)(hb:bM b):Holds Tryz.prog 83 [N0 a,N0 b] [] (N0 (dZ a b)) []:=by
 unfold bM at *;refine Holds.aK 9 0 [.tmp 4] Tryz.func83 ?_;repeat'(first|(refine Xr X0 ?_;intro K hK)|(refine hK _ ?_;clear hK K)|refine Xz ?_|(refine Xe ?_;first|refine aS rfl ?_|refine Xl ?_ ?_)|refine Xd ?_ ?_|exact Xx|fail)
 ·rfl
def J8(n:Int):Holds Tryz.prog 123 [N0 n] [] (.lit (.bool (jk n))) []:=by
 refine Holds.aK 13 0 [.tmp 2] Tryz.func123 ?_;repeat'(first|(refine Xr X0 ?_;intro K hK)|(refine hK _ ?_;clear hK K)|(refine Xg X0 ?_ ?_<;>try intro hb)|refine Xz ?_|(refine Xe ?_;first|refine aS rfl ?_|refine Xl ?_ ?_)|fail)
 all_goals(refine congrArg (λb=>AV.lit (Value.bool b)) ?_;rw[nS];simp only[jk,decide_eq_true_eq,beq_iff_eq,bne_iff_ne,aZ,kG,kH,decide_eq_false_iff_not,iS,reduceCtorEq,iff_true,iff_false,true_iff,false_iff,eq_self];omega)
def Ke(n:Int):Holds Tryz.prog 62 [N0 n] [] (.lit (.bool (jk n))) []:=by
 refine Holds.aK 13 0 [.tmp 2] Tryz.func62 ?_;repeat'(first|(refine Xr X0 ?_;intro K hK)|(refine hK _ ?_;clear hK K)|(refine Xg X0 ?_ ?_<;>try intro hb)|refine Xz ?_|(refine Xe ?_;first|refine aS rfl ?_|refine Xl ?_ ?_)|fail)
 all_goals(refine congrArg (λb=>AV.lit (Value.bool b)) ?_;rw[nS];simp only[jk,decide_eq_true_eq,beq_iff_eq,bne_iff_ne,aZ,kG,kH,decide_eq_false_iff_not,iS,reduceCtorEq,iff_true,iff_false,true_iff,false_iff,eq_self];omega)
def J7(m:ah)(n:Int):Holds Tryz.prog 122 [.agg (ao m),N0 n] [] (.lit (.bool (jA m.rules n))) []:=by
 refine Holds.aK 13 0 [.tmp 4] Tryz.func122 ?_;repeat'(first|(refine Xr @ao.eq_1 ?_;intro K hK)|(refine hK _ ?_;clear hK K)|(refine Xg @ao.eq_1 ?_ ?_<;>try intro hb)|refine Xz ?_|(refine Xe ?_;first|refine aS rfl ?_|refine Xl ?_ ?_)|fail)
 all_goals(refine congrArg (λb=>AV.lit (Value.bool b)) ?_;rw[nS];simp only[jA,decide_eq_true_eq,beq_iff_eq,bne_iff_ne,aZ,kG,kH,decide_eq_false_iff_not,iS,reduceCtorEq,iff_true,iff_false,true_iff,false_iff,eq_self];omega)
def Kf(m:ah)(n:Int):Holds Tryz.prog 61 [.agg (ao m),N0 n] [] (.lit (.bool (jA m.rules n))) []:=by
 refine Holds.aK 13 0 [.tmp 4] Tryz.func61 ?_;repeat'(first|(refine Xr @ao.eq_1 ?_;intro K hK)|(refine hK _ ?_;clear hK K)|(refine Xg @ao.eq_1 ?_ ?_<;>try intro hb)|refine Xz ?_|(refine Xe ?_;first|refine aS rfl ?_|refine Xl ?_ ?_)|fail)
 all_goals(refine congrArg (λb=>AV.lit (Value.bool b)) ?_;rw[nS];simp only[jA,decide_eq_true_eq,beq_iff_eq,bne_iff_ne,aZ,kG,kH,decide_eq_false_iff_not,iS,reduceCtorEq,iff_true,iff_false,true_iff,false_iff,eq_self];omega)
def aeD(n:Int):Holds Tryz.prog 107 [N0 n] [] (.lit (.bool false)) []:=by
 refine Holds.aK 6 0 [.tmp 2] Tryz.func107 ?_;repeat'(first|(refine Xr @bne_self_eq_false.{0} ?_;intro K hK)|(refine hK _ ?_;clear hK K)|refine Xz ?_|(refine Xe ?_;first|refine aS rfl ?_|refine Xl ?_ ?_)|exact Xx|fail)
def C8(a b:Int):Holds Tryz.prog 76 [N0 a,N0 b] [] (N0 (j5 a b)) []:=by
 refine Holds.aK 20 0 [.tmp 4] Tryz.func76 ?_;repeat'(first|(refine Xq X0 ?_;intro K hK)|refine Xo X0 ?_|refine Xc (aeD _) ?_|(refine hK _ ?_;clear hK K)|(refine Xi ?_ ?_<;>try intro ht)|refine Xz ?_|(refine Xe ?_;first|refine aS rfl ?_|refine Xl ?_ ?_)|exact Xx|fail)
 all_goals(unfold j5;congr 2;(repeat' split)<;>omega)
def J9(l:List Int)(hl:l.length<1000000):Holds Tryz.prog 75 [.tree 1 (ints l)] [] (N0 (qx l)) []:=by
 generalize au:qx l=res;refine Holds.aK 18 0 [.tmp 2] Tryz.func75 ?_;repeat'(first|(refine Xr X0 ?_;intro K hK)|(refine hK _ ?_;clear hK K)|refine Xz ?_|fail)
 refine aU (λk:Nat=>(⟨an [(3,N0 0),(6,.tree 1 (ints l)),(7,N0 l.length),(8,N0 k)],[]⟩:St)) (λk=>k<=l.length/\qx (l.drop k)=res) (λk=>l.length-k) 0 ⟨aT _,au⟩ (Xv X0) ?_;rintro k⟨hk,hr⟩Ql ak ar;repeat'(first|(refine Xr X0 ?_;intro K hK)|(refine hK _ ?_;clear hK K)|(refine Xi ?_ ?_<;>try intro ht)|refine Xz ?_|refine Xh ?_|(refine Xe ?_;first|refine aS rfl ?_|refine Xl ?_ ?_)|refine Xd ?_ ?_|exact Xx|fail)
 ·rw[j2 _ _ 0 Ix,qx,if_pos (by assumption)]at hr;rw[hr]
 ·rw[j2 _ _ 0 Ix,qx,if_neg Ix]at hr;exact ak _ (k+1) ⟨Ix,hr⟩ Ix (Xv X0)
 ·rw[jr Ix,qx]at hr;rw[hr]
def aep(m:ah)(c o:Int):Holds Tryz.prog 127 [.agg (ao m),N0 c,N0 o] [] (.lit (.bool (jl m c o))) []:=by
 refine Holds.aK 30 0 [.tmp 6] Tryz.func127 ?_;repeat'(first|(refine Xr (X4 @ao.eq_1 @cf @fS @aQ.eq_1) ?_;intro K hK)|(refine hK _ ?_;clear hK K)|(refine Xg (X4 @ao.eq_1 @cf @fS @aQ.eq_1) ?_ ?_<;>try intro hb)|refine Xz ?_|(refine Xe ?_;first|refine aS rfl ?_|refine Xl ?_ ?_)|refine Xd ?_ ?_|exact Xx|fail)
 all_goals(refine congrArg (λb=>AV.lit (Value.bool b)) ?_;rw[nS];simp only[jl,decide_eq_true_eq,beq_iff_eq,bne_iff_ne,aZ,kG,kH,decide_eq_false_iff_not,iS,reduceCtorEq,iff_true,iff_false,true_iff,false_iff,eq_self];omega)
def TF(m:ah)(c o:Int):Holds Tryz.prog 82 [.agg (ao m),N0 c,N0 o] [] (.lit (.bool (jl m c o))) []:=by
 refine Holds.aK 30 0 [.tmp 6] Tryz.func82 ?_;repeat'(first|(refine Xr (X4 @ao.eq_1 @cf @fS @aQ.eq_1) ?_;intro K hK)|(refine hK _ ?_;clear hK K)|(refine Xg (X4 @ao.eq_1 @cf @fS @aQ.eq_1) ?_ ?_<;>try intro hb)|refine Xz ?_|(refine Xe ?_;first|refine aS rfl ?_|refine Xl ?_ ?_)|refine Xd ?_ ?_|exact Xx|fail)
 all_goals(refine congrArg (λb=>AV.lit (Value.bool b)) ?_;rw[nS];simp only[jl,decide_eq_true_eq,beq_iff_eq,bne_iff_ne,aZ,kG,kH,decide_eq_false_iff_not,iS,reduceCtorEq,iff_true,iff_false,true_iff,false_iff,eq_self];omega)
def aeb(c:Ct)(n:Int)(h1:0<=c.most)(h2:n<=1048576)(h3:0<=n)(h4:bM c.bX):Holds Tryz.prog 144 [.agg (db c),N0 n] [] (N0 (kQ c.most c.bX n)) []:=by
 unfold bM at h4;have hm:c.most<n->0<=(n-c.most)*c.bX/\(n-c.most)*c.bX<=1048576*1099511627776:=λh=>⟨rZ Ix h4.1,pT Ix h4.2 h4.1 Ix⟩;refine Holds.aK 17 0 [.tmp 4] Tryz.func144 ?_;repeat'(first|(refine Xr @db.eq_1 ?_;intro K hK)|(refine hK _ ?_;clear hK K)|(refine Xi ?_ ?_<;>try intro ht)|refine Xz ?_|(refine Xe ?_;first|refine aS rfl ?_|refine Xl ?_ ?_)|refine Xd ?_ ?_|exact Xx|fail)
 ·rw[kQ,if_pos ht]
 ·rw[kQ,if_neg Ix]
def aeE(n c:Int)(h2:n<=1048576)(h4:bM c):Holds Tryz.prog 48 [N0 n,N0 c] [] (N0 (Bt n c)) []:=by
 unfold bM at h4;have hm:0<n->0<=n*c/\n*c<=1048576*1099511627776:=λh=>⟨rZ Ix h4.1,pT Ix h4.2 h4.1 Ix⟩;refine Holds.aK 13 0 [.tmp 4] Tryz.func48 ?_;repeat'(first|(refine Xr X0 ?_;intro K hK)|(refine hK _ ?_;clear hK K)|(refine Xi ?_ ?_<;>try intro ht)|refine Xz ?_|(refine Xe ?_;first|refine aS rfl ?_|refine Xl ?_ ?_)|refine Xd ?_ ?_|exact Xx|fail)
 ·rw[Bt,if_pos ht]
 ·rw[Bt,if_neg Ix,if_pos Ix]
 ·rw[Bt,if_neg Ix,if_neg Ix]
def fk{α:Type}(p:α->Bool):Nat->List α->Int
 |_,[]=>-1
 |k,x::r=>if p x=true then(k:Int) else fk p (k+1) r
def yh{α:Type}(p:α->Bool):∀ (l:List α) (k:Nat),decide (0<=fk p k l)=l.any p
 |[],k=>rfl
 |x::r,k=>by
  rw[fk,List.any_cons];split
  ·rename_i h;rw[h];simp
  ·rename_i h;rw[yh p r (k+1)];simp_all
def aeF(l:List (List cg))(g:FuncId)(bk:List AV)(aa:List Ob)(p:(List cg)->Bool)(hl:l.length<9223372036854775808)(hg:∀ x∈l,Holds Tryz.prog g ([.tree 6 (rowsOf b6 x)]++bk) aa (.lit (.bool (p x))) aa):
  Holds Tryz.prog 147 [.tree 1 (rowsOf aQ l),.fn g bk] aa (N0 (fk p 0 l)) aa:=by
 generalize au:fk p 0 l=res;refine Holds.aK 19 aa.length [.tmp 4] Tryz.func147 ?_;refine Vb (X3 @cf @fS @aQ.eq_1) ?_;refine aU (λk:Nat=>(⟨an [(0,.tree 1 (rowsOf aQ l)),(1,.fn g bk),(7,N0 l.length),(8,N0 k)],aa⟩:St)) (λk=>k<=l.length/\fk p k (l.drop k)=res) (λk=>l.length-k) 0 ⟨aT _,au⟩ (Xv X0) ?_;rintro k⟨hk,hr⟩Ql ak ar;by_cases ba:k<l.length
 ·have hx:=hg _ (aG (d:=default) ba);have hd:=j2 l k default ba;generalize cW:l.getD k default=x at *;rw[hd,fk]at hr;simp only[dh,ec,aQ]at hx;((repeat'(first|refine Vb (X4 @cf @fS @aQ.eq_1 @cW) ?_|(refine Xi ?_ ?_<;>try intro ht)|exact Xx|fail))<;>try with_reducible intro K hK)
  refine fF hx (bb _) ?_;((try revert hK K);(repeat'(first|refine Vb (X3 @cf @fS @aQ.eq_1) ?_|(refine Xi ?_ ?_<;>try intro ht)|fail)))
  ·rw[if_pos (by assumption)]at hr;rw[<- hr];exact ed rfl (bb _) rfl
  ·rw[if_neg (by simp_all)]at hr;exact ak _ (k+1) ⟨Ix,hr⟩ Ix (Xv X0)
 ·((repeat'(first|refine Vb (X3 @cf @fS @aQ.eq_1) ?_|(refine Xi ?_ ?_<;>try intro ht)|exact Xx|fail)))
  rw[jr Ix,fk]at hr;rw[<- hr];exact ed rfl (bb _) rfl
def aej(l:List (List cg))(g:FuncId)(bk:List AV)(aa:List Ob)(p:(List cg)->Bool)(hl:l.length<9223372036854775808)(hg:∀ x∈l,Holds Tryz.prog g ([.tree 6 (rowsOf b6 x)]++bk) aa (.lit (.bool (p x))) aa):
  Holds Tryz.prog 120 [.tree 1 (rowsOf aQ l),.fn g bk] aa (.lit (.bool (l.any p))) aa:=by
 rw[<- yh p l 0];refine Holds.aK 9 aa.length [.tmp 4] Tryz.func120 ?_;((refine Vb (X3 @cf @fS @aQ.eq_1) ?_)<;>try with_reducible intro K hK)
 refine fF (aeF l g bk aa p hl hg) (bb _) ?_;((try revert hK K);(refine Vb (X3 @cf @fS @aQ.eq_1) ?_))
 exact ed rfl (bb _) rfl
def aeG(l:List cg)(g:FuncId)(bk:List AV)(aa:List Ob)(p:cg->Bool)(hl:l.length<9223372036854775808)(hg:∀ x∈l,Holds Tryz.prog g ([.agg (b6 x)]++bk) aa (.lit (.bool (p x))) aa):
  Holds Tryz.prog 121 [.tree 6 (rowsOf b6 l),.fn g bk] aa (N0 (fk p 0 l)) aa:=by
 generalize au:fk p 0 l=res;refine Holds.aK 19 aa.length [.tmp 4] Tryz.func121 ?_;refine Vb (X3 @cf @fS @b6.eq_1) ?_;refine aU (λk:Nat=>(⟨an [(0,.tree 6 (rowsOf b6 l)),(1,.fn g bk),(7,N0 l.length),(8,N0 k)],aa⟩:St)) (λk=>k<=l.length/\fk p k (l.drop k)=res) (λk=>l.length-k) 0 ⟨aT _,au⟩ (Xv X0) ?_;rintro k⟨hk,hr⟩Ql ak ar;by_cases ba:k<l.length
 ·have hx:=hg _ (aG (d:=default) ba);have hd:=j2 l k default ba;generalize cW:l.getD k default=x at *;rw[hd,fk]at hr;simp only[dh,ec,b6]at hx;((repeat'(first|refine Vb (X4 @cf @fS @b6.eq_1 @cW) ?_|(refine Xi ?_ ?_<;>try intro ht)|exact Xx|fail))<;>try with_reducible intro K hK)
  refine fF hx (bb _) ?_;((try revert hK K);(repeat'(first|refine Vb (X3 @cf @fS @b6.eq_1) ?_|(refine Xi ?_ ?_<;>try intro ht)|fail)))
  ·rw[if_pos (by assumption)]at hr;rw[<- hr];exact ed rfl (bb _) rfl
  ·rw[if_neg (by simp_all)]at hr;exact ak _ (k+1) ⟨Ix,hr⟩ Ix (Xv X0)
 ·((repeat'(first|refine Vb (X3 @cf @fS @b6.eq_1) ?_|(refine Xi ?_ ?_<;>try intro ht)|exact Xx|fail)))
  rw[jr Ix,fk]at hr;rw[<- hr];exact ed rfl (bb _) rfl
def aes(l:List cg)(g:FuncId)(bk:List AV)(aa:List Ob)(p:cg->Bool)(hl:l.length<9223372036854775808)(hg:∀ x∈l,Holds Tryz.prog g ([.agg (b6 x)]++bk) aa (.lit (.bool (p x))) aa):
  Holds Tryz.prog 87 [.tree 6 (rowsOf b6 l),.fn g bk] aa (.lit (.bool (l.any p))) aa:=by
 rw[<- yh p l 0];refine Holds.aK 9 aa.length [.tmp 4] Tryz.func87 ?_;((refine Vb (X3 @cf @fS @b6.eq_1) ?_)<;>try with_reducible intro K hK)
 refine fF (aeG l g bk aa p hl hg) (bb _) ?_;((try revert hK K);(refine Vb (X3 @cf @fS @b6.eq_1) ?_))
 exact ed rfl (bb _) rfl
def aeH(l:List Ct)(g:FuncId)(bk:List AV)(aa:List Ob)(p:Ct->Bool)(hl:l.length<9223372036854775808)(hg:∀ x∈l,Holds Tryz.prog g ([.agg (db x)]++bk) aa (.lit (.bool (p x))) aa):
  Holds Tryz.prog 126 [.tree 4 (rowsOf db l),.fn g bk] aa (N0 (fk p 0 l)) aa:=by
 generalize au:fk p 0 l=res;refine Holds.aK 19 aa.length [.tmp 4] Tryz.func126 ?_;refine Vb (X3 @cf @fS @db.eq_1) ?_;refine aU (λk:Nat=>(⟨an [(0,.tree 4 (rowsOf db l)),(1,.fn g bk),(7,N0 l.length),(8,N0 k)],aa⟩:St)) (λk=>k<=l.length/\fk p k (l.drop k)=res) (λk=>l.length-k) 0 ⟨aT _,au⟩ (Xv X0) ?_;rintro k⟨hk,hr⟩Ql ak ar;by_cases ba:k<l.length
 ·have hx:=hg _ (aG (d:=default) ba);have hd:=j2 l k default ba;generalize cW:l.getD k default=x at *;rw[hd,fk]at hr;simp only[dh,ec,db]at hx;((repeat'(first|refine Vb (X4 @cf @fS @db.eq_1 @cW) ?_|(refine Xi ?_ ?_<;>try intro ht)|exact Xx|fail))<;>try with_reducible intro K hK)
  refine fF hx (bb _) ?_;((try revert hK K);(repeat'(first|refine Vb (X3 @cf @fS @db.eq_1) ?_|(refine Xi ?_ ?_<;>try intro ht)|fail)))
  ·rw[if_pos (by assumption)]at hr;rw[<- hr];exact ed rfl (bb _) rfl
  ·rw[if_neg (by simp_all)]at hr;exact ak _ (k+1) ⟨Ix,hr⟩ Ix (Xv X0)
 ·((repeat'(first|refine Vb (X3 @cf @fS @db.eq_1) ?_|(refine Xi ?_ ?_<;>try intro ht)|exact Xx|fail)))
  rw[jr Ix,fk]at hr;rw[<- hr];exact ed rfl (bb _) rfl
def aet(l:List Ct)(g:FuncId)(bk:List AV)(aa:List Ob)(p:Ct->Bool)(hl:l.length<9223372036854775808)(hg:∀ x∈l,Holds Tryz.prog g ([.agg (db x)]++bk) aa (.lit (.bool (p x))) aa):
  Holds Tryz.prog 92 [.tree 4 (rowsOf db l),.fn g bk] aa (.lit (.bool (l.any p))) aa:=by
 rw[<- yh p l 0];refine Holds.aK 9 aa.length [.tmp 4] Tryz.func92 ?_;((refine Vb (X3 @cf @fS @db.eq_1) ?_)<;>try with_reducible intro K hK)
 refine fF (aeH l g bk aa p hl hg) (bb _) ?_;((try revert hK K);(refine Vb (X3 @cf @fS @db.eq_1) ?_))
 exact ed rfl (bb _) rfl
def aeI(l:List Int)(g:FuncId)(bk:List AV)(aa:List Ob)(p:Int->Bool)(hl:l.length<9223372036854775808)(hg:∀ x∈l,Holds Tryz.prog g ([N0 x]++bk) aa (.lit (.bool (p x))) aa):
  Holds Tryz.prog 148 [.tree 1 (ints l),.fn g bk] aa (N0 (fk p 0 l)) aa:=by
 generalize au:fk p 0 l=res;refine Holds.aK 19 aa.length [.tmp 4] Tryz.func148 ?_;refine Vb @iq ?_;refine aU (λk:Nat=>(⟨an [(0,.tree 1 (ints l)),(1,.fn g bk),(7,N0 l.length),(8,N0 k)],aa⟩:St)) (λk=>k<=l.length/\fk p k (l.drop k)=res) (λk=>l.length-k) 0 ⟨aT _,au⟩ (Xv X0) ?_;rintro k⟨hk,hr⟩Ql ak ar;by_cases ba:k<l.length
 ·have hx:=hg _ (aG (d:=0) ba);have hd:=j2 l k 0 ba;generalize cW:l.getD k 0=x at *;rw[hd,fk]at hr;simp only[dh,ec]at hx;((repeat'(first|refine Vb (X2 @iq @cW) ?_|(refine Xi ?_ ?_<;>try intro ht)|exact Xx|fail))<;>try with_reducible intro K hK)
  refine fF hx (bb _) ?_;((try revert hK K);(repeat'(first|refine Vb @iq ?_|(refine Xi ?_ ?_<;>try intro ht)|fail)))
  ·rw[if_pos (by assumption)]at hr;rw[<- hr];exact ed rfl (bb _) rfl
  ·rw[if_neg (by simp_all)]at hr;exact ak _ (k+1) ⟨Ix,hr⟩ Ix (Xv X0)
 ·((repeat'(first|refine Vb @iq ?_|(refine Xi ?_ ?_<;>try intro ht)|exact Xx|fail)))
  rw[jr Ix,fk]at hr;rw[<- hr];exact ed rfl (bb _) rfl
def QW(l:List Int)(g:FuncId)(bk:List AV)(aa:List Ob)(p:Int->Bool)(hl:l.length<9223372036854775808)(hg:∀ x∈l,Holds Tryz.prog g ([N0 x]++bk) aa (.lit (.bool (p x))) aa):
  Holds Tryz.prog 124 [.tree 1 (ints l),.fn g bk] aa (.lit (.bool (l.any p))) aa:=by
 rw[<- yh p l 0];refine Holds.aK 9 aa.length [.tmp 4] Tryz.func124 ?_;((refine Vb @iq ?_)<;>try with_reducible intro K hK)
 refine fF (aeI l g bk aa p hl hg) (bb _) ?_;((try revert hK K);(refine Vb @iq ?_))
 exact ed rfl (bb _) rfl
end T

