import Derived.Test.YtfoopmojjjpapaaGreatX15
import Derived.Test.YtfoopmojjjpapaaGreatX11
import Derived.Test.YtfoopmojjjpapaaGreatProg
import Derived.KernelRfl
set_option linter.all false
set_option maxHeartbeats 0
set_option maxRecDepth 20000
open Int renaming natCast_add→DZ,cast_ofNat_Int→GR,mul_nonneg→sw,mul_le_mul→p8
open List renaming length_append→bO,length_cons→dq,length_nil→o8,drop_eq_nil_of_le→jA,any_cons→Kl,cons_append→dx,nil_append→eC
open Nat renaming zero_add→gJ,zero_le→aS,le_refl→aY,add_zero→jq,lt_or_ge→dP
open Bool renaming eq_iff_iff→mC,and_eq_true→bb,or_eq_true→lD,not_eq_true'→kz,false_eq_true→jo,true_and→gK,true_or→y7,false_and→qU
open Go Go.Am Go.Proofs
namespace T
def Yp:ty Tryz.prog 2 = { kind:=5,size:=1,bytes:=8,elem:=0,len:=0,zero:=some [.int .i64 0],aQ:=[] }:=by kernel_rfl
def Yq:ty Tryz.prog 3 = { kind:=5,size:=1,bytes:=8,elem:=0,len:=0,zero:=some [.int .i64 0],aQ:=[] }:=by kernel_rfl
def Yr:ty Tryz.prog 4 = { kind:=6,size:=1,bytes:=1,elem:=0,len:=0,zero:=some [.bool false],aQ:=[] }:=by kernel_rfl
def Ys:ty Tryz.prog 5 = { kind:=5,size:=1,bytes:=1,elem:=0,len:=0,zero:=some [.int .u8 0],aQ:=[] }:=by kernel_rfl
def Yt:ty Tryz.prog 6 = { kind:=5,size:=1,bytes:=1,elem:=0,len:=0,zero:=some [.int .u8 0],aQ:=[] }:=by kernel_rfl
def Yu:ty Tryz.prog 7 = { kind:=3,size:=4,bytes:=24,elem:=0,len:=0,zero:=some [.int .i64 0,.int .i64 0,.bool false,.int .u8 0],aQ:=[(0,2,1),(1,3,1),(2,4,1),(3,6,1)] }:=by kernel_rfl
def Yv:ty Tryz.prog 8 = { kind:=3,size:=4,bytes:=24,elem:=0,len:=0,zero:=some [.int .i64 0,.int .i64 0,.bool false,.int .u8 0],aQ:=[(0,2,1),(1,3,1),(2,4,1),(3,6,1)] }:=by kernel_rfl
def Yw:ty Tryz.prog 9 = { kind:=4,size:=1,bytes:=16,elem:=0,len:=0,zero:=some [.string ⟨#[]⟩],aQ:=[] }:=by kernel_rfl
def Yx:ty Tryz.prog 10 = { kind:=4,size:=1,bytes:=16,elem:=0,len:=0,zero:=some [.string ⟨#[]⟩],aQ:=[] }:=by kernel_rfl
def Yy:ty Tryz.prog 11 = { kind:=4,size:=1,bytes:=16,elem:=0,len:=0,zero:=some [.string ⟨#[]⟩],aQ:=[] }:=by kernel_rfl
def Yz:ty Tryz.prog 12 = { kind:=5,size:=1,bytes:=8,elem:=0,len:=0,zero:=some [.int .u64 0],aQ:=[] }:=by kernel_rfl
def YA:ty Tryz.prog 13 = { kind:=3,size:=2,bytes:=24,elem:=0,len:=0,zero:=some [.string ⟨#[]⟩,.int .u64 0],aQ:=[(0,9,1),(1,12,1)] }:=by kernel_rfl
def YB:ty Tryz.prog 14 = { kind:=3,size:=2,bytes:=24,elem:=0,len:=0,zero:=some [.string ⟨#[]⟩,.int .u64 0],aQ:=[(0,9,1),(1,12,1)] }:=by kernel_rfl
def YC:ty Tryz.prog 15 = { kind:=7,size:=1,bytes:=8,elem:=234,len:=0,zero:=some [.pointer none],aQ:=[] }:=by kernel_rfl
def YD:ty Tryz.prog 16 = { kind:=7,size:=1,bytes:=8,elem:=237,len:=0,zero:=some [.pointer none],aQ:=[] }:=by kernel_rfl
def YE:ty Tryz.prog 17 = { kind:=7,size:=1,bytes:=8,elem:=245,len:=0,zero:=some [.pointer none],aQ:=[] }:=by kernel_rfl
def YF:ty Tryz.prog 18 = { kind:=3,size:=1,bytes:=8,elem:=0,len:=0,zero:=some [.pointer none],aQ:=[(0,17,1)] }:=by kernel_rfl
def YG:ty Tryz.prog 19 = { kind:=3,size:=1,bytes:=8,elem:=0,len:=0,zero:=some [.pointer none],aQ:=[(0,17,1)] }:=by kernel_rfl
def YH:ty Tryz.prog 21 = { kind:=5,size:=1,bytes:=4,elem:=0,len:=0,zero:=some [.int .i32 0],aQ:=[] }:=by kernel_rfl
def YI:ty Tryz.prog 22 = { kind:=1,size:=1,bytes:=24,elem:=3,len:=0,zero:=some [.slice none 0 0],aQ:=[] }:=by kernel_rfl
def YJ:ty Tryz.prog 23 = { kind:=1,size:=1,bytes:=24,elem:=49,len:=0,zero:=some [.slice none 0 0],aQ:=[] }:=by kernel_rfl
def YK:ty Tryz.prog 26 = { kind:=7,size:=1,bytes:=8,elem:=83,len:=0,zero:=some [.pointer none],aQ:=[] }:=by kernel_rfl
def YL:ty Tryz.prog 28 = { kind:=1,size:=1,bytes:=24,elem:=79,len:=0,zero:=some [.slice none 0 0],aQ:=[] }:=by kernel_rfl
def YM:ty Tryz.prog 29 = { kind:=1,size:=1,bytes:=24,elem:=81,len:=0,zero:=some [.slice none 0 0],aQ:=[] }:=by kernel_rfl
def YN:ty Tryz.prog 30 = { kind:=1,size:=1,bytes:=24,elem:=105,len:=0,zero:=some [.slice none 0 0],aQ:=[] }:=by kernel_rfl
def YO:ty Tryz.prog 31 = { kind:=3,size:=4,bytes:=80,elem:=0,len:=0,zero:=some [.slice none 0 0,.slice none 0 0,.slice none 0 0,.int .i64 0],aQ:=[(0,28,1),(1,29,1),(2,30,1),(3,3,1)] }:=by kernel_rfl
def YP:ty Tryz.prog 32 = { kind:=3,size:=4,bytes:=80,elem:=0,len:=0,zero:=some [.slice none 0 0,.slice none 0 0,.slice none 0 0,.int .i64 0],aQ:=[(0,28,1),(1,29,1),(2,30,1),(3,3,1)] }:=by kernel_rfl
def YQ:ty Tryz.prog 36 = { kind:=1,size:=1,bytes:=24,elem:=23,len:=0,zero:=some [.slice none 0 0],aQ:=[] }:=by kernel_rfl
def YR:ty Tryz.prog 38 = { kind:=1,size:=1,bytes:=24,elem:=94,len:=0,zero:=some [.slice none 0 0],aQ:=[] }:=by kernel_rfl
def YS:ty Tryz.prog 39 = { kind:=5,size:=1,bytes:=8,elem:=0,len:=0,zero:=some [.int .i64 0],aQ:=[] }:=by kernel_rfl
def YT:ty Tryz.prog 49 = { kind:=1,size:=1,bytes:=24,elem:=4,len:=0,zero:=some [.slice none 0 0],aQ:=[] }:=by kernel_rfl
def YU:ty Tryz.prog 51 = { kind:=1,size:=1,bytes:=24,elem:=109,len:=0,zero:=some [.slice none 0 0],aQ:=[] }:=by kernel_rfl
def YV:ty Tryz.prog 52 = { kind:=3,size:=1,bytes:=24,elem:=0,len:=0,zero:=some [.slice none 0 0],aQ:=[(0,51,1)] }:=by kernel_rfl
def YW:ty Tryz.prog 53 = { kind:=3,size:=1,bytes:=24,elem:=0,len:=0,zero:=some [.slice none 0 0],aQ:=[(0,51,1)] }:=by kernel_rfl
def YX:ty Tryz.prog 65 = { kind:=1,size:=1,bytes:=24,elem:=22,len:=0,zero:=some [.slice none 0 0],aQ:=[] }:=by kernel_rfl
def YY:ty Tryz.prog 70 = { kind:=3,size:=2,bytes:=16,elem:=0,len:=0,zero:=some [.int .i64 0,.int .i64 0],aQ:=[(0,3,1),(1,3,1)] }:=by kernel_rfl
def YZ:ty Tryz.prog 71 = { kind:=3,size:=2,bytes:=16,elem:=0,len:=0,zero:=some [.int .i64 0,.int .i64 0],aQ:=[(0,3,1),(1,3,1)] }:=by kernel_rfl
def Y1:ty Tryz.prog 72 = { kind:=1,size:=1,bytes:=24,elem:=71,len:=0,zero:=some [.slice none 0 0],aQ:=[] }:=by kernel_rfl
def Y2:ty Tryz.prog 73 = { kind:=3,size:=4,bytes:=32,elem:=0,len:=0,zero:=some [.int .i64 0,.int .i64 0,.int .i64 0,.int .i64 0],aQ:=[(0,3,1),(1,3,1),(2,3,1),(3,3,1)] }:=by kernel_rfl
def Y3:ty Tryz.prog 74 = { kind:=3,size:=4,bytes:=32,elem:=0,len:=0,zero:=some [.int .i64 0,.int .i64 0,.int .i64 0,.int .i64 0],aQ:=[(0,3,1),(1,3,1),(2,3,1),(3,3,1)] }:=by kernel_rfl
def Y4:ty Tryz.prog 75 = { kind:=3,size:=5,bytes:=40,elem:=0,len:=0,zero:=some [.int .i64 0,.int .i64 0,.int .i64 0,.int .i64 0,.int .i64 0],aQ:=[(0,74,4),(4,3,1)] }:=by kernel_rfl
def Y5:ty Tryz.prog 76 = { kind:=3,size:=5,bytes:=40,elem:=0,len:=0,zero:=some [.int .i64 0,.int .i64 0,.int .i64 0,.int .i64 0,.int .i64 0],aQ:=[(0,74,4),(4,3,1)] }:=by kernel_rfl
def Y6:ty Tryz.prog 77 = { kind:=3,size:=6,bytes:=64,elem:=0,len:=0,zero:=some [.int .i64 0,.int .i64 0,.int .i64 0,.int .i64 0,.int .i64 0,.slice none 0 0],aQ:=[(0,76,5),(5,72,1)] }:=by kernel_rfl
def Y7:ty Tryz.prog 78 = { kind:=3,size:=6,bytes:=64,elem:=0,len:=0,zero:=some [.int .i64 0,.int .i64 0,.int .i64 0,.int .i64 0,.int .i64 0,.slice none 0 0],aQ:=[(0,76,5),(5,72,1)] }:=by kernel_rfl
def Y8:ty Tryz.prog 79 = { kind:=1,size:=1,bytes:=24,elem:=78,len:=0,zero:=some [.slice none 0 0],aQ:=[] }:=by kernel_rfl
def Y9:ty Tryz.prog 80 = { kind:=3,size:=4,bytes:=48,elem:=0,len:=0,zero:=some [.int .i64 0,.int .i64 0,.int .i64 0,.slice none 0 0],aQ:=[(0,3,1),(1,3,1),(2,3,1),(3,22,1)] }:=by kernel_rfl
def Y':ty Tryz.prog 81 = { kind:=3,size:=4,bytes:=48,elem:=0,len:=0,zero:=some [.int .i64 0,.int .i64 0,.int .i64 0,.slice none 0 0],aQ:=[(0,3,1),(1,3,1),(2,3,1),(3,22,1)] }:=by kernel_rfl
def Za:ty Tryz.prog 82 = { kind:=3,size:=2,bytes:=32,elem:=0,len:=0,zero:=some [.slice none 0 0,.int .i64 0],aQ:=[(0,22,1),(1,3,1)] }:=by kernel_rfl
def Zb:ty Tryz.prog 83 = { kind:=3,size:=2,bytes:=32,elem:=0,len:=0,zero:=some [.slice none 0 0,.int .i64 0],aQ:=[(0,22,1),(1,3,1)] }:=by kernel_rfl
def Zc:ty Tryz.prog 86 = { kind:=7,size:=1,bytes:=8,elem:=132,len:=0,zero:=some [.pointer none],aQ:=[] }:=by kernel_rfl
def Zd:ty Tryz.prog 93 = { kind:=3,size:=4,bytes:=32,elem:=0,len:=0,zero:=some [.int .i64 0,.int .i64 0,.int .i64 0,.int .i64 0],aQ:=[(0,3,1),(1,3,1),(2,3,1),(3,3,1)] }:=by kernel_rfl
def Ze:ty Tryz.prog 94 = { kind:=3,size:=4,bytes:=32,elem:=0,len:=0,zero:=some [.int .i64 0,.int .i64 0,.int .i64 0,.int .i64 0],aQ:=[(0,3,1),(1,3,1),(2,3,1),(3,3,1)] }:=by kernel_rfl
def Zf:ty Tryz.prog 95 = { kind:=1,size:=1,bytes:=24,elem:=96,len:=0,zero:=some [.slice none 0 0],aQ:=[] }:=by kernel_rfl
def Zg:ty Tryz.prog 96 = { kind:=1,size:=1,bytes:=24,elem:=100,len:=0,zero:=some [.slice none 0 0],aQ:=[] }:=by kernel_rfl
def Zh:ty Tryz.prog 99 = { kind:=3,size:=2,bytes:=16,elem:=0,len:=0,zero:=some [.bool false,.int .i64 0],aQ:=[(0,4,1),(1,3,1)] }:=by kernel_rfl
def Zi:ty Tryz.prog 100 = { kind:=3,size:=2,bytes:=16,elem:=0,len:=0,zero:=some [.bool false,.int .i64 0],aQ:=[(0,4,1),(1,3,1)] }:=by kernel_rfl
def Zj:ty Tryz.prog 103 = { kind:=1,size:=1,bytes:=24,elem:=121,len:=0,zero:=some [.slice none 0 0],aQ:=[] }:=by kernel_rfl
def Zk:ty Tryz.prog 104 = { kind:=3,size:=4,bytes:=48,elem:=0,len:=0,zero:=some [.int .i64 0,.slice none 0 0,.int .i64 0,.int .i64 0],aQ:=[(0,3,1),(1,103,1),(2,3,1),(3,3,1)] }:=by kernel_rfl
def Zl:ty Tryz.prog 105 = { kind:=3,size:=4,bytes:=48,elem:=0,len:=0,zero:=some [.int .i64 0,.slice none 0 0,.int .i64 0,.int .i64 0],aQ:=[(0,3,1),(1,103,1),(2,3,1),(3,3,1)] }:=by kernel_rfl
def Zm:ty Tryz.prog 107 = { kind:=1,size:=1,bytes:=24,elem:=150,len:=0,zero:=some [.slice none 0 0],aQ:=[] }:=by kernel_rfl
def Zn:ty Tryz.prog 108 = { kind:=3,size:=5,bytes:=104,elem:=0,len:=0,zero:=some [.int .i64 0,.slice none 0 0,.slice none 0 0,.slice none 0 0,.slice none 0 0],aQ:=[(0,3,1),(1,22,1),(2,38,1),(3,22,1),(4,107,1)] }:=by kernel_rfl
def Zo:ty Tryz.prog 109 = { kind:=3,size:=5,bytes:=104,elem:=0,len:=0,zero:=some [.int .i64 0,.slice none 0 0,.slice none 0 0,.slice none 0 0,.slice none 0 0],aQ:=[(0,3,1),(1,22,1),(2,38,1),(3,22,1),(4,107,1)] }:=by kernel_rfl
def Zp:ty Tryz.prog 110 = { kind:=1,size:=1,bytes:=24,elem:=149,len:=0,zero:=some [.slice none 0 0],aQ:=[] }:=by kernel_rfl
def Zq:ty Tryz.prog 116 = { kind:=8,size:=1,bytes:=8,elem:=4,len:=0,zero:=some [.map none],aQ:=[] }:=by kernel_rfl
def Zr:ty Tryz.prog 119 = { kind:=7,size:=1,bytes:=8,elem:=53,len:=0,zero:=some [.pointer none],aQ:=[] }:=by kernel_rfl
def Zs:ty Tryz.prog 120 = { kind:=3,size:=3,bytes:=24,elem:=0,len:=0,zero:=some [.int .i64 0,.int .i64 0,.int .i64 0],aQ:=[(0,3,1),(1,3,1),(2,3,1)] }:=by kernel_rfl
def Zt:ty Tryz.prog 121 = { kind:=3,size:=3,bytes:=24,elem:=0,len:=0,zero:=some [.int .i64 0,.int .i64 0,.int .i64 0],aQ:=[(0,3,1),(1,3,1),(2,3,1)] }:=by kernel_rfl
def Zu:ty Tryz.prog 126 = { kind:=3,size:=2,bytes:=32,elem:=0,len:=0,zero:=some [.int .i64 0,.slice none 0 0],aQ:=[(0,3,1),(1,23,1)] }:=by kernel_rfl
def Zv:ty Tryz.prog 127 = { kind:=3,size:=2,bytes:=32,elem:=0,len:=0,zero:=some [.int .i64 0,.slice none 0 0],aQ:=[(0,3,1),(1,23,1)] }:=by kernel_rfl
def Zw:ty Tryz.prog 130 = { kind:=8,size:=1,bytes:=8,elem:=3,len:=0,zero:=some [.map none],aQ:=[] }:=by kernel_rfl
def Zx:ty Tryz.prog 131 = { kind:=3,size:=8,bytes:=160,elem:=0,len:=0,zero:=some [.slice none 0 0,.slice none 0 0,.slice none 0 0,.int .i64 0,.slice none 0 0,.slice none 0 0,.slice none 0 0,.map none],aQ:=[(0,32,4),(4,23,1),(5,65,1),(6,65,1),(7,130,1)] }:=by kernel_rfl
def Zy:ty Tryz.prog 132 = { kind:=3,size:=8,bytes:=160,elem:=0,len:=0,zero:=some [.slice none 0 0,.slice none 0 0,.slice none 0 0,.int .i64 0,.slice none 0 0,.slice none 0 0,.slice none 0 0,.map none],aQ:=[(0,32,4),(4,23,1),(5,65,1),(6,65,1),(7,130,1)] }:=by kernel_rfl
def Zz:ty Tryz.prog 136 = { kind:=3,size:=3,bytes:=24,elem:=0,len:=0,zero:=some [.int .i64 0,.int .i64 0,.int .i64 0],aQ:=[(0,3,1),(1,3,1),(2,3,1)] }:=by kernel_rfl
def ZA:ty Tryz.prog 137 = { kind:=3,size:=3,bytes:=24,elem:=0,len:=0,zero:=some [.int .i64 0,.int .i64 0,.int .i64 0],aQ:=[(0,3,1),(1,3,1),(2,3,1)] }:=by kernel_rfl
def ZB:ty Tryz.prog 141 = { kind:=7,size:=1,bytes:=8,elem:=179,len:=0,zero:=some [.pointer none],aQ:=[] }:=by kernel_rfl
def ZC:ty Tryz.prog 148 = { kind:=3,size:=2,bytes:=16,elem:=0,len:=0,zero:=some [.int .i64 0,.int .i64 0],aQ:=[(0,3,1),(1,3,1)] }:=by kernel_rfl
def ZD:ty Tryz.prog 149 = { kind:=3,size:=2,bytes:=16,elem:=0,len:=0,zero:=some [.int .i64 0,.int .i64 0],aQ:=[(0,3,1),(1,3,1)] }:=by kernel_rfl
def ZE:ty Tryz.prog 150 = { kind:=1,size:=1,bytes:=24,elem:=152,len:=0,zero:=some [.slice none 0 0],aQ:=[] }:=by kernel_rfl
def ZF:ty Tryz.prog 151 = { kind:=3,size:=2,bytes:=16,elem:=0,len:=0,zero:=some [.int .i64 0,.int .i64 0],aQ:=[(0,3,1),(1,3,1)] }:=by kernel_rfl
def ZG:ty Tryz.prog 152 = { kind:=3,size:=2,bytes:=16,elem:=0,len:=0,zero:=some [.int .i64 0,.int .i64 0],aQ:=[(0,3,1),(1,3,1)] }:=by kernel_rfl
def ZH:ty Tryz.prog 162 = { kind:=3,size:=3,bytes:=56,elem:=0,len:=0,zero:=some [.int .i64 0,.slice none 0 0,.slice none 0 0],aQ:=[(0,127,2),(2,22,1)] }:=by kernel_rfl
def ZI:ty Tryz.prog 163 = { kind:=3,size:=3,bytes:=56,elem:=0,len:=0,zero:=some [.int .i64 0,.slice none 0 0,.slice none 0 0],aQ:=[(0,127,2),(2,22,1)] }:=by kernel_rfl
def ZJ:ty Tryz.prog 164 = { kind:=1,size:=1,bytes:=24,elem:=163,len:=0,zero:=some [.slice none 0 0],aQ:=[] }:=by kernel_rfl
def ZK:ty Tryz.prog 174 = { kind:=5,size:=1,bytes:=8,elem:=0,len:=0,zero:=some [.int .u64 0],aQ:=[] }:=by kernel_rfl
def ZL:ty Tryz.prog 177 = { kind:=1,size:=1,bytes:=24,elem:=180,len:=0,zero:=some [.slice none 0 0],aQ:=[] }:=by kernel_rfl
def ZM:ty Tryz.prog 178 = { kind:=3,size:=6,bytes:=128,elem:=0,len:=0,zero:=some [.slice none 0 0,.slice none 0 0,.slice none 0 0,.int .i64 0,.slice none 0 0,.slice none 0 0],aQ:=[(0,32,4),(4,177,1),(5,177,1)] }:=by kernel_rfl
def ZN:ty Tryz.prog 179 = { kind:=3,size:=6,bytes:=128,elem:=0,len:=0,zero:=some [.slice none 0 0,.slice none 0 0,.slice none 0 0,.int .i64 0,.slice none 0 0,.slice none 0 0],aQ:=[(0,32,4),(4,177,1),(5,177,1)] }:=by kernel_rfl
def ZO:ty Tryz.prog 180 = { kind:=1,size:=1,bytes:=24,elem:=182,len:=0,zero:=some [.slice none 0 0],aQ:=[] }:=by kernel_rfl
def ZP:ty Tryz.prog 181 = { kind:=3,size:=2,bytes:=16,elem:=0,len:=0,zero:=some [.int .i64 0,.bool false],aQ:=[(0,3,1),(1,4,1)] }:=by kernel_rfl
def ZQ:ty Tryz.prog 182 = { kind:=3,size:=2,bytes:=16,elem:=0,len:=0,zero:=some [.int .i64 0,.bool false],aQ:=[(0,3,1),(1,4,1)] }:=by kernel_rfl
def ZR:ty Tryz.prog 200 = { kind:=5,size:=1,bytes:=8,elem:=0,len:=0,zero:=some [.int .i64 0],aQ:=[] }:=by kernel_rfl
def ZS:ty Tryz.prog 207 = { kind:=5,size:=1,bytes:=4,elem:=0,len:=0,zero:=some [.int .u32 0],aQ:=[] }:=by kernel_rfl
def ZT:ty Tryz.prog 209 = { kind:=5,size:=1,bytes:=8,elem:=0,len:=0,zero:=some [.int .u64 0],aQ:=[] }:=by kernel_rfl
def ZU:ty Tryz.prog 210 = { kind:=7,size:=1,bytes:=8,elem:=182,len:=0,zero:=some [.pointer none],aQ:=[] }:=by kernel_rfl
def ZV:ty Tryz.prog 211 = { kind:=8,size:=1,bytes:=8,elem:=212,len:=0,zero:=some [.map none],aQ:=[] }:=by kernel_rfl
def ZW:ty Tryz.prog 212 = { kind:=8,size:=1,bytes:=8,elem:=3,len:=0,zero:=some [.map none],aQ:=[] }:=by kernel_rfl
def ZX:ty Tryz.prog 222 = { kind:=5,size:=1,bytes:=8,elem:=0,len:=0,zero:=some [.int .u64 0],aQ:=[] }:=by kernel_rfl
def ZY:ty Tryz.prog 226 = { kind:=7,size:=1,bytes:=8,elem:=3,len:=0,zero:=some [.pointer none],aQ:=[] }:=by kernel_rfl
def ZZ:ty Tryz.prog 229 = { kind:=7,size:=1,bytes:=8,elem:=222,len:=0,zero:=some [.pointer none],aQ:=[] }:=by kernel_rfl
def Z0:ty Tryz.prog 233 = { kind:=3,size:=4,bytes:=40,elem:=0,len:=0,zero:=some [.pointer none,.pointer none,.pointer none,.string ⟨#[]⟩],aQ:=[(0,17,1),(1,17,1),(2,17,1),(3,9,1)] }:=by kernel_rfl
def Z1:ty Tryz.prog 234 = { kind:=3,size:=4,bytes:=40,elem:=0,len:=0,zero:=some [.pointer none,.pointer none,.pointer none,.string ⟨#[]⟩],aQ:=[(0,17,1),(1,17,1),(2,17,1),(3,9,1)] }:=by kernel_rfl
def Z2:ty Tryz.prog 235 = { kind:=2,size:=0,bytes:=0,elem:=16,len:=0,zero:=some [],aQ:=[] }:=by kernel_rfl
def Z3:ty Tryz.prog 236 = { kind:=3,size:=0,bytes:=0,elem:=0,len:=0,zero:=some [],aQ:=[(0,235,0)] }:=by kernel_rfl
def Z4:ty Tryz.prog 237 = { kind:=3,size:=0,bytes:=0,elem:=0,len:=0,zero:=some [],aQ:=[(0,235,0)] }:=by kernel_rfl
def Z5:ty Tryz.prog 238 = { kind:=5,size:=1,bytes:=1,elem:=0,len:=0,zero:=some [.int .u8 0],aQ:=[] }:=by kernel_rfl
def Z6:ty Tryz.prog 239 = { kind:=5,size:=1,bytes:=1,elem:=0,len:=0,zero:=some [.int .u8 0],aQ:=[] }:=by kernel_rfl
def Z7:ty Tryz.prog 241 = { kind:=7,size:=1,bytes:=8,elem:=5,len:=0,zero:=some [.pointer none],aQ:=[] }:=by kernel_rfl
def Z8:ty Tryz.prog 242 = { kind:=5,size:=1,bytes:=4,elem:=0,len:=0,zero:=some [.int .i32 0],aQ:=[] }:=by kernel_rfl
def Z9:ty Tryz.prog 243 = { kind:=5,size:=1,bytes:=4,elem:=0,len:=0,zero:=some [.int .i32 0],aQ:=[] }:=by kernel_rfl
def aaa:ty Tryz.prog 244 = { kind:=3,size:=11,bytes:=48,elem:=0,len:=0,zero:=some [.int .u64 0,.int .u64 0,.int .u32 0,.int .u8 0,.int .u8 0,.int .u8 0,.int .u8 0,.nilFunc,.pointer none,.int .i32 0,.int .i32 0],aQ:=[(0,12,1),(1,12,1),(2,207,1),(3,238,1),(4,5,1),(5,5,1),(6,239,1),(7,240,1),(8,241,1),(9,242,1),(10,243,1)] }:=by kernel_rfl
def aab:ty Tryz.prog 245 = { kind:=3,size:=11,bytes:=48,elem:=0,len:=0,zero:=some [.int .u64 0,.int .u64 0,.int .u32 0,.int .u8 0,.int .u8 0,.int .u8 0,.int .u8 0,.nilFunc,.pointer none,.int .i32 0,.int .i32 0],aQ:=[(0,12,1),(1,12,1),(2,207,1),(3,238,1),(4,5,1),(5,5,1),(6,239,1),(7,240,1),(8,241,1),(9,242,1),(10,243,1)] }:=by kernel_rfl
def un2:Tryz.prog.underlying 2=some (.int .i64):=by kernel_rfl
def un3:Tryz.prog.underlying 3=some (.int .i64):=by kernel_rfl
def un5:Tryz.prog.underlying 5=some (.int .u8):=by kernel_rfl
def un6:Tryz.prog.underlying 6=some (.int .u8):=by kernel_rfl
def aag:Tryz.prog.underlying 12=some (.int .u64):=by kernel_rfl
def aah:Tryz.prog.underlying 21=some (.int .i32):=by kernel_rfl
def aai:Tryz.prog.underlying 39=some (.int .i64):=by kernel_rfl
def aaj:Tryz.prog.underlying 174=some (.int .u64):=by kernel_rfl
def aak:Tryz.prog.underlying 200=some (.int .i64):=by kernel_rfl
def aal:Tryz.prog.underlying 207=some (.int .u32):=by kernel_rfl
def aam:Tryz.prog.underlying 209=some (.int .u64):=by kernel_rfl
def aan:Tryz.prog.underlying 222=some (.int .u64):=by kernel_rfl
def aao:Tryz.prog.underlying 238=some (.int .u8):=by kernel_rfl
def aap:Tryz.prog.underlying 239=some (.int .u8):=by kernel_rfl
def aaq:Tryz.prog.underlying 242=some (.int .i32):=by kernel_rfl
def aar:Tryz.prog.underlying 243=some (.int .i32):=by kernel_rfl
def zv4:zeroV Tryz.prog 4=some (.bool false):=by kernel_rfl
def aat:AD Tryz.prog 116=0:=by kernel_rfl
def aau:jC Tryz.prog 116 0:=jC.int (kt:=3) (et:=4) (by kernel_rfl) (by kernel_rfl)
def zv3:zeroV Tryz.prog 3=some (.int .i64 0):=by kernel_rfl
def aaw:AD Tryz.prog 130=3:=by kernel_rfl
def aax:jC Tryz.prog 130 3:=jC.aiM (kt:=137) (et:=3) (by kernel_rfl) (by kernel_rfl) GS (by kernel_rfl)
def aay:zeroV Tryz.prog 212=some (.map none):=by kernel_rfl
def aaz:AD Tryz.prog 211=0:=by kernel_rfl
def aaA:jC Tryz.prog 211 0:=jC.int (kt:=3) (et:=212) (by kernel_rfl) (by kernel_rfl)
def aaB:AD Tryz.prog 212=0:=by kernel_rfl
def aaC:jC Tryz.prog 212 0:=jC.int (kt:=3) (et:=3) (by kernel_rfl) (by kernel_rfl)
def aaD:AE Tryz.prog 9=false:=by kernel_rfl
def aaE:Tryz.prog.underlying 9=some .string:=by kernel_rfl
def vV:type_of% Yp/\type_of% Yq/\type_of% Yr/\type_of% Ys/\type_of% Yt/\type_of% Yu/\type_of% Yv/\type_of% Yw/\type_of% Yx/\type_of% Yy/\type_of% Yz/\type_of% YA/\type_of% YB/\type_of% YC/\type_of% YD/\type_of% YE/\type_of% YF/\type_of% YG/\type_of% YH/\type_of% YI/\type_of% YJ/\type_of% YK/\type_of% YL/\type_of% YM/\type_of% YN/\type_of% YO/\type_of% YP/\type_of% YQ/\type_of% YR/\type_of% YS/\type_of% YT/\type_of% YU/\type_of% YV/\type_of% YW/\type_of% YX/\type_of% YY/\type_of% YZ/\type_of% Y1/\type_of% Y2/\type_of% Y3/\type_of% Y4/\type_of% Y5/\type_of% Y6/\type_of% Y7/\type_of% Y8/\type_of% Y9/\type_of% Y'/\type_of% Za/\type_of% Zb/\type_of% Zc/\type_of% Zd/\type_of% Ze/\type_of% Zf/\type_of% Zg/\type_of% Zh/\type_of% Zi/\type_of% Zj/\type_of% Zk/\type_of% Zl/\type_of% Zm/\type_of% Zn/\type_of% Zo/\type_of% Zp/\type_of% Zq/\type_of% Zr/\type_of% Zs/\type_of% Zt/\type_of% Zu/\type_of% Zv/\type_of% Zw/\type_of% Zx/\type_of% Zy/\type_of% Zz/\type_of% ZA/\type_of% ZB/\type_of% ZC/\type_of% ZD/\type_of% ZE/\type_of% ZF/\type_of% ZG/\type_of% ZH/\type_of% ZI/\type_of% ZJ/\type_of% ZK/\type_of% ZL/\type_of% ZM/\type_of% ZN/\type_of% ZO/\type_of% ZP/\type_of% ZQ/\type_of% ZR/\type_of% ZS/\type_of% ZT/\type_of% ZU/\type_of% ZV/\type_of% ZW/\type_of% ZX/\type_of% ZY/\type_of% ZZ/\type_of% Z0/\type_of% Z1/\type_of% Z2/\type_of% Z3/\type_of% Z4/\type_of% Z5/\type_of% Z6/\type_of% Z7/\type_of% Z8/\type_of% Z9/\type_of% aaa/\type_of% aab/\type_of% un2/\type_of% un3/\type_of% un5/\type_of% un6/\type_of% aag/\type_of% aah/\type_of% aai/\type_of% aaj/\type_of% aak/\type_of% aal/\type_of% aam/\type_of% aan/\type_of% aao/\type_of% aap/\type_of% aaq/\type_of% aar/\type_of% zv4/\type_of% aat/\type_of% aau/\type_of% zv3/\type_of% aaw/\type_of% aax/\type_of% aay/\type_of% aaz/\type_of% aaA/\type_of% aaB/\type_of% aaC/\type_of% aaD/\type_of% aaE :=
 ⟨Yp,Yq,Yr,Ys,Yt,Yu,Yv,Yw,Yx,Yy,Yz,YA,YB,YC,YD,YE,YF,YG,YH,YI,YJ,YK,YL,YM,YN,YO,YP,YQ,YR,YS,YT,YU,YV,YW,YX,YY,YZ,Y1,Y2,Y3,Y4,Y5,Y6,Y7,Y8,Y9,Y',Za,Zb,Zc,Zd,Ze,Zf,Zg,Zh,Zi,Zj,Zk,Zl,Zm,Zn,Zo,Zp,Zq,Zr,Zs,Zt,Zu,Zv,Zw,Zx,Zy,Zz,ZA,ZB,ZC,ZD,ZE,ZF,ZG,ZH,ZI,ZJ,ZK,ZL,ZM,ZN,ZO,ZP,ZQ,ZR,ZS,ZT,ZU,ZV,ZW,ZX,ZY,ZZ,Z0,Z1,Z2,Z3,Z4,Z5,Z6,Z7,Z8,Z9,aaa,aab,un2,un3,un5,un6,aag,aah,aai,aaj,aak,aal,aam,aan,aao,aap,aaq,aar,zv4,aat,aau,zv3,aaw,aax,aay,aaz,aaA,aaB,aaC,aaD,aaE⟩
def Ac:=aae @vV @Bc @Sc @Rc
def Kc:=aae @ui @Lc @vV @Rc
def Oc:=aav @qh.eq_1 @qh.eq_2 @or_true @false_or @Bc @Sc @Rc
def Hr:=aaP @tU.eq_1 @tU.eq_2 @Bc @Rc @ui @Lc @vV (aad @and_true @DZ @GR)
def Tc:=aaP @Has.eq_1 @Has.eq_2 @bO.{0} @dq.{0} @o8.{0} @gJ @ui (aas @Lc @vV @Rc @and_true @DZ @GR)
def Qc:=aaP @CC.eq_1 @CC.eq_2 @dI.eq_1 @dI.eq_2 @dI.eq_3 @dE.eq_1 @XU (aas @XV @o8.{0} @ui @Lc @vV @Rc)
inductive Sq(P:Program)(N n0:Nat)(y:Code)(Q:Exit->St->Prop):Exit->St->Prop
 |n (s:St) (h:W P N n0 y Q s):Sq P N n0 y Q .normal s
 |e (e:Exit) (s:St) (hi:uF e=false) (h:Q e s):Sq P N n0 y Q e s
inductive Bq(id:Nat)(Q:Exit->St->Prop):Exit->St->Prop
 |n (s:St) (h:Q .normal s):Bq id Q .normal s
 |x (s:St) (h:Q .normal s):Bq id Q (.exit id) s
 |e (e:Exit) (s:St) (hi:Bv id e=false) (h:Q e s):Bq id Q e s
section
variable {P:Program} {N n0:Nat} {σ:St} {Q:Exit->St->Prop}
def Xk{x y:Code}(h:W P N n0 x (Sq P N n0 y Q) σ):W P N n0 (.seq x y) Q σ:=Wk λ_ h1 h2=>R3 h λ_ _ h=>by
 cases h with
 |n _ h=>exact h1 _ h
 |e _ _ hi h=>exact h2 _ _ hi h
def Xb{id:Nat}{c:Code}(h:W P N n0 c (Bq id Q) σ):W P N n0 (.block id c) Q σ:=Wb λ_ h1 h2 h3=>R3 h λ_ _ h=>by
 cases h with
 |n _ h=>exact h1 _ h
 |x _ h=>exact h2 _ h
 |e _ _ hi h=>exact h3 _ _ hi h
def hn{y:Code}(s:St)(h:W P N n0 y Q s):Sq P N n0 y Q .normal s:=.n s h
def he{y:Code}(e:Exit)(s:St)(hi:uF e=false)(h:Q e s):Sq P N n0 y Q e s:=.e e s hi h
def dN{id:Nat}(s:St)(h:Q .normal s):Bq id Q .normal s:=.n s h
def eW{id:Nat}(s:St)(h:Q .normal s):Bq id Q (.exit id) s:=.x s h
def fU{id:Nat}(e:Exit)(s:St)(hi:Bv id e=false)(h:Q e s):Bq id Q e s:=.e e s hi h
def vW{x y:Code}(h:∀ Q':Exit->St->Prop,(∀ s,W P N n0 y Q s->Q' .normal s)->(∀ e s,uF e=false->Q e s->Q' e s)->W P N n0 x Q' σ):W P N n0 x (Sq P N n0 y Q) σ:=h _ .n .e
def aaF{x y z:Code}(h:∀ Q':Exit->St->Prop,(∀ s,W P N n0 y Q s->Q' .normal s)->(∀ e s,uF e=false->Q e s->Q' e s)->W P N n0 x (Sq P N n0 z Q') σ):W P N n0 x (Sq P N n0 z (Sq P N n0 y Q)) σ:=h _ .n .e
def aix{x y z:Code}{id:Nat}(h:∀ Q':Exit->St->Prop,(∀ s,W P N n0 y Q s->Q' .normal s)->(∀ e s,uF e=false->Q e s->Q' e s)->W P N n0 x (Sq P N n0 z (Bq id Q')) σ):W P N n0 x (Sq P N n0 z (Bq id (Sq P N n0 y Q))) σ:=h _ .n .e
end
def X0:True:=trivial
def X2{a b:Prop}(x:a)(y:b):a/\b:=⟨x,y⟩
def X3{a b c:Prop}(x:a)(y:b)(z:c):a/\b/\c:=⟨x,y,z⟩
def X4{a b c d:Prop}(x:a)(y:b)(z:c)(u:d):a/\b/\c/\d:=⟨x,y,z,u⟩
def X5{a b c d e:Prop}(x:a)(y:b)(z:c)(u:d)(v:e):a/\b/\c/\d/\e:=⟨x,y,z,u,v⟩
theorem Xr{p q e:Prop}(x:e)(h:q)(k:e->q->p:=by first|(intro hx hq;(first|refine rr ?_|refine uo ?_);intro K hK;simp(disch:=omega)only[Ac,↓Pc,simprocAttr,hx];revert hK;revert K;exact hq)|fail):p:=k x h
theorem Xq{p q e:Prop}(x:e)(h:q)(k:e->q->p:=by first|(intro hx hq;(first|refine rr ?_|refine uo ?_|refine rb ?_|refine Fg ?_|refine ra ?_|refine Fh ?_);intro K hK;simp(disch:=omega)only[Ac,↓Pc,simprocAttr,hx];revert hK;revert K;exact hq)|fail):p:=k x h
theorem Xo{p q e:Prop}(x:e)(h:q)(k:e->q->p:=by first|(intro hx hq;with_reducible refine gO ?_;simp(disch:=omega)only[Ac,↓Pc,simprocAttr,hx];exact hq)|fail):p:=k x h
theorem Xc{p q t:Prop}(c:t)(h:q)(k:t->q->p:=by first|(intro hc hq;(first|refine b7 hc rfl rfl ?_|refine cu hc rfl rfl ?_);exact hq)|fail):p:=k c h
theorem Xg{p q r e:Prop}(x:e)(h:q)(h2:r)(k:e->q->r->p/\True:=by first|(intro hx hq hr;refine And.intro ?_ ?_;(with_reducible refine gS (fun a6=>?_) (fun a6=>?_));(focus (have hb:=a6;(try simp only[iv,simprocAttr]at hb);all_goals(simp(disch:=omega)only[Ac,↓Pc,simprocAttr,hx,a6]);all_goals(clear a6;revert hb;exact hq)));(focus (have hb:=a6;(try simp only[iv,simprocAttr]at hb);all_goals(simp(disch:=omega)only[Ac,↓Pc,simprocAttr,hx,a6]);all_goals(clear a6;revert hb;exact hr)));((try have _:True:=hq);(try have _:True:=hr);trivial))|fail):p:=(k x h h2).1
theorem Xi{p q r:Prop}(h:q)(h2:r)(k:q->r->p/\True:=by first|(intro hq hr;refine And.intro ?_ ?_;refine Wc ?_ ?_;(focus (intro ht;(try simp only[iv,simprocAttr]at ht);all_goals(revert ht;exact hq)));(focus (intro ht;(try simp only[iv,simprocAttr]at ht);all_goals(revert ht;exact hr)));((try have _:True:=hq);(try have _:True:=hr);trivial))|fail):p:=(k h h2).1
theorem Xz{p q:Prop}(h:q)(k:q->p:=by first|(intro hq;(first|refine Wz rfl ?_|refine Xk ?_|refine Xb ?_|refine Sq.n _ ?_|refine Sq.e _ _ rfl ?_|refine Bq.n _ ?_|refine Bq.x _ ?_|refine Bq.e _ _ rfl ?_|refine hn _ ?_|refine he _ _ rfl ?_);(repeat(first|refine Wz rfl ?_|refine Xk ?_|refine Xb ?_|refine Sq.n _ ?_|refine Sq.e _ _ rfl ?_|refine Bq.n _ ?_|refine Bq.x _ ?_|refine Bq.e _ _ rfl ?_|refine hn _ ?_|refine he _ _ rfl ?_));exact hq)|fail):p:=k h
theorem Xh{p q:Prop}(h:q)(k:q->p:=by first|(intro hq;(first|refine aq _ _ rfl ?_|refine br _ _ rfl ?_|refine fk _ _ rfl ?_|refine uK _ _ rfl ?_);exact hq)|fail):p:=k h
theorem Xu{p q:Prop}(h:q)(k:q->p:=by first|(intro hq;(first|refine Sq.n _ ?_|refine Sq.e _ _ rfl ?_|refine Bq.n _ ?_|refine Bq.x _ ?_|refine Bq.e _ _ rfl ?_|refine hn _ ?_|refine he _ _ rfl ?_|refine aq _ _ rfl ?_|refine br _ _ rfl ?_|refine fk _ _ rfl ?_|refine uK _ _ rfl ?_);exact hq)|fail):p:=k h
theorem Xe{p q:Prop}(h:q)(k:q->p:=by first|(intro hq;simp only[Qc,Kc,simprocAttr];exact hq)|fail):p:=k h
theorem Xy{p q:Prop}(h:q)(k:q->p:=by first|(intro hq;refine Xz ?_;exact hq)|(intro hq;refine Xe ?_;exact hq)|fail):p:=k h
theorem XY{p q:Prop}(h:q)(k:q->p:=by first|(intro hq;refine Xz ?_;exact hq)|(intro hq;refine Xh ?_;exact hq)|(intro hq;refine Xe ?_;exact hq)|fail):p:=k h
theorem Xx{p:Prop}(h:p:=by first|omega|with_reducible rfl|exact trivial|fail):p:=h
theorem Xl{n0:Nat}{e:Nat->AV}{os:List Ob}{v res:AV}{bn:List Ob}(ho:os=bn)(h:v=res)(hl:n0<=bn.length:=by(simp only[List.length_cons,List.length_nil];omega)):oK n0 ⟨e,os⟩ v res bn:=eF ho hl h
theorem Xd{p q r:Prop}(h:q)(h2:r)(k:q->r->p:=by first|(intro hq hr;with_reducible refine And.intro ?_ ?_;exact hq;exact hr)|fail):p:=k h h2
theorem Xv{n0:Nat}{σ S:St}{e:Prop}(x:e)(k:e->aH n0 σ S:=by first|(intro hx;refine aH.ao _ _ rfl ?_;simp only[Tc,↓reduceIte,Nat.reduceEqDiff,Nat.reduceBEq,Nat.reduceAdd,hx];(try trivial);done)|fail):aH n0 σ S:=k x
theorem Xs{n0:Nat}{σ:St}{l:List (Nat×AV)}{co:List Ob}{e:Prop}(snap:Bool)(aj:List Nat)(x:e)(h1:e->qh (bq σ.aa.length aj) σ.aa aj co:=by(intro hx;simp only[Oc,simprocAttr,hx]))(h2:e->tU (aZ σ (kept aj co) (bq σ.aa.length aj) snap) σ.env l:=by(intro hx;simp only[Hr,↓reduceIte,Nat.reduceEqDiff,Nat.reduceBEq,Nat.reduceAdd,hx];(try(and_intros<;>first|exact .pure rfl|exact .eq rfl|exact .fz rfl (by simp only[Bc,Rc])))))(bV:aj.Nodup:=by decide)(hn:n0<=aj.length:=by decide)(bX:∀ i,i<n0->aj.getD i 0=i:=by decide):aH n0 σ ⟨ao l,co⟩:=aH.se aj snap (h1 x) (h2 x) bV hn bX
theorem Xw{n0:Nat}{σ:St}{v res:AV}{bn:List Ob}{e:Prop}(snap:Bool)(aj:List Nat)(x:e)(h1:e->qh (bq σ.aa.length aj) σ.aa aj bn:=by(intro hx;simp only[Oc,simprocAttr,hx]))(h2:aZ σ (kept aj bn) (bq σ.aa.length aj) snap res v:=by first|exact .pure rfl|exact .eq rfl|exact .fz rfl (by simp only[Bc,Rc]))(bV:aj.Nodup:=by decide)(hn:n0<=aj.length:=by decide)(bX:∀ i,i<n0->aj.getD i 0=i:=by decide):oK n0 σ v res bn:=M' aj snap (h1 x) h2 bV hn bX
theorem Xn(aj:List Nat){P:Program}{σ:St}{f:FuncId}{args dL:List AV}{bY:List Ob}{dst:Option Tmp}{K:St->Prop}{res:AV}{db:List Ob}(h:Holds P f dL bY res db)(hK:K (({ σ with aa:=e8 σ.aa aj (db.map (bM (bq σ.aa.length aj))) }:St).put dst (bk (bq σ.aa.length aj) res)))(bV:aj.Nodup:=by decide)(ho:zf (bq σ.aa.length aj) σ.aa aj bY:=by((repeat'(first|exact trivial|with_reducible refine And.intro ?_ ?_|refine And.intro ?_ ?_))<;>first|rfl|(rw[Hb];rfl)|(rw[AL];rfl)|(rw[wR];rfl)|(rw[KU];rfl)))(ha:jE (aZ σ (·∈aj) (bq σ.aa.length aj) false) dL args:=by((repeat'(first|exact trivial|refine And.intro ?_ ?_))<;>(first|exact .pure rfl|exact .eq rfl|exact .fz rfl (by simp only[Bc,Rc])))):tP P f args dst K σ:=jF aj h bV ho ha hK
def Pw:=aas @q7 @nU @mJ @mI @cj.eq_1 @er.eq_1
theorem Va{p q e:Prop}(x:e)(h:q)(k:e->q->p:=by first|(intro hx hq;(try with_reducible intro K hK);(first|((first|refine rr ?_|refine uo ?_);intro K hK;simp(disch:=omega)only[Ac,↓Pc,simprocAttr,hx];show _)|(with_reducible refine gO ?_;simp(disch:=omega)only[Ac,↓Pc,simprocAttr,hx];show _)|(refine hK _ ?_;clear hK K)|refine Wz rfl ?_|refine Xk ?_|refine Xb ?_|refine Sq.n _ ?_|refine Sq.e _ _ rfl ?_|refine Bq.n _ ?_|refine Bq.x _ ?_|refine Bq.e _ _ rfl ?_|refine hn _ ?_|refine he _ _ rfl ?_|(simp only[Qc,Kc,simprocAttr];show _)|(with_reducible refine And.intro ?_ ?_;(focus (clear hq;first|omega|with_reducible rfl|exact trivial))));(repeat(first|((first|refine rr ?_|refine uo ?_);intro K hK;simp(disch:=omega)only[Ac,↓Pc,simprocAttr,hx];show _)|(with_reducible refine gO ?_;simp(disch:=omega)only[Ac,↓Pc,simprocAttr,hx];show _)|(refine hK _ ?_;clear hK K)|refine Wz rfl ?_|refine Xk ?_|refine Xb ?_|refine Sq.n _ ?_|refine Sq.e _ _ rfl ?_|refine Bq.n _ ?_|refine Bq.x _ ?_|refine Bq.e _ _ rfl ?_|refine hn _ ?_|refine he _ _ rfl ?_|(simp only[Qc,Kc,simprocAttr];show _)|(with_reducible refine And.intro ?_ ?_;(focus (clear hq;first|omega|with_reducible rfl|exact trivial)))));(try revert hK);(try revert K);exact hq)|fail):p:=k x h
theorem Vb{p q e:Prop}(x:e)(h:q)(k:e->q->p:=by first|(intro hx hq;(try with_reducible intro K hK);(first|((first|refine rr ?_|refine uo ?_);intro K hK;simp(disch:=omega)only[Ac,↓Pc,simprocAttr,hx];show _)|(with_reducible refine gO ?_;simp(disch:=omega)only[Ac,↓Pc,simprocAttr,hx];show _)|(refine hK _ ?_;clear hK K)|refine Wz rfl ?_|refine Xk ?_|refine Xb ?_|refine Sq.n _ ?_|refine Sq.e _ _ rfl ?_|refine Bq.n _ ?_|refine Bq.x _ ?_|refine Bq.e _ _ rfl ?_|refine hn _ ?_|refine he _ _ rfl ?_|refine aq _ _ rfl ?_|refine br _ _ rfl ?_|refine fk _ _ rfl ?_|refine uK _ _ rfl ?_|(simp only[Qc,Kc,simprocAttr];show _)|(with_reducible refine And.intro ?_ ?_;(focus (clear hq;first|omega|with_reducible rfl|exact trivial))));(repeat(first|((first|refine rr ?_|refine uo ?_);intro K hK;simp(disch:=omega)only[Ac,↓Pc,simprocAttr,hx];show _)|(with_reducible refine gO ?_;simp(disch:=omega)only[Ac,↓Pc,simprocAttr,hx];show _)|(refine hK _ ?_;clear hK K)|refine Wz rfl ?_|refine Xk ?_|refine Xb ?_|refine Sq.n _ ?_|refine Sq.e _ _ rfl ?_|refine Bq.n _ ?_|refine Bq.x _ ?_|refine Bq.e _ _ rfl ?_|refine hn _ ?_|refine he _ _ rfl ?_|refine aq _ _ rfl ?_|refine br _ _ rfl ?_|refine fk _ _ rfl ?_|refine uK _ _ rfl ?_|(simp only[Qc,Kc,simprocAttr];show _)|(with_reducible refine And.intro ?_ ?_;(focus (clear hq;first|omega|with_reducible rfl|exact trivial)))));(try revert hK);(try revert K);exact hq)|fail):p:=k x h
theorem Vc{p q e t:Prop}(x:e)(c:t)(h:q)(k:e->t->q->p:=by first|(intro hx hc hq;(try with_reducible intro K hK);(first|((first|refine rr ?_|refine uo ?_|refine rb ?_|refine Fg ?_|refine ra ?_|refine Fh ?_);intro K hK;simp(disch:=omega)only[Ac,↓Pc,simprocAttr,hx];show _)|(with_reducible refine gO ?_;simp(disch:=omega)only[Ac,↓Pc,simprocAttr,hx];show _)|(refine hK _ ?_;clear hK K)|refine Wz rfl ?_|refine Xk ?_|refine Xb ?_|refine Sq.n _ ?_|refine Sq.e _ _ rfl ?_|refine Bq.n _ ?_|refine Bq.x _ ?_|refine Bq.e _ _ rfl ?_|refine hn _ ?_|refine he _ _ rfl ?_|(simp only[Qc,Kc,simprocAttr];show _)|(with_reducible refine And.intro ?_ ?_;(focus (clear hq;first|omega|with_reducible rfl|exact trivial)))|(apply b7;(focus(repeat(first|exact hc|exact hc.1|have hc:=hc.2)));rfl;rfl)|(apply cu;(focus(repeat(first|exact hc|exact hc.1|have hc:=hc.2)));rfl;rfl));(repeat(first|((first|refine rr ?_|refine uo ?_|refine rb ?_|refine Fg ?_|refine ra ?_|refine Fh ?_);intro K hK;simp(disch:=omega)only[Ac,↓Pc,simprocAttr,hx];show _)|(with_reducible refine gO ?_;simp(disch:=omega)only[Ac,↓Pc,simprocAttr,hx];show _)|(refine hK _ ?_;clear hK K)|refine Wz rfl ?_|refine Xk ?_|refine Xb ?_|refine Sq.n _ ?_|refine Sq.e _ _ rfl ?_|refine Bq.n _ ?_|refine Bq.x _ ?_|refine Bq.e _ _ rfl ?_|refine hn _ ?_|refine he _ _ rfl ?_|(simp only[Qc,Kc,simprocAttr];show _)|(with_reducible refine And.intro ?_ ?_;(focus (clear hq;first|omega|with_reducible rfl|exact trivial)))|(apply b7;(focus(repeat(first|exact hc|exact hc.1|have hc:=hc.2)));rfl;rfl)|(apply cu;(focus(repeat(first|exact hc|exact hc.1|have hc:=hc.2)));rfl;rfl)));(try revert hK);(try revert K);exact hq)|fail):p:=k x c h
theorem Vd{p q e t:Prop}(x:e)(c:t)(h:q)(k:e->t->q->p:=by first|(intro hx hc hq;(try with_reducible intro K hK);(first|((first|refine rr ?_|refine uo ?_|refine rb ?_|refine Fg ?_|refine ra ?_|refine Fh ?_);intro K hK;simp(disch:=omega)only[Ac,↓Pc,simprocAttr,hx];show _)|(with_reducible refine gO ?_;simp(disch:=omega)only[Ac,↓Pc,simprocAttr,hx];show _)|(refine hK _ ?_;clear hK K)|refine Wz rfl ?_|refine Xk ?_|refine Xb ?_|refine Sq.n _ ?_|refine Sq.e _ _ rfl ?_|refine Bq.n _ ?_|refine Bq.x _ ?_|refine Bq.e _ _ rfl ?_|refine hn _ ?_|refine he _ _ rfl ?_|refine aq _ _ rfl ?_|refine br _ _ rfl ?_|refine fk _ _ rfl ?_|refine uK _ _ rfl ?_|(simp only[Qc,Kc,simprocAttr];show _)|(with_reducible refine And.intro ?_ ?_;(focus (clear hq;first|omega|with_reducible rfl|exact trivial)))|(apply b7;(focus(repeat(first|exact hc|exact hc.1|have hc:=hc.2)));rfl;rfl)|(apply cu;(focus(repeat(first|exact hc|exact hc.1|have hc:=hc.2)));rfl;rfl));(repeat(first|((first|refine rr ?_|refine uo ?_|refine rb ?_|refine Fg ?_|refine ra ?_|refine Fh ?_);intro K hK;simp(disch:=omega)only[Ac,↓Pc,simprocAttr,hx];show _)|(with_reducible refine gO ?_;simp(disch:=omega)only[Ac,↓Pc,simprocAttr,hx];show _)|(refine hK _ ?_;clear hK K)|refine Wz rfl ?_|refine Xk ?_|refine Xb ?_|refine Sq.n _ ?_|refine Sq.e _ _ rfl ?_|refine Bq.n _ ?_|refine Bq.x _ ?_|refine Bq.e _ _ rfl ?_|refine hn _ ?_|refine he _ _ rfl ?_|refine aq _ _ rfl ?_|refine br _ _ rfl ?_|refine fk _ _ rfl ?_|refine uK _ _ rfl ?_|(simp only[Qc,Kc,simprocAttr];show _)|(with_reducible refine And.intro ?_ ?_;(focus (clear hq;first|omega|with_reducible rfl|exact trivial)))|(apply b7;(focus(repeat(first|exact hc|exact hc.1|have hc:=hc.2)));rfl;rfl)|(apply cu;(focus(repeat(first|exact hc|exact hc.1|have hc:=hc.2)));rfl;rfl)));(try revert hK);(try revert K);exact hq)|fail):p:=k x c h
theorem V2{p q r e:Prop}(x:e)(h:q)(h2:r)(k:e->q->r->p/\True:=by first|(intro hx hq hr;refine And.intro ?_ ?_;(try with_reducible intro K hK);(with_reducible refine gS (fun a6=>?_) (fun a6=>?_));(focus (have hb:=a6;(try simp only[iv,simprocAttr]at hb);all_goals(simp(disch:=omega)only[Ac,↓Pc,simprocAttr,hx,a6]);all_goals(clear a6;(try revert hK);(try revert K);revert hb;exact hq)));(focus (have hb:=a6;(try simp only[iv,simprocAttr]at hb);all_goals(simp(disch:=omega)only[Ac,↓Pc,simprocAttr,hx,a6]);all_goals(clear a6;(try revert hK);(try revert K);revert hb;exact hr)));((try have _:True:=hq);(try have _:True:=hr);trivial))|fail):p:=(k x h h2).1
theorem VD{p q r:Prop}(h:q)(h2:r)(k:q->r->p:=by first|(intro hq hr;(try with_reducible intro K hK);with_reducible refine And.intro ?_ ?_;(focus ((try clear hK K);(try revert hK);(try revert K);exact hq));(focus ((try clear hK K);(try revert hK);(try revert K);exact hr)))|fail):p:=k h h2
def L5(n m:Int)(hm:cR m):Holds Tryz.prog 14 [Qf n,Qf m] [] (Qf (ur n m)) []:=by
 unfold cR at hm;refine Holds.aM 16 0 [.tmp 4] Tryz.func14 ?_;repeat'(first|(refine Xr X0 ?_;intro K hK)|(refine hK _ ?_;clear hK K)|(refine Xi ?_ ?_<;>try intro ht)|refine Xz ?_|(refine Xe ?_;first|refine aO rfl ?_|refine Xl ?_ ?_)|refine Xd ?_ ?_|exact Xx|fail)
 ·rw[ur,if_pos ht]
 ·have:=MQ n m GK;omega
 ·rw[ur,if_neg GK,(MQ n m GK).1 ht]
 ·rw[ur,if_neg GK,(MQ n m GK).2.1 ht]
def ags(xs:List Int):Holds Tryz.prog 8 [.tree 1 (ints xs)] [] (.lit (.bool (decide (xs.length<=400)))) []:=by
 refine Holds.aM 6 0 [.tmp 2] Tryz.func8 ?_;repeat'(first|(refine Xr X0 ?_;intro K hK)|(refine hK _ ?_;clear hK K)|refine Xz ?_|(refine Xe ?_;first|refine aO rfl ?_|refine Xl ?_ ?_)|fail)
 ·congr 3;simp;omega
def gY(L:List Int)(k:Nat)(n:Int)(hn:cR n)(hk:k<=L.length)(hL:L.length<1000000):Holds Tryz.prog 24 [.ptr 0 0 0,Qf n] [.var [.tree 1 (ints L),Qf k]] (Qf (ef L k n))
  [.var [.tree 1 (ints L),Qf (cK L k)]]:=by
 refine Holds.aM 35 1 [.tmp 4] Tryz.func24 ?_;repeat'(first|(refine Xq X0 ?_;intro K hK)|refine Xo X0 ?_|refine Xc (L5 _ _ hn) ?_|(refine hK _ ?_;clear hK K)|(refine Xi ?_ ?_<;>try intro ht)|refine Xz ?_|(refine Xe ?_;first|refine aO rfl ?_|refine Xl ?_ ?_)|refine Xd ?_ ?_|exact Xx|fail)
 ·rw[cK,if_pos GK]
 ·rw[ef,if_pos GK]
 ·rw[cK,if_neg GK,DZ];rfl
 ·rw[ef,if_neg GK,show((k:Int)+1-1).toNat=k by omega]
def ED(L:List Int)(k:Nat)(n:Int)(hn:cR n)(gv:0<n)(hk:k<=L.length)(hL:L.length<1000000):Holds Tryz.prog 31 [.ptr 0 0 0,Qf n] [.var [.tree 1 (ints L),Qf k]] (.lit (.bool (CT L k n)))
  [.var [.tree 1 (ints L),Qf (cK L k)]]:=by
 refine Holds.aM 11 1 [.tmp 4] Tryz.func31 ?_;repeat'(first|(refine Xr X0 ?_;intro K hK)|(refine hK _ ?_;clear hK K)|fail)
 refine fZ (gY L k n hn hk hL) GM ?_;unfold cR at hn;repeat'(first|refine Xo X0 ?_|(refine hK _ ?_;clear hK K)|refine Xz ?_|(refine Xe ?_;first|refine aO rfl ?_|refine Xl ?_ ?_)|refine Xd ?_ ?_|exact Xx|fail)
 ·rfl
def Np(L:List Int)(k:Nat)(hk:k<=L.length)(hL:L.length<1000000):Holds Tryz.prog 68 [.ptr 0 0 0] [.var [.tree 1 (ints L),Qf k]] (Qf (qF L k))
  [.var [.tree 1 (ints L),Qf (xh L k)]]:=by
 have h6:=j4 (L:=L) (k:=k) (n:=6) GK;have h20:=j4 (L:=L) (k:=cK L k) (n:=20) GK;refine Holds.aM 14 1 [.tmp 2] Tryz.func68 ?_;repeat'(first|(refine Xr X0 ?_;intro K hK)|(refine hK _ ?_;clear hK K)|refine Xz ?_|fail)
 refine fZ (gY L k 6 (by unfold cR;omega) hk hL) GM ?_;have c1:ef L k 6<=3->xh L k=cK L k:=λh=>by rw[xh,if_pos h]
 have c2:ef L k 6<3->qF L k=0:=λh=>by rw[qF,if_pos h]
 have c3:ef L k 6=3->qF L k=1099511627776:=λh=>by rw[qF,if_neg GK,if_pos h]
 have c4:¬ ef L k 6<=3->xh L k=cK L (cK L k):=λh=>by rw[xh,if_neg h]
 have c5:¬ ef L k 6<=3->qF L k=1+ef L (cK L k) 20:=λh=>by rw[qF,if_neg GK,if_neg GK]
 repeat'(first|(refine Xr X0 ?_;intro K hK)|(refine hK _ ?_;clear hK K)|(refine Xi ?_ ?_<;>try intro ht)|refine Xz ?_|(refine Xe ?_;first|refine aO rfl ?_|refine Xl ?_ ?_)|exact Xx|fail)
 iterate 3
  ·rw[c1 GK]
  ·rw[c2 GK]
 ·rw[c1 GK]
 ·rw[c3 GK]
 ·refine fZ (gY L (cK L k) 20 (by unfold cR;omega) (fH hk) hL) GM ?_;repeat'(first|refine Xo X0 ?_|(refine hK _ ?_;clear hK K)|refine Xz ?_|(refine Xe ?_;first|refine aO rfl ?_|refine Xl ?_ ?_)|refine Xd ?_ ?_|exact Xx|fail)
  ·rw[c4 GK]
  ·rw[c5 GK]
def agv(L:List Int):Holds Tryz.prog 10 [.tree 1 (ints L)] [] (.ptr 0 0 0) [.var [.tree 1 (ints L),Qf (0:Nat)]]:=by
 refine Holds.aM 6 0 [.tmp 2] Tryz.func10 ?_;refine Vb X0 ?_;rw[show(0:Int)=((0:Nat):Int) from rfl];exact eF rfl GM rfl
def aiN(a b:Int)(ha:bT a)(hb:bT b):Holds Tryz.prog 110 [Qf a,Qf b] [] (Qf (eB a b)) []:=by
 unfold bT at *;refine Holds.aM 9 0 [.tmp 4] Tryz.func110 ?_;repeat'(first|(refine Xr X0 ?_;intro K hK)|(refine hK _ ?_;clear hK K)|refine Xz ?_|(refine Xe ?_;first|refine aO rfl ?_|refine Xl ?_ ?_)|refine Xd ?_ ?_|exact Xx|fail)
 ·rfl
def aiO(a b:Int)(ha:bT a)(hb:bT b):Holds Tryz.prog 83 [Qf a,Qf b] [] (Qf (eB a b)) []:=by
 unfold bT at *;refine Holds.aM 9 0 [.tmp 4] Tryz.func83 ?_;repeat'(first|(refine Xr X0 ?_;intro K hK)|(refine hK _ ?_;clear hK K)|refine Xz ?_|(refine Xe ?_;first|refine aO rfl ?_|refine Xl ?_ ?_)|refine Xd ?_ ?_|exact Xx|fail)
 ·rfl
def Nq(n:Int):Holds Tryz.prog 123 [Qf n] [] (.lit (.bool (jO n))) []:=by
 refine Holds.aM 13 0 [.tmp 2] Tryz.func123 ?_;repeat'(first|(refine Xr X0 ?_;intro K hK)|(refine hK _ ?_;clear hK K)|(refine Xg X0 ?_ ?_<;>try intro hb)|refine Xz ?_|(refine Xe ?_;first|refine aO rfl ?_|refine Xl ?_ ?_)|fail)
 all_goals(refine congrArg (λb=>AV.lit (Value.bool b)) ?_;rw[mC];simp only[jO,decide_eq_true_eq,beq_iff_eq,bne_iff_ne,bb,lD,kz,decide_eq_false_iff_not,jo,reduceCtorEq,iff_true,iff_false,true_iff,false_iff,eq_self];omega)
def Nr(n:Int):Holds Tryz.prog 62 [Qf n] [] (.lit (.bool (jO n))) []:=by
 refine Holds.aM 13 0 [.tmp 2] Tryz.func62 ?_;repeat'(first|(refine Xr X0 ?_;intro K hK)|(refine hK _ ?_;clear hK K)|(refine Xg X0 ?_ ?_<;>try intro hb)|refine Xz ?_|(refine Xe ?_;first|refine aO rfl ?_|refine Xl ?_ ?_)|fail)
 all_goals(refine congrArg (λb=>AV.lit (Value.bool b)) ?_;rw[mC];simp only[jO,decide_eq_true_eq,beq_iff_eq,bne_iff_ne,bb,lD,kz,decide_eq_false_iff_not,jo,reduceCtorEq,iff_true,iff_false,true_iff,false_iff,eq_self];omega)
def Ns(m:ah)(n:Int):Holds Tryz.prog 122 [.agg (an m),Qf n] [] (.lit (.bool (j8 m.rules n))) []:=by
 refine Holds.aM 13 0 [.tmp 4] Tryz.func122 ?_;repeat'(first|(refine Xr @an.eq_1 ?_;intro K hK)|(refine hK _ ?_;clear hK K)|(refine Xg @an.eq_1 ?_ ?_<;>try intro hb)|refine Xz ?_|(refine Xe ?_;first|refine aO rfl ?_|refine Xl ?_ ?_)|fail)
 all_goals(refine congrArg (λb=>AV.lit (Value.bool b)) ?_;rw[mC];simp only[j8,decide_eq_true_eq,beq_iff_eq,bne_iff_ne,bb,lD,kz,decide_eq_false_iff_not,jo,reduceCtorEq,iff_true,iff_false,true_iff,false_iff,eq_self];omega)
def Nt(m:ah)(n:Int):Holds Tryz.prog 61 [.agg (an m),Qf n] [] (.lit (.bool (j8 m.rules n))) []:=by
 refine Holds.aM 13 0 [.tmp 4] Tryz.func61 ?_;repeat'(first|(refine Xr @an.eq_1 ?_;intro K hK)|(refine hK _ ?_;clear hK K)|(refine Xg @an.eq_1 ?_ ?_<;>try intro hb)|refine Xz ?_|(refine Xe ?_;first|refine aO rfl ?_|refine Xl ?_ ?_)|fail)
 all_goals(refine congrArg (λb=>AV.lit (Value.bool b)) ?_;rw[mC];simp only[j8,decide_eq_true_eq,beq_iff_eq,bne_iff_ne,bb,lD,kz,decide_eq_false_iff_not,jo,reduceCtorEq,iff_true,iff_false,true_iff,false_iff,eq_self];omega)
def aiP(n:Int):Holds Tryz.prog 107 [Qf n] [] (.lit (.bool false)) []:=by
 refine Holds.aM 6 0 [.tmp 2] Tryz.func107 ?_;repeat'(first|(refine Xr @bne_self_eq_false.{0} ?_;intro K hK)|(refine hK _ ?_;clear hK K)|refine Xz ?_|(refine Xe ?_;first|refine aO rfl ?_|refine Xl ?_ ?_)|exact Xx|fail)
def Fu(a b:Int):Holds Tryz.prog 76 [Qf a,Qf b] [] (Qf (kQ a b)) []:=by
 refine Holds.aM 20 0 [.tmp 4] Tryz.func76 ?_;repeat'(first|(refine Xq X0 ?_;intro K hK)|refine Xo X0 ?_|refine Xc (aiP _) ?_|(refine hK _ ?_;clear hK K)|(refine Xi ?_ ?_<;>try intro ht)|refine Xz ?_|(refine Xe ?_;first|refine aO rfl ?_|refine Xl ?_ ?_)|exact Xx|fail)
 all_goals(unfold kQ;congr 2;(repeat' split)<;>omega)
def Nu(l:List Int)(hl:l.length<1000000):Holds Tryz.prog 75 [.tree 1 (ints l)] [] (Qf (rN l)) []:=by
 generalize au:rN l=res;refine Holds.aM 18 0 [.tmp 2] Tryz.func75 ?_;repeat'(first|(refine Xr X0 ?_;intro K hK)|(refine hK _ ?_;clear hK K)|refine Xz ?_|fail)
 refine aR (λk:Nat=>(⟨ao [(3,Qf 0),(6,.tree 1 (ints l)),(7,Qf l.length),(8,Qf k)],[]⟩:St)) (λk=>k<=l.length/\rN (l.drop k)=res) (λk=>l.length-k) 0 ⟨aS _,au⟩ (Xv X0) ?_;rintro k⟨hk,hr⟩Ql ak aq;repeat'(first|(refine Xr X0 ?_;intro K hK)|(refine hK _ ?_;clear hK K)|(refine Xi ?_ ?_<;>try intro ht)|refine Xz ?_|refine Xh ?_|(refine Xe ?_;first|refine aO rfl ?_|refine Xl ?_ ?_)|refine Xd ?_ ?_|exact Xx|fail)
 ·rw[kd _ _ 0 GK,rN,if_pos (by assumption)]at hr;rw[hr]
 ·rw[kd _ _ 0 GK,rN,if_neg GK]at hr;exact ak _ (k+1) ⟨GK,hr⟩ GK (Xv X0)
 ·rw[jA GK,rN]at hr;rw[hr]
def aiQ(m:ah)(c o:Int):Holds Tryz.prog 127 [.agg (an m),Qf c,Qf o] [] (.lit (.bool (hZ m c o))) []:=by
 refine Holds.aM 30 0 [.tmp 6] Tryz.func127 ?_;repeat'(first|(refine Xr (X4 @an.eq_1 @cH @gw @aW.eq_1) ?_;intro K hK)|(refine hK _ ?_;clear hK K)|(refine Xg (X4 @an.eq_1 @cH @gw @aW.eq_1) ?_ ?_<;>try intro hb)|refine Xz ?_|(refine Xe ?_;first|refine aO rfl ?_|refine Xl ?_ ?_)|refine Xd ?_ ?_|exact Xx|fail)
 all_goals(refine congrArg (λb=>AV.lit (Value.bool b)) ?_;rw[mC];simp only[hZ,decide_eq_true_eq,beq_iff_eq,bne_iff_ne,bb,lD,kz,decide_eq_false_iff_not,jo,reduceCtorEq,iff_true,iff_false,true_iff,false_iff,eq_self];omega)
def Nv(m:ah)(c o:Int):Holds Tryz.prog 82 [.agg (an m),Qf c,Qf o] [] (.lit (.bool (hZ m c o))) []:=by
 refine Holds.aM 30 0 [.tmp 6] Tryz.func82 ?_;repeat'(first|(refine Xr (X4 @an.eq_1 @cH @gw @aW.eq_1) ?_;intro K hK)|(refine hK _ ?_;clear hK K)|(refine Xg (X4 @an.eq_1 @cH @gw @aW.eq_1) ?_ ?_<;>try intro hb)|refine Xz ?_|(refine Xe ?_;first|refine aO rfl ?_|refine Xl ?_ ?_)|refine Xd ?_ ?_|exact Xx|fail)
 all_goals(refine congrArg (λb=>AV.lit (Value.bool b)) ?_;rw[mC];simp only[hZ,decide_eq_true_eq,beq_iff_eq,bne_iff_ne,bb,lD,kz,decide_eq_false_iff_not,jo,reduceCtorEq,iff_true,iff_false,true_iff,false_iff,eq_self];omega)
def aiR(c:Ct)(n:Int)(h1:0<=c.most)(h2:n<=1048576)(h3:0<=n)(h4:bT c.cf):Holds Tryz.prog 144 [.agg (dv c),Qf n] [] (Qf (lK c.most c.cf n)) []:=by
 unfold bT at h4;have hm:c.most<n->0<=(n-c.most)*c.cf/\(n-c.most)*c.cf<=1048576*1099511627776:=λh=>⟨sw GK h4.1,p8 GK h4.2 h4.1 GK⟩;refine Holds.aM 17 0 [.tmp 4] Tryz.func144 ?_;repeat'(first|(refine Xr @dv.eq_1 ?_;intro K hK)|(refine hK _ ?_;clear hK K)|(refine Xi ?_ ?_<;>try intro ht)|refine Xz ?_|(refine Xe ?_;first|refine aO rfl ?_|refine Xl ?_ ?_)|refine Xd ?_ ?_|exact Xx|fail)
 ·rw[lK,if_pos ht]
 ·rw[lK,if_neg GK]
def aiS(n c:Int)(h2:n<=1048576)(h4:bT c):Holds Tryz.prog 48 [Qf n,Qf c] [] (Qf (Dk n c)) []:=by
 unfold bT at h4;have hm:0<n->0<=n*c/\n*c<=1048576*1099511627776:=λh=>⟨sw GK h4.1,p8 GK h4.2 h4.1 GK⟩;refine Holds.aM 13 0 [.tmp 4] Tryz.func48 ?_;repeat'(first|(refine Xr X0 ?_;intro K hK)|(refine hK _ ?_;clear hK K)|(refine Xi ?_ ?_<;>try intro ht)|refine Xz ?_|(refine Xe ?_;first|refine aO rfl ?_|refine Xl ?_ ?_)|refine Xd ?_ ?_|exact Xx|fail)
 ·rw[Dk,if_pos ht]
 ·rw[Dk,if_neg GK,if_pos GK]
 ·rw[Dk,if_neg GK,if_neg GK]
def fV{α:Type}(p:α->Bool):Nat->List α->Int
 |_,[]=>-1
 |k,x::r=>if p x=true then(k:Int) else fV p (k+1) r
def zZ{α:Type}(p:α->Bool):∀ (l:List α) (k:Nat),decide (0<=fV p k l)=l.any p
 |[],k=>rfl
 |x::r,k=>by
  rw[fV,Kl];split
  ·rename_i h;rw[h];simp
  ·rename_i h;rw[zZ p r (k+1)];simp_all
def aiT(l:List (List cz))(g:FuncId)(bC:List AV)(aa:List Ob)(p:(List cz)->Bool)(hl:l.length<9223372036854775808)(hg:∀ x∈l,Holds Tryz.prog g ([.tree 6 (rowsOf cp x)]++bC) aa (.lit (.bool (p x))) aa):
  Holds Tryz.prog 147 [.tree 1 (rowsOf aW l),.fn g bC] aa (Qf (fV p 0 l)) aa:=by
 generalize au:fV p 0 l=res;refine Holds.aM 19 aa.length [.tmp 4] Tryz.func147 ?_;refine Vb (X3 @cH @gw @aW.eq_1) ?_;refine aR (λk:Nat=>(⟨ao [(0,.tree 1 (rowsOf aW l)),(1,.fn g bC),(7,Qf l.length),(8,Qf k)],aa⟩:St)) (λk=>k<=l.length/\fV p k (l.drop k)=res) (λk=>l.length-k) 0 ⟨aS _,au⟩ (Xv X0) ?_;rintro k⟨hk,hr⟩Ql ak aq;by_cases bg:k<l.length
 ·have hx:=hg _ (aF (d:=default) bg);have hd:=kd l k default bg;generalize bZ:l.getD k default=x at *;rw[hd,fV]at hr;simp only[dx,eC,aW]at hx;((repeat'(first|refine Vb (X4 @cH @gw @aW.eq_1 @bZ) ?_|(refine Xi ?_ ?_<;>try intro ht)|exact Xx|fail))<;>try with_reducible intro K hK)
  refine fZ hx (aY _) ?_;((try revert hK K);(repeat'(first|refine Vb (X3 @cH @gw @aW.eq_1) ?_|(refine Xi ?_ ?_<;>try intro ht)|fail)))
  ·rw[if_pos (by assumption)]at hr;rw[<- hr];exact eF rfl (aY _) rfl
  ·rw[if_neg (by simp_all)]at hr;exact ak _ (k+1) ⟨GK,hr⟩ GK (Xv X0)
 ·((repeat'(first|refine Vb (X3 @cH @gw @aW.eq_1) ?_|(refine Xi ?_ ?_<;>try intro ht)|exact Xx|fail)))
  rw[jA GK,fV]at hr;rw[<- hr];exact eF rfl (aY _) rfl
def aiU(l:List (List cz))(g:FuncId)(bC:List AV)(aa:List Ob)(p:(List cz)->Bool)(hl:l.length<9223372036854775808)(hg:∀ x∈l,Holds Tryz.prog g ([.tree 6 (rowsOf cp x)]++bC) aa (.lit (.bool (p x))) aa):
  Holds Tryz.prog 120 [.tree 1 (rowsOf aW l),.fn g bC] aa (.lit (.bool (l.any p))) aa:=by
 rw[<- zZ p l 0];refine Holds.aM 9 aa.length [.tmp 4] Tryz.func120 ?_;((refine Vb (X3 @cH @gw @aW.eq_1) ?_)<;>try with_reducible intro K hK)
 refine fZ (aiT l g bC aa p hl hg) (aY _) ?_;((try revert hK K);(refine Vb (X3 @cH @gw @aW.eq_1) ?_))
 exact eF rfl (aY _) rfl
def aiV(l:List cz)(g:FuncId)(bC:List AV)(aa:List Ob)(p:cz->Bool)(hl:l.length<9223372036854775808)(hg:∀ x∈l,Holds Tryz.prog g ([.agg (cp x)]++bC) aa (.lit (.bool (p x))) aa):
  Holds Tryz.prog 121 [.tree 6 (rowsOf cp l),.fn g bC] aa (Qf (fV p 0 l)) aa:=by
 generalize au:fV p 0 l=res;refine Holds.aM 19 aa.length [.tmp 4] Tryz.func121 ?_;refine Vb (X3 @cH @gw @cp.eq_1) ?_;refine aR (λk:Nat=>(⟨ao [(0,.tree 6 (rowsOf cp l)),(1,.fn g bC),(7,Qf l.length),(8,Qf k)],aa⟩:St)) (λk=>k<=l.length/\fV p k (l.drop k)=res) (λk=>l.length-k) 0 ⟨aS _,au⟩ (Xv X0) ?_;rintro k⟨hk,hr⟩Ql ak aq;by_cases bg:k<l.length
 ·have hx:=hg _ (aF (d:=default) bg);have hd:=kd l k default bg;generalize bZ:l.getD k default=x at *;rw[hd,fV]at hr;simp only[dx,eC,cp]at hx;((repeat'(first|refine Vb (X4 @cH @gw @cp.eq_1 @bZ) ?_|(refine Xi ?_ ?_<;>try intro ht)|exact Xx|fail))<;>try with_reducible intro K hK)
  refine fZ hx (aY _) ?_;((try revert hK K);(repeat'(first|refine Vb (X3 @cH @gw @cp.eq_1) ?_|(refine Xi ?_ ?_<;>try intro ht)|fail)))
  ·rw[if_pos (by assumption)]at hr;rw[<- hr];exact eF rfl (aY _) rfl
  ·rw[if_neg (by simp_all)]at hr;exact ak _ (k+1) ⟨GK,hr⟩ GK (Xv X0)
 ·((repeat'(first|refine Vb (X3 @cH @gw @cp.eq_1) ?_|(refine Xi ?_ ?_<;>try intro ht)|exact Xx|fail)))
  rw[jA GK,fV]at hr;rw[<- hr];exact eF rfl (aY _) rfl
def aiW(l:List cz)(g:FuncId)(bC:List AV)(aa:List Ob)(p:cz->Bool)(hl:l.length<9223372036854775808)(hg:∀ x∈l,Holds Tryz.prog g ([.agg (cp x)]++bC) aa (.lit (.bool (p x))) aa):
  Holds Tryz.prog 87 [.tree 6 (rowsOf cp l),.fn g bC] aa (.lit (.bool (l.any p))) aa:=by
 rw[<- zZ p l 0];refine Holds.aM 9 aa.length [.tmp 4] Tryz.func87 ?_;((refine Vb (X3 @cH @gw @cp.eq_1) ?_)<;>try with_reducible intro K hK)
 refine fZ (aiV l g bC aa p hl hg) (aY _) ?_;((try revert hK K);(refine Vb (X3 @cH @gw @cp.eq_1) ?_))
 exact eF rfl (aY _) rfl
def aiX(l:List Ct)(g:FuncId)(bC:List AV)(aa:List Ob)(p:Ct->Bool)(hl:l.length<9223372036854775808)(hg:∀ x∈l,Holds Tryz.prog g ([.agg (dv x)]++bC) aa (.lit (.bool (p x))) aa):
  Holds Tryz.prog 126 [.tree 4 (rowsOf dv l),.fn g bC] aa (Qf (fV p 0 l)) aa:=by
 generalize au:fV p 0 l=res;refine Holds.aM 19 aa.length [.tmp 4] Tryz.func126 ?_;refine Vb (X3 @cH @gw @dv.eq_1) ?_;refine aR (λk:Nat=>(⟨ao [(0,.tree 4 (rowsOf dv l)),(1,.fn g bC),(7,Qf l.length),(8,Qf k)],aa⟩:St)) (λk=>k<=l.length/\fV p k (l.drop k)=res) (λk=>l.length-k) 0 ⟨aS _,au⟩ (Xv X0) ?_;rintro k⟨hk,hr⟩Ql ak aq;by_cases bg:k<l.length
 ·have hx:=hg _ (aF (d:=default) bg);have hd:=kd l k default bg;generalize bZ:l.getD k default=x at *;rw[hd,fV]at hr;simp only[dx,eC,dv]at hx;((repeat'(first|refine Vb (X4 @cH @gw @dv.eq_1 @bZ) ?_|(refine Xi ?_ ?_<;>try intro ht)|exact Xx|fail))<;>try with_reducible intro K hK)
  refine fZ hx (aY _) ?_;((try revert hK K);(repeat'(first|refine Vb (X3 @cH @gw @dv.eq_1) ?_|(refine Xi ?_ ?_<;>try intro ht)|fail)))
  ·rw[if_pos (by assumption)]at hr;rw[<- hr];exact eF rfl (aY _) rfl
  ·rw[if_neg (by simp_all)]at hr;exact ak _ (k+1) ⟨GK,hr⟩ GK (Xv X0)
 ·((repeat'(first|refine Vb (X3 @cH @gw @dv.eq_1) ?_|(refine Xi ?_ ?_<;>try intro ht)|exact Xx|fail)))
  rw[jA GK,fV]at hr;rw[<- hr];exact eF rfl (aY _) rfl
def aiY(l:List Ct)(g:FuncId)(bC:List AV)(aa:List Ob)(p:Ct->Bool)(hl:l.length<9223372036854775808)(hg:∀ x∈l,Holds Tryz.prog g ([.agg (dv x)]++bC) aa (.lit (.bool (p x))) aa):
  Holds Tryz.prog 92 [.tree 4 (rowsOf dv l),.fn g bC] aa (.lit (.bool (l.any p))) aa:=by
 rw[<- zZ p l 0];refine Holds.aM 9 aa.length [.tmp 4] Tryz.func92 ?_;((refine Vb (X3 @cH @gw @dv.eq_1) ?_)<;>try with_reducible intro K hK)
 refine fZ (aiX l g bC aa p hl hg) (aY _) ?_;((try revert hK K);(refine Vb (X3 @cH @gw @dv.eq_1) ?_))
 exact eF rfl (aY _) rfl
def aiZ(l:List Int)(g:FuncId)(bC:List AV)(aa:List Ob)(p:Int->Bool)(hl:l.length<9223372036854775808)(hg:∀ x∈l,Holds Tryz.prog g ([Qf x]++bC) aa (.lit (.bool (p x))) aa):
  Holds Tryz.prog 148 [.tree 1 (ints l),.fn g bC] aa (Qf (fV p 0 l)) aa:=by
 generalize au:fV p 0 l=res;refine Holds.aM 19 aa.length [.tmp 4] Tryz.func148 ?_;refine Vb @jq ?_;refine aR (λk:Nat=>(⟨ao [(0,.tree 1 (ints l)),(1,.fn g bC),(7,Qf l.length),(8,Qf k)],aa⟩:St)) (λk=>k<=l.length/\fV p k (l.drop k)=res) (λk=>l.length-k) 0 ⟨aS _,au⟩ (Xv X0) ?_;rintro k⟨hk,hr⟩Ql ak aq;by_cases bg:k<l.length
 ·have hx:=hg _ (aF (d:=0) bg);have hd:=kd l k 0 bg;generalize bZ:l.getD k 0=x at *;rw[hd,fV]at hr;simp only[dx,eC]at hx;((repeat'(first|refine Vb (X2 @jq @bZ) ?_|(refine Xi ?_ ?_<;>try intro ht)|exact Xx|fail))<;>try with_reducible intro K hK)
  refine fZ hx (aY _) ?_;((try revert hK K);(repeat'(first|refine Vb @jq ?_|(refine Xi ?_ ?_<;>try intro ht)|fail)))
  ·rw[if_pos (by assumption)]at hr;rw[<- hr];exact eF rfl (aY _) rfl
  ·rw[if_neg (by simp_all)]at hr;exact ak _ (k+1) ⟨GK,hr⟩ GK (Xv X0)
 ·((repeat'(first|refine Vb @jq ?_|(refine Xi ?_ ?_<;>try intro ht)|exact Xx|fail)))
  rw[jA GK,fV]at hr;rw[<- hr];exact eF rfl (aY _) rfl
def Ya(l:List Int)(g:FuncId)(bC:List AV)(aa:List Ob)(p:Int->Bool)(hl:l.length<9223372036854775808)(hg:∀ x∈l,Holds Tryz.prog g ([Qf x]++bC) aa (.lit (.bool (p x))) aa):
  Holds Tryz.prog 124 [.tree 1 (ints l),.fn g bC] aa (.lit (.bool (l.any p))) aa:=by
 rw[<- zZ p l 0];refine Holds.aM 9 aa.length [.tmp 4] Tryz.func124 ?_;((refine Vb @jq ?_)<;>try with_reducible intro K hK)
 refine fZ (aiZ l g bC aa p hl hg) (aY _) ?_;((try revert hK K);(refine Vb @jq ?_))
 exact eF rfl (aY _) rfl
def ai0(l:List cz):Holds Tryz.prog 119 [.tree 6 (rowsOf cp l)] [] (.lit (.bool (decide (24<l.length)))) []:=by
 refine Holds.aM 6 0 [.tmp 2] Tryz.func119 ?_;repeat'(first|(refine Xr X0 ?_;intro K hK)|(refine hK _ ?_;clear hK K)|refine Xz ?_|(refine Xe ?_;first|refine aO rfl ?_|refine Xl ?_ ?_)|fail)
 (refine congrArg (λb=>AV.lit (Value.bool b)) ?_;rw[mC];simp only[gt_iff_lt,decide_eq_true_eq,beq_iff_eq,bne_iff_ne,bb,lD,kz,decide_eq_false_iff_not,jo,reduceCtorEq,iff_true,iff_false,true_iff,false_iff,eq_self];omega)
def ai1(m:ah)(hm:MB m):Holds Tryz.prog 86 [.agg (an m)] [] (.lit (.bool (uD m))) []:=by
 have h1:=hm.cls;have h2:=aiU m.cls 119 [] [] (λl=>decide (24<l.length)) h1 (λx _=>by simpa using ai0 x);unfold uD;generalize m.cls.any (λl=>decide (24<l.length))=b at *;cases b;all_goals refine Holds.aM 36 0 [.tmp 2] Tryz.func86 ?_
 all_goals repeat'(first|(refine Xq X0 ?_;intro K hK)|refine Xo X0 ?_|refine Xc (h2) ?_|(refine hK _ ?_;clear hK K)|(refine Xg X0 ?_ ?_<;>try intro hb)|refine Xz ?_|(refine Xe ?_;first|refine aO rfl ?_|refine Xl ?_ ?_)|fail)
 all_goals first|rfl|(simp;done)|(refine congrArg (λb=>AV.lit (Value.bool b)) ?_;rw[mC];simp only[or_true,true_or,or_false,false_or,decide_eq_true_eq,beq_iff_eq,bne_iff_ne,bb,lD,kz,decide_eq_false_iff_not,jo,reduceCtorEq,iff_true,iff_false,true_iff,false_iff,eq_self];omega)
def ai2(m:ah)(o:cz)(ho:o.ch.length<9223372036854775808):Holds Tryz.prog 89 [.agg (an m),.agg (cp o)] [] (.lit (.bool (eK m.rules none o.ch))) []:=by
 generalize au:eK m.rules none o.ch=res;refine Holds.aM 43 0 [.tmp 4] Tryz.func89 ?_;repeat'(first|(refine Xr X0 ?_;intro K hK)|(refine hK _ ?_;clear hK K)|refine Xz ?_|fail)
 refine aR (λk:Nat=>(⟨ao [(2,.ptr 0 0 0),(3,.ptr 1 0 0),(8,.tree 2 (rowsOf bd o.ch)),(9,Qf o.ch.length),(10,Qf k)],[.var (an m),.var (cp o)]⟩:St)) (λk=>k<=o.ch.length/\eK m.rules (rO o.ch k) (o.ch.drop k)=res) (λk=>o.ch.length-k) 0 ⟨aS _,au⟩ (Xv X0) ?_;rintro k⟨hk,hr⟩Ql ak aq;by_cases bg:k<o.ch.length
 ·have hd:=kd o.ch k default bg;generalize bc:o.ch.getD k default=c at *;rw[hd,UR]at hr;have Bh:=Ns m c.1;have fP:((k:Int)-1).toNat=k-1:=GK;repeat'(first|(refine Xq (X2 @bc @fP) ?_;intro K hK)|refine Xo (X2 @bc @fP) ?_|refine Xc (Bh) ?_|refine Xc (Nq c.2) ?_|(refine hK _ ?_;clear hK K)|(refine Xg (X2 @bc @fP) ?_ ?_<;>try intro hb)|(refine Xi ?_ ?_<;>try intro ht)|refine Xz ?_|refine Xh ?_|(refine Xe ?_;first|refine aO rfl ?_|refine Xl ?_ ?_)|refine Xd ?_ ?_|exact Xx|fail)
  ·rw[<- hr];simp[*]
  ·rw[<- hr];simp[*]
  ·rw[<- hr,decide_eq_false (p:=k=0) GK,decide_eq_false (p:=_<c.1) GK];simp
  ·refine ak _ (k+1) ⟨GK,?_⟩ GK (Xs false [0,1] X0);rw[yw,bc,<- hr,decide_eq_true (p:=_<c.1) ht];simp[*]
  ·refine ak _ (k+1) ⟨GK,?_⟩ GK (Xs false [0,1] X0);rw[yw,bc,<- hr,decide_eq_true (p:=k=0) GK];simp[*]
 ·repeat'(first|(refine Xr X0 ?_;intro K hK)|(refine hK _ ?_;clear hK K)|(refine Xi ?_ ?_<;>try intro ht)|refine Xz ?_|refine Xh ?_|(refine Xe ?_;first|refine aO rfl ?_|refine Xl ?_ ?_)|refine Xd ?_ ?_|exact Xx|fail)
  rw[jA GK,eK]at hr;rw[<- hr]
def ai3(a b:Pr):Holds Tryz.prog 91 [.agg (aI a),.agg (aI b)] [] (Qf (oh a b)) []:=by
 refine Holds.aM 22 0 [.tmp 4] Tryz.func91 ?_;repeat'(first|(refine Xr X0 ?_;intro K hK)|(refine hK _ ?_;clear hK K)|refine Xz ?_|fail)
 (try(refine HI [4,9,14] rfl GS (by decide +kernel) ?_);intro K hK;simp(disch:=omega)only[Ac,↓Pc,simprocAttr])
 repeat'(first|refine Xo X0 ?_|refine Xc (Fu _ _) ?_|fail)
 refine xW [] (Nu [kQ a.ee b.ee,kQ a.fst b.fst,kQ a.snd b.snd] GM) GS trivial ⟨aZ.cO rfl (vh _) rfl GS (x8 _),trivial⟩ rfl GM ?_;repeat'(first|refine Xo X0 ?_|(refine hK _ ?_;clear hK K)|refine Xz ?_|(refine Xe ?_;first|refine aO rfl ?_|refine Xl ?_ ?_)|fail)
 ·rfl
def ai4(n:Int):Holds Tryz.prog 125 [Qf n] [] (.lit (.bool (pK n))) []:=by
 refine Holds.aM 10 0 [.tmp 2] Tryz.func125 ?_;repeat'(first|(refine Xq X0 ?_;intro K hK)|refine Xo X0 ?_|refine Xc (Nq n) ?_|(refine hK _ ?_;clear hK K)|(refine Xg X0 ?_ ?_<;>try intro hb)|refine Xz ?_|(refine Xe ?_;first|refine aO rfl ?_|refine Xl ?_ ?_)|fail)
 all_goals(simp[pK, *]<;>omega)
def ai5(m:ah)(p:Pr)(hp:p.ay.length<9223372036854775808)(hm:∀ l∈m.cls,l.length<=24)(hl:m.cls.length<=24):Holds Tryz.prog 90 [.agg (an m),.agg (aI p)] [] (.lit (.bool (hJ m p))) []:=by
 have hg:∀ i,(m.cls.getD i default).length<=24:=λi=>by
  rcases dP i m.cls.length with h|h
  ·exact hm _ (aF h)
  ·rw[List.getD_eq_getElem?_getD,List.getElem?_eq_none h];decide
 have h1:=hg p.fst.toNat;have h2:=hg p.snd.toNat;have hmul:(0:Int)<=(m.cls.getD p.fst.toNat default).length*(m.cls.getD p.snd.toNat default).length/\((m.cls.getD p.fst.toNat default).length:Int)*(m.cls.getD p.snd.toNat default).length<=24*24:=⟨sw GK GK,p8 GK GK GK GK⟩;have hc:=Ya p.ay 125 [] [] pK hp (λx _=>by simpa using ai4 x);unfold hJ;generalize yA:((m.cls.getD p.fst.toNat default).length:Int)*(m.cls.getD p.snd.toNat default).length=mm at *;refine Holds.aM 55 0 [.tmp 4] Tryz.func90 ?_;repeat'(first|(refine Xq @yA ?_;intro K hK)|refine Xo @yA ?_|refine Xc (Ns m p.ee) ?_|refine Xc (hc) ?_|(refine hK _ ?_;clear hK K)|(refine Xg @yA ?_ ?_<;>try intro hb)|(refine Xi ?_ ?_<;>try intro ht)|refine Xz ?_|(refine Xe ?_;first|refine aO rfl ?_|refine Xl ?_ ?_)|refine Xd ?_ ?_|exact Xx|fail)
 ·rw[hb];rfl
 iterate 4
  ·rw[decide_eq_false GK];simp
 ·rw[decide_eq_true GK];simp[*]
def ai6(m:ah)(c:Ct)(hc:c.bh.length<9223372036854775808):Holds Tryz.prog 94 [.agg (an m),.agg (dv c)] [] (.lit (.bool (jv m c))) []:=by
 have Nw:=Ns m c.ee;have fR:=Nq c.cf;generalize au:jv m c=res;unfold jv at au;refine Holds.aM 81 0 [.tmp 4] Tryz.func94 ?_;repeat'(first|(refine Xq X0 ?_;intro K hK)|refine Xo X0 ?_|refine Xc (Nw) ?_|refine Xc (fR) ?_|(refine hK _ ?_;clear hK K)|(refine Xg X0 ?_ ?_<;>try intro hb)|(refine Xi ?_ ?_<;>try intro ht)|refine Xz ?_|(refine Xe ?_;first|refine aO rfl ?_|refine Xl ?_ ?_)|exact Xx|fail)
 ·rw[<- au,hb];rfl
 ·rw[<- au,decide_eq_false GK];simp
 ·rw[<- au,decide_eq_false GK];simp
 ·rw[<- au,ht];simp
 have eJ:(j8 m.rules c.ee&&decide (0<=c.most/\c.most<=1048576)&&jO c.cf)=true:=by rw[decide_eq_true GK];simp[*]
 rw[eJ,gK]at au;refine aR (λk:Nat=>(⟨ao [(2,.ptr 0 0 0),(3,.ptr 1 0 0),(29,.tree 3 (rowsOf rz c.bh)),(30,Qf c.bh.length),(31,Qf k)],[.var (an m),.var (dv c)]⟩:St)) (λk=>k<=c.bh.length/\eO m (rO c.bh k) (c.bh.drop k)=res) (λk=>c.bh.length-k) 0 ⟨aS _,au⟩ (Xv X0) ?_;rintro k⟨hk,hr⟩Ql ak aq;by_cases bg:k<c.bh.length
 ·have hd:=kd c.bh k default bg;generalize bc:c.bh.getD k default=x at *;rw[hd,UT]at hr;have fP:((k:Int)-1).toNat=k-1:=GK;generalize cg:c.bh.getD (k-1) default=y at *;repeat'(first|(refine Xr (X2 @bc @fP) ?_;intro K hK)|refine Xo (X2 @bc @fP) ?_|refine Xc (aiQ m x.cls x.opt) ?_|(refine hK _ ?_;clear hK K)|(refine Xg (X2 @bc @fP) ?_ ?_<;>try intro hb)|(refine Xi ?_ ?_<;>try intro ht)|refine Xz ?_|refine Xh ?_|(refine Xe ?_;first|refine aO rfl ?_|refine Xl ?_ ?_)|refine Xd ?_ ?_|exact Xx|fail)
  ·rw[<- hr,hb];simp
  ·rw[<- hr,decide_eq_false (p:=1<=x.wt/\x.wt<=1000) GK];simp
  ·rw[<- hr,decide_eq_false (p:=1<=x.wt/\x.wt<=1000) GK];simp
  have hw:decide (1<=x.wt/\x.wt<=1000)=true:=decide_eq_true GK;have bP:hZ m x.cls x.opt=true:=by assumption
  rw[bP,hw,gK,gK]at hr;(try(refine HI [12,22] rfl GS (by decide +kernel) ?_);intro K hK;simp(disch:=omega)only[Ac,↓Pc,simprocAttr,bc,fP,cg])
  repeat'(first|(refine Xq (X3 @bc @fP @cg) ?_;intro K hK)|refine Xo (X3 @bc @fP @cg) ?_|refine Xc (Fu _ _) ?_|(refine hK _ ?_;clear hK K)|(refine Xg (X3 @bc @fP @cg) ?_ ?_<;>try intro hb)|(refine Xi ?_ ?_<;>try intro ht)|refine Xz ?_|refine Xd ?_ ?_|exact Xx|fail)
  ·refine xW [] (Nu [kQ y.cls x.cls,kQ y.opt x.opt] GM) GS trivial ⟨aZ.cO rfl (vh _) rfl GS (x8 _),trivial⟩ rfl GM ?_;repeat'(first|(refine Xr (X3 @bc @fP @cg) ?_;intro K hK)|refine Xo (X3 @bc @fP @cg) ?_|(refine hK _ ?_;clear hK K)|(refine Xi ?_ ?_<;>try intro ht)|refine Xz ?_|refine Xh ?_|(refine Xe ?_;first|refine aO rfl ?_|refine Xl ?_ ?_)|refine Xd ?_ ?_|exact Xx|fail)
   ·rw[<- hr,decide_eq_false (p:=k=0) GK,decide_eq_false (p:=vN y x<0) (by unfold vN;omega)];simp
   ·refine ak _ (k+1) ⟨GK,?_⟩ GK (Xs false [0,1] X0);rw[yw,bc,<- hr,decide_eq_true (p:=vN y x<0) (by unfold vN;omega)];simp
  ·refine ak _ (k+1) ⟨GK,?_⟩ GK (Xs false [0,1] X0);rw[yw,bc,<- hr,decide_eq_true (p:=k=0) GK];simp
 ·repeat'(first|(refine Xr X0 ?_;intro K hK)|(refine hK _ ?_;clear hK K)|(refine Xi ?_ ?_<;>try intro ht)|refine Xz ?_|refine Xh ?_|(refine Xe ?_;first|refine aO rfl ?_|refine Xl ?_ ?_)|refine Xd ?_ ?_|exact Xx|fail)
  rw[jA GK,eO]at hr;rw[<- hr]
def ai7(m:ah)(o:cz)(ho:o.ch.length<9223372036854775808):Holds Tryz.prog 88 [.agg (cp o),.ptr 0 0 0] [.var (an m)] (.lit (.bool (!eK m.rules none o.ch))) [.var (an m)]:=by
 refine Holds.aM 8 1 [.tmp 3] Tryz.func88 ?_;refine Vd X0 (ai2 m o ho) ?_;exact Xw false [0] X0
def ai8(m:ah)(c:Ct)(hc:c.bh.length<9223372036854775808):Holds Tryz.prog 93 [.agg (dv c),.ptr 0 0 0] [.var (an m)] (.lit (.bool (!jv m c))) [.var (an m)]:=by
 refine Holds.aM 8 1 [.tmp 3] Tryz.func93 ?_;refine Vd X0 (ai6 m c hc) ?_;exact Xw false [0] X0
def Fv{α:Type}[Inhabited α]{l:List α}{f:α->Bool}{k:Nat}(hk:k<l.length):(l.drop k).any f=(f (l.getD k default)||(l.drop (k+1)).any f):=by
 rw[kd l k default hk,Kl]
def Ng(m:ah)(hm:MB m):Holds Tryz.prog 56 [.agg (an m)] [] (Qf (iR m)) []:=by
 generalize au:iR m=res;unfold iR at au;have uu:=hm.cls;have vG:=hm.ae;refine Holds.aM 52 0 [.tmp 2] Tryz.func56 ?_;repeat'(first|(refine Xq X0 ?_;intro K hK)|refine Xc (ai1 m hm) ?_|(refine hK _ ?_;clear hK K)|(refine Xi ?_ ?_<;>try intro ht)|refine Xz ?_|(refine Xe ?_;first|refine aO rfl ?_|refine Xl ?_ ?_)|fail)
 ·rw[if_pos ht]at au;rw[<- au]
 rw[if_neg (by simp[ht])]at au;have aP:m.cls.length<=24/\∀ l∈m.cls,l.length<=24:=by
  have h:=ht;unfold uD at h;rw[decide_eq_false_iff_not]at h;refine⟨GK,λl hl=>?_⟩;rcases dP 24 l.length with h1|h1
  ·exact absurd (.inr (.inl (List.any_eq_true.2 ⟨l,hl,by simpa using h1⟩))) h
  ·exact h1
 clear ht;refine aR (λk:Nat=>(⟨ao [(1,.ptr 0 0 0),(10,.tree 1 (rowsOf aW m.cls)),(11,Qf m.cls.length),(12,Qf k)],[.var (an m)]⟩:St)) (λk=>k<=m.cls.length/\(m.cls.any λl=>l.any λo=>!eK m.rules none o.ch)=(m.cls.drop k).any λl=>l.any λo=>!eK m.rules none o.ch) (λk=>m.cls.length-k) 0 ⟨aS _,rfl⟩ (Xv X0) ?_;rintro k⟨hk,hr⟩Ql ak aq;by_cases bg:k<m.cls.length
 ·have bR:=aF (d:=(default:List cz)) bg;rw[Fv bg]at hr;generalize bc:m.cls.getD k default=l at *;have pz:=aiW l 88 [.ptr 0 0 0] [.var (an m)] (λo=>!eK m.rules none o.ch) (hm.opt l bR) (λo ho=>by simpa using ai7 m o (hm.ch l bR o ho));repeat'(first|(refine Xr @bc ?_;intro K hK)|(refine hK _ ?_;clear hK K)|(refine Xi ?_ ?_<;>try intro ht)|refine Xz ?_|refine Xh ?_|refine Xd ?_ ?_|exact Xx|fail)
  refine fZ pz (aY _) ?_;repeat'(first|(refine Xr @bc ?_;intro K hK)|(refine hK _ ?_;clear hK K)|(refine Xi ?_ ?_<;>try intro ht)|refine Xz ?_|refine Xh ?_|(refine Xe ?_;first|refine aO rfl ?_|refine Xl ?_ ?_)|refine Xd ?_ ?_|exact Xx|fail)
  ·rw[ht,y7]at hr;rw[if_pos hr]at au;rw[<- au]
  ·rw[ht,Bool.false_or]at hr;exact ak _ (k+1) ⟨GK,hr⟩ GK (Xv X0)
 rw[jA GK,List.any_nil]at hr;rw[if_neg (by rw[hr];simp)]at au;((repeat'(first|refine Va X0 ?_|(refine Xi ?_ ?_<;>try intro ht)|exact Xx|fail)))
 refine aq _ _ rfl ?_;clear ak aq Ql;clear hr bg hk;repeat(refine Xu ?_)
 repeat'(first|(refine Xr X0 ?_;intro K hK)|(refine hK _ ?_;clear hK K)|refine Xz ?_|fail)
 refine aR (λk:Nat=>(⟨ao [(1,.ptr 0 0 0),(21,.tree 4 (rowsOf aI m.ae)),(22,Qf m.ae.length),(23,Qf k)],[.var (an m)]⟩:St)) (λk=>k<=m.ae.length/\fS m none m.ae=fS m (rO m.ae k) (m.ae.drop k)) (λk=>m.ae.length-k) 0 ⟨aS _,rfl⟩ (Xv X0) ?_;rintro k⟨hk,hr⟩Ql ak aq;by_cases bg:k<m.ae.length
 ·have bR:=aF (d:=(default:Pr)) bg;have hd:=kd m.ae k default bg;have fP:((k:Int)-1).toNat=k-1:=GK;generalize bc:m.ae.getD k default=p at *;rw[hd,US]at hr;generalize cg:m.ae.getD (k-1) default=q at *;repeat'(first|(refine Xq (X3 @bc @fP @cg) ?_;intro K hK)|refine Xo (X3 @bc @fP @cg) ?_|refine Xc (ai5 m p (hm.ay p bR) aP.2 aP.1) ?_|refine Xc (ai3 q p) ?_|(refine hK _ ?_;clear hK K)|(refine Xg (X3 @bc @fP @cg) ?_ ?_<;>try intro hb)|(refine Xi ?_ ?_<;>try intro ht)|refine Xz ?_|refine Xh ?_|(refine Xe ?_;first|refine aO rfl ?_|refine Xl ?_ ?_)|refine Xd ?_ ?_|exact Xx|fail)
  ·have Fw:hJ m p=false:=by assumption
   rw[Fw,qU,qU]at hr;rw[if_pos hr]at au;rw[<- au]
  ·rw[decide_eq_false (p:=k=0) GK,decide_eq_false (p:=oh q p<0) GK,Bool.or_false,Bool.and_false,qU]at hr;rw[if_pos hr]at au;rw[<- au]
  ·have Fw:hJ m p=true:=by assumption
   rw[Fw,decide_eq_true (p:=oh q p<0) GK,Bool.or_true,gK,gK]at hr;refine ak _ (k+1) ⟨GK,?_⟩ GK (Xs false [0] X0);rw[yw,bc];exact hr
  ·have Fw:hJ m p=true:=by assumption
   rw[Fw,decide_eq_true (p:=k=0) GK,y7,gK,gK]at hr;refine ak _ (k+1) ⟨GK,?_⟩ GK (Xs false [0] X0);rw[yw,bc];exact hr
 rw[jA GK,fS]at hr;rw[if_neg (by rw[hr];simp)]at au;((repeat'(first|refine Va X0 ?_|(refine Xi ?_ ?_<;>try intro ht)|exact Xx|fail)))
 refine aq _ _ rfl ?_;clear ak aq Ql;clear hr bg hk;repeat(refine Xu ?_)
 have pz:=aiY m.aD 93 [.ptr 0 0 0] [.var (an m)] (λc=>!jv m c) hm.aD (λc hc=>by simpa using ai8 m c (hm.mo c hc));repeat'(first|(refine Xr X0 ?_;intro K hK)|refine Xz ?_|fail)
 refine fZ pz (aY _) ?_;repeat'(first|(refine Xr X0 ?_;intro K hK)|(refine hK _ ?_;clear hK K)|(refine Xi ?_ ?_<;>try intro ht)|refine Xz ?_|(refine Xe ?_;first|refine aO rfl ?_|refine Xl ?_ ?_)|fail)
 ·rw[if_pos ht]at au;rw[<- au]
 ·rw[if_neg (by rw[ht];simp)]at au;rw[<- au]
end T

