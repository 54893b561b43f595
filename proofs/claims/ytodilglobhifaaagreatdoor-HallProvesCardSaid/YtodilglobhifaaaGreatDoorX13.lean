import Derived.Test.YtodilglobhifaaaGreatDoorX12
import Derived.Test.YtodilglobhifaaaGreatDoorX10
import Derived.Test.YtodilglobhifaaaGreatDoorProg
import Derived.KernelRfl
set_option linter.all false
set_option maxHeartbeats 0
set_option maxRecDepth 20000
open Int renaming natCast_add→yQ,cast_ofNat_Int→wZ
open List renaming length_append→aK,length_cons→cf,length_nil→gX,drop_eq_nil_of_le→dW
open Nat renaming zero_add→gw,zero_le→aS
open Bool renaming eq_iff_iff→ld,and_eq_true→bb,or_eq_true→lR,not_eq_true'→jd,false_eq_true→iT
open Go Go.Am Go.Proofs
namespace T
def J':ty Tryz.prog 2 = { kind:=5,size:=1,bytes:=8,elem:=0,len:=0,zero:=some [.int .i64 0],aJ:=[] }:=by kernel_rfl
def Ka:ty Tryz.prog 3 = { kind:=5,size:=1,bytes:=8,elem:=0,len:=0,zero:=some [.int .i64 0],aJ:=[] }:=by kernel_rfl
def Kb:ty Tryz.prog 4 = { kind:=6,size:=1,bytes:=1,elem:=0,len:=0,zero:=some [.bool false],aJ:=[] }:=by kernel_rfl
def Kd:ty Tryz.prog 5 = { kind:=5,size:=1,bytes:=1,elem:=0,len:=0,zero:=some [.int .u8 0],aJ:=[] }:=by kernel_rfl
def Ke:ty Tryz.prog 6 = { kind:=5,size:=1,bytes:=1,elem:=0,len:=0,zero:=some [.int .u8 0],aJ:=[] }:=by kernel_rfl
def Kf:ty Tryz.prog 7 = { kind:=3,size:=4,bytes:=24,elem:=0,len:=0,zero:=some [.int .i64 0,.int .i64 0,.bool false,.int .u8 0],aJ:=[(0,2,1),(1,3,1),(2,4,1),(3,6,1)] }:=by kernel_rfl
def Kg:ty Tryz.prog 8 = { kind:=3,size:=4,bytes:=24,elem:=0,len:=0,zero:=some [.int .i64 0,.int .i64 0,.bool false,.int .u8 0],aJ:=[(0,2,1),(1,3,1),(2,4,1),(3,6,1)] }:=by kernel_rfl
def Kh:ty Tryz.prog 9 = { kind:=4,size:=1,bytes:=16,elem:=0,len:=0,zero:=some [.string ⟨#[]⟩],aJ:=[] }:=by kernel_rfl
def Ki:ty Tryz.prog 10 = { kind:=4,size:=1,bytes:=16,elem:=0,len:=0,zero:=some [.string ⟨#[]⟩],aJ:=[] }:=by kernel_rfl
def Kj:ty Tryz.prog 11 = { kind:=4,size:=1,bytes:=16,elem:=0,len:=0,zero:=some [.string ⟨#[]⟩],aJ:=[] }:=by kernel_rfl
def Kk:ty Tryz.prog 12 = { kind:=5,size:=1,bytes:=8,elem:=0,len:=0,zero:=some [.int .u64 0],aJ:=[] }:=by kernel_rfl
def Kl:ty Tryz.prog 13 = { kind:=3,size:=2,bytes:=24,elem:=0,len:=0,zero:=some [.string ⟨#[]⟩,.int .u64 0],aJ:=[(0,9,1),(1,12,1)] }:=by kernel_rfl
def Km:ty Tryz.prog 14 = { kind:=3,size:=2,bytes:=24,elem:=0,len:=0,zero:=some [.string ⟨#[]⟩,.int .u64 0],aJ:=[(0,9,1),(1,12,1)] }:=by kernel_rfl
def Kn:ty Tryz.prog 15 = { kind:=7,size:=1,bytes:=8,elem:=221,len:=0,zero:=some [.pointer none],aJ:=[] }:=by kernel_rfl
def Ko:ty Tryz.prog 16 = { kind:=7,size:=1,bytes:=8,elem:=224,len:=0,zero:=some [.pointer none],aJ:=[] }:=by kernel_rfl
def Kp:ty Tryz.prog 17 = { kind:=7,size:=1,bytes:=8,elem:=232,len:=0,zero:=some [.pointer none],aJ:=[] }:=by kernel_rfl
def Kq:ty Tryz.prog 18 = { kind:=3,size:=1,bytes:=8,elem:=0,len:=0,zero:=some [.pointer none],aJ:=[(0,17,1)] }:=by kernel_rfl
def Kr:ty Tryz.prog 19 = { kind:=3,size:=1,bytes:=8,elem:=0,len:=0,zero:=some [.pointer none],aJ:=[(0,17,1)] }:=by kernel_rfl
def Ks:ty Tryz.prog 21 = { kind:=5,size:=1,bytes:=4,elem:=0,len:=0,zero:=some [.int .i32 0],aJ:=[] }:=by kernel_rfl
def Kt:ty Tryz.prog 22 = { kind:=1,size:=1,bytes:=24,elem:=3,len:=0,zero:=some [.slice none 0 0],aJ:=[] }:=by kernel_rfl
def Ku:ty Tryz.prog 23 = { kind:=1,size:=1,bytes:=24,elem:=82,len:=0,zero:=some [.slice none 0 0],aJ:=[] }:=by kernel_rfl
def Kv:ty Tryz.prog 26 = { kind:=7,size:=1,bytes:=8,elem:=60,len:=0,zero:=some [.pointer none],aJ:=[] }:=by kernel_rfl
def Kw:ty Tryz.prog 28 = { kind:=1,size:=1,bytes:=24,elem:=80,len:=0,zero:=some [.slice none 0 0],aJ:=[] }:=by kernel_rfl
def Kx:ty Tryz.prog 29 = { kind:=1,size:=1,bytes:=24,elem:=65,len:=0,zero:=some [.slice none 0 0],aJ:=[] }:=by kernel_rfl
def Ky:ty Tryz.prog 30 = { kind:=1,size:=1,bytes:=24,elem:=68,len:=0,zero:=some [.slice none 0 0],aJ:=[] }:=by kernel_rfl
def Kz:ty Tryz.prog 31 = { kind:=3,size:=4,bytes:=80,elem:=0,len:=0,zero:=some [.slice none 0 0,.slice none 0 0,.slice none 0 0,.int .i64 0],aJ:=[(0,28,1),(1,29,1),(2,30,1),(3,3,1)] }:=by kernel_rfl
def KA:ty Tryz.prog 32 = { kind:=3,size:=4,bytes:=80,elem:=0,len:=0,zero:=some [.slice none 0 0,.slice none 0 0,.slice none 0 0,.int .i64 0],aJ:=[(0,28,1),(1,29,1),(2,30,1),(3,3,1)] }:=by kernel_rfl
def KB:ty Tryz.prog 38 = { kind:=1,size:=1,bytes:=24,elem:=23,len:=0,zero:=some [.slice none 0 0],aJ:=[] }:=by kernel_rfl
def KC:ty Tryz.prog 39 = { kind:=1,size:=1,bytes:=24,elem:=90,len:=0,zero:=some [.slice none 0 0],aJ:=[] }:=by kernel_rfl
def KD:ty Tryz.prog 47 = { kind:=1,size:=1,bytes:=24,elem:=154,len:=0,zero:=some [.slice none 0 0],aJ:=[] }:=by kernel_rfl
def KE:ty Tryz.prog 48 = { kind:=3,size:=5,bytes:=104,elem:=0,len:=0,zero:=some [.int .i64 0,.slice none 0 0,.slice none 0 0,.slice none 0 0,.slice none 0 0],aJ:=[(0,3,1),(1,22,1),(2,47,1),(3,22,1),(4,39,1)] }:=by kernel_rfl
def KF:ty Tryz.prog 49 = { kind:=3,size:=5,bytes:=104,elem:=0,len:=0,zero:=some [.int .i64 0,.slice none 0 0,.slice none 0 0,.slice none 0 0,.slice none 0 0],aJ:=[(0,3,1),(1,22,1),(2,47,1),(3,22,1),(4,39,1)] }:=by kernel_rfl
def KG:ty Tryz.prog 50 = { kind:=1,size:=1,bytes:=24,elem:=49,len:=0,zero:=some [.slice none 0 0],aJ:=[] }:=by kernel_rfl
def KH:ty Tryz.prog 51 = { kind:=3,size:=1,bytes:=24,elem:=0,len:=0,zero:=some [.slice none 0 0],aJ:=[(0,50,1)] }:=by kernel_rfl
def KI:ty Tryz.prog 52 = { kind:=3,size:=1,bytes:=24,elem:=0,len:=0,zero:=some [.slice none 0 0],aJ:=[(0,50,1)] }:=by kernel_rfl
def KJ:ty Tryz.prog 53 = { kind:=5,size:=1,bytes:=8,elem:=0,len:=0,zero:=some [.int .i64 0],aJ:=[] }:=by kernel_rfl
def KK:ty Tryz.prog 56 = { kind:=1,size:=1,bytes:=24,elem:=22,len:=0,zero:=some [.slice none 0 0],aJ:=[] }:=by kernel_rfl
def KL:ty Tryz.prog 59 = { kind:=3,size:=2,bytes:=32,elem:=0,len:=0,zero:=some [.slice none 0 0,.int .i64 0],aJ:=[(0,22,1),(1,3,1)] }:=by kernel_rfl
def KM:ty Tryz.prog 60 = { kind:=3,size:=2,bytes:=32,elem:=0,len:=0,zero:=some [.slice none 0 0,.int .i64 0],aJ:=[(0,22,1),(1,3,1)] }:=by kernel_rfl
def KN:ty Tryz.prog 64 = { kind:=3,size:=4,bytes:=48,elem:=0,len:=0,zero:=some [.int .i64 0,.int .i64 0,.int .i64 0,.slice none 0 0],aJ:=[(0,3,1),(1,3,1),(2,3,1),(3,22,1)] }:=by kernel_rfl
def KO:ty Tryz.prog 65 = { kind:=3,size:=4,bytes:=48,elem:=0,len:=0,zero:=some [.int .i64 0,.int .i64 0,.int .i64 0,.slice none 0 0],aJ:=[(0,3,1),(1,3,1),(2,3,1),(3,22,1)] }:=by kernel_rfl
def KP:ty Tryz.prog 66 = { kind:=1,size:=1,bytes:=24,elem:=70,len:=0,zero:=some [.slice none 0 0],aJ:=[] }:=by kernel_rfl
def KQ:ty Tryz.prog 67 = { kind:=3,size:=4,bytes:=48,elem:=0,len:=0,zero:=some [.int .i64 0,.slice none 0 0,.int .i64 0,.int .i64 0],aJ:=[(0,3,1),(1,66,1),(2,3,1),(3,3,1)] }:=by kernel_rfl
def KR:ty Tryz.prog 68 = { kind:=3,size:=4,bytes:=48,elem:=0,len:=0,zero:=some [.int .i64 0,.slice none 0 0,.int .i64 0,.int .i64 0],aJ:=[(0,3,1),(1,66,1),(2,3,1),(3,3,1)] }:=by kernel_rfl
def KS:ty Tryz.prog 69 = { kind:=3,size:=3,bytes:=24,elem:=0,len:=0,zero:=some [.int .i64 0,.int .i64 0,.int .i64 0],aJ:=[(0,3,1),(1,3,1),(2,3,1)] }:=by kernel_rfl
def KT:ty Tryz.prog 70 = { kind:=3,size:=3,bytes:=24,elem:=0,len:=0,zero:=some [.int .i64 0,.int .i64 0,.int .i64 0],aJ:=[(0,3,1),(1,3,1),(2,3,1)] }:=by kernel_rfl
def KU:ty Tryz.prog 71 = { kind:=3,size:=2,bytes:=16,elem:=0,len:=0,zero:=some [.int .i64 0,.int .i64 0],aJ:=[(0,3,1),(1,3,1)] }:=by kernel_rfl
def KV:ty Tryz.prog 72 = { kind:=3,size:=2,bytes:=16,elem:=0,len:=0,zero:=some [.int .i64 0,.int .i64 0],aJ:=[(0,3,1),(1,3,1)] }:=by kernel_rfl
def KW:ty Tryz.prog 73 = { kind:=1,size:=1,bytes:=24,elem:=72,len:=0,zero:=some [.slice none 0 0],aJ:=[] }:=by kernel_rfl
def KX:ty Tryz.prog 74 = { kind:=3,size:=4,bytes:=32,elem:=0,len:=0,zero:=some [.int .i64 0,.int .i64 0,.int .i64 0,.int .i64 0],aJ:=[(0,3,1),(1,3,1),(2,3,1),(3,3,1)] }:=by kernel_rfl
def KY:ty Tryz.prog 75 = { kind:=3,size:=4,bytes:=32,elem:=0,len:=0,zero:=some [.int .i64 0,.int .i64 0,.int .i64 0,.int .i64 0],aJ:=[(0,3,1),(1,3,1),(2,3,1),(3,3,1)] }:=by kernel_rfl
def KZ:ty Tryz.prog 76 = { kind:=3,size:=5,bytes:=40,elem:=0,len:=0,zero:=some [.int .i64 0,.int .i64 0,.int .i64 0,.int .i64 0,.int .i64 0],aJ:=[(0,75,4),(4,3,1)] }:=by kernel_rfl
def K3:ty Tryz.prog 77 = { kind:=3,size:=5,bytes:=40,elem:=0,len:=0,zero:=some [.int .i64 0,.int .i64 0,.int .i64 0,.int .i64 0,.int .i64 0],aJ:=[(0,75,4),(4,3,1)] }:=by kernel_rfl
def K4:ty Tryz.prog 78 = { kind:=3,size:=6,bytes:=64,elem:=0,len:=0,zero:=some [.int .i64 0,.int .i64 0,.int .i64 0,.int .i64 0,.int .i64 0,.slice none 0 0],aJ:=[(0,77,5),(5,73,1)] }:=by kernel_rfl
def K5:ty Tryz.prog 79 = { kind:=3,size:=6,bytes:=64,elem:=0,len:=0,zero:=some [.int .i64 0,.int .i64 0,.int .i64 0,.int .i64 0,.int .i64 0,.slice none 0 0],aJ:=[(0,77,5),(5,73,1)] }:=by kernel_rfl
def K6:ty Tryz.prog 80 = { kind:=1,size:=1,bytes:=24,elem:=79,len:=0,zero:=some [.slice none 0 0],aJ:=[] }:=by kernel_rfl
def K7:ty Tryz.prog 82 = { kind:=1,size:=1,bytes:=24,elem:=4,len:=0,zero:=some [.slice none 0 0],aJ:=[] }:=by kernel_rfl
def K8:ty Tryz.prog 84 = { kind:=7,size:=1,bytes:=8,elem:=87,len:=0,zero:=some [.pointer none],aJ:=[] }:=by kernel_rfl
def K9:ty Tryz.prog 85 = { kind:=8,size:=1,bytes:=8,elem:=29,len:=0,zero:=some [.map none],aJ:=[] }:=by kernel_rfl
def K':ty Tryz.prog 86 = { kind:=3,size:=5,bytes:=88,elem:=0,len:=0,zero:=some [.slice none 0 0,.slice none 0 0,.slice none 0 0,.int .i64 0,.map none],aJ:=[(0,32,4),(4,85,1)] }:=by kernel_rfl
def La:ty Tryz.prog 87 = { kind:=3,size:=5,bytes:=88,elem:=0,len:=0,zero:=some [.slice none 0 0,.slice none 0 0,.slice none 0 0,.int .i64 0,.map none],aJ:=[(0,32,4),(4,85,1)] }:=by kernel_rfl
def Lb:ty Tryz.prog 88 = { kind:=2,size:=2,bytes:=16,elem:=3,len:=2,zero:=some [.int .i64 0,.int .i64 0],aJ:=[] }:=by kernel_rfl
def Le:ty Tryz.prog 90 = { kind:=1,size:=1,bytes:=24,elem:=92,len:=0,zero:=some [.slice none 0 0],aJ:=[] }:=by kernel_rfl
def Lf:ty Tryz.prog 91 = { kind:=3,size:=2,bytes:=16,elem:=0,len:=0,zero:=some [.int .i64 0,.int .i64 0],aJ:=[(0,3,1),(1,3,1)] }:=by kernel_rfl
def Lh:ty Tryz.prog 92 = { kind:=3,size:=2,bytes:=16,elem:=0,len:=0,zero:=some [.int .i64 0,.int .i64 0],aJ:=[(0,3,1),(1,3,1)] }:=by kernel_rfl
def Li:ty Tryz.prog 103 = { kind:=3,size:=2,bytes:=32,elem:=0,len:=0,zero:=some [.int .i64 0,.slice none 0 0],aJ:=[(0,3,1),(1,23,1)] }:=by kernel_rfl
def Lj:ty Tryz.prog 104 = { kind:=3,size:=2,bytes:=32,elem:=0,len:=0,zero:=some [.int .i64 0,.slice none 0 0],aJ:=[(0,3,1),(1,23,1)] }:=by kernel_rfl
def Lk:ty Tryz.prog 129 = { kind:=8,size:=1,bytes:=8,elem:=90,len:=0,zero:=some [.map none],aJ:=[] }:=by kernel_rfl
def Ll:ty Tryz.prog 130 = { kind:=1,size:=1,bytes:=24,elem:=133,len:=0,zero:=some [.slice none 0 0],aJ:=[] }:=by kernel_rfl
def Lm:ty Tryz.prog 132 = { kind:=5,size:=1,bytes:=8,elem:=0,len:=0,zero:=some [.int .u64 0],aJ:=[] }:=by kernel_rfl
def Ln:ty Tryz.prog 133 = { kind:=2,size:=4,bytes:=32,elem:=3,len:=4,zero:=some [.int .i64 0,.int .i64 0,.int .i64 0,.int .i64 0],aJ:=[] }:=by kernel_rfl
def Lo:ty Tryz.prog 143 = { kind:=3,size:=3,bytes:=56,elem:=0,len:=0,zero:=some [.int .i64 0,.slice none 0 0,.slice none 0 0],aJ:=[(0,104,2),(2,22,1)] }:=by kernel_rfl
def Lp:ty Tryz.prog 144 = { kind:=3,size:=3,bytes:=56,elem:=0,len:=0,zero:=some [.int .i64 0,.slice none 0 0,.slice none 0 0],aJ:=[(0,104,2),(2,22,1)] }:=by kernel_rfl
def Lr:ty Tryz.prog 145 = { kind:=1,size:=1,bytes:=24,elem:=144,len:=0,zero:=some [.slice none 0 0],aJ:=[] }:=by kernel_rfl
def Ls:ty Tryz.prog 151 = { kind:=7,size:=1,bytes:=8,elem:=182,len:=0,zero:=some [.pointer none],aJ:=[] }:=by kernel_rfl
def Lt:ty Tryz.prog 153 = { kind:=3,size:=4,bytes:=32,elem:=0,len:=0,zero:=some [.int .i64 0,.int .i64 0,.int .i64 0,.int .i64 0],aJ:=[(0,3,1),(1,3,1),(2,3,1),(3,3,1)] }:=by kernel_rfl
def Lu:ty Tryz.prog 154 = { kind:=3,size:=4,bytes:=32,elem:=0,len:=0,zero:=some [.int .i64 0,.int .i64 0,.int .i64 0,.int .i64 0],aJ:=[(0,3,1),(1,3,1),(2,3,1),(3,3,1)] }:=by kernel_rfl
def Lv:ty Tryz.prog 165 = { kind:=5,size:=1,bytes:=4,elem:=0,len:=0,zero:=some [.int .u32 0],aJ:=[] }:=by kernel_rfl
def Lw:ty Tryz.prog 167 = { kind:=5,size:=1,bytes:=8,elem:=0,len:=0,zero:=some [.int .u64 0],aJ:=[] }:=by kernel_rfl
def Lx:ty Tryz.prog 169 = { kind:=5,size:=1,bytes:=8,elem:=0,len:=0,zero:=some [.int .i64 0],aJ:=[] }:=by kernel_rfl
def Ly:ty Tryz.prog 180 = { kind:=1,size:=1,bytes:=24,elem:=183,len:=0,zero:=some [.slice none 0 0],aJ:=[] }:=by kernel_rfl
def Lz:ty Tryz.prog 181 = { kind:=3,size:=6,bytes:=128,elem:=0,len:=0,zero:=some [.slice none 0 0,.slice none 0 0,.slice none 0 0,.int .i64 0,.slice none 0 0,.slice none 0 0],aJ:=[(0,32,4),(4,180,1),(5,180,1)] }:=by kernel_rfl
def LA:ty Tryz.prog 182 = { kind:=3,size:=6,bytes:=128,elem:=0,len:=0,zero:=some [.slice none 0 0,.slice none 0 0,.slice none 0 0,.int .i64 0,.slice none 0 0,.slice none 0 0],aJ:=[(0,32,4),(4,180,1),(5,180,1)] }:=by kernel_rfl
def LD:ty Tryz.prog 183 = { kind:=1,size:=1,bytes:=24,elem:=185,len:=0,zero:=some [.slice none 0 0],aJ:=[] }:=by kernel_rfl
def LF:ty Tryz.prog 184 = { kind:=3,size:=2,bytes:=16,elem:=0,len:=0,zero:=some [.int .i64 0,.bool false],aJ:=[(0,3,1),(1,4,1)] }:=by kernel_rfl
def LH:ty Tryz.prog 185 = { kind:=3,size:=2,bytes:=16,elem:=0,len:=0,zero:=some [.int .i64 0,.bool false],aJ:=[(0,3,1),(1,4,1)] }:=by kernel_rfl
def LI:ty Tryz.prog 194 = { kind:=2,size:=32,bytes:=32,elem:=5,len:=32,zero:=some [.int .u8 0,.int .u8 0,.int .u8 0,.int .u8 0,.int .u8 0,.int .u8 0,.int .u8 0,.int .u8 0,.int .u8 0,.int .u8 0,.int .u8 0,.int .u8 0,.int .u8 0,.int .u8 0,.int .u8 0,.int .u8 0,.int .u8 0,.int .u8 0,.int .u8 0,.int .u8 0,.int .u8 0,.int .u8 0,.int .u8 0,.int .u8 0,.int .u8 0,.int .u8 0,.int .u8 0,.int .u8 0,.int .u8 0,.int .u8 0,.int .u8 0,.int .u8 0],aJ:=[] }:=by kernel_rfl
def LJ:ty Tryz.prog 195 = { kind:=2,size:=64,bytes:=64,elem:=5,len:=64,zero:=some [.int .u8 0,.int .u8 0,.int .u8 0,.int .u8 0,.int .u8 0,.int .u8 0,.int .u8 0,.int .u8 0,.int .u8 0,.int .u8 0,.int .u8 0,.int .u8 0,.int .u8 0,.int .u8 0,.int .u8 0,.int .u8 0,.int .u8 0,.int .u8 0,.int .u8 0,.int .u8 0,.int .u8 0,.int .u8 0,.int .u8 0,.int .u8 0,.int .u8 0,.int .u8 0,.int .u8 0,.int .u8 0,.int .u8 0,.int .u8 0,.int .u8 0,.int .u8 0,.int .u8 0,.int .u8 0,.int .u8 0,.int .u8 0,.int .u8 0,.int .u8 0,.int .u8 0,.int .u8 0,.int .u8 0,.int .u8 0,.int .u8 0,.int .u8 0,.int .u8 0,.int .u8 0,.int .u8 0,.int .u8 0,.int .u8 0,.int .u8 0,.int .u8 0,.int .u8 0,.int .u8 0,.int .u8 0,.int .u8 0,.int .u8 0,.int .u8 0,.int .u8 0,.int .u8 0,.int .u8 0,.int .u8 0,.int .u8 0,.int .u8 0,.int .u8 0],aJ:=[] }:=by kernel_rfl
def LK:ty Tryz.prog 197 = { kind:=5,size:=1,bytes:=8,elem:=0,len:=0,zero:=some [.int .u64 0],aJ:=[] }:=by kernel_rfl
def LL:ty Tryz.prog 201 = { kind:=7,size:=1,bytes:=8,elem:=3,len:=0,zero:=some [.pointer none],aJ:=[] }:=by kernel_rfl
def LM:ty Tryz.prog 207 = { kind:=7,size:=1,bytes:=8,elem:=185,len:=0,zero:=some [.pointer none],aJ:=[] }:=by kernel_rfl
def LN:ty Tryz.prog 208 = { kind:=8,size:=1,bytes:=8,elem:=209,len:=0,zero:=some [.map none],aJ:=[] }:=by kernel_rfl
def LP:ty Tryz.prog 209 = { kind:=8,size:=1,bytes:=8,elem:=3,len:=0,zero:=some [.map none],aJ:=[] }:=by kernel_rfl
def LQ:ty Tryz.prog 211 = { kind:=7,size:=1,bytes:=8,elem:=197,len:=0,zero:=some [.pointer none],aJ:=[] }:=by kernel_rfl
def LS:ty Tryz.prog 220 = { kind:=3,size:=4,bytes:=40,elem:=0,len:=0,zero:=some [.pointer none,.pointer none,.pointer none,.string ⟨#[]⟩],aJ:=[(0,17,1),(1,17,1),(2,17,1),(3,9,1)] }:=by kernel_rfl
def LU:ty Tryz.prog 221 = { kind:=3,size:=4,bytes:=40,elem:=0,len:=0,zero:=some [.pointer none,.pointer none,.pointer none,.string ⟨#[]⟩],aJ:=[(0,17,1),(1,17,1),(2,17,1),(3,9,1)] }:=by kernel_rfl
def LV:ty Tryz.prog 222 = { kind:=2,size:=0,bytes:=0,elem:=16,len:=0,zero:=some [],aJ:=[] }:=by kernel_rfl
def LW:ty Tryz.prog 223 = { kind:=3,size:=0,bytes:=0,elem:=0,len:=0,zero:=some [],aJ:=[(0,222,0)] }:=by kernel_rfl
def LX:ty Tryz.prog 224 = { kind:=3,size:=0,bytes:=0,elem:=0,len:=0,zero:=some [],aJ:=[(0,222,0)] }:=by kernel_rfl
def LY:ty Tryz.prog 225 = { kind:=5,size:=1,bytes:=1,elem:=0,len:=0,zero:=some [.int .u8 0],aJ:=[] }:=by kernel_rfl
def LZ:ty Tryz.prog 226 = { kind:=5,size:=1,bytes:=1,elem:=0,len:=0,zero:=some [.int .u8 0],aJ:=[] }:=by kernel_rfl
def L0:ty Tryz.prog 228 = { kind:=7,size:=1,bytes:=8,elem:=5,len:=0,zero:=some [.pointer none],aJ:=[] }:=by kernel_rfl
def L1:ty Tryz.prog 229 = { kind:=5,size:=1,bytes:=4,elem:=0,len:=0,zero:=some [.int .i32 0],aJ:=[] }:=by kernel_rfl
def L3:ty Tryz.prog 230 = { kind:=5,size:=1,bytes:=4,elem:=0,len:=0,zero:=some [.int .i32 0],aJ:=[] }:=by kernel_rfl
def L4:ty Tryz.prog 231 = { kind:=3,size:=11,bytes:=48,elem:=0,len:=0,zero:=some [.int .u64 0,.int .u64 0,.int .u32 0,.int .u8 0,.int .u8 0,.int .u8 0,.int .u8 0,.nilFunc,.pointer none,.int .i32 0,.int .i32 0],aJ:=[(0,12,1),(1,12,1),(2,165,1),(3,225,1),(4,5,1),(5,5,1),(6,226,1),(7,227,1),(8,228,1),(9,229,1),(10,230,1)] }:=by kernel_rfl
def L5:ty Tryz.prog 232 = { kind:=3,size:=11,bytes:=48,elem:=0,len:=0,zero:=some [.int .u64 0,.int .u64 0,.int .u32 0,.int .u8 0,.int .u8 0,.int .u8 0,.int .u8 0,.nilFunc,.pointer none,.int .i32 0,.int .i32 0],aJ:=[(0,12,1),(1,12,1),(2,165,1),(3,225,1),(4,5,1),(5,5,1),(6,226,1),(7,227,1),(8,228,1),(9,229,1),(10,230,1)] }:=by kernel_rfl
def L6:Tryz.prog.underlying 2=some (.int .i64):=by kernel_rfl
def L7:Tryz.prog.underlying 3=some (.int .i64):=by kernel_rfl
def L8:Tryz.prog.underlying 5=some (.int .u8):=by kernel_rfl
def L9:Tryz.prog.underlying 6=some (.int .u8):=by kernel_rfl
def Ma:Tryz.prog.underlying 12=some (.int .u64):=by kernel_rfl
def Mb:Tryz.prog.underlying 21=some (.int .i32):=by kernel_rfl
def Md:Tryz.prog.underlying 53=some (.int .i64):=by kernel_rfl
def Me:Tryz.prog.underlying 132=some (.int .u64):=by kernel_rfl
def Mf:Tryz.prog.underlying 165=some (.int .u32):=by kernel_rfl
def Mg:Tryz.prog.underlying 167=some (.int .u64):=by kernel_rfl
def Mh:Tryz.prog.underlying 169=some (.int .i64):=by kernel_rfl
def Mi:Tryz.prog.underlying 197=some (.int .u64):=by kernel_rfl
def Mj:Tryz.prog.underlying 225=some (.int .u8):=by kernel_rfl
def Mk:Tryz.prog.underlying 226=some (.int .u8):=by kernel_rfl
def Mm:Tryz.prog.underlying 229=some (.int .i32):=by kernel_rfl
def Mn:Tryz.prog.underlying 230=some (.int .i32):=by kernel_rfl
def Mo:zeroV Tryz.prog 29=some (.slice none 0 0):=by kernel_rfl
def Mp:vw Tryz.prog 85=2:=by kernel_rfl
def Mq:zeroV Tryz.prog 90=some (.slice none 0 0):=by kernel_rfl
def Mr:vw Tryz.prog 129=4:=by kernel_rfl
def Ms:zeroV Tryz.prog 209=some (.map none):=by kernel_rfl
def Mt:vw Tryz.prog 208=0:=by kernel_rfl
def Mu:g8 Tryz.prog 208 0:=g8.int (kt:=3) (et:=209) (by kernel_rfl) (by kernel_rfl)
def Mw:zeroV Tryz.prog 3=some (.int .i64 0):=by kernel_rfl
def Mx:vw Tryz.prog 209=0:=by kernel_rfl
def My:g8 Tryz.prog 209 0:=g8.int (kt:=3) (et:=3) (by kernel_rfl) (by kernel_rfl)
def Mz:vx Tryz.prog 9=false:=by kernel_rfl
def MA:Tryz.prog.underlying 9=some .string:=by kernel_rfl
def rf:type_of% J'/\type_of% Ka/\type_of% Kb/\type_of% Kd/\type_of% Ke/\type_of% Kf/\type_of% Kg/\type_of% Kh/\type_of% Ki/\type_of% Kj/\type_of% Kk/\type_of% Kl/\type_of% Km/\type_of% Kn/\type_of% Ko/\type_of% Kp/\type_of% Kq/\type_of% Kr/\type_of% Ks/\type_of% Kt/\type_of% Ku/\type_of% Kv/\type_of% Kw/\type_of% Kx/\type_of% Ky/\type_of% Kz/\type_of% KA/\type_of% KB/\type_of% KC/\type_of% KD/\type_of% KE/\type_of% KF/\type_of% KG/\type_of% KH/\type_of% KI/\type_of% KJ/\type_of% KK/\type_of% KL/\type_of% KM/\type_of% KN/\type_of% KO/\type_of% KP/\type_of% KQ/\type_of% KR/\type_of% KS/\type_of% KT/\type_of% KU/\type_of% KV/\type_of% KW/\type_of% KX/\type_of% KY/\type_of% KZ/\type_of% K3/\type_of% K4/\type_of% K5/\type_of% K6/\type_of% K7/\type_of% K8/\type_of% K9/\type_of% K'/\type_of% La/\type_of% Lb/\type_of% Le/\type_of% Lf/\type_of% Lh/\type_of% Li/\type_of% Lj/\type_of% Lk/\type_of% Ll/\type_of% Lm/\type_of% Ln/\type_of% Lo/\type_of% Lp/\type_of% Lr/\type_of% Ls/\type_of% Lt/\type_of% Lu/\type_of% Lv/\type_of% Lw/\type_of% Lx/\type_of% Ly/\type_of% Lz/\type_of% LA/\type_of% LD/\type_of% LF/\type_of% LH/\type_of% LI/\type_of% LJ/\type_of% LK/\type_of% LL/\type_of% LM/\type_of% LN/\type_of% LP/\type_of% LQ/\type_of% LS/\type_of% LU/\type_of% LV/\type_of% LW/\type_of% LX/\type_of% LY/\type_of% LZ/\type_of% L0/\type_of% L1/\type_of% L3/\type_of% L4/\type_of% L5/\type_of% L6/\type_of% L7/\type_of% L8/\type_of% L9/\type_of% Ma/\type_of% Mb/\type_of% Md/\type_of% Me/\type_of% Mf/\type_of% Mg/\type_of% Mh/\type_of% Mi/\type_of% Mj/\type_of% Mk/\type_of% Mm/\type_of% Mn/\type_of% Mo/\type_of% Mp/\type_of% Mq/\type_of% Mr/\type_of% Ms/\type_of% Mt/\type_of% Mu/\type_of% Mw/\type_of% Mx/\type_of% My/\type_of% Mz/\type_of% MA :=
 ⟨J',Ka,Kb,Kd,Ke,Kf,Kg,Kh,Ki,Kj,Kk,Kl,Km,Kn,Ko,Kp,Kq,Kr,Ks,Kt,Ku,Kv,Kw,Kx,Ky,Kz,KA,KB,KC,KD,KE,KF,KG,KH,KI,KJ,KK,KL,KM,KN,KO,KP,KQ,KR,KS,KT,KU,KV,KW,KX,KY,KZ,K3,K4,K5,K6,K7,K8,K9,K',La,Lb,Le,Lf,Lh,Li,Lj,Lk,Ll,Lm,Ln,Lo,Lp,Lr,Ls,Lt,Lu,Lv,Lw,Lx,Ly,Lz,LA,LD,LF,LH,LI,LJ,LK,LL,LM,LN,LP,LQ,LS,LU,LV,LW,LX,LY,LZ,L0,L1,L3,L4,L5,L6,L7,L8,L9,Ma,Mb,Md,Me,Mf,Mg,Mh,Mi,Mj,Mk,Mm,Mn,Mo,Mp,Mq,Mr,Ms,Mt,Mu,Mw,Mx,My,Mz,MA⟩
def Ac:=aau @rf @Bc @Sc @Rc
def Kc:=aau @rh @Lc @rf @Rc
def Oc:=aaC @mJ.eq_1 @mJ.eq_2 @or_true @false_or @Bc @Sc @Rc
def Hr:=aaK @pd.eq_1 @pd.eq_2 @Bc @Rc @rh @Lc @rf (aaq @and_true @yQ @wZ)
def Tc:=aaK @Has.eq_1 @Has.eq_2 @aK.{0} @cf.{0} @gX.{0} @gw @rh (aaB @Lc @rf @Rc @and_true @yQ @wZ)
def Qc:=aaK @xl.eq_1 @xl.eq_2 @fc.eq_1 @fc.eq_2 @fc.eq_3 @eM.eq_1 @MC (aaB @MD @gX.{0} @rh @Lc @rf @Rc)
inductive Sq(P:Program)(N n0:Nat)(y:Code)(Q:Exit->St->Prop):Exit->St->Prop
 |n (s:St) (h:W P N n0 y Q s):Sq P N n0 y Q .normal s
 |e (e:Exit) (s:St) (hi:p6 e=false) (h:Q e s):Sq P N n0 y Q e s
inductive Bq(id:Nat)(Q:Exit->St->Prop):Exit->St->Prop
 |n (s:St) (h:Q .normal s):Bq id Q .normal s
 |x (s:St) (h:Q .normal s):Bq id Q (.exit id) s
 |e (e:Exit) (s:St) (hi:vy id e=false) (h:Q e s):Bq id Q e s
section
variable {P:Program} {N n0:Nat} {σ:St} {Q:Exit->St->Prop}
def Xk{x y:Code}(h:W P N n0 x (Sq P N n0 y Q) σ):W P N n0 (.seq x y) Q σ:=Wk λ_ h1 h2=>ME h λ_ _ h=>by
 cases h with
 |n _ h=>exact h1 _ h
 |e _ _ hi h=>exact h2 _ _ hi h
def Xb{id:Nat}{c:Code}(h:W P N n0 c (Bq id Q) σ):W P N n0 (.block id c) Q σ:=Wb λ_ h1 h2 h3=>ME h λ_ _ h=>by
 cases h with
 |n _ h=>exact h1 _ h
 |x _ h=>exact h2 _ h
 |e _ _ hi h=>exact h3 _ _ hi h
def hn{y:Code}(s:St)(h:W P N n0 y Q s):Sq P N n0 y Q .normal s:=.n s h
def he{y:Code}(e:Exit)(s:St)(hi:p6 e=false)(h:Q e s):Sq P N n0 y Q e s:=.e e s hi h
def iU{id:Nat}(s:St)(h:Q .normal s):Bq id Q .normal s:=.n s h
def j7{id:Nat}(s:St)(h:Q .normal s):Bq id Q (.exit id) s:=.x s h
def mF{id:Nat}(e:Exit)(s:St)(hi:vy id e=false)(h:Q e s):Bq id Q e s:=.e e s hi h
def zi{x y:Code}(h:∀ Q':Exit->St->Prop,(∀ s,W P N n0 y Q s->Q' .normal s)->(∀ e s,p6 e=false->Q e s->Q' e s)->W P N n0 x Q' σ):W P N n0 x (Sq P N n0 y Q) σ:=h _ .n .e
def V0{x y z:Code}(h:∀ Q':Exit->St->Prop,(∀ s,W P N n0 y Q s->Q' .normal s)->(∀ e s,p6 e=false->Q e s->Q' e s)->W P N n0 x (Sq P N n0 z Q') σ):W P N n0 x (Sq P N n0 z (Sq P N n0 y Q)) σ:=h _ .n .e
def MF{x y z:Code}{id:Nat}(h:∀ Q':Exit->St->Prop,(∀ s,W P N n0 y Q s->Q' .normal s)->(∀ e s,p6 e=false->Q e s->Q' e s)->W P N n0 x (Sq P N n0 z (Bq id Q')) σ):W P N n0 x (Sq P N n0 z (Bq id (Sq P N n0 y Q))) σ:=h _ .n .e
end
def X0:True:=trivial
def X2{a b:Prop}(x:a)(y:b):a/\b:=⟨x,y⟩
def X3{a b c:Prop}(x:a)(y:b)(z:c):a/\b/\c:=⟨x,y,z⟩
def X4{a b c d:Prop}(x:a)(y:b)(z:c)(u:d):a/\b/\c/\d:=⟨x,y,z,u⟩
def X5{a b c d e:Prop}(x:a)(y:b)(z:c)(u:d)(v:e):a/\b/\c/\d/\e:=⟨x,y,z,u,v⟩
theorem Xr{p q e:Prop}(x:e)(h:q)(k:e->q->p:=by first|(intro hx hq;(first|refine rr ?_|refine rj ?_);intro K hK;simp(disch:=omega)only[Ac,↓Pc,simprocAttr,hx];revert hK;revert K;exact hq)|fail):p:=k x h
theorem Xq{p q e:Prop}(x:e)(h:q)(k:e->q->p:=by first|(intro hx hq;(first|refine rr ?_|refine rj ?_|refine rb ?_|refine zj ?_|refine ra ?_|refine zk ?_);intro K hK;simp(disch:=omega)only[Ac,↓Pc,simprocAttr,hx];revert hK;revert K;exact hq)|fail):p:=k x h
theorem Xo{p q e:Prop}(x:e)(h:q)(k:e->q->p:=by first|(intro hx hq;with_reducible refine gO ?_;simp(disch:=omega)only[Ac,↓Pc,simprocAttr,hx];exact hq)|fail):p:=k x h
theorem Xc{p q t:Prop}(c:t)(h:q)(k:t->q->p:=by first|(intro hc hq;(first|refine bx hc rfl rfl ?_|refine bJ hc rfl rfl ?_);exact hq)|fail):p:=k c h
theorem Xg{p q r e:Prop}(x:e)(h:q)(h2:r)(k:e->q->r->p/\True:=by first|(intro hx hq hr;refine And.intro ?_ ?_;(with_reducible refine gS (fun bO=>?_) (fun bO=>?_));(focus (have hb:=bO;(try simp only[lW,simprocAttr]at hb);all_goals(simp(disch:=omega)only[Ac,↓Pc,simprocAttr,hx,bO]);all_goals(clear bO;revert hb;exact hq)));(focus (have hb:=bO;(try simp only[lW,simprocAttr]at hb);all_goals(simp(disch:=omega)only[Ac,↓Pc,simprocAttr,hx,bO]);all_goals(clear bO;revert hb;exact hr)));((try have _:True:=hq);(try have _:True:=hr);trivial))|fail):p:=(k x h h2).1
theorem Xi{p q r:Prop}(h:q)(h2:r)(k:q->r->p/\True:=by first|(intro hq hr;refine And.intro ?_ ?_;refine Wc ?_ ?_;(focus (intro ht;(try simp only[lW,simprocAttr]at ht);all_goals(revert ht;exact hq)));(focus (intro ht;(try simp only[lW,simprocAttr]at ht);all_goals(revert ht;exact hr)));((try have _:True:=hq);(try have _:True:=hr);trivial))|fail):p:=(k h h2).1
theorem Xz{p q:Prop}(h:q)(k:q->p:=by first|(intro hq;(first|refine Wz rfl ?_|refine Xk ?_|refine Xb ?_|refine Sq.n _ ?_|refine Sq.e _ _ rfl ?_|refine Bq.n _ ?_|refine Bq.x _ ?_|refine Bq.e _ _ rfl ?_|refine hn _ ?_|refine he _ _ rfl ?_);(repeat(first|refine Wz rfl ?_|refine Xk ?_|refine Xb ?_|refine Sq.n _ ?_|refine Sq.e _ _ rfl ?_|refine Bq.n _ ?_|refine Bq.x _ ?_|refine Bq.e _ _ rfl ?_|refine hn _ ?_|refine he _ _ rfl ?_));exact hq)|fail):p:=k h
theorem Xh{p q:Prop}(h:q)(k:q->p:=by first|(intro hq;(first|refine aw _ _ rfl ?_|refine bz _ _ rfl ?_|refine gz _ _ rfl ?_|refine n7 _ _ rfl ?_);exact hq)|fail):p:=k h
theorem Xu{p q:Prop}(h:q)(k:q->p:=by first|(intro hq;(first|refine Sq.n _ ?_|refine Sq.e _ _ rfl ?_|refine Bq.n _ ?_|refine Bq.x _ ?_|refine Bq.e _ _ rfl ?_|refine hn _ ?_|refine he _ _ rfl ?_|refine aw _ _ rfl ?_|refine bz _ _ rfl ?_|refine gz _ _ rfl ?_|refine n7 _ _ rfl ?_);exact hq)|fail):p:=k h
theorem Xe{p q:Prop}(h:q)(k:q->p:=by first|(intro hq;simp only[Qc,Kc,simprocAttr];exact hq)|fail):p:=k h
theorem Xy{p q:Prop}(h:q)(k:q->p:=by first|(intro hq;refine Xz ?_;exact hq)|(intro hq;refine Xe ?_;exact hq)|fail):p:=k h
theorem XY{p q:Prop}(h:q)(k:q->p:=by first|(intro hq;refine Xz ?_;exact hq)|(intro hq;refine Xh ?_;exact hq)|(intro hq;refine Xe ?_;exact hq)|fail):p:=k h
theorem Xx{p:Prop}(h:p:=by first|omega|with_reducible rfl|exact trivial|fail):p:=h
theorem Xl{n0:Nat}{e:Nat->AV}{os:List Ob}{v res:AV}{aZ:List Ob}(ho:os=aZ)(h:v=res)(hl:n0<=aZ.length:=by(simp only[List.length_cons,List.length_nil];omega)):mK n0 ⟨e,os⟩ v res aZ:=dt ho hl h
theorem Xd{p q r:Prop}(h:q)(h2:r)(k:q->r->p:=by first|(intro hq hr;with_reducible refine And.intro ?_ ?_;exact hq;exact hr)|fail):p:=k h h2
theorem Xv{n0:Nat}{σ S:St}{e:Prop}(x:e)(k:e->aC n0 σ S:=by first|(intro hx;refine aC.ao _ _ rfl ?_;simp only[Tc,↓reduceIte,Nat.reduceEqDiff,Nat.reduceBEq,Nat.reduceAdd,hx];(try trivial);done)|fail):aC n0 σ S:=k x
theorem Xs{n0:Nat}{σ:St}{l:List (Nat×AV)}{co:List Ob}{e:Prop}(snap:Bool)(ae:List Nat)(x:e)(h1:e->mJ (bu σ.aa.length ae) σ.aa ae co:=by(intro hx;simp only[Oc,simprocAttr,hx]))(h2:e->pd (bt σ (kept ae co) (bu σ.aa.length ae) snap) σ.env l:=by(intro hx;simp only[Hr,↓reduceIte,Nat.reduceEqDiff,Nat.reduceBEq,Nat.reduceAdd,hx];(try(and_intros<;>first|exact .pure rfl|exact .eq rfl|exact .fz rfl (by simp only[Bc,Rc])))))(cp:ae.Nodup:=by decide)(hn:n0<=ae.length:=by decide)(cO:∀ i,i<n0->ae.getD i 0=i:=by decide):aC n0 σ ⟨ao l,co⟩:=aC.se ae snap (h1 x) (h2 x) cp hn cO
theorem Xw{n0:Nat}{σ:St}{v res:AV}{aZ:List Ob}{e:Prop}(snap:Bool)(ae:List Nat)(x:e)(h1:e->mJ (bu σ.aa.length ae) σ.aa ae aZ:=by(intro hx;simp only[Oc,simprocAttr,hx]))(h2:bt σ (kept ae aZ) (bu σ.aa.length ae) snap res v:=by first|exact .pure rfl|exact .eq rfl|exact .fz rfl (by simp only[Bc,Rc]))(cp:ae.Nodup:=by decide)(hn:n0<=ae.length:=by decide)(cO:∀ i,i<n0->ae.getD i 0=i:=by decide):mK n0 σ v res aZ:=V1 ae snap (h1 x) h2 cp hn cO
theorem Xn(ae:List Nat){P:Program}{σ:St}{f:FuncId}{args dF:List AV}{bA:List Ob}{dst:Option Tmp}{K:St->Prop}{res:AV}{cA:List Ob}(h:ak P f dF bA res cA)(hK:K (({ σ with aa:=eU σ.aa ae (cA.map (bD (bu σ.aa.length ae))) }:St).put dst (aU (bu σ.aa.length ae) res)))(cp:ae.Nodup:=by decide)(ho:um (bu σ.aa.length ae) σ.aa ae bA:=by((repeat'(first|exact trivial|with_reducible refine And.intro ?_ ?_|refine And.intro ?_ ?_))<;>first|rfl|(rw[zl];rfl)|(rw[zm];rfl)|(rw[xn];rfl)|(rw[Fq];rfl)))(ha:kJ (bt σ (·∈ae) (bu σ.aa.length ae) false) dF args:=by((repeat'(first|exact trivial|refine And.intro ?_ ?_))<;>(first|exact .pure rfl|exact .eq rfl|exact .fz rfl (by simp only[Bc,Rc])))):p7 P f args dst K σ:=fw ae h cp ho ha hK
def Pw:=aaB @zn @sR @p8 @p9 @b9.eq_1 @dO.eq_1
theorem Va{p q e:Prop}(x:e)(h:q)(k:e->q->p:=by first|(intro hx hq;(try with_reducible intro K hK);(first|((first|refine rr ?_|refine rj ?_);intro K hK;simp(disch:=omega)only[Ac,↓Pc,simprocAttr,hx];show _)|(with_reducible refine gO ?_;simp(disch:=omega)only[Ac,↓Pc,simprocAttr,hx];show _)|(refine hK _ ?_;clear hK K)|refine Wz rfl ?_|refine Xk ?_|refine Xb ?_|refine Sq.n _ ?_|refine Sq.e _ _ rfl ?_|refine Bq.n _ ?_|refine Bq.x _ ?_|refine Bq.e _ _ rfl ?_|refine hn _ ?_|refine he _ _ rfl ?_|(simp only[Qc,Kc,simprocAttr];show _)|(with_reducible refine And.intro ?_ ?_;(focus (clear hq;first|omega|with_reducible rfl|exact trivial))));(repeat(first|((first|refine rr ?_|refine rj ?_);intro K hK;simp(disch:=omega)only[Ac,↓Pc,simprocAttr,hx];show _)|(with_reducible refine gO ?_;simp(disch:=omega)only[Ac,↓Pc,simprocAttr,hx];show _)|(refine hK _ ?_;clear hK K)|refine Wz rfl ?_|refine Xk ?_|refine Xb ?_|refine Sq.n _ ?_|refine Sq.e _ _ rfl ?_|refine Bq.n _ ?_|refine Bq.x _ ?_|refine Bq.e _ _ rfl ?_|refine hn _ ?_|refine he _ _ rfl ?_|(simp only[Qc,Kc,simprocAttr];show _)|(with_reducible refine And.intro ?_ ?_;(focus (clear hq;first|omega|with_reducible rfl|exact trivial)))));(try revert hK);(try revert K);exact hq)|fail):p:=k x h
theorem Vb{p q e:Prop}(x:e)(h:q)(k:e->q->p:=by first|(intro hx hq;(try with_reducible intro K hK);(first|((first|refine rr ?_|refine rj ?_);intro K hK;simp(disch:=omega)only[Ac,↓Pc,simprocAttr,hx];show _)|(with_reducible refine gO ?_;simp(disch:=omega)only[Ac,↓Pc,simprocAttr,hx];show _)|(refine hK _ ?_;clear hK K)|refine Wz rfl ?_|refine Xk ?_|refine Xb ?_|refine Sq.n _ ?_|refine Sq.e _ _ rfl ?_|refine Bq.n _ ?_|refine Bq.x _ ?_|refine Bq.e _ _ rfl ?_|refine hn _ ?_|refine he _ _ rfl ?_|refine aw _ _ rfl ?_|refine bz _ _ rfl ?_|refine gz _ _ rfl ?_|refine n7 _ _ rfl ?_|(simp only[Qc,Kc,simprocAttr];show _)|(with_reducible refine And.intro ?_ ?_;(focus (clear hq;first|omega|with_reducible rfl|exact trivial))));(repeat(first|((first|refine rr ?_|refine rj ?_);intro K hK;simp(disch:=omega)only[Ac,↓Pc,simprocAttr,hx];show _)|(with_reducible refine gO ?_;simp(disch:=omega)only[Ac,↓Pc,simprocAttr,hx];show _)|(refine hK _ ?_;clear hK K)|refine Wz rfl ?_|refine Xk ?_|refine Xb ?_|refine Sq.n _ ?_|refine Sq.e _ _ rfl ?_|refine Bq.n _ ?_|refine Bq.x _ ?_|refine Bq.e _ _ rfl ?_|refine hn _ ?_|refine he _ _ rfl ?_|refine aw _ _ rfl ?_|refine bz _ _ rfl ?_|refine gz _ _ rfl ?_|refine n7 _ _ rfl ?_|(simp only[Qc,Kc,simprocAttr];show _)|(with_reducible refine And.intro ?_ ?_;(focus (clear hq;first|omega|with_reducible rfl|exact trivial)))));(try revert hK);(try revert K);exact hq)|fail):p:=k x h
theorem Vc{p q e t:Prop}(x:e)(c:t)(h:q)(k:e->t->q->p:=by first|(intro hx hc hq;(try with_reducible intro K hK);(first|((first|refine rr ?_|refine rj ?_|refine rb ?_|refine zj ?_|refine ra ?_|refine zk ?_);intro K hK;simp(disch:=omega)only[Ac,↓Pc,simprocAttr,hx];show _)|(with_reducible refine gO ?_;simp(disch:=omega)only[Ac,↓Pc,simprocAttr,hx];show _)|(refine hK _ ?_;clear hK K)|refine Wz rfl ?_|refine Xk ?_|refine Xb ?_|refine Sq.n _ ?_|refine Sq.e _ _ rfl ?_|refine Bq.n _ ?_|refine Bq.x _ ?_|refine Bq.e _ _ rfl ?_|refine hn _ ?_|refine he _ _ rfl ?_|(simp only[Qc,Kc,simprocAttr];show _)|(with_reducible refine And.intro ?_ ?_;(focus (clear hq;first|omega|with_reducible rfl|exact trivial)))|(apply bx;(focus(repeat(first|exact hc|exact hc.1|have hc:=hc.2)));rfl;rfl)|(apply bJ;(focus(repeat(first|exact hc|exact hc.1|have hc:=hc.2)));rfl;rfl));(repeat(first|((first|refine rr ?_|refine rj ?_|refine rb ?_|refine zj ?_|refine ra ?_|refine zk ?_);intro K hK;simp(disch:=omega)only[Ac,↓Pc,simprocAttr,hx];show _)|(with_reducible refine gO ?_;simp(disch:=omega)only[Ac,↓Pc,simprocAttr,hx];show _)|(refine hK _ ?_;clear hK K)|refine Wz rfl ?_|refine Xk ?_|refine Xb ?_|refine Sq.n _ ?_|refine Sq.e _ _ rfl ?_|refine Bq.n _ ?_|refine Bq.x _ ?_|refine Bq.e _ _ rfl ?_|refine hn _ ?_|refine he _ _ rfl ?_|(simp only[Qc,Kc,simprocAttr];show _)|(with_reducible refine And.intro ?_ ?_;(focus (clear hq;first|omega|with_reducible rfl|exact trivial)))|(apply bx;(focus(repeat(first|exact hc|exact hc.1|have hc:=hc.2)));rfl;rfl)|(apply bJ;(focus(repeat(first|exact hc|exact hc.1|have hc:=hc.2)));rfl;rfl)));(try revert hK);(try revert K);exact hq)|fail):p:=k x c h
theorem Vd{p q e t:Prop}(x:e)(c:t)(h:q)(k:e->t->q->p:=by first|(intro hx hc hq;(try with_reducible intro K hK);(first|((first|refine rr ?_|refine rj ?_|refine rb ?_|refine zj ?_|refine ra ?_|refine zk ?_);intro K hK;simp(disch:=omega)only[Ac,↓Pc,simprocAttr,hx];show _)|(with_reducible refine gO ?_;simp(disch:=omega)only[Ac,↓Pc,simprocAttr,hx];show _)|(refine hK _ ?_;clear hK K)|refine Wz rfl ?_|refine Xk ?_|refine Xb ?_|refine Sq.n _ ?_|refine Sq.e _ _ rfl ?_|refine Bq.n _ ?_|refine Bq.x _ ?_|refine Bq.e _ _ rfl ?_|refine hn _ ?_|refine he _ _ rfl ?_|refine aw _ _ rfl ?_|refine bz _ _ rfl ?_|refine gz _ _ rfl ?_|refine n7 _ _ rfl ?_|(simp only[Qc,Kc,simprocAttr];show _)|(with_reducible refine And.intro ?_ ?_;(focus (clear hq;first|omega|with_reducible rfl|exact trivial)))|(apply bx;(focus(repeat(first|exact hc|exact hc.1|have hc:=hc.2)));rfl;rfl)|(apply bJ;(focus(repeat(first|exact hc|exact hc.1|have hc:=hc.2)));rfl;rfl));(repeat(first|((first|refine rr ?_|refine rj ?_|refine rb ?_|refine zj ?_|refine ra ?_|refine zk ?_);intro K hK;simp(disch:=omega)only[Ac,↓Pc,simprocAttr,hx];show _)|(with_reducible refine gO ?_;simp(disch:=omega)only[Ac,↓Pc,simprocAttr,hx];show _)|(refine hK _ ?_;clear hK K)|refine Wz rfl ?_|refine Xk ?_|refine Xb ?_|refine Sq.n _ ?_|refine Sq.e _ _ rfl ?_|refine Bq.n _ ?_|refine Bq.x _ ?_|refine Bq.e _ _ rfl ?_|refine hn _ ?_|refine he _ _ rfl ?_|refine aw _ _ rfl ?_|refine bz _ _ rfl ?_|refine gz _ _ rfl ?_|refine n7 _ _ rfl ?_|(simp only[Qc,Kc,simprocAttr];show _)|(with_reducible refine And.intro ?_ ?_;(focus (clear hq;first|omega|with_reducible rfl|exact trivial)))|(apply bx;(focus(repeat(first|exact hc|exact hc.1|have hc:=hc.2)));rfl;rfl)|(apply bJ;(focus(repeat(first|exact hc|exact hc.1|have hc:=hc.2)));rfl;rfl)));(try revert hK);(try revert K);exact hq)|fail):p:=k x c h
theorem V2{p q r e:Prop}(x:e)(h:q)(h2:r)(k:e->q->r->p/\True:=by first|(intro hx hq hr;refine And.intro ?_ ?_;(try with_reducible intro K hK);(with_reducible refine gS (fun bO=>?_) (fun bO=>?_));(focus (have hb:=bO;(try simp only[lW,simprocAttr]at hb);all_goals(simp(disch:=omega)only[Ac,↓Pc,simprocAttr,hx,bO]);all_goals(clear bO;(try revert hK);(try revert K);revert hb;exact hq)));(focus (have hb:=bO;(try simp only[lW,simprocAttr]at hb);all_goals(simp(disch:=omega)only[Ac,↓Pc,simprocAttr,hx,bO]);all_goals(clear bO;(try revert hK);(try revert K);revert hb;exact hr)));((try have _:True:=hq);(try have _:True:=hr);trivial))|fail):p:=(k x h h2).1
theorem VD{p q r:Prop}(h:q)(h2:r)(k:q->r->p:=by first|(intro hq hr;(try with_reducible intro K hK);with_reducible refine And.intro ?_ ?_;(focus ((try clear hK K);(try revert hK);(try revert K);exact hq));(focus ((try clear hK K);(try revert hK);(try revert K);exact hr)))|fail):p:=k h h2
def V3(n m:Int)(hm:eN m):ak Tryz.prog 49 [aam n,aam m] [] (aam (uo n m)) []:=by
 unfold eN at hm;refine ak.aL 16 0 [.tmp 4] Tryz.func49 ?_;repeat'(first|(refine Xr X0 ?_;intro K hK)|(refine hK _ ?_;clear hK K)|(refine Xi ?_ ?_<;>try intro ht)|refine Xz ?_|(refine Xe ?_;first|refine aQ rfl ?_|refine Xl ?_ ?_)|refine Xd ?_ ?_|exact Xx|fail)
 ·rw[uo,if_pos ht]
 ·have:=Fs n m Bv;omega
 ·rw[uo,if_neg Bv,(Fs n m Bv).1 ht]
 ·rw[uo,if_neg Bv,(Fs n m Bv).2.1 ht]
def V4(xs:List Int):ak Tryz.prog 5 [.tree 1 (ints xs)] [] (.lit (.bool (decide (xs.length<=400)))) []:=by
 refine ak.aL 6 0 [.tmp 2] Tryz.func5 ?_;repeat'(first|(refine Xr X0 ?_;intro K hK)|(refine hK _ ?_;clear hK K)|refine Xz ?_|(refine Xe ?_;first|refine aQ rfl ?_|refine Xl ?_ ?_)|fail)
 ·congr 3;simp;omega
def j'(L:List Int)(k:Nat)(n:Int)(hn:eN n)(hk:k<=L.length)(hL:L.length<1000000):ak Tryz.prog 22 [.ptr 0 0 0,aam n] [.var [.tree 1 (ints L),aam k]] (aam (dX L k n))
  [.var [.tree 1 (ints L),aam (db L k)]]:=by
 refine ak.aL 35 1 [.tmp 4] Tryz.func22 ?_;repeat'(first|(refine Xq X0 ?_;intro K hK)|refine Xo X0 ?_|refine Xc (V3 _ _ hn) ?_|(refine hK _ ?_;clear hK K)|(refine Xi ?_ ?_<;>try intro ht)|refine Xz ?_|(refine Xe ?_;first|refine aQ rfl ?_|refine Xl ?_ ?_)|refine Xd ?_ ?_|exact Xx|fail)
 ·rw[db,if_pos Bv]
 ·rw[dX,if_pos Bv]
 ·rw[db,if_neg Bv,yQ];rfl
 ·rw[dX,if_neg Bv,show((k:Int)+1-1).toNat=k by omega]
def vz(L:List Int)(k:Nat)(n:Int)(hn:eN n)(kK:0<n)(hk:k<=L.length)(hL:L.length<1000000):ak Tryz.prog 9 [.ptr 0 0 0,aam n] [.var [.tree 1 (ints L),aam k]] (.lit (.bool (uq L k n)))
  [.var [.tree 1 (ints L),aam (db L k)]]:=by
 refine ak.aL 11 1 [.tmp 4] Tryz.func9 ?_;repeat'(first|(refine Xr X0 ?_;intro K hK)|(refine hK _ ?_;clear hK K)|fail)
 refine eT (j' L k n hn hk hL) Jy ?_;unfold eN at hn;repeat'(first|refine Xo X0 ?_|(refine hK _ ?_;clear hK K)|refine Xz ?_|(refine Xe ?_;first|refine aQ rfl ?_|refine Xl ?_ ?_)|refine Xd ?_ ?_|exact Xx|fail)
 ·rfl
def Ft(L:List Int)(k:Nat)(hk:k<=L.length)(hL:L.length<1000000):ak Tryz.prog 45 [.ptr 0 0 0] [.var [.tree 1 (ints L),aam k]] (aam (mL L k))
  [.var [.tree 1 (ints L),aam (rl L k)]]:=by
 have h6:=ke (L:=L) (k:=k) (n:=6) Bv;have V5:=ke (L:=L) (k:=db L k) (n:=20) Bv;refine ak.aL 14 1 [.tmp 2] Tryz.func45 ?_;repeat'(first|(refine Xr X0 ?_;intro K hK)|(refine hK _ ?_;clear hK K)|refine Xz ?_|fail)
 refine eT (j' L k 6 (by unfold eN;omega) hk hL) Jy ?_;have c1:dX L k 6<=3->rl L k=db L k:=λh=>by rw[rl,if_pos h]
 have c2:dX L k 6<3->mL L k=0:=λh=>by rw[mL,if_pos h]
 have c3:dX L k 6=3->mL L k=1099511627776:=λh=>by rw[mL,if_neg Bv,if_pos h]
 have c4:¬ dX L k 6<=3->rl L k=db L (db L k):=λh=>by rw[rl,if_neg h]
 have c5:¬ dX L k 6<=3->mL L k=1+dX L (db L k) 20:=λh=>by rw[mL,if_neg Bv,if_neg Bv]
 repeat'(first|(refine Xr X0 ?_;intro K hK)|(refine hK _ ?_;clear hK K)|(refine Xi ?_ ?_<;>try intro ht)|refine Xz ?_|(refine Xe ?_;first|refine aQ rfl ?_|refine Xl ?_ ?_)|exact Xx|fail)
 iterate 3
  ·rw[c1 Bv]
  ·rw[c2 Bv]
 ·rw[c1 Bv]
 ·rw[c3 Bv]
 ·refine eT (j' L (db L k) 20 (by unfold eN;omega) (fQ hk) hL) Jy ?_;repeat'(first|refine Xo X0 ?_|(refine hK _ ?_;clear hK K)|refine Xz ?_|(refine Xe ?_;first|refine aQ rfl ?_|refine Xl ?_ ?_)|refine Xd ?_ ?_|exact Xx|fail)
  ·rw[c4 Bv]
  ·rw[c5 Bv]
def V6(L:List Int):ak Tryz.prog 7 [.tree 1 (ints L)] [] (.ptr 0 0 0) [.var [.tree 1 (ints L),aam (0:Nat)]]:=by
 refine ak.aL 6 0 [.tmp 2] Tryz.func7 ?_;refine Vb X0 ?_;rw[show(0:Int)=((0:Nat):Int) from rfl];exact dt rfl Jy rfl
def Fu(a b:List Int)(hl:a.length<9223372036854775808):ak Tryz.prog 15 [.tree 1 (ints a),.tree 1 (ints b)] [] (.lit (.bool (decide (a=b)))) []:=by
 refine ak.aL 26 0 [.tmp 4] Tryz.func15 ?_;repeat'(first|(refine Xr X0 ?_;intro K hK)|(refine hK _ ?_;clear hK K)|(refine Xi ?_ ?_<;>try intro ht)|refine Xz ?_|(refine Xe ?_;first|refine aQ rfl ?_|refine Xl ?_ ?_)|fail)
 ·congr 2;simp;intro h;subst h;exact absurd rfl ht
 ·refine aW (λk:Nat=>(⟨ao [(0,.tree 1 (ints a)),(1,.tree 1 (ints b)),(5,aam k)],[]⟩:St)) (λk=>k<=a.length/\(a=b↔a.drop k=b.drop k)) (λk=>a.length-k) 0 ⟨aS _,Jy⟩ (Xv X0) ?_;intro k ⟨hk,hc⟩ Ql an aw;repeat'(first|(refine Xr X0 ?_;intro K hK)|(refine hK _ ?_;clear hK K)|(refine Xi ?_ ?_<;>try intro ht)|refine Xz ?_|refine Xh ?_|(refine Xe ?_;first|refine aQ rfl ?_|refine Xl ?_ ?_)|refine Xd ?_ ?_|exact Xx|fail)
  ·congr 2;simp only[decide_eq_false_iff_not,eq_comm (a:=false)];rw[hc,dL _ _ 0 Bv,dL b _ 0 Bv];simp only[List.cons.injEq];exact λh=>ht h.1
  ·refine an _ (k+1) ⟨Bv,?_⟩ Bv (Xv X0);rw[hc,dL _ _ 0 Bv,dL b _ 0 Bv,ht];simp
  ·congr 2;rw[show a=b by rw[hc,dW Bv,dW Bv]];simp
def V7(a b:Int)(ha:bL a)(hb:bL b):ak Tryz.prog 123 [aam a,aam b] [] (aam (eO a b)) []:=by
 unfold bL at *;refine ak.aL 9 0 [.tmp 4] Tryz.func123 ?_;repeat'(first|(refine Xr X0 ?_;intro K hK)|(refine hK _ ?_;clear hK K)|refine Xz ?_|(refine Xe ?_;first|refine aQ rfl ?_|refine Xl ?_ ?_)|refine Xd ?_ ?_|exact Xx|fail)
 ·rfl
def Ff(n:Int):ak Tryz.prog 97 [aam n] [] (.lit (.bool (fv n))) []:=by
 refine ak.aL 13 0 [.tmp 2] Tryz.func97 ?_;repeat'(first|(refine Xr X0 ?_;intro K hK)|(refine hK _ ?_;clear hK K)|(refine Xg X0 ?_ ?_<;>try intro hb)|refine Xz ?_|(refine Xe ?_;first|refine aQ rfl ?_|refine Xl ?_ ?_)|fail)
 all_goals(refine congrArg (λb=>AV.lit (Value.bool b)) ?_;rw[ld];simp only[fv,decide_eq_true_eq,beq_iff_eq,bne_iff_ne,bb,lR,jd,decide_eq_false_iff_not,iT,reduceCtorEq,iff_true,iff_false,true_iff,false_iff,eq_self];omega)
def Fl(n:Int):ak Tryz.prog 52 [aam n] [] (.lit (.bool (fv n))) []:=by
 refine ak.aL 13 0 [.tmp 2] Tryz.func52 ?_;repeat'(first|(refine Xr X0 ?_;intro K hK)|(refine hK _ ?_;clear hK K)|(refine Xg X0 ?_ ?_<;>try intro hb)|refine Xz ?_|(refine Xe ?_;first|refine aQ rfl ?_|refine Xl ?_ ?_)|fail)
 all_goals(refine congrArg (λb=>AV.lit (Value.bool b)) ?_;rw[ld];simp only[fv,decide_eq_true_eq,beq_iff_eq,bne_iff_ne,bb,lR,jd,decide_eq_false_iff_not,iT,reduceCtorEq,iff_true,iff_false,true_iff,false_iff,eq_self];omega)
def Fe(m:ah)(n:Int):ak Tryz.prog 96 [.agg (aB m),aam n] [] (.lit (.bool (g6 m.rules n))) []:=by
 refine ak.aL 13 0 [.tmp 4] Tryz.func96 ?_;repeat'(first|(refine Xr @aB.eq_1 ?_;intro K hK)|(refine hK _ ?_;clear hK K)|(refine Xg @aB.eq_1 ?_ ?_<;>try intro hb)|refine Xz ?_|(refine Xe ?_;first|refine aQ rfl ?_|refine Xl ?_ ?_)|fail)
 all_goals(refine congrArg (λb=>AV.lit (Value.bool b)) ?_;rw[ld];simp only[g6,decide_eq_true_eq,beq_iff_eq,bne_iff_ne,bb,lR,jd,decide_eq_false_iff_not,iT,reduceCtorEq,iff_true,iff_false,true_iff,false_iff,eq_self];omega)
def Fi(m:ah)(n:Int):ak Tryz.prog 51 [.agg (aB m),aam n] [] (.lit (.bool (g6 m.rules n))) []:=by
 refine ak.aL 13 0 [.tmp 4] Tryz.func51 ?_;repeat'(first|(refine Xr @aB.eq_1 ?_;intro K hK)|(refine hK _ ?_;clear hK K)|(refine Xg @aB.eq_1 ?_ ?_<;>try intro hb)|refine Xz ?_|(refine Xe ?_;first|refine aQ rfl ?_|refine Xl ?_ ?_)|fail)
 all_goals(refine congrArg (λb=>AV.lit (Value.bool b)) ?_;rw[ld];simp only[g6,decide_eq_true_eq,beq_iff_eq,bne_iff_ne,bb,lR,jd,decide_eq_false_iff_not,iT,reduceCtorEq,iff_true,iff_false,true_iff,false_iff,eq_self];omega)
def V8(n:Int):ak Tryz.prog 72 [aam n] [] (.lit (.bool false)) []:=by
 refine ak.aL 6 0 [.tmp 2] Tryz.func72 ?_;repeat'(first|(refine Xr @bne_self_eq_false.{0} ?_;intro K hK)|(refine hK _ ?_;clear hK K)|refine Xz ?_|(refine Xe ?_;first|refine aQ rfl ?_|refine Xl ?_ ?_)|exact Xx|fail)
def BY(a b:Int):ak Tryz.prog 33 [aam a,aam b] [] (aam (gJ a b)) []:=by
 refine ak.aL 20 0 [.tmp 4] Tryz.func33 ?_;repeat'(first|(refine Xq X0 ?_;intro K hK)|refine Xo X0 ?_|refine Xc (V8 _) ?_|(refine hK _ ?_;clear hK K)|(refine Xi ?_ ?_<;>try intro ht)|refine Xz ?_|(refine Xe ?_;first|refine aQ rfl ?_|refine Xl ?_ ?_)|exact Xx|fail)
 all_goals(unfold gJ;congr 2;(repeat' split)<;>omega)
def Fg(l:List Int)(hl:l.length<1000000):ak Tryz.prog 32 [.tree 1 (ints l)] [] (aam (mM l)) []:=by
 generalize aq:mM l=res;refine ak.aL 18 0 [.tmp 2] Tryz.func32 ?_;repeat'(first|(refine Xr X0 ?_;intro K hK)|(refine hK _ ?_;clear hK K)|refine Xz ?_|fail)
 refine aW (λk:Nat=>(⟨ao [(3,aam 0),(6,.tree 1 (ints l)),(7,aam l.length),(8,aam k)],[]⟩:St)) (λk=>k<=l.length/\mM (l.drop k)=res) (λk=>l.length-k) 0 ⟨aS _,aq⟩ (Xv X0) ?_;rintro k⟨hk,hr⟩Ql an aw;repeat'(first|(refine Xr X0 ?_;intro K hK)|(refine hK _ ?_;clear hK K)|(refine Xi ?_ ?_<;>try intro ht)|refine Xz ?_|refine Xh ?_|(refine Xe ?_;first|refine aQ rfl ?_|refine Xl ?_ ?_)|refine Xd ?_ ?_|exact Xx|fail)
 ·rw[dL _ _ 0 Bv,mM,if_pos (by assumption)]at hr;rw[hr]
 ·rw[dL _ _ 0 Bv,mM,if_neg Bv]at hr;exact an _ (k+1) ⟨Bv,hr⟩ Bv (Xv X0)
 ·rw[dW Bv,mM]at hr;rw[hr]
def VN(m:ah)(c o:Int):ak Tryz.prog 101 [.agg (aB m),aam c,aam o] [] (.lit (.bool (fH m c o))) []:=by
 refine ak.aL 30 0 [.tmp 6] Tryz.func101 ?_;repeat'(first|(refine Xr (X4 @aB.eq_1 @cK @eD @bw.eq_1) ?_;intro K hK)|(refine hK _ ?_;clear hK K)|(refine Xg (X4 @aB.eq_1 @cK @eD @bw.eq_1) ?_ ?_<;>try intro hb)|refine Xz ?_|(refine Xe ?_;first|refine aQ rfl ?_|refine Xl ?_ ?_)|refine Xd ?_ ?_|exact Xx|fail)
 all_goals(refine congrArg (λb=>AV.lit (Value.bool b)) ?_;rw[ld];simp only[fH,decide_eq_true_eq,beq_iff_eq,bne_iff_ne,bb,lR,jd,decide_eq_false_iff_not,iT,reduceCtorEq,iff_true,iff_false,true_iff,false_iff,eq_self];omega)
def VW(m:ah)(c o:Int):ak Tryz.prog 92 [.agg (aB m),aam c,aam o] [] (.lit (.bool (fH m c o))) []:=by
 refine ak.aL 30 0 [.tmp 6] Tryz.func92 ?_;repeat'(first|(refine Xr (X4 @aB.eq_1 @cK @eD @bw.eq_1) ?_;intro K hK)|(refine hK _ ?_;clear hK K)|(refine Xg (X4 @aB.eq_1 @cK @eD @bw.eq_1) ?_ ?_<;>try intro hb)|refine Xz ?_|(refine Xe ?_;first|refine aQ rfl ?_|refine Xl ?_ ?_)|refine Xd ?_ ?_|exact Xx|fail)
 all_goals(refine congrArg (λb=>AV.lit (Value.bool b)) ?_;rw[ld];simp only[fH,decide_eq_true_eq,beq_iff_eq,bne_iff_ne,bb,lR,jd,decide_eq_false_iff_not,iT,reduceCtorEq,iff_true,iff_false,true_iff,false_iff,eq_self];omega)
def Vl(c:Ct)(n:Int)(h1:0<=c.most)(h2:n<=1048576)(h3:0<=n)(h4:bL c.bW):ak Tryz.prog 142 [.agg (cN c),aam n] [] (aam (mN c.most c.bW n)) []:=by
 unfold bL at h4;have hm:c.most<n->0<=(n-c.most)*c.bW/\(n-c.most)*c.bW<=1048576*1099511627776:=λh=>⟨Int.mul_nonneg Bv h4.1,Int.mul_le_mul Bv h4.2 h4.1 Bv⟩;refine ak.aL 17 0 [.tmp 4] Tryz.func142 ?_;repeat'(first|(refine Xr @cN.eq_1 ?_;intro K hK)|(refine hK _ ?_;clear hK K)|(refine Xi ?_ ?_<;>try intro ht)|refine Xz ?_|(refine Xe ?_;first|refine aQ rfl ?_|refine Xl ?_ ?_)|refine Xd ?_ ?_|exact Xx|fail)
 ·rw[mN,if_pos ht]
 ·rw[mN,if_neg Bv]
def BZ:IntKind.u64.min=0:=rfl
def B0:IntKind.u64.max=18446744073709551615:=rfl
def V9:IntKind.u64.bits=64:=rfl
def V':(2:Int)^(32:Nat)=4294967296:=rfl
def MG{n:Int}(h:0<=n/\n<=18446744073709551615):IntKind.u64.wrap n=n:=p' h
def Wa{n:Int}(h : -9223372036854775808<=n/\n<=9223372036854775807):IntKind.i64.wrap n=n:=p' h
def Wd{a:Int}(h:0<=a/\a<=18446744073709551615):sN .u64 a 4294967295=a%4294967296:=by
 unfold sN;have e:(BitVec.ofInt IntKind.u64.bits a &&& BitVec.ofInt IntKind.u64.bits 4294967295).toNat=a.toNat%4294967296:=by
  rw[BitVec.toNat_and,BitVec.toNat_ofInt,BitVec.toNat_ofInt];have h1:(a%((2^IntKind.u64.bits:Nat):Int)).toNat=a.toNat:=by rw[Int.emod_eq_of_lt h.1 (by show a<18446744073709551616;omega)]
  have h2:((4294967295:Int)%((2^IntKind.u64.bits:Nat):Int)).toNat=2^32-1:=aac;rw[h1,h2,Nat.and_two_pow_sub_one_eq_mod]
 rw[e];rw[p' (by simp only[BZ,B0];omega)];omega
def We:Tryz.prog.underlying 3=some (.int .i64):=by kernel_rfl
def Wf:Tryz.prog.underlying 132=some (.int .u64):=by kernel_rfl
def Wg(y:Int)(hy:0<=y/\y<=9223372036854775807):ak Tryz.prog 145 [.lit (.int .u64 1),.lit (.int .u64 y)] [] (.bH [.lit (.int .u64 0),.lit (.int .u64 y)]) []:=by
 refine ak.aL 51 0 [.tmp 4,.tmp 5] Tryz.func145 ?_;refine Vb (X5 @BZ @B0 @V9 @V' (X4 @Wd @MG @Int.one_mul @Int.zero_mul)) ?_;refine aQ rfl ?_;congr 3;all_goals first|rfl|(congr 2;omega)
def Wh(y:Int)(hy:0<=y/\y<=9223372036854775807):ak Tryz.prog 139 [.lit (.int .u64 1),.lit (.int .u64 y)] [] (.bH [.lit (.int .u64 0),.lit (.int .u64 y)]) []:=by
 refine ak.aL 30 0 [.tmp 4,.tmp 5] Tryz.func139 ?_;((repeat'(first|refine Vd (X2 @BZ @B0) (Wg y hy) ?_|(refine Xi ?_ ?_<;>try intro ht)|exact Xx|fail)))
 exact aQ rfl rfl
end T

