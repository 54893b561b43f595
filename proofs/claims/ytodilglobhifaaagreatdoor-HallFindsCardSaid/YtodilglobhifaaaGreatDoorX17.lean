import Derived.Test.YtodilglobhifaaaGreatDoorX16
import Derived.Test.YtodilglobhifaaaGreatDoorX10
import Derived.Test.YtodilglobhifaaaGreatDoorProg
import Derived.KernelRfl
set_option linter.all false
set_option maxHeartbeats 0
set_option maxRecDepth 20000
open Int renaming natCast_add→xS,cast_ofNat_Int→vV
open List renaming length_append→aJ,length_cons→cK,length_nil→g8
open Nat renaming zero_add→gM
open Go Go.Am Go.Proofs
namespace T
def Lh:ty Tryz.prog 2 = { kind:=5,size:=1,bytes:=8,elem:=0,len:=0,zero:=some [.int .i64 0],aF:=[] }:=by kernel_rfl
def Li:ty Tryz.prog 3 = { kind:=5,size:=1,bytes:=8,elem:=0,len:=0,zero:=some [.int .i64 0],aF:=[] }:=by kernel_rfl
def Lj:ty Tryz.prog 4 = { kind:=6,size:=1,bytes:=1,elem:=0,len:=0,zero:=some [.bool false],aF:=[] }:=by kernel_rfl
def Lk:ty Tryz.prog 5 = { kind:=5,size:=1,bytes:=1,elem:=0,len:=0,zero:=some [.int .u8 0],aF:=[] }:=by kernel_rfl
def Ll:ty Tryz.prog 6 = { kind:=5,size:=1,bytes:=1,elem:=0,len:=0,zero:=some [.int .u8 0],aF:=[] }:=by kernel_rfl
def Lm:ty Tryz.prog 7 = { kind:=3,size:=4,bytes:=24,elem:=0,len:=0,zero:=some [.int .i64 0,.int .i64 0,.bool false,.int .u8 0],aF:=[(0,2,1),(1,3,1),(2,4,1),(3,6,1)] }:=by kernel_rfl
def Ln:ty Tryz.prog 8 = { kind:=3,size:=4,bytes:=24,elem:=0,len:=0,zero:=some [.int .i64 0,.int .i64 0,.bool false,.int .u8 0],aF:=[(0,2,1),(1,3,1),(2,4,1),(3,6,1)] }:=by kernel_rfl
def Lo:ty Tryz.prog 9 = { kind:=4,size:=1,bytes:=16,elem:=0,len:=0,zero:=some [.string ⟨#[]⟩],aF:=[] }:=by kernel_rfl
def Lp:ty Tryz.prog 10 = { kind:=4,size:=1,bytes:=16,elem:=0,len:=0,zero:=some [.string ⟨#[]⟩],aF:=[] }:=by kernel_rfl
def Lr:ty Tryz.prog 11 = { kind:=4,size:=1,bytes:=16,elem:=0,len:=0,zero:=some [.string ⟨#[]⟩],aF:=[] }:=by kernel_rfl
def Ls:ty Tryz.prog 12 = { kind:=5,size:=1,bytes:=8,elem:=0,len:=0,zero:=some [.int .u64 0],aF:=[] }:=by kernel_rfl
def Lt:ty Tryz.prog 13 = { kind:=3,size:=2,bytes:=24,elem:=0,len:=0,zero:=some [.string ⟨#[]⟩,.int .u64 0],aF:=[(0,9,1),(1,12,1)] }:=by kernel_rfl
def Lu:ty Tryz.prog 14 = { kind:=3,size:=2,bytes:=24,elem:=0,len:=0,zero:=some [.string ⟨#[]⟩,.int .u64 0],aF:=[(0,9,1),(1,12,1)] }:=by kernel_rfl
def Lv:ty Tryz.prog 15 = { kind:=7,size:=1,bytes:=8,elem:=221,len:=0,zero:=some [.pointer none],aF:=[] }:=by kernel_rfl
def Lw:ty Tryz.prog 16 = { kind:=7,size:=1,bytes:=8,elem:=224,len:=0,zero:=some [.pointer none],aF:=[] }:=by kernel_rfl
def Lx:ty Tryz.prog 17 = { kind:=7,size:=1,bytes:=8,elem:=232,len:=0,zero:=some [.pointer none],aF:=[] }:=by kernel_rfl
def Ly:ty Tryz.prog 18 = { kind:=3,size:=1,bytes:=8,elem:=0,len:=0,zero:=some [.pointer none],aF:=[(0,17,1)] }:=by kernel_rfl
def Lz:ty Tryz.prog 19 = { kind:=3,size:=1,bytes:=8,elem:=0,len:=0,zero:=some [.pointer none],aF:=[(0,17,1)] }:=by kernel_rfl
def LA:ty Tryz.prog 21 = { kind:=5,size:=1,bytes:=4,elem:=0,len:=0,zero:=some [.int .i32 0],aF:=[] }:=by kernel_rfl
def LD:ty Tryz.prog 22 = { kind:=1,size:=1,bytes:=24,elem:=3,len:=0,zero:=some [.slice none 0 0],aF:=[] }:=by kernel_rfl
def LF:ty Tryz.prog 23 = { kind:=1,size:=1,bytes:=24,elem:=82,len:=0,zero:=some [.slice none 0 0],aF:=[] }:=by kernel_rfl
def LH:ty Tryz.prog 26 = { kind:=7,size:=1,bytes:=8,elem:=60,len:=0,zero:=some [.pointer none],aF:=[] }:=by kernel_rfl
def LI:ty Tryz.prog 28 = { kind:=1,size:=1,bytes:=24,elem:=80,len:=0,zero:=some [.slice none 0 0],aF:=[] }:=by kernel_rfl
def LJ:ty Tryz.prog 29 = { kind:=1,size:=1,bytes:=24,elem:=65,len:=0,zero:=some [.slice none 0 0],aF:=[] }:=by kernel_rfl
def LK:ty Tryz.prog 30 = { kind:=1,size:=1,bytes:=24,elem:=68,len:=0,zero:=some [.slice none 0 0],aF:=[] }:=by kernel_rfl
def LL:ty Tryz.prog 31 = { kind:=3,size:=4,bytes:=80,elem:=0,len:=0,zero:=some [.slice none 0 0,.slice none 0 0,.slice none 0 0,.int .i64 0],aF:=[(0,28,1),(1,29,1),(2,30,1),(3,3,1)] }:=by kernel_rfl
def LM:ty Tryz.prog 32 = { kind:=3,size:=4,bytes:=80,elem:=0,len:=0,zero:=some [.slice none 0 0,.slice none 0 0,.slice none 0 0,.int .i64 0],aF:=[(0,28,1),(1,29,1),(2,30,1),(3,3,1)] }:=by kernel_rfl
def LN:ty Tryz.prog 38 = { kind:=1,size:=1,bytes:=24,elem:=23,len:=0,zero:=some [.slice none 0 0],aF:=[] }:=by kernel_rfl
def LP:ty Tryz.prog 39 = { kind:=1,size:=1,bytes:=24,elem:=90,len:=0,zero:=some [.slice none 0 0],aF:=[] }:=by kernel_rfl
def LQ:ty Tryz.prog 47 = { kind:=1,size:=1,bytes:=24,elem:=154,len:=0,zero:=some [.slice none 0 0],aF:=[] }:=by kernel_rfl
def LS:ty Tryz.prog 48 = { kind:=3,size:=5,bytes:=104,elem:=0,len:=0,zero:=some [.int .i64 0,.slice none 0 0,.slice none 0 0,.slice none 0 0,.slice none 0 0],aF:=[(0,3,1),(1,22,1),(2,47,1),(3,22,1),(4,39,1)] }:=by kernel_rfl
def LU:ty Tryz.prog 49 = { kind:=3,size:=5,bytes:=104,elem:=0,len:=0,zero:=some [.int .i64 0,.slice none 0 0,.slice none 0 0,.slice none 0 0,.slice none 0 0],aF:=[(0,3,1),(1,22,1),(2,47,1),(3,22,1),(4,39,1)] }:=by kernel_rfl
def LV:ty Tryz.prog 50 = { kind:=1,size:=1,bytes:=24,elem:=49,len:=0,zero:=some [.slice none 0 0],aF:=[] }:=by kernel_rfl
def LW:ty Tryz.prog 51 = { kind:=3,size:=1,bytes:=24,elem:=0,len:=0,zero:=some [.slice none 0 0],aF:=[(0,50,1)] }:=by kernel_rfl
def LX:ty Tryz.prog 52 = { kind:=3,size:=1,bytes:=24,elem:=0,len:=0,zero:=some [.slice none 0 0],aF:=[(0,50,1)] }:=by kernel_rfl
def LY:ty Tryz.prog 53 = { kind:=5,size:=1,bytes:=8,elem:=0,len:=0,zero:=some [.int .i64 0],aF:=[] }:=by kernel_rfl
def LZ:ty Tryz.prog 56 = { kind:=1,size:=1,bytes:=24,elem:=22,len:=0,zero:=some [.slice none 0 0],aF:=[] }:=by kernel_rfl
def L0:ty Tryz.prog 59 = { kind:=3,size:=2,bytes:=32,elem:=0,len:=0,zero:=some [.slice none 0 0,.int .i64 0],aF:=[(0,22,1),(1,3,1)] }:=by kernel_rfl
def L1:ty Tryz.prog 60 = { kind:=3,size:=2,bytes:=32,elem:=0,len:=0,zero:=some [.slice none 0 0,.int .i64 0],aF:=[(0,22,1),(1,3,1)] }:=by kernel_rfl
def L2:ty Tryz.prog 64 = { kind:=3,size:=4,bytes:=48,elem:=0,len:=0,zero:=some [.int .i64 0,.int .i64 0,.int .i64 0,.slice none 0 0],aF:=[(0,3,1),(1,3,1),(2,3,1),(3,22,1)] }:=by kernel_rfl
def L3:ty Tryz.prog 65 = { kind:=3,size:=4,bytes:=48,elem:=0,len:=0,zero:=some [.int .i64 0,.int .i64 0,.int .i64 0,.slice none 0 0],aF:=[(0,3,1),(1,3,1),(2,3,1),(3,22,1)] }:=by kernel_rfl
def L4:ty Tryz.prog 66 = { kind:=1,size:=1,bytes:=24,elem:=70,len:=0,zero:=some [.slice none 0 0],aF:=[] }:=by kernel_rfl
def L5:ty Tryz.prog 67 = { kind:=3,size:=4,bytes:=48,elem:=0,len:=0,zero:=some [.int .i64 0,.slice none 0 0,.int .i64 0,.int .i64 0],aF:=[(0,3,1),(1,66,1),(2,3,1),(3,3,1)] }:=by kernel_rfl
def L6:ty Tryz.prog 68 = { kind:=3,size:=4,bytes:=48,elem:=0,len:=0,zero:=some [.int .i64 0,.slice none 0 0,.int .i64 0,.int .i64 0],aF:=[(0,3,1),(1,66,1),(2,3,1),(3,3,1)] }:=by kernel_rfl
def L7:ty Tryz.prog 69 = { kind:=3,size:=3,bytes:=24,elem:=0,len:=0,zero:=some [.int .i64 0,.int .i64 0,.int .i64 0],aF:=[(0,3,1),(1,3,1),(2,3,1)] }:=by kernel_rfl
def L8:ty Tryz.prog 70 = { kind:=3,size:=3,bytes:=24,elem:=0,len:=0,zero:=some [.int .i64 0,.int .i64 0,.int .i64 0],aF:=[(0,3,1),(1,3,1),(2,3,1)] }:=by kernel_rfl
def L9:ty Tryz.prog 71 = { kind:=3,size:=2,bytes:=16,elem:=0,len:=0,zero:=some [.int .i64 0,.int .i64 0],aF:=[(0,3,1),(1,3,1)] }:=by kernel_rfl
def Ma:ty Tryz.prog 72 = { kind:=3,size:=2,bytes:=16,elem:=0,len:=0,zero:=some [.int .i64 0,.int .i64 0],aF:=[(0,3,1),(1,3,1)] }:=by kernel_rfl
def Mb:ty Tryz.prog 73 = { kind:=1,size:=1,bytes:=24,elem:=72,len:=0,zero:=some [.slice none 0 0],aF:=[] }:=by kernel_rfl
def Mc:ty Tryz.prog 74 = { kind:=3,size:=4,bytes:=32,elem:=0,len:=0,zero:=some [.int .i64 0,.int .i64 0,.int .i64 0,.int .i64 0],aF:=[(0,3,1),(1,3,1),(2,3,1),(3,3,1)] }:=by kernel_rfl
def Md:ty Tryz.prog 75 = { kind:=3,size:=4,bytes:=32,elem:=0,len:=0,zero:=some [.int .i64 0,.int .i64 0,.int .i64 0,.int .i64 0],aF:=[(0,3,1),(1,3,1),(2,3,1),(3,3,1)] }:=by kernel_rfl
def Me:ty Tryz.prog 76 = { kind:=3,size:=5,bytes:=40,elem:=0,len:=0,zero:=some [.int .i64 0,.int .i64 0,.int .i64 0,.int .i64 0,.int .i64 0],aF:=[(0,75,4),(4,3,1)] }:=by kernel_rfl
def Mf:ty Tryz.prog 77 = { kind:=3,size:=5,bytes:=40,elem:=0,len:=0,zero:=some [.int .i64 0,.int .i64 0,.int .i64 0,.int .i64 0,.int .i64 0],aF:=[(0,75,4),(4,3,1)] }:=by kernel_rfl
def Mg:ty Tryz.prog 78 = { kind:=3,size:=6,bytes:=64,elem:=0,len:=0,zero:=some [.int .i64 0,.int .i64 0,.int .i64 0,.int .i64 0,.int .i64 0,.slice none 0 0],aF:=[(0,77,5),(5,73,1)] }:=by kernel_rfl
def Mh:ty Tryz.prog 79 = { kind:=3,size:=6,bytes:=64,elem:=0,len:=0,zero:=some [.int .i64 0,.int .i64 0,.int .i64 0,.int .i64 0,.int .i64 0,.slice none 0 0],aF:=[(0,77,5),(5,73,1)] }:=by kernel_rfl
def Mi:ty Tryz.prog 80 = { kind:=1,size:=1,bytes:=24,elem:=79,len:=0,zero:=some [.slice none 0 0],aF:=[] }:=by kernel_rfl
def Mj:ty Tryz.prog 82 = { kind:=1,size:=1,bytes:=24,elem:=4,len:=0,zero:=some [.slice none 0 0],aF:=[] }:=by kernel_rfl
def Mk:ty Tryz.prog 84 = { kind:=7,size:=1,bytes:=8,elem:=87,len:=0,zero:=some [.pointer none],aF:=[] }:=by kernel_rfl
def Mm:ty Tryz.prog 85 = { kind:=8,size:=1,bytes:=8,elem:=29,len:=0,zero:=some [.map none],aF:=[] }:=by kernel_rfl
def Mn:ty Tryz.prog 86 = { kind:=3,size:=5,bytes:=88,elem:=0,len:=0,zero:=some [.slice none 0 0,.slice none 0 0,.slice none 0 0,.int .i64 0,.map none],aF:=[(0,32,4),(4,85,1)] }:=by kernel_rfl
def Mo:ty Tryz.prog 87 = { kind:=3,size:=5,bytes:=88,elem:=0,len:=0,zero:=some [.slice none 0 0,.slice none 0 0,.slice none 0 0,.int .i64 0,.map none],aF:=[(0,32,4),(4,85,1)] }:=by kernel_rfl
def Mp:ty Tryz.prog 88 = { kind:=2,size:=2,bytes:=16,elem:=3,len:=2,zero:=some [.int .i64 0,.int .i64 0],aF:=[] }:=by kernel_rfl
def Mq:ty Tryz.prog 90 = { kind:=1,size:=1,bytes:=24,elem:=92,len:=0,zero:=some [.slice none 0 0],aF:=[] }:=by kernel_rfl
def Mr:ty Tryz.prog 91 = { kind:=3,size:=2,bytes:=16,elem:=0,len:=0,zero:=some [.int .i64 0,.int .i64 0],aF:=[(0,3,1),(1,3,1)] }:=by kernel_rfl
def Ms:ty Tryz.prog 92 = { kind:=3,size:=2,bytes:=16,elem:=0,len:=0,zero:=some [.int .i64 0,.int .i64 0],aF:=[(0,3,1),(1,3,1)] }:=by kernel_rfl
def Mt:ty Tryz.prog 103 = { kind:=3,size:=2,bytes:=32,elem:=0,len:=0,zero:=some [.int .i64 0,.slice none 0 0],aF:=[(0,3,1),(1,23,1)] }:=by kernel_rfl
def Mu:ty Tryz.prog 104 = { kind:=3,size:=2,bytes:=32,elem:=0,len:=0,zero:=some [.int .i64 0,.slice none 0 0],aF:=[(0,3,1),(1,23,1)] }:=by kernel_rfl
def Mw:ty Tryz.prog 129 = { kind:=8,size:=1,bytes:=8,elem:=90,len:=0,zero:=some [.map none],aF:=[] }:=by kernel_rfl
def Mx:ty Tryz.prog 130 = { kind:=1,size:=1,bytes:=24,elem:=133,len:=0,zero:=some [.slice none 0 0],aF:=[] }:=by kernel_rfl
def My:ty Tryz.prog 132 = { kind:=5,size:=1,bytes:=8,elem:=0,len:=0,zero:=some [.int .u64 0],aF:=[] }:=by kernel_rfl
def Mz:ty Tryz.prog 133 = { kind:=2,size:=4,bytes:=32,elem:=3,len:=4,zero:=some [.int .i64 0,.int .i64 0,.int .i64 0,.int .i64 0],aF:=[] }:=by kernel_rfl
def MA:ty Tryz.prog 143 = { kind:=3,size:=3,bytes:=56,elem:=0,len:=0,zero:=some [.int .i64 0,.slice none 0 0,.slice none 0 0],aF:=[(0,104,2),(2,22,1)] }:=by kernel_rfl
def MC:ty Tryz.prog 144 = { kind:=3,size:=3,bytes:=56,elem:=0,len:=0,zero:=some [.int .i64 0,.slice none 0 0,.slice none 0 0],aF:=[(0,104,2),(2,22,1)] }:=by kernel_rfl
def MD:ty Tryz.prog 145 = { kind:=1,size:=1,bytes:=24,elem:=144,len:=0,zero:=some [.slice none 0 0],aF:=[] }:=by kernel_rfl
def ME:ty Tryz.prog 151 = { kind:=7,size:=1,bytes:=8,elem:=182,len:=0,zero:=some [.pointer none],aF:=[] }:=by kernel_rfl
def MF:ty Tryz.prog 153 = { kind:=3,size:=4,bytes:=32,elem:=0,len:=0,zero:=some [.int .i64 0,.int .i64 0,.int .i64 0,.int .i64 0],aF:=[(0,3,1),(1,3,1),(2,3,1),(3,3,1)] }:=by kernel_rfl
def MG:ty Tryz.prog 154 = { kind:=3,size:=4,bytes:=32,elem:=0,len:=0,zero:=some [.int .i64 0,.int .i64 0,.int .i64 0,.int .i64 0],aF:=[(0,3,1),(1,3,1),(2,3,1),(3,3,1)] }:=by kernel_rfl
def MH:ty Tryz.prog 165 = { kind:=5,size:=1,bytes:=4,elem:=0,len:=0,zero:=some [.int .u32 0],aF:=[] }:=by kernel_rfl
def MI:ty Tryz.prog 167 = { kind:=5,size:=1,bytes:=8,elem:=0,len:=0,zero:=some [.int .u64 0],aF:=[] }:=by kernel_rfl
def MJ:ty Tryz.prog 169 = { kind:=5,size:=1,bytes:=8,elem:=0,len:=0,zero:=some [.int .i64 0],aF:=[] }:=by kernel_rfl
def MK:ty Tryz.prog 180 = { kind:=1,size:=1,bytes:=24,elem:=183,len:=0,zero:=some [.slice none 0 0],aF:=[] }:=by kernel_rfl
def ML:ty Tryz.prog 181 = { kind:=3,size:=6,bytes:=128,elem:=0,len:=0,zero:=some [.slice none 0 0,.slice none 0 0,.slice none 0 0,.int .i64 0,.slice none 0 0,.slice none 0 0],aF:=[(0,32,4),(4,180,1),(5,180,1)] }:=by kernel_rfl
def MN:ty Tryz.prog 182 = { kind:=3,size:=6,bytes:=128,elem:=0,len:=0,zero:=some [.slice none 0 0,.slice none 0 0,.slice none 0 0,.int .i64 0,.slice none 0 0,.slice none 0 0],aF:=[(0,32,4),(4,180,1),(5,180,1)] }:=by kernel_rfl
def MO:ty Tryz.prog 183 = { kind:=1,size:=1,bytes:=24,elem:=185,len:=0,zero:=some [.slice none 0 0],aF:=[] }:=by kernel_rfl
def MP:ty Tryz.prog 184 = { kind:=3,size:=2,bytes:=16,elem:=0,len:=0,zero:=some [.int .i64 0,.bool false],aF:=[(0,3,1),(1,4,1)] }:=by kernel_rfl
def MQ:ty Tryz.prog 185 = { kind:=3,size:=2,bytes:=16,elem:=0,len:=0,zero:=some [.int .i64 0,.bool false],aF:=[(0,3,1),(1,4,1)] }:=by kernel_rfl
def MR:ty Tryz.prog 194 = { kind:=2,size:=32,bytes:=32,elem:=5,len:=32,zero:=some [.int .u8 0,.int .u8 0,.int .u8 0,.int .u8 0,.int .u8 0,.int .u8 0,.int .u8 0,.int .u8 0,.int .u8 0,.int .u8 0,.int .u8 0,.int .u8 0,.int .u8 0,.int .u8 0,.int .u8 0,.int .u8 0,.int .u8 0,.int .u8 0,.int .u8 0,.int .u8 0,.int .u8 0,.int .u8 0,.int .u8 0,.int .u8 0,.int .u8 0,.int .u8 0,.int .u8 0,.int .u8 0,.int .u8 0,.int .u8 0,.int .u8 0,.int .u8 0],aF:=[] }:=by kernel_rfl
def MS:ty Tryz.prog 195 = { kind:=2,size:=64,bytes:=64,elem:=5,len:=64,zero:=some [.int .u8 0,.int .u8 0,.int .u8 0,.int .u8 0,.int .u8 0,.int .u8 0,.int .u8 0,.int .u8 0,.int .u8 0,.int .u8 0,.int .u8 0,.int .u8 0,.int .u8 0,.int .u8 0,.int .u8 0,.int .u8 0,.int .u8 0,.int .u8 0,.int .u8 0,.int .u8 0,.int .u8 0,.int .u8 0,.int .u8 0,.int .u8 0,.int .u8 0,.int .u8 0,.int .u8 0,.int .u8 0,.int .u8 0,.int .u8 0,.int .u8 0,.int .u8 0,.int .u8 0,.int .u8 0,.int .u8 0,.int .u8 0,.int .u8 0,.int .u8 0,.int .u8 0,.int .u8 0,.int .u8 0,.int .u8 0,.int .u8 0,.int .u8 0,.int .u8 0,.int .u8 0,.int .u8 0,.int .u8 0,.int .u8 0,.int .u8 0,.int .u8 0,.int .u8 0,.int .u8 0,.int .u8 0,.int .u8 0,.int .u8 0,.int .u8 0,.int .u8 0,.int .u8 0,.int .u8 0,.int .u8 0,.int .u8 0,.int .u8 0,.int .u8 0],aF:=[] }:=by kernel_rfl
def MT:ty Tryz.prog 197 = { kind:=5,size:=1,bytes:=8,elem:=0,len:=0,zero:=some [.int .u64 0],aF:=[] }:=by kernel_rfl
def MU:ty Tryz.prog 201 = { kind:=7,size:=1,bytes:=8,elem:=3,len:=0,zero:=some [.pointer none],aF:=[] }:=by kernel_rfl
def MV:ty Tryz.prog 207 = { kind:=7,size:=1,bytes:=8,elem:=185,len:=0,zero:=some [.pointer none],aF:=[] }:=by kernel_rfl
def MW:ty Tryz.prog 208 = { kind:=8,size:=1,bytes:=8,elem:=209,len:=0,zero:=some [.map none],aF:=[] }:=by kernel_rfl
def MX:ty Tryz.prog 209 = { kind:=8,size:=1,bytes:=8,elem:=3,len:=0,zero:=some [.map none],aF:=[] }:=by kernel_rfl
def MY:ty Tryz.prog 211 = { kind:=7,size:=1,bytes:=8,elem:=197,len:=0,zero:=some [.pointer none],aF:=[] }:=by kernel_rfl
def MZ:ty Tryz.prog 220 = { kind:=3,size:=4,bytes:=40,elem:=0,len:=0,zero:=some [.pointer none,.pointer none,.pointer none,.string ⟨#[]⟩],aF:=[(0,17,1),(1,17,1),(2,17,1),(3,9,1)] }:=by kernel_rfl
def M0:ty Tryz.prog 221 = { kind:=3,size:=4,bytes:=40,elem:=0,len:=0,zero:=some [.pointer none,.pointer none,.pointer none,.string ⟨#[]⟩],aF:=[(0,17,1),(1,17,1),(2,17,1),(3,9,1)] }:=by kernel_rfl
def M1:ty Tryz.prog 222 = { kind:=2,size:=0,bytes:=0,elem:=16,len:=0,zero:=some [],aF:=[] }:=by kernel_rfl
def M3:ty Tryz.prog 223 = { kind:=3,size:=0,bytes:=0,elem:=0,len:=0,zero:=some [],aF:=[(0,222,0)] }:=by kernel_rfl
def M4:ty Tryz.prog 224 = { kind:=3,size:=0,bytes:=0,elem:=0,len:=0,zero:=some [],aF:=[(0,222,0)] }:=by kernel_rfl
def M5:ty Tryz.prog 225 = { kind:=5,size:=1,bytes:=1,elem:=0,len:=0,zero:=some [.int .u8 0],aF:=[] }:=by kernel_rfl
def M6:ty Tryz.prog 226 = { kind:=5,size:=1,bytes:=1,elem:=0,len:=0,zero:=some [.int .u8 0],aF:=[] }:=by kernel_rfl
def M7:ty Tryz.prog 228 = { kind:=7,size:=1,bytes:=8,elem:=5,len:=0,zero:=some [.pointer none],aF:=[] }:=by kernel_rfl
def M8:ty Tryz.prog 229 = { kind:=5,size:=1,bytes:=4,elem:=0,len:=0,zero:=some [.int .i32 0],aF:=[] }:=by kernel_rfl
def M9:ty Tryz.prog 230 = { kind:=5,size:=1,bytes:=4,elem:=0,len:=0,zero:=some [.int .i32 0],aF:=[] }:=by kernel_rfl
def M':ty Tryz.prog 231 = { kind:=3,size:=11,bytes:=48,elem:=0,len:=0,zero:=some [.int .u64 0,.int .u64 0,.int .u32 0,.int .u8 0,.int .u8 0,.int .u8 0,.int .u8 0,.nilFunc,.pointer none,.int .i32 0,.int .i32 0],aF:=[(0,12,1),(1,12,1),(2,165,1),(3,225,1),(4,5,1),(5,5,1),(6,226,1),(7,227,1),(8,228,1),(9,229,1),(10,230,1)] }:=by kernel_rfl
def Na:ty Tryz.prog 232 = { kind:=3,size:=11,bytes:=48,elem:=0,len:=0,zero:=some [.int .u64 0,.int .u64 0,.int .u32 0,.int .u8 0,.int .u8 0,.int .u8 0,.int .u8 0,.nilFunc,.pointer none,.int .i32 0,.int .i32 0],aF:=[(0,12,1),(1,12,1),(2,165,1),(3,225,1),(4,5,1),(5,5,1),(6,226,1),(7,227,1),(8,228,1),(9,229,1),(10,230,1)] }:=by kernel_rfl
def Nb:Tryz.prog.underlying 2=some (.int .i64):=by kernel_rfl
def Nc:Tryz.prog.underlying 3=some (.int .i64):=by kernel_rfl
def Nf:Tryz.prog.underlying 5=some (.int .u8):=by kernel_rfl
def Ng:Tryz.prog.underlying 6=some (.int .u8):=by kernel_rfl
def Nh:Tryz.prog.underlying 12=some (.int .u64):=by kernel_rfl
def Ni:Tryz.prog.underlying 21=some (.int .i32):=by kernel_rfl
def Nj:Tryz.prog.underlying 53=some (.int .i64):=by kernel_rfl
def Nk:Tryz.prog.underlying 132=some (.int .u64):=by kernel_rfl
def Nl:Tryz.prog.underlying 165=some (.int .u32):=by kernel_rfl
def Nn:Tryz.prog.underlying 167=some (.int .u64):=by kernel_rfl
def Np:Tryz.prog.underlying 169=some (.int .i64):=by kernel_rfl
def Nq:Tryz.prog.underlying 197=some (.int .u64):=by kernel_rfl
def Nr:Tryz.prog.underlying 225=some (.int .u8):=by kernel_rfl
def Ns:Tryz.prog.underlying 226=some (.int .u8):=by kernel_rfl
def Nt:Tryz.prog.underlying 229=some (.int .i32):=by kernel_rfl
def Nu:Tryz.prog.underlying 230=some (.int .i32):=by kernel_rfl
def Nv:zeroV Tryz.prog 29=some (.slice none 0 0):=by kernel_rfl
def Nw:uI Tryz.prog 85=2:=by kernel_rfl
def Nx:zeroV Tryz.prog 90=some (.slice none 0 0):=by kernel_rfl
def Ny:uI Tryz.prog 129=4:=by kernel_rfl
def Nz:zeroV Tryz.prog 209=some (.map none):=by kernel_rfl
def NA:uI Tryz.prog 208=0:=by kernel_rfl
def NC:gF Tryz.prog 208 0:=gF.int (kt:=3) (et:=209) (by kernel_rfl) (by kernel_rfl)
def ND:zeroV Tryz.prog 3=some (.int .i64 0):=by kernel_rfl
def NF:uI Tryz.prog 209=0:=by kernel_rfl
def NG:gF Tryz.prog 209 0:=gF.int (kt:=3) (et:=3) (by kernel_rfl) (by kernel_rfl)
def NH:uJ Tryz.prog 9=false:=by kernel_rfl
def NI:Tryz.prog.underlying 9=some .string:=by kernel_rfl
def qq:type_of% Lh/\type_of% Li/\type_of% Lj/\type_of% Lk/\type_of% Ll/\type_of% Lm/\type_of% Ln/\type_of% Lo/\type_of% Lp/\type_of% Lr/\type_of% Ls/\type_of% Lt/\type_of% Lu/\type_of% Lv/\type_of% Lw/\type_of% Lx/\type_of% Ly/\type_of% Lz/\type_of% LA/\type_of% LD/\type_of% LF/\type_of% LH/\type_of% LI/\type_of% LJ/\type_of% LK/\type_of% LL/\type_of% LM/\type_of% LN/\type_of% LP/\type_of% LQ/\type_of% LS/\type_of% LU/\type_of% LV/\type_of% LW/\type_of% LX/\type_of% LY/\type_of% LZ/\type_of% L0/\type_of% L1/\type_of% L2/\type_of% L3/\type_of% L4/\type_of% L5/\type_of% L6/\type_of% L7/\type_of% L8/\type_of% L9/\type_of% Ma/\type_of% Mb/\type_of% Mc/\type_of% Md/\type_of% Me/\type_of% Mf/\type_of% Mg/\type_of% Mh/\type_of% Mi/\type_of% Mj/\type_of% Mk/\type_of% Mm/\type_of% Mn/\type_of% Mo/\type_of% Mp/\type_of% Mq/\type_of% Mr/\type_of% Ms/\type_of% Mt/\type_of% Mu/\type_of% Mw/\type_of% Mx/\type_of% My/\type_of% Mz/\type_of% MA/\type_of% MC/\type_of% MD/\type_of% ME/\type_of% MF/\type_of% MG/\type_of% MH/\type_of% MI/\type_of% MJ/\type_of% MK/\type_of% ML/\type_of% MN/\type_of% MO/\type_of% MP/\type_of% MQ/\type_of% MR/\type_of% MS/\type_of% MT/\type_of% MU/\type_of% MV/\type_of% MW/\type_of% MX/\type_of% MY/\type_of% MZ/\type_of% M0/\type_of% M1/\type_of% M3/\type_of% M4/\type_of% M5/\type_of% M6/\type_of% M7/\type_of% M8/\type_of% M9/\type_of% M'/\type_of% Na/\type_of% Nb/\type_of% Nc/\type_of% Nf/\type_of% Ng/\type_of% Nh/\type_of% Ni/\type_of% Nj/\type_of% Nk/\type_of% Nl/\type_of% Nn/\type_of% Np/\type_of% Nq/\type_of% Nr/\type_of% Ns/\type_of% Nt/\type_of% Nu/\type_of% Nv/\type_of% Nw/\type_of% Nx/\type_of% Ny/\type_of% Nz/\type_of% NA/\type_of% NC/\type_of% ND/\type_of% NF/\type_of% NG/\type_of% NH/\type_of% NI :=
 ⟨Lh,Li,Lj,Lk,Ll,Lm,Ln,Lo,Lp,Lr,Ls,Lt,Lu,Lv,Lw,Lx,Ly,Lz,LA,LD,LF,LH,LI,LJ,LK,LL,LM,LN,LP,LQ,LS,LU,LV,LW,LX,LY,LZ,L0,L1,L2,L3,L4,L5,L6,L7,L8,L9,Ma,Mb,Mc,Md,Me,Mf,Mg,Mh,Mi,Mj,Mk,Mm,Mn,Mo,Mp,Mq,Mr,Ms,Mt,Mu,Mw,Mx,My,Mz,MA,MC,MD,ME,MF,MG,MH,MI,MJ,MK,ML,MN,MO,MP,MQ,MR,MS,MT,MU,MV,MW,MX,MY,MZ,M0,M1,M3,M4,M5,M6,M7,M8,M9,M',Na,Nb,Nc,Nf,Ng,Nh,Ni,Nj,Nk,Nl,Nn,Np,Nq,Nr,Ns,Nt,Nu,Nv,Nw,Nx,Ny,Nz,NA,NC,ND,NF,NG,NH,NI⟩
def Ac:=aal @qq @Bc @Sc @Rc
def Kc:=aal @rf @Lc @qq @Rc
def Oc:=aau @lQ.eq_1 @lQ.eq_2 @or_true @false_or @Bc @Sc @Rc
def Hr:=aav @n8.eq_1 @n8.eq_2 @Bc @Rc @rf @Lc @qq (aaj @and_true @xS @vV)
def Tc:=aav @Has.eq_1 @Has.eq_2 @aJ.{0} @cK.{0} @g8.{0} @gM @rf (aat @Lc @qq @Rc @and_true @xS @vV)
def Qc:=aav @wy.eq_1 @wy.eq_2 @dN.eq_1 @dN.eq_2 @dN.eq_3 @dO.eq_1 @NJ (aat @NK @g8.{0} @rf @Lc @qq @Rc)
inductive Sq(P:Program)(N n0:Nat)(y:Code)(Q:Exit->St->Prop):Exit->St->Prop
 |n (s:St) (h:W P N n0 y Q s):Sq P N n0 y Q .normal s
 |e (e:Exit) (s:St) (hi:re e=false) (h:Q e s):Sq P N n0 y Q e s
inductive Bq(id:Nat)(Q:Exit->St->Prop):Exit->St->Prop
 |n (s:St) (h:Q .normal s):Bq id Q .normal s
 |x (s:St) (h:Q .normal s):Bq id Q (.exit id) s
 |e (e:Exit) (s:St) (hi:yd id e=false) (h:Q e s):Bq id Q e s
section
variable {P:Program} {N n0:Nat} {σ:St} {Q:Exit->St->Prop}
def Xk{x y:Code}(h:W P N n0 x (Sq P N n0 y Q) σ):W P N n0 (.seq x y) Q σ:=Wk λ_ h1 h2=>KT h λ_ _ h=>by
 cases h with
 |n _ h=>exact h1 _ h
 |e _ _ hi h=>exact h2 _ _ hi h
def Xb{id:Nat}{c:Code}(h:W P N n0 c (Bq id Q) σ):W P N n0 (.block id c) Q σ:=Wb λ_ h1 h2 h3=>KT h λ_ _ h=>by
 cases h with
 |n _ h=>exact h1 _ h
 |x _ h=>exact h2 _ h
 |e _ _ hi h=>exact h3 _ _ hi h
def hn{y:Code}(s:St)(h:W P N n0 y Q s):Sq P N n0 y Q .normal s:=.n s h
def he{y:Code}(e:Exit)(s:St)(hi:re e=false)(h:Q e s):Sq P N n0 y Q e s:=.e e s hi h
def s0{id:Nat}(s:St)(h:Q .normal s):Bq id Q .normal s:=.n s h
def Uz{id:Nat}(s:St)(h:Q .normal s):Bq id Q (.exit id) s:=.x s h
def EO{x y:Code}(h:∀ Q':Exit->St->Prop,(∀ s,W P N n0 y Q s->Q' .normal s)->(∀ e s,re e=false->Q e s->Q' e s)->W P N n0 x Q' σ):W P N n0 x (Sq P N n0 y Q) σ:=h _ .n .e
def EP{x y z:Code}(h:∀ Q':Exit->St->Prop,(∀ s,W P N n0 y Q s->Q' .normal s)->(∀ e s,re e=false->Q e s->Q' e s)->W P N n0 x (Sq P N n0 z Q') σ):W P N n0 x (Sq P N n0 z (Sq P N n0 y Q)) σ:=h _ .n .e
def UA{x y z:Code}{id:Nat}(h:∀ Q':Exit->St->Prop,(∀ s,W P N n0 y Q s->Q' .normal s)->(∀ e s,re e=false->Q e s->Q' e s)->W P N n0 x (Sq P N n0 z (Bq id Q')) σ):W P N n0 x (Sq P N n0 z (Bq id (Sq P N n0 y Q))) σ:=h _ .n .e
end
def X0:True:=trivial
def X2{a b:Prop}(x:a)(y:b):a/\b:=⟨x,y⟩
def X3{a b c:Prop}(x:a)(y:b)(z:c):a/\b/\c:=⟨x,y,z⟩
def X4{a b c d:Prop}(x:a)(y:b)(z:c)(u:d):a/\b/\c/\d:=⟨x,y,z,u⟩
def X5{a b c d e:Prop}(x:a)(y:b)(z:c)(u:d)(v:e):a/\b/\c/\d/\e:=⟨x,y,z,u,v⟩
theorem Xr{p q e:Prop}(x:e)(h:q)(k:e->q->p:=by first|(intro hx hq;(first|refine rr ?_|refine qt ?_);intro K hK;simp(disch:=omega)only[Ac,↓Pc,simprocAttr,hx];revert hK;revert K;exact hq)|fail):p:=k x h
theorem Xq{p q e:Prop}(x:e)(h:q)(k:e->q->p:=by first|(intro hx hq;(first|refine rr ?_|refine qt ?_|refine rb ?_|refine ye ?_|refine ra ?_|refine yf ?_);intro K hK;simp(disch:=omega)only[Ac,↓Pc,simprocAttr,hx];revert hK;revert K;exact hq)|fail):p:=k x h
theorem Xo{p q e:Prop}(x:e)(h:q)(k:e->q->p:=by first|(intro hx hq;with_reducible refine gO ?_;simp(disch:=omega)only[Ac,↓Pc,simprocAttr,hx];exact hq)|fail):p:=k x h
theorem Xc{p q t:Prop}(c:t)(h:q)(k:t->q->p:=by first|(intro hc hq;(first|refine br hc rfl rfl ?_|refine bC hc rfl rfl ?_);exact hq)|fail):p:=k c h
theorem Xg{p q r e:Prop}(x:e)(h:q)(h2:r)(k:e->q->r->p/\True:=by first|(intro hx hq hr;refine And.intro ?_ ?_;(with_reducible refine gS (fun bS=>?_) (fun bS=>?_));(focus (have hb:=bS;(try simp only[wj,simprocAttr]at hb);all_goals(simp(disch:=omega)only[Ac,↓Pc,simprocAttr,hx,bS]);all_goals(clear bS;revert hb;exact hq)));(focus (have hb:=bS;(try simp only[wj,simprocAttr]at hb);all_goals(simp(disch:=omega)only[Ac,↓Pc,simprocAttr,hx,bS]);all_goals(clear bS;revert hb;exact hr)));((try have _:True:=hq);(try have _:True:=hr);trivial))|fail):p:=(k x h h2).1
theorem Xi{p q r:Prop}(h:q)(h2:r)(k:q->r->p/\True:=by first|(intro hq hr;refine And.intro ?_ ?_;refine Wc ?_ ?_;(focus (intro ht;(try simp only[wj,simprocAttr]at ht);all_goals(revert ht;exact hq)));(focus (intro ht;(try simp only[wj,simprocAttr]at ht);all_goals(revert ht;exact hr)));((try have _:True:=hq);(try have _:True:=hr);trivial))|fail):p:=(k h h2).1
theorem Xz{p q:Prop}(h:q)(k:q->p:=by first|(intro hq;(first|refine Wz rfl ?_|refine Xk ?_|refine Xb ?_|refine Sq.n _ ?_|refine Sq.e _ _ rfl ?_|refine Bq.n _ ?_|refine Bq.x _ ?_|refine Bq.e _ _ rfl ?_|refine hn _ ?_|refine he _ _ rfl ?_);(repeat(first|refine Wz rfl ?_|refine Xk ?_|refine Xb ?_|refine Sq.n _ ?_|refine Sq.e _ _ rfl ?_|refine Bq.n _ ?_|refine Bq.x _ ?_|refine Bq.e _ _ rfl ?_|refine hn _ ?_|refine he _ _ rfl ?_));exact hq)|fail):p:=k h
theorem Xh{p q:Prop}(h:q)(k:q->p:=by first|(intro hq;(first|refine ay _ _ rfl ?_|refine bf _ _ rfl ?_|refine dJ _ _ rfl ?_|refine ja _ _ rfl ?_);exact hq)|fail):p:=k h
theorem Xu{p q:Prop}(h:q)(k:q->p:=by first|(intro hq;(first|refine Sq.n _ ?_|refine Sq.e _ _ rfl ?_|refine Bq.n _ ?_|refine Bq.x _ ?_|refine Bq.e _ _ rfl ?_|refine hn _ ?_|refine he _ _ rfl ?_|refine ay _ _ rfl ?_|refine bf _ _ rfl ?_|refine dJ _ _ rfl ?_|refine ja _ _ rfl ?_);exact hq)|fail):p:=k h
theorem Xe{p q:Prop}(h:q)(k:q->p:=by first|(intro hq;simp only[Qc,Kc,simprocAttr];exact hq)|fail):p:=k h
theorem Xy{p q:Prop}(h:q)(k:q->p:=by first|(intro hq;refine Xz ?_;exact hq)|(intro hq;refine Xe ?_;exact hq)|fail):p:=k h
theorem XY{p q:Prop}(h:q)(k:q->p:=by first|(intro hq;refine Xz ?_;exact hq)|(intro hq;refine Xh ?_;exact hq)|(intro hq;refine Xe ?_;exact hq)|fail):p:=k h
theorem Xx{p:Prop}(h:p:=by first|omega|with_reducible rfl|exact trivial|fail):p:=h
theorem Xl{n0:Nat}{e:Nat->AV}{os:List Ob}{v res:AV}{aY:List Ob}(ho:os=aY)(h:v=res)(hl:n0<=aY.length:=by(simp only[List.length_cons,List.length_nil];omega)):my n0 ⟨e,os⟩ v res aY:=iy ho hl h
theorem Xd{p q r:Prop}(h:q)(h2:r)(k:q->r->p:=by first|(intro hq hr;with_reducible refine And.intro ?_ ?_;exact hq;exact hr)|fail):p:=k h h2
theorem Xv{n0:Nat}{σ S:St}{e:Prop}(x:e)(k:e->aC n0 σ S:=by first|(intro hx;refine aC.au _ _ rfl ?_;simp only[Tc,↓reduceIte,Nat.reduceEqDiff,Nat.reduceBEq,Nat.reduceAdd,hx];(try trivial);done)|fail):aC n0 σ S:=k x
theorem Xs{n0:Nat}{σ:St}{l:List (Nat×AV)}{co:List Ob}{e:Prop}(snap:Bool)(ab:List Nat)(x:e)(h1:e->lQ (bq σ.aa.length ab) σ.aa ab co:=by(intro hx;simp only[Oc,simprocAttr,hx]))(h2:e->n8 (a9 σ (kept ab co) (bq σ.aa.length ab) snap) σ.env l:=by(intro hx;simp only[Hr,↓reduceIte,Nat.reduceEqDiff,Nat.reduceBEq,Nat.reduceAdd,hx];(try(and_intros<;>first|exact .pure rfl|exact .eq rfl|exact .fz rfl (by simp only[Bc,Rc])))))(cR:ab.Nodup:=by decide)(hn:n0<=ab.length:=by decide)(cp:∀ i,i<n0->ab.getD i 0=i:=by decide):aC n0 σ ⟨au l,co⟩:=aC.se ab snap (h1 x) (h2 x) cR hn cp
theorem Xw{n0:Nat}{σ:St}{v res:AV}{aY:List Ob}{e:Prop}(snap:Bool)(ab:List Nat)(x:e)(h1:e->lQ (bq σ.aa.length ab) σ.aa ab aY:=by(intro hx;simp only[Oc,simprocAttr,hx]))(h2:a9 σ (kept ab aY) (bq σ.aa.length ab) snap res v:=by first|exact .pure rfl|exact .eq rfl|exact .fz rfl (by simp only[Bc,Rc]))(cR:ab.Nodup:=by decide)(hn:n0<=ab.length:=by decide)(cp:∀ i,i<n0->ab.getD i 0=i:=by decide):my n0 σ v res aY:=UB ab snap (h1 x) h2 cR hn cp
theorem Xn(ab:List Nat){P:Program}{σ:St}{f:FuncId}{args cu:List AV}{bn:List Ob}{dst:Option Tmp}{K:St->Prop}{res:AV}{bY:List Ob}(h:ao P f cu bn res bY)(hK:K (({ σ with aa:=dU σ.aa ab (bY.map (bu (bq σ.aa.length ab))) }:St).put dst (aU (bq σ.aa.length ab) res)))(cR:ab.Nodup:=by decide)(ho:sT (bq σ.aa.length ab) σ.aa ab bn:=by((repeat'(first|exact trivial|with_reducible refine And.intro ?_ ?_|refine And.intro ?_ ?_))<;>first|rfl|(rw[wi];rfl)|(rw[yl];rfl)|(rw[we];rfl)|(rw[DY];rfl)))(ha:jQ (a9 σ (·∈ab) (bq σ.aa.length ab) false) cu args:=by((repeat'(first|exact trivial|refine And.intro ?_ ?_))<;>(first|exact .pure rfl|exact .eq rfl|exact .fz rfl (by simp only[Bc,Rc])))):nX P f args dst K σ:=fD ab h cR ho ha hK
def Pw:=aat @KA @wm @sX @sY @ej.eq_1 @cQ.eq_1
theorem Va{p q e:Prop}(x:e)(h:q)(k:e->q->p:=by first|(intro hx hq;(try with_reducible intro K hK);(first|((first|refine rr ?_|refine qt ?_);intro K hK;simp(disch:=omega)only[Ac,↓Pc,simprocAttr,hx];show _)|(with_reducible refine gO ?_;simp(disch:=omega)only[Ac,↓Pc,simprocAttr,hx];show _)|(refine hK _ ?_;clear hK K)|refine Wz rfl ?_|refine Xk ?_|refine Xb ?_|refine Sq.n _ ?_|refine Sq.e _ _ rfl ?_|refine Bq.n _ ?_|refine Bq.x _ ?_|refine Bq.e _ _ rfl ?_|refine hn _ ?_|refine he _ _ rfl ?_|(simp only[Qc,Kc,simprocAttr];show _)|(with_reducible refine And.intro ?_ ?_;(focus (clear hq;first|omega|with_reducible rfl|exact trivial))));(repeat(first|((first|refine rr ?_|refine qt ?_);intro K hK;simp(disch:=omega)only[Ac,↓Pc,simprocAttr,hx];show _)|(with_reducible refine gO ?_;simp(disch:=omega)only[Ac,↓Pc,simprocAttr,hx];show _)|(refine hK _ ?_;clear hK K)|refine Wz rfl ?_|refine Xk ?_|refine Xb ?_|refine Sq.n _ ?_|refine Sq.e _ _ rfl ?_|refine Bq.n _ ?_|refine Bq.x _ ?_|refine Bq.e _ _ rfl ?_|refine hn _ ?_|refine he _ _ rfl ?_|(simp only[Qc,Kc,simprocAttr];show _)|(with_reducible refine And.intro ?_ ?_;(focus (clear hq;first|omega|with_reducible rfl|exact trivial)))));(try revert hK);(try revert K);exact hq)|fail):p:=k x h
theorem Vb{p q e:Prop}(x:e)(h:q)(k:e->q->p:=by first|(intro hx hq;(try with_reducible intro K hK);(first|((first|refine rr ?_|refine qt ?_);intro K hK;simp(disch:=omega)only[Ac,↓Pc,simprocAttr,hx];show _)|(with_reducible refine gO ?_;simp(disch:=omega)only[Ac,↓Pc,simprocAttr,hx];show _)|(refine hK _ ?_;clear hK K)|refine Wz rfl ?_|refine Xk ?_|refine Xb ?_|refine Sq.n _ ?_|refine Sq.e _ _ rfl ?_|refine Bq.n _ ?_|refine Bq.x _ ?_|refine Bq.e _ _ rfl ?_|refine hn _ ?_|refine he _ _ rfl ?_|refine ay _ _ rfl ?_|refine bf _ _ rfl ?_|refine dJ _ _ rfl ?_|refine ja _ _ rfl ?_|(simp only[Qc,Kc,simprocAttr];show _)|(with_reducible refine And.intro ?_ ?_;(focus (clear hq;first|omega|with_reducible rfl|exact trivial))));(repeat(first|((first|refine rr ?_|refine qt ?_);intro K hK;simp(disch:=omega)only[Ac,↓Pc,simprocAttr,hx];show _)|(with_reducible refine gO ?_;simp(disch:=omega)only[Ac,↓Pc,simprocAttr,hx];show _)|(refine hK _ ?_;clear hK K)|refine Wz rfl ?_|refine Xk ?_|refine Xb ?_|refine Sq.n _ ?_|refine Sq.e _ _ rfl ?_|refine Bq.n _ ?_|refine Bq.x _ ?_|refine Bq.e _ _ rfl ?_|refine hn _ ?_|refine he _ _ rfl ?_|refine ay _ _ rfl ?_|refine bf _ _ rfl ?_|refine dJ _ _ rfl ?_|refine ja _ _ rfl ?_|(simp only[Qc,Kc,simprocAttr];show _)|(with_reducible refine And.intro ?_ ?_;(focus (clear hq;first|omega|with_reducible rfl|exact trivial)))));(try revert hK);(try revert K);exact hq)|fail):p:=k x h
theorem Vc{p q e t:Prop}(x:e)(c:t)(h:q)(k:e->t->q->p:=by first|(intro hx hc hq;(try with_reducible intro K hK);(first|((first|refine rr ?_|refine qt ?_|refine rb ?_|refine ye ?_|refine ra ?_|refine yf ?_);intro K hK;simp(disch:=omega)only[Ac,↓Pc,simprocAttr,hx];show _)|(with_reducible refine gO ?_;simp(disch:=omega)only[Ac,↓Pc,simprocAttr,hx];show _)|(refine hK _ ?_;clear hK K)|refine Wz rfl ?_|refine Xk ?_|refine Xb ?_|refine Sq.n _ ?_|refine Sq.e _ _ rfl ?_|refine Bq.n _ ?_|refine Bq.x _ ?_|refine Bq.e _ _ rfl ?_|refine hn _ ?_|refine he _ _ rfl ?_|(simp only[Qc,Kc,simprocAttr];show _)|(with_reducible refine And.intro ?_ ?_;(focus (clear hq;first|omega|with_reducible rfl|exact trivial)))|(apply br;(focus(repeat(first|exact hc|exact hc.1|have hc:=hc.2)));rfl;rfl)|(apply bC;(focus(repeat(first|exact hc|exact hc.1|have hc:=hc.2)));rfl;rfl));(repeat(first|((first|refine rr ?_|refine qt ?_|refine rb ?_|refine ye ?_|refine ra ?_|refine yf ?_);intro K hK;simp(disch:=omega)only[Ac,↓Pc,simprocAttr,hx];show _)|(with_reducible refine gO ?_;simp(disch:=omega)only[Ac,↓Pc,simprocAttr,hx];show _)|(refine hK _ ?_;clear hK K)|refine Wz rfl ?_|refine Xk ?_|refine Xb ?_|refine Sq.n _ ?_|refine Sq.e _ _ rfl ?_|refine Bq.n _ ?_|refine Bq.x _ ?_|refine Bq.e _ _ rfl ?_|refine hn _ ?_|refine he _ _ rfl ?_|(simp only[Qc,Kc,simprocAttr];show _)|(with_reducible refine And.intro ?_ ?_;(focus (clear hq;first|omega|with_reducible rfl|exact trivial)))|(apply br;(focus(repeat(first|exact hc|exact hc.1|have hc:=hc.2)));rfl;rfl)|(apply bC;(focus(repeat(first|exact hc|exact hc.1|have hc:=hc.2)));rfl;rfl)));(try revert hK);(try revert K);exact hq)|fail):p:=k x c h
theorem Vd{p q e t:Prop}(x:e)(c:t)(h:q)(k:e->t->q->p:=by first|(intro hx hc hq;(try with_reducible intro K hK);(first|((first|refine rr ?_|refine qt ?_|refine rb ?_|refine ye ?_|refine ra ?_|refine yf ?_);intro K hK;simp(disch:=omega)only[Ac,↓Pc,simprocAttr,hx];show _)|(with_reducible refine gO ?_;simp(disch:=omega)only[Ac,↓Pc,simprocAttr,hx];show _)|(refine hK _ ?_;clear hK K)|refine Wz rfl ?_|refine Xk ?_|refine Xb ?_|refine Sq.n _ ?_|refine Sq.e _ _ rfl ?_|refine Bq.n _ ?_|refine Bq.x _ ?_|refine Bq.e _ _ rfl ?_|refine hn _ ?_|refine he _ _ rfl ?_|refine ay _ _ rfl ?_|refine bf _ _ rfl ?_|refine dJ _ _ rfl ?_|refine ja _ _ rfl ?_|(simp only[Qc,Kc,simprocAttr];show _)|(with_reducible refine And.intro ?_ ?_;(focus (clear hq;first|omega|with_reducible rfl|exact trivial)))|(apply br;(focus(repeat(first|exact hc|exact hc.1|have hc:=hc.2)));rfl;rfl)|(apply bC;(focus(repeat(first|exact hc|exact hc.1|have hc:=hc.2)));rfl;rfl));(repeat(first|((first|refine rr ?_|refine qt ?_|refine rb ?_|refine ye ?_|refine ra ?_|refine yf ?_);intro K hK;simp(disch:=omega)only[Ac,↓Pc,simprocAttr,hx];show _)|(with_reducible refine gO ?_;simp(disch:=omega)only[Ac,↓Pc,simprocAttr,hx];show _)|(refine hK _ ?_;clear hK K)|refine Wz rfl ?_|refine Xk ?_|refine Xb ?_|refine Sq.n _ ?_|refine Sq.e _ _ rfl ?_|refine Bq.n _ ?_|refine Bq.x _ ?_|refine Bq.e _ _ rfl ?_|refine hn _ ?_|refine he _ _ rfl ?_|refine ay _ _ rfl ?_|refine bf _ _ rfl ?_|refine dJ _ _ rfl ?_|refine ja _ _ rfl ?_|(simp only[Qc,Kc,simprocAttr];show _)|(with_reducible refine And.intro ?_ ?_;(focus (clear hq;first|omega|with_reducible rfl|exact trivial)))|(apply br;(focus(repeat(first|exact hc|exact hc.1|have hc:=hc.2)));rfl;rfl)|(apply bC;(focus(repeat(first|exact hc|exact hc.1|have hc:=hc.2)));rfl;rfl)));(try revert hK);(try revert K);exact hq)|fail):p:=k x c h
theorem V2{p q r e:Prop}(x:e)(h:q)(h2:r)(k:e->q->r->p/\True:=by first|(intro hx hq hr;refine And.intro ?_ ?_;(try with_reducible intro K hK);(with_reducible refine gS (fun bS=>?_) (fun bS=>?_));(focus (have hb:=bS;(try simp only[wj,simprocAttr]at hb);all_goals(simp(disch:=omega)only[Ac,↓Pc,simprocAttr,hx,bS]);all_goals(clear bS;(try revert hK);(try revert K);revert hb;exact hq)));(focus (have hb:=bS;(try simp only[wj,simprocAttr]at hb);all_goals(simp(disch:=omega)only[Ac,↓Pc,simprocAttr,hx,bS]);all_goals(clear bS;(try revert hK);(try revert K);revert hb;exact hr)));((try have _:True:=hq);(try have _:True:=hr);trivial))|fail):p:=(k x h h2).1
theorem VD{p q r:Prop}(h:q)(h2:r)(k:q->r->p:=by first|(intro hq hr;(try with_reducible intro K hK);with_reducible refine And.intro ?_ ?_;(focus ((try clear hK K);(try revert hK);(try revert K);exact hq));(focus ((try clear hK K);(try revert hK);(try revert K);exact hr)))|fail):p:=k h h2
end T

