import Derived.Test.YtibijngmebpmmaaGreatAmI
import Derived.Test.YtibijngmebpmmaaGreatCS
import Derived.Test.YtibijngmebpmmaaGreatProg
import Derived.KernelRfl
set_option linter.unusedVariables false
set_option linter.unusedSimpArgs false
set_option linter.unnecessarySimpa false
open Go Go.Am Go.Proofs
namespace T
theorem ty2:ty Tryz.prog 2 = { kind:=5,size:=1,bytes:=8,elem:=0,len:=0,zero:=some [.int .i64 0],flds:=[] }:=by kernel_rfl
theorem ty3:ty Tryz.prog 3 = { kind:=5,size:=1,bytes:=8,elem:=0,len:=0,zero:=some [.int .i64 0],flds:=[] }:=by kernel_rfl
theorem ty4:ty Tryz.prog 4 = { kind:=6,size:=1,bytes:=1,elem:=0,len:=0,zero:=some [.bool false],flds:=[] }:=by kernel_rfl
theorem ty5:ty Tryz.prog 5 = { kind:=5,size:=1,bytes:=1,elem:=0,len:=0,zero:=some [.int .u8 0],flds:=[] }:=by kernel_rfl
theorem ty6:ty Tryz.prog 6 = { kind:=5,size:=1,bytes:=1,elem:=0,len:=0,zero:=some [.int .u8 0],flds:=[] }:=by kernel_rfl
theorem ty7:ty Tryz.prog 7 = { kind:=3,size:=4,bytes:=24,elem:=0,len:=0,zero:=some [.int .i64 0,.int .i64 0,.bool false,.int .u8 0],flds:=[(0,2,1),(1,3,1),(2,4,1),(3,6,1)] }:=by kernel_rfl
theorem ty8:ty Tryz.prog 8 = { kind:=3,size:=4,bytes:=24,elem:=0,len:=0,zero:=some [.int .i64 0,.int .i64 0,.bool false,.int .u8 0],flds:=[(0,2,1),(1,3,1),(2,4,1),(3,6,1)] }:=by kernel_rfl
theorem ty9:ty Tryz.prog 9 = { kind:=4,size:=1,bytes:=16,elem:=0,len:=0,zero:=some [.string ⟨#[]⟩],flds:=[] }:=by kernel_rfl
theorem ty10:ty Tryz.prog 10 = { kind:=4,size:=1,bytes:=16,elem:=0,len:=0,zero:=some [.string ⟨#[]⟩],flds:=[] }:=by kernel_rfl
theorem ty11:ty Tryz.prog 11 = { kind:=4,size:=1,bytes:=16,elem:=0,len:=0,zero:=some [.string ⟨#[]⟩],flds:=[] }:=by kernel_rfl
theorem ty12:ty Tryz.prog 12 = { kind:=5,size:=1,bytes:=8,elem:=0,len:=0,zero:=some [.int .u64 0],flds:=[] }:=by kernel_rfl
theorem ty13:ty Tryz.prog 13 = { kind:=3,size:=2,bytes:=24,elem:=0,len:=0,zero:=some [.string ⟨#[]⟩,.int .u64 0],flds:=[(0,9,1),(1,12,1)] }:=by kernel_rfl
theorem ty14:ty Tryz.prog 14 = { kind:=3,size:=2,bytes:=24,elem:=0,len:=0,zero:=some [.string ⟨#[]⟩,.int .u64 0],flds:=[(0,9,1),(1,12,1)] }:=by kernel_rfl
theorem ty15:ty Tryz.prog 15 = { kind:=7,size:=1,bytes:=8,elem:=181,len:=0,zero:=some [.pointer none],flds:=[] }:=by kernel_rfl
theorem ty16:ty Tryz.prog 16 = { kind:=7,size:=1,bytes:=8,elem:=184,len:=0,zero:=some [.pointer none],flds:=[] }:=by kernel_rfl
theorem ty17:ty Tryz.prog 17 = { kind:=7,size:=1,bytes:=8,elem:=192,len:=0,zero:=some [.pointer none],flds:=[] }:=by kernel_rfl
theorem ty18:ty Tryz.prog 18 = { kind:=3,size:=1,bytes:=8,elem:=0,len:=0,zero:=some [.pointer none],flds:=[(0,17,1)] }:=by kernel_rfl
theorem ty19:ty Tryz.prog 19 = { kind:=3,size:=1,bytes:=8,elem:=0,len:=0,zero:=some [.pointer none],flds:=[(0,17,1)] }:=by kernel_rfl
theorem ty21:ty Tryz.prog 21 = { kind:=5,size:=1,bytes:=4,elem:=0,len:=0,zero:=some [.int .i32 0],flds:=[] }:=by kernel_rfl
theorem ty22:ty Tryz.prog 22 = { kind:=1,size:=1,bytes:=24,elem:=3,len:=0,zero:=some [.slice none 0 0],flds:=[] }:=by kernel_rfl
theorem ty25:ty Tryz.prog 25 = { kind:=7,size:=1,bytes:=8,elem:=67,len:=0,zero:=some [.pointer none],flds:=[] }:=by kernel_rfl
theorem ty27:ty Tryz.prog 27 = { kind:=1,size:=1,bytes:=24,elem:=51,len:=0,zero:=some [.slice none 0 0],flds:=[] }:=by kernel_rfl
theorem ty28:ty Tryz.prog 28 = { kind:=1,size:=1,bytes:=24,elem:=53,len:=0,zero:=some [.slice none 0 0],flds:=[] }:=by kernel_rfl
theorem ty29:ty Tryz.prog 29 = { kind:=1,size:=1,bytes:=24,elem:=73,len:=0,zero:=some [.slice none 0 0],flds:=[] }:=by kernel_rfl
theorem ty30:ty Tryz.prog 30 = { kind:=3,size:=4,bytes:=80,elem:=0,len:=0,zero:=some [.slice none 0 0,.slice none 0 0,.slice none 0 0,.int .i64 0],flds:=[(0,27,1),(1,28,1),(2,29,1),(3,3,1)] }:=by kernel_rfl
theorem ty31:ty Tryz.prog 31 = { kind:=3,size:=4,bytes:=80,elem:=0,len:=0,zero:=some [.slice none 0 0,.slice none 0 0,.slice none 0 0,.int .i64 0],flds:=[(0,27,1),(1,28,1),(2,29,1),(3,3,1)] }:=by kernel_rfl
theorem ty33:ty Tryz.prog 33 = { kind:=1,size:=1,bytes:=24,elem:=43,len:=0,zero:=some [.slice none 0 0],flds:=[] }:=by kernel_rfl
theorem ty34:ty Tryz.prog 34 = { kind:=3,size:=1,bytes:=24,elem:=0,len:=0,zero:=some [.slice none 0 0],flds:=[(0,33,1)] }:=by kernel_rfl
theorem ty35:ty Tryz.prog 35 = { kind:=3,size:=1,bytes:=24,elem:=0,len:=0,zero:=some [.slice none 0 0],flds:=[(0,33,1)] }:=by kernel_rfl
theorem ty39:ty Tryz.prog 39 = { kind:=7,size:=1,bytes:=8,elem:=43,len:=0,zero:=some [.pointer none],flds:=[] }:=by kernel_rfl
theorem ty40:ty Tryz.prog 40 = { kind:=1,size:=1,bytes:=24,elem:=46,len:=0,zero:=some [.slice none 0 0],flds:=[] }:=by kernel_rfl
theorem ty41:ty Tryz.prog 41 = { kind:=1,size:=1,bytes:=24,elem:=44,len:=0,zero:=some [.slice none 0 0],flds:=[] }:=by kernel_rfl
theorem ty42:ty Tryz.prog 42 = { kind:=3,size:=5,bytes:=104,elem:=0,len:=0,zero:=some [.int .i64 0,.slice none 0 0,.slice none 0 0,.slice none 0 0,.slice none 0 0],flds:=[(0,3,1),(1,22,1),(2,40,1),(3,22,1),(4,41,1)] }:=by kernel_rfl
theorem ty43:ty Tryz.prog 43 = { kind:=3,size:=5,bytes:=104,elem:=0,len:=0,zero:=some [.int .i64 0,.slice none 0 0,.slice none 0 0,.slice none 0 0,.slice none 0 0],flds:=[(0,3,1),(1,22,1),(2,40,1),(3,22,1),(4,41,1)] }:=by kernel_rfl
theorem ty44:ty Tryz.prog 44 = { kind:=1,size:=1,bytes:=24,elem:=55,len:=0,zero:=some [.slice none 0 0],flds:=[] }:=by kernel_rfl
theorem ty45:ty Tryz.prog 45 = { kind:=3,size:=4,bytes:=32,elem:=0,len:=0,zero:=some [.int .i64 0,.int .i64 0,.int .i64 0,.int .i64 0],flds:=[(0,3,1),(1,3,1),(2,3,1),(3,3,1)] }:=by kernel_rfl
theorem ty46:ty Tryz.prog 46 = { kind:=3,size:=4,bytes:=32,elem:=0,len:=0,zero:=some [.int .i64 0,.int .i64 0,.int .i64 0,.int .i64 0],flds:=[(0,3,1),(1,3,1),(2,3,1),(3,3,1)] }:=by kernel_rfl
theorem ty51:ty Tryz.prog 51 = { kind:=1,size:=1,bytes:=24,elem:=62,len:=0,zero:=some [.slice none 0 0],flds:=[] }:=by kernel_rfl
theorem ty52:ty Tryz.prog 52 = { kind:=3,size:=4,bytes:=48,elem:=0,len:=0,zero:=some [.int .i64 0,.int .i64 0,.int .i64 0,.slice none 0 0],flds:=[(0,3,1),(1,3,1),(2,3,1),(3,22,1)] }:=by kernel_rfl
theorem ty53:ty Tryz.prog 53 = { kind:=3,size:=4,bytes:=48,elem:=0,len:=0,zero:=some [.int .i64 0,.int .i64 0,.int .i64 0,.slice none 0 0],flds:=[(0,3,1),(1,3,1),(2,3,1),(3,22,1)] }:=by kernel_rfl
theorem ty54:ty Tryz.prog 54 = { kind:=3,size:=2,bytes:=16,elem:=0,len:=0,zero:=some [.int .i64 0,.int .i64 0],flds:=[(0,3,1),(1,3,1)] }:=by kernel_rfl
theorem ty55:ty Tryz.prog 55 = { kind:=3,size:=2,bytes:=16,elem:=0,len:=0,zero:=some [.int .i64 0,.int .i64 0],flds:=[(0,3,1),(1,3,1)] }:=by kernel_rfl
theorem ty56:ty Tryz.prog 56 = { kind:=3,size:=4,bytes:=32,elem:=0,len:=0,zero:=some [.int .i64 0,.int .i64 0,.int .i64 0,.int .i64 0],flds:=[(0,3,1),(1,3,1),(2,3,1),(3,3,1)] }:=by kernel_rfl
theorem ty57:ty Tryz.prog 57 = { kind:=3,size:=4,bytes:=32,elem:=0,len:=0,zero:=some [.int .i64 0,.int .i64 0,.int .i64 0,.int .i64 0],flds:=[(0,3,1),(1,3,1),(2,3,1),(3,3,1)] }:=by kernel_rfl
theorem ty58:ty Tryz.prog 58 = { kind:=3,size:=5,bytes:=40,elem:=0,len:=0,zero:=some [.int .i64 0,.int .i64 0,.int .i64 0,.int .i64 0,.int .i64 0],flds:=[(0,57,4),(4,3,1)] }:=by kernel_rfl
theorem ty59:ty Tryz.prog 59 = { kind:=3,size:=5,bytes:=40,elem:=0,len:=0,zero:=some [.int .i64 0,.int .i64 0,.int .i64 0,.int .i64 0,.int .i64 0],flds:=[(0,57,4),(4,3,1)] }:=by kernel_rfl
theorem ty60:ty Tryz.prog 60 = { kind:=1,size:=1,bytes:=24,elem:=70,len:=0,zero:=some [.slice none 0 0],flds:=[] }:=by kernel_rfl
theorem ty61:ty Tryz.prog 61 = { kind:=3,size:=6,bytes:=64,elem:=0,len:=0,zero:=some [.int .i64 0,.int .i64 0,.int .i64 0,.int .i64 0,.int .i64 0,.slice none 0 0],flds:=[(0,59,5),(5,60,1)] }:=by kernel_rfl
theorem ty62:ty Tryz.prog 62 = { kind:=3,size:=6,bytes:=64,elem:=0,len:=0,zero:=some [.int .i64 0,.int .i64 0,.int .i64 0,.int .i64 0,.int .i64 0,.slice none 0 0],flds:=[(0,59,5),(5,60,1)] }:=by kernel_rfl
theorem ty66:ty Tryz.prog 66 = { kind:=3,size:=2,bytes:=32,elem:=0,len:=0,zero:=some [.slice none 0 0,.int .i64 0],flds:=[(0,22,1),(1,3,1)] }:=by kernel_rfl
theorem ty67:ty Tryz.prog 67 = { kind:=3,size:=2,bytes:=32,elem:=0,len:=0,zero:=some [.slice none 0 0,.int .i64 0],flds:=[(0,22,1),(1,3,1)] }:=by kernel_rfl
theorem ty69:ty Tryz.prog 69 = { kind:=3,size:=2,bytes:=16,elem:=0,len:=0,zero:=some [.int .i64 0,.int .i64 0],flds:=[(0,3,1),(1,3,1)] }:=by kernel_rfl
theorem ty70:ty Tryz.prog 70 = { kind:=3,size:=2,bytes:=16,elem:=0,len:=0,zero:=some [.int .i64 0,.int .i64 0],flds:=[(0,3,1),(1,3,1)] }:=by kernel_rfl
theorem ty71:ty Tryz.prog 71 = { kind:=1,size:=1,bytes:=24,elem:=75,len:=0,zero:=some [.slice none 0 0],flds:=[] }:=by kernel_rfl
theorem ty72:ty Tryz.prog 72 = { kind:=3,size:=4,bytes:=48,elem:=0,len:=0,zero:=some [.int .i64 0,.slice none 0 0,.int .i64 0,.int .i64 0],flds:=[(0,3,1),(1,71,1),(2,3,1),(3,3,1)] }:=by kernel_rfl
theorem ty73:ty Tryz.prog 73 = { kind:=3,size:=4,bytes:=48,elem:=0,len:=0,zero:=some [.int .i64 0,.slice none 0 0,.int .i64 0,.int .i64 0],flds:=[(0,3,1),(1,71,1),(2,3,1),(3,3,1)] }:=by kernel_rfl
theorem ty74:ty Tryz.prog 74 = { kind:=3,size:=3,bytes:=24,elem:=0,len:=0,zero:=some [.int .i64 0,.int .i64 0,.int .i64 0],flds:=[(0,3,1),(1,3,1),(2,3,1)] }:=by kernel_rfl
theorem ty75:ty Tryz.prog 75 = { kind:=3,size:=3,bytes:=24,elem:=0,len:=0,zero:=some [.int .i64 0,.int .i64 0,.int .i64 0],flds:=[(0,3,1),(1,3,1),(2,3,1)] }:=by kernel_rfl
theorem ty77:ty Tryz.prog 77 = { kind:=7,size:=1,bytes:=8,elem:=35,len:=0,zero:=some [.pointer none],flds:=[] }:=by kernel_rfl
theorem ty78:ty Tryz.prog 78 = { kind:=1,size:=1,bytes:=24,elem:=96,len:=0,zero:=some [.slice none 0 0],flds:=[] }:=by kernel_rfl
theorem ty83:ty Tryz.prog 83 = { kind:=3,size:=2,bytes:=32,elem:=0,len:=0,zero:=some [.int .i64 0,.slice none 0 0],flds:=[(0,3,1),(1,78,1)] }:=by kernel_rfl
theorem ty84:ty Tryz.prog 84 = { kind:=3,size:=2,bytes:=32,elem:=0,len:=0,zero:=some [.int .i64 0,.slice none 0 0],flds:=[(0,3,1),(1,78,1)] }:=by kernel_rfl
theorem ty86:ty Tryz.prog 86 = { kind:=5,size:=1,bytes:=8,elem:=0,len:=0,zero:=some [.int .i64 0],flds:=[] }:=by kernel_rfl
theorem ty92:ty Tryz.prog 92 = { kind:=1,size:=1,bytes:=24,elem:=118,len:=0,zero:=some [.slice none 0 0],flds:=[] }:=by kernel_rfl
theorem ty96:ty Tryz.prog 96 = { kind:=1,size:=1,bytes:=24,elem:=4,len:=0,zero:=some [.slice none 0 0],flds:=[] }:=by kernel_rfl
theorem ty100:ty Tryz.prog 100 = { kind:=3,size:=3,bytes:=56,elem:=0,len:=0,zero:=some [.int .i64 0,.slice none 0 0,.slice none 0 0],flds:=[(0,84,2),(2,22,1)] }:=by kernel_rfl
theorem ty101:ty Tryz.prog 101 = { kind:=3,size:=3,bytes:=56,elem:=0,len:=0,zero:=some [.int .i64 0,.slice none 0 0,.slice none 0 0],flds:=[(0,84,2),(2,22,1)] }:=by kernel_rfl
theorem ty102:ty Tryz.prog 102 = { kind:=1,size:=1,bytes:=24,elem:=101,len:=0,zero:=some [.slice none 0 0],flds:=[] }:=by kernel_rfl
theorem ty109:ty Tryz.prog 109 = { kind:=7,size:=1,bytes:=8,elem:=146,len:=0,zero:=some [.pointer none],flds:=[] }:=by kernel_rfl
theorem ty117:ty Tryz.prog 117 = { kind:=3,size:=2,bytes:=16,elem:=0,len:=0,zero:=some [.int .i64 0,.int .i64 0],flds:=[(0,3,1),(1,3,1)] }:=by kernel_rfl
theorem ty118:ty Tryz.prog 118 = { kind:=3,size:=2,bytes:=16,elem:=0,len:=0,zero:=some [.int .i64 0,.int .i64 0],flds:=[(0,3,1),(1,3,1)] }:=by kernel_rfl
theorem ty123:ty Tryz.prog 123 = { kind:=1,size:=1,bytes:=24,elem:=124,len:=0,zero:=some [.slice none 0 0],flds:=[] }:=by kernel_rfl
theorem ty124:ty Tryz.prog 124 = { kind:=1,size:=1,bytes:=24,elem:=128,len:=0,zero:=some [.slice none 0 0],flds:=[] }:=by kernel_rfl
theorem ty127:ty Tryz.prog 127 = { kind:=3,size:=2,bytes:=16,elem:=0,len:=0,zero:=some [.bool false,.int .i64 0],flds:=[(0,4,1),(1,3,1)] }:=by kernel_rfl
theorem ty128:ty Tryz.prog 128 = { kind:=3,size:=2,bytes:=16,elem:=0,len:=0,zero:=some [.bool false,.int .i64 0],flds:=[(0,4,1),(1,3,1)] }:=by kernel_rfl
theorem ty144:ty Tryz.prog 144 = { kind:=1,size:=1,bytes:=24,elem:=147,len:=0,zero:=some [.slice none 0 0],flds:=[] }:=by kernel_rfl
theorem ty145:ty Tryz.prog 145 = { kind:=3,size:=6,bytes:=128,elem:=0,len:=0,zero:=some [.slice none 0 0,.slice none 0 0,.slice none 0 0,.int .i64 0,.slice none 0 0,.slice none 0 0],flds:=[(0,31,4),(4,144,1),(5,144,1)] }:=by kernel_rfl
theorem ty146:ty Tryz.prog 146 = { kind:=3,size:=6,bytes:=128,elem:=0,len:=0,zero:=some [.slice none 0 0,.slice none 0 0,.slice none 0 0,.int .i64 0,.slice none 0 0,.slice none 0 0],flds:=[(0,31,4),(4,144,1),(5,144,1)] }:=by kernel_rfl
theorem ty147:ty Tryz.prog 147 = { kind:=1,size:=1,bytes:=24,elem:=149,len:=0,zero:=some [.slice none 0 0],flds:=[] }:=by kernel_rfl
theorem ty148:ty Tryz.prog 148 = { kind:=3,size:=2,bytes:=16,elem:=0,len:=0,zero:=some [.int .i64 0,.bool false],flds:=[(0,3,1),(1,4,1)] }:=by kernel_rfl
theorem ty149:ty Tryz.prog 149 = { kind:=3,size:=2,bytes:=16,elem:=0,len:=0,zero:=some [.int .i64 0,.bool false],flds:=[(0,3,1),(1,4,1)] }:=by kernel_rfl
theorem ty162:ty Tryz.prog 162 = { kind:=5,size:=1,bytes:=8,elem:=0,len:=0,zero:=some [.int .u64 0],flds:=[] }:=by kernel_rfl
theorem ty167:ty Tryz.prog 167 = { kind:=7,size:=1,bytes:=8,elem:=149,len:=0,zero:=some [.pointer none],flds:=[] }:=by kernel_rfl
theorem ty172:ty Tryz.prog 172 = { kind:=5,size:=1,bytes:=4,elem:=0,len:=0,zero:=some [.int .u32 0],flds:=[] }:=by kernel_rfl
theorem ty175:ty Tryz.prog 175 = { kind:=5,size:=1,bytes:=8,elem:=0,len:=0,zero:=some [.int .u64 0],flds:=[] }:=by kernel_rfl
theorem ty180:ty Tryz.prog 180 = { kind:=3,size:=4,bytes:=40,elem:=0,len:=0,zero:=some [.pointer none,.pointer none,.pointer none,.string ⟨#[]⟩],flds:=[(0,17,1),(1,17,1),(2,17,1),(3,9,1)] }:=by kernel_rfl
theorem ty181:ty Tryz.prog 181 = { kind:=3,size:=4,bytes:=40,elem:=0,len:=0,zero:=some [.pointer none,.pointer none,.pointer none,.string ⟨#[]⟩],flds:=[(0,17,1),(1,17,1),(2,17,1),(3,9,1)] }:=by kernel_rfl
theorem ty182:ty Tryz.prog 182 = { kind:=2,size:=0,bytes:=0,elem:=16,len:=0,zero:=some [],flds:=[] }:=by kernel_rfl
theorem ty183:ty Tryz.prog 183 = { kind:=3,size:=0,bytes:=0,elem:=0,len:=0,zero:=some [],flds:=[(0,182,0)] }:=by kernel_rfl
theorem ty184:ty Tryz.prog 184 = { kind:=3,size:=0,bytes:=0,elem:=0,len:=0,zero:=some [],flds:=[(0,182,0)] }:=by kernel_rfl
theorem ty185:ty Tryz.prog 185 = { kind:=5,size:=1,bytes:=1,elem:=0,len:=0,zero:=some [.int .u8 0],flds:=[] }:=by kernel_rfl
theorem ty186:ty Tryz.prog 186 = { kind:=5,size:=1,bytes:=1,elem:=0,len:=0,zero:=some [.int .u8 0],flds:=[] }:=by kernel_rfl
theorem ty188:ty Tryz.prog 188 = { kind:=7,size:=1,bytes:=8,elem:=5,len:=0,zero:=some [.pointer none],flds:=[] }:=by kernel_rfl
theorem ty189:ty Tryz.prog 189 = { kind:=5,size:=1,bytes:=4,elem:=0,len:=0,zero:=some [.int .i32 0],flds:=[] }:=by kernel_rfl
theorem ty190:ty Tryz.prog 190 = { kind:=5,size:=1,bytes:=4,elem:=0,len:=0,zero:=some [.int .i32 0],flds:=[] }:=by kernel_rfl
theorem ty191:ty Tryz.prog 191 = { kind:=3,size:=11,bytes:=48,elem:=0,len:=0,zero:=some [.int .u64 0,.int .u64 0,.int .u32 0,.int .u8 0,.int .u8 0,.int .u8 0,.int .u8 0,.nilFunc,.pointer none,.int .i32 0,.int .i32 0],flds:=[(0,12,1),(1,12,1),(2,172,1),(3,185,1),(4,5,1),(5,5,1),(6,186,1),(7,187,1),(8,188,1),(9,189,1),(10,190,1)] }:=by kernel_rfl
theorem ty192:ty Tryz.prog 192 = { kind:=3,size:=11,bytes:=48,elem:=0,len:=0,zero:=some [.int .u64 0,.int .u64 0,.int .u32 0,.int .u8 0,.int .u8 0,.int .u8 0,.int .u8 0,.nilFunc,.pointer none,.int .i32 0,.int .i32 0],flds:=[(0,12,1),(1,12,1),(2,172,1),(3,185,1),(4,5,1),(5,5,1),(6,186,1),(7,187,1),(8,188,1),(9,189,1),(10,190,1)] }:=by kernel_rfl
theorem un2:Tryz.prog.underlying 2=some (.int .i64):=by kernel_rfl
theorem un3:Tryz.prog.underlying 3=some (.int .i64):=by kernel_rfl
theorem un5:Tryz.prog.underlying 5=some (.int .u8):=by kernel_rfl
theorem un6:Tryz.prog.underlying 6=some (.int .u8):=by kernel_rfl
theorem un12:Tryz.prog.underlying 12=some (.int .u64):=by kernel_rfl
theorem un21:Tryz.prog.underlying 21=some (.int .i32):=by kernel_rfl
theorem un86:Tryz.prog.underlying 86=some (.int .i64):=by kernel_rfl
theorem un162:Tryz.prog.underlying 162=some (.int .u64):=by kernel_rfl
theorem un172:Tryz.prog.underlying 172=some (.int .u32):=by kernel_rfl
theorem un175:Tryz.prog.underlying 175=some (.int .u64):=by kernel_rfl
theorem un185:Tryz.prog.underlying 185=some (.int .u8):=by kernel_rfl
theorem un186:Tryz.prog.underlying 186=some (.int .u8):=by kernel_rfl
theorem un189:Tryz.prog.underlying 189=some (.int .i32):=by kernel_rfl
theorem un190:Tryz.prog.underlying 190=some (.int .i32):=by kernel_rfl
theorem tys:type_of% ty2∧type_of% ty3∧type_of% ty4∧type_of% ty5∧type_of% ty6∧type_of% ty7∧type_of% ty8∧type_of% ty9∧type_of% ty10∧type_of% ty11∧type_of% ty12∧type_of% ty13∧type_of% ty14∧type_of% ty15∧type_of% ty16∧type_of% ty17∧type_of% ty18∧type_of% ty19∧type_of% ty21∧type_of% ty22∧type_of% ty25∧type_of% ty27∧type_of% ty28∧type_of% ty29∧type_of% ty30∧type_of% ty31∧type_of% ty33∧type_of% ty34∧type_of% ty35∧type_of% ty39∧type_of% ty40∧type_of% ty41∧type_of% ty42∧type_of% ty43∧type_of% ty44∧type_of% ty45∧type_of% ty46∧type_of% ty51∧type_of% ty52∧type_of% ty53∧type_of% ty54∧type_of% ty55∧type_of% ty56∧type_of% ty57∧type_of% ty58∧type_of% ty59∧type_of% ty60∧type_of% ty61∧type_of% ty62∧type_of% ty66∧type_of% ty67∧type_of% ty69∧type_of% ty70∧type_of% ty71∧type_of% ty72∧type_of% ty73∧type_of% ty74∧type_of% ty75∧type_of% ty77∧type_of% ty78∧type_of% ty83∧type_of% ty84∧type_of% ty86∧type_of% ty92∧type_of% ty96∧type_of% ty100∧type_of% ty101∧type_of% ty102∧type_of% ty109∧type_of% ty117∧type_of% ty118∧type_of% ty123∧type_of% ty124∧type_of% ty127∧type_of% ty128∧type_of% ty144∧type_of% ty145∧type_of% ty146∧type_of% ty147∧type_of% ty148∧type_of% ty149∧type_of% ty162∧type_of% ty167∧type_of% ty172∧type_of% ty175∧type_of% ty180∧type_of% ty181∧type_of% ty182∧type_of% ty183∧type_of% ty184∧type_of% ty185∧type_of% ty186∧type_of% ty188∧type_of% ty189∧type_of% ty190∧type_of% ty191∧type_of% ty192∧type_of% un2∧type_of% un3∧type_of% un5∧type_of% un6∧type_of% un12∧type_of% un21∧type_of% un86∧type_of% un162∧type_of% un172∧type_of% un175∧type_of% un185∧type_of% un186∧type_of% un189∧type_of% un190 :=
  ⟨ty2,ty3,ty4,ty5,ty6,ty7,ty8,ty9,ty10,ty11,ty12,ty13,ty14,ty15,ty16,ty17,ty18,ty19,ty21,ty22,ty25,ty27,ty28,ty29,ty30,ty31,ty33,ty34,ty35,ty39,ty40,ty41,ty42,ty43,ty44,ty45,ty46,ty51,ty52,ty53,ty54,ty55,ty56,ty57,ty58,ty59,ty60,ty61,ty62,ty66,ty67,ty69,ty70,ty71,ty72,ty73,ty74,ty75,ty77,ty78,ty83,ty84,ty86,ty92,ty96,ty100,ty101,ty102,ty109,ty117,ty118,ty123,ty124,ty127,ty128,ty144,ty145,ty146,ty147,ty148,ty149,ty162,ty167,ty172,ty175,ty180,ty181,ty182,ty183,ty184,ty185,ty186,ty188,ty189,ty190,ty191,ty192,un2,un3,un5,un6,un12,un21,un86,un162,un172,un175,un185,un186,un189,un190⟩
theorem Ac:type_of% @tys∧type_of% @Bc∧type_of% @Sc∧type_of% @Rc :=
  ⟨@tys,@Bc,@Sc,@Rc⟩
theorem Kc:type_of% @LKc∧type_of% @Lc∧type_of% @tys∧type_of% @Rc :=
  ⟨@LKc,@Lc,@tys,@Rc⟩
theorem Oc:type_of% @SelO.eq_1∧type_of% @SelO.eq_2∧type_of% @or_true∧type_of% @false_or∧type_of% @Bc∧type_of% @Sc∧type_of% @Rc :=
  ⟨@SelO.eq_1,@SelO.eq_2,@or_true,@false_or,@Bc,@Sc,@Rc⟩
theorem Hr:type_of% @HasR.eq_1∧type_of% @HasR.eq_2∧type_of% @Bc∧type_of% @Rc∧type_of% @LKc∧type_of% @Lc∧type_of% @tys∧type_of% @and_true∧type_of% @Int.natCast_add∧type_of% @Int.cast_ofNat_Int :=
  ⟨@HasR.eq_1,@HasR.eq_2,@Bc,@Rc,@LKc,@Lc,@tys,@and_true,@Int.natCast_add,@Int.cast_ofNat_Int⟩
theorem Tc:type_of% @Has.eq_1∧type_of% @Has.eq_2∧type_of% @List.length_append.{0}∧type_of% @List.length_cons.{0}∧type_of% @List.length_nil.{0}∧type_of% @Nat.zero_add∧type_of% @LKc∧type_of% @Lc∧type_of% @tys∧type_of% @Rc∧type_of% @and_true∧type_of% @Int.natCast_add∧type_of% @Int.cast_ofNat_Int :=
  ⟨@Has.eq_1,@Has.eq_2,@List.length_append.{0},@List.length_cons.{0},@List.length_nil.{0},@Nat.zero_add,@LKc,@Lc,@tys,@Rc,@and_true,@Int.natCast_add,@Int.cast_ofNat_Int⟩
theorem Qc:type_of% @retQ.eq_1∧type_of% @retQ.eq_2∧type_of% @resW.eq_1∧type_of% @resW.eq_2∧type_of% @resW.eq_3∧type_of% @retV.eq_1∧type_of% @retV_0∧type_of% @retV_2∧type_of% @List.length_nil.{0}∧type_of% @LKc∧type_of% @Lc∧type_of% @tys∧type_of% @Rc :=
  ⟨@retQ.eq_1,@retQ.eq_2,@resW.eq_1,@resW.eq_2,@resW.eq_3,@retV.eq_1,@retV_0,@retV_2,@List.length_nil.{0},@LKc,@Lc,@tys,@Rc⟩
inductive Sq (P:Program) (N n0:Nat) (y:Code) (Q:Exit→St→Prop):Exit→St→Prop
  | n (s:St) (h:W P N n0 y Q s):Sq P N n0 y Q .normal s
  | e (e:Exit) (s:St) (hi:isN e=false) (h:Q e s):Sq P N n0 y Q e s
inductive Bq (id:Nat) (Q:Exit→St→Prop):Exit→St→Prop
  | n (s:St) (h:Q .normal s):Bq id Q .normal s
  | x (s:St) (h:Q .normal s):Bq id Q (.exit id) s
  | e (e:Exit) (s:St) (hi:isX id e=false) (h:Q e s):Bq id Q e s
section
variable {P:Program} {N n0:Nat} {σ:St} {Q:Exit→St→Prop}
theorem Xk {x y:Code} (h:W P N n0 x (Sq P N n0 y Q) σ):W P N n0 (.seq x y) Q σ:=Wk fun _ h1 h2=>W_mono h fun _ _ h=>by
  cases h with
  | n _ h=>exact h1 _ h
  | e _ _ hi h=>exact h2 _ _ hi h
theorem Xb {id:Nat} {c:Code} (h:W P N n0 c (Bq id Q) σ):W P N n0 (.block id c) Q σ:=Wb fun _ h1 h2 h3=>W_mono h fun _ _ h=>by
  cases h with
  | n _ h=>exact h1 _ h
  | x _ h=>exact h2 _ h
  | e _ _ hi h=>exact h3 _ _ hi h
theorem hn {y:Code} (s:St) (h:W P N n0 y Q s):Sq P N n0 y Q .normal s:=.n s h
theorem he {y:Code} (e:Exit) (s:St) (hi:isN e=false) (h:Q e s):Sq P N n0 y Q e s:=.e e s hi h
theorem hnb {id:Nat} (s:St) (h:Q .normal s):Bq id Q .normal s:=.n s h
theorem hxb {id:Nat} (s:St) (h:Q .normal s):Bq id Q (.exit id) s:=.x s h
theorem heb {id:Nat} (e:Exit) (s:St) (hi:isX id e=false) (h:Q e s):Bq id Q e s:=.e e s hi h
theorem unSq {x y:Code} (h:∀ Q':Exit→St→Prop,(∀ s,W P N n0 y Q s→Q' .normal s)→(∀ e s,isN e=false→Q e s→Q' e s)→W P N n0 x Q' σ):W P N n0 x (Sq P N n0 y Q) σ:=h _ .n .e
theorem unSq1 {x y z:Code} (h:∀ Q':Exit→St→Prop,(∀ s,W P N n0 y Q s→Q' .normal s)→(∀ e s,isN e=false→Q e s→Q' e s)→W P N n0 x (Sq P N n0 z Q') σ):W P N n0 x (Sq P N n0 z (Sq P N n0 y Q)) σ:=h _ .n .e
theorem unSqB {x y z:Code} {id:Nat} (h:∀ Q':Exit→St→Prop,(∀ s,W P N n0 y Q s→Q' .normal s)→(∀ e s,isN e=false→Q e s→Q' e s)→W P N n0 x (Sq P N n0 z (Bq id Q')) σ):W P N n0 x (Sq P N n0 z (Bq id (Sq P N n0 y Q))) σ:=h _ .n .e
end
theorem X0:True:=trivial
theorem X2 {a b:Prop} (x:a) (y:b):a∧b:=⟨x,y⟩
theorem X3 {a b c:Prop} (x:a) (y:b) (z:c):a∧b∧c:=⟨x,y,z⟩
theorem X4 {a b c d:Prop} (x:a) (y:b) (z:c) (u:d):a∧b∧c∧d:=⟨x,y,z,u⟩
theorem X5 {a b c d e:Prop} (x:a) (y:b) (z:c) (u:d) (v:e):a∧b∧c∧d∧e:=⟨x,y,z,u,v⟩
theorem Xr {p q e:Prop} (x:e) (h:q) (k:e→q→p:=by first|(intro hx hq;(first|refine rr ?_|refine rre ?_);intro K hK;simp (disch:=omega) only[Ac,↓Pc,simprocAttr,hx];revert hK;revert K;exact hq)|fail):p:=k x h
theorem Xq {p q e:Prop} (x:e) (h:q) (k:e→q→p:=by first|(intro hx hq;(first|refine rr ?_|refine rre ?_|refine rb ?_|refine rbe ?_|refine ra ?_|refine rae ?_);intro K hK;simp (disch:=omega) only[Ac,↓Pc,simprocAttr,hx];revert hK;revert K;exact hq)|fail):p:=k x h
theorem Xo {p q e:Prop} (x:e) (h:q) (k:e→q→p:=by first|(intro hx hq;with_reducible refine gO ?_;simp (disch:=omega) only[Ac,↓Pc,simprocAttr,hx];exact hq)|fail):p:=k x h
theorem Xc {p q t:Prop} (c:t) (h:q) (k:t→q→p:=by first|(intro hc hq;(first|refine callK_pure hc rfl rfl ?_|refine callQ_pure hc rfl rfl ?_);exact hq)|fail):p:=k c h
theorem Xg {p q r e:Prop} (x:e) (h:q) (h2:r) (k:e→q→r→p∧True:=by first|(intro hx hq hr;refine And.intro ?_ ?_;(with_reducible refine gS (fun hb'=>?_) (fun hb'=>?_));(focus (have hb:=hb';(try simp only[DEc,simprocAttr] at hb);all_goals (simp (disch:=omega) only[Ac,↓Pc,simprocAttr,hx,hb']);all_goals (clear hb';revert hb;exact hq)));(focus (have hb:=hb';(try simp only[DEc,simprocAttr] at hb);all_goals (simp (disch:=omega) only[Ac,↓Pc,simprocAttr,hx,hb']);all_goals (clear hb';revert hb;exact hr)));((try have _:True:=hq);(try have _:True:=hr);trivial))|fail):p:=(k x h h2).1
theorem Xi {p q r:Prop} (h:q) (h2:r) (k:q→r→p∧True:=by first|(intro hq hr;refine And.intro ?_ ?_;refine Wc ?_ ?_;(focus (intro ht;(try simp only[DEc,simprocAttr] at ht);all_goals (revert ht;exact hq)));(focus (intro ht;(try simp only[DEc,simprocAttr] at ht);all_goals (revert ht;exact hr)));((try have _:True:=hq);(try have _:True:=hr);trivial))|fail):p:=(k h h2).1
theorem Xz {p q:Prop} (h:q) (k:q→p:=by first|(intro hq;(first|refine Wz rfl ?_|refine Xk ?_|refine Xb ?_|refine Sq.n _ ?_|refine Sq.e _ _ rfl ?_|refine Bq.n _ ?_|refine Bq.x _ ?_|refine Bq.e _ _ rfl ?_|refine hn _ ?_|refine he _ _ rfl ?_);(repeat (first|refine Wz rfl ?_|refine Xk ?_|refine Xb ?_|refine Sq.n _ ?_|refine Sq.e _ _ rfl ?_|refine Bq.n _ ?_|refine Bq.x _ ?_|refine Bq.e _ _ rfl ?_|refine hn _ ?_|refine he _ _ rfl ?_));exact hq)|fail):p:=k h
theorem Xh {p q:Prop} (h:q) (k:q→p:=by first|(intro hq;(first|refine hel _ _ rfl ?_|refine hel2 _ _ rfl ?_|refine hel3 _ _ rfl ?_|refine hel4 _ _ rfl ?_);exact hq)|fail):p:=k h
theorem Xu {p q:Prop} (h:q) (k:q→p:=by first|(intro hq;(first|refine Sq.n _ ?_|refine Sq.e _ _ rfl ?_|refine Bq.n _ ?_|refine Bq.x _ ?_|refine Bq.e _ _ rfl ?_|refine hn _ ?_|refine he _ _ rfl ?_|refine hel _ _ rfl ?_|refine hel2 _ _ rfl ?_|refine hel3 _ _ rfl ?_|refine hel4 _ _ rfl ?_);exact hq)|fail):p:=k h
theorem Xe {p q:Prop} (h:q) (k:q→p:=by first|(intro hq;simp only[Qc,Kc,simprocAttr];exact hq)|fail):p:=k h
theorem Xl {n0:Nat} {e:Nat→AV} {os:List Ob} {v res:AV} {objs':List Ob} (ho:os=objs') (h:v=res) (hl:n0≤objs'.length:=by (simp only[List.length_cons,List.length_nil];omega)):RetOK n0 ⟨e,os⟩ v res objs':=RetOK_all ho hl h
theorem Xd {p q r:Prop} (h:q) (h2:r) (k:q→r→p:=by first|(intro hq hr;with_reducible refine And.intro ?_ ?_;exact hq;exact hr)|fail):p:=k h h2
theorem Xv {n0:Nat} {σ S:St} {e:Prop} (x:e) (k:e→Turns n0 σ S:=by first|(intro hx;refine Turns.slots _ _ rfl ?_;simp only[Tc,↓reduceIte,reduceEqDiff,Nat.reduceBEq,reduceAdd,hx];(try trivial);done)|fail):Turns n0 σ S:=k x
theorem Xs {n0:Nat} {σ:St} {l:List (Nat × AV)} {co:List Ob} {e:Prop} (snap:Bool) (sel:List Nat) (x:e) (h1:e→SelO (rho σ.objs.length sel) σ.objs sel co:=by (intro hx;simp only[Oc,simprocAttr,hx])) (h2:e→HasR (ArgR σ (kept sel co) (rho σ.objs.length sel) snap) σ.env l:=by (intro hx;simp only[Hr,↓reduceIte,reduceEqDiff,Nat.reduceBEq,reduceAdd,hx];(try (and_intros<;>first|exact .pure rfl|exact .eq rfl|exact .fz rfl (by simp only[Bc,Rc]))))) (hnd:sel.Nodup:=by decide) (hn:n0≤sel.length:=by decide) (hid:∀ i,i<n0→sel.getD i 0=i:=by decide):Turns n0 σ ⟨slots l,co⟩:=Turns.se sel snap (h1 x) (h2 x) hnd hn hid
theorem Xw {n0:Nat} {σ:St} {v res:AV} {objs':List Ob} {e:Prop} (snap:Bool) (sel:List Nat) (x:e) (h1:e→SelO (rho σ.objs.length sel) σ.objs sel objs':=by (intro hx;simp only[Oc,simprocAttr,hx])) (h2:ArgR σ (kept sel objs') (rho σ.objs.length sel) snap res v:=by first|exact .pure rfl|exact .eq rfl|exact .fz rfl (by simp only[Bc,Rc])) (hnd:sel.Nodup:=by decide) (hn:n0≤sel.length:=by decide) (hid:∀ i,i<n0→sel.getD i 0=i:=by decide):RetOK n0 σ v res objs':=RetOK_se sel snap (h1 x) h2 hnd hn hid
theorem Xn (sel:List Nat) {P:Program} {σ:St} {f:FuncId} {args cargs:List AV} {cobjs:List Ob} {dst:Option Tmp} {K:St→Prop} {res:AV} {cobjs':List Ob} (h:Holds P f cargs cobjs res cobjs')
    (hK:K (({ σ with objs:=mergeO σ.objs sel (cobjs'.map (renO (rho σ.objs.length sel))) }:St).put dst (ren (rho σ.objs.length sel) res)))
    (hnd:sel.Nodup:=by decide) (ho:SelX (rho σ.objs.length sel) σ.objs sel cobjs:=by ((repeat' (first|exact trivial|with_reducible refine And.intro ?_ ?_|refine And.intro ?_ ?_))<;>first|rfl|(rw[ints_ren];rfl)|(rw[bools_ren];rfl)|(rw[rows_ren];rfl)|(rw[intss_ren];rfl))) (ha:ArgsR (ArgR σ (·∈sel) (rho σ.objs.length sel) false) cargs args:=by ((repeat' (first|exact trivial|refine And.intro ?_ ?_))<;>(first|exact .pure rfl|exact .eq rfl|exact .fz rfl (by simp only[Bc,Rc])))):callK P f args dst K σ:=callK_sel sel h hnd ho ha hK
theorem Pw:type_of% @planW_three∧type_of% @planW_both∧type_of% @planW_take∧type_of% @planW_nil∧type_of% @stepAt.eq_1∧type_of% @stepD.eq_1:=⟨@planW_three,@planW_both,@planW_take,@planW_nil,@stepAt.eq_1,@stepD.eq_1⟩
end T

