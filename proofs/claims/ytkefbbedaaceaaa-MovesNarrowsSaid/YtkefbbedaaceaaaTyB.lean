import Derived.Test.YtkefbbedaaceaaaAmI
import Derived.Test.YtkefbbedaaceaaaCS
import Derived.Test.YtkefbbedaaceaaaProg
import Derived.KernelRfl
set_option linter.unusedVariables false
set_option linter.unusedSimpArgs false
open Go Go.Am Go.Proofs
namespace T
theorem ty2:ty Try.prog 2 = { kind:=5,size:=1,bytes:=8,elem:=0,len:=0,zero:=some [.int .i64 0],flds:=[] }:=by kernel_rfl
theorem ty3:ty Try.prog 3 = { kind:=5,size:=1,bytes:=8,elem:=0,len:=0,zero:=some [.int .i64 0],flds:=[] }:=by kernel_rfl
theorem ty4:ty Try.prog 4 = { kind:=6,size:=1,bytes:=1,elem:=0,len:=0,zero:=some [.bool false],flds:=[] }:=by kernel_rfl
theorem ty5:ty Try.prog 5 = { kind:=5,size:=1,bytes:=1,elem:=0,len:=0,zero:=some [.int .u8 0],flds:=[] }:=by kernel_rfl
theorem ty6:ty Try.prog 6 = { kind:=5,size:=1,bytes:=1,elem:=0,len:=0,zero:=some [.int .u8 0],flds:=[] }:=by kernel_rfl
theorem ty7:ty Try.prog 7 = { kind:=3,size:=4,bytes:=24,elem:=0,len:=0,zero:=some [.int .i64 0,.int .i64 0,.bool false,.int .u8 0],flds:=[(0,2,1),(1,3,1),(2,4,1),(3,6,1)] }:=by kernel_rfl
theorem ty8:ty Try.prog 8 = { kind:=3,size:=4,bytes:=24,elem:=0,len:=0,zero:=some [.int .i64 0,.int .i64 0,.bool false,.int .u8 0],flds:=[(0,2,1),(1,3,1),(2,4,1),(3,6,1)] }:=by kernel_rfl
theorem ty9:ty Try.prog 9 = { kind:=4,size:=1,bytes:=16,elem:=0,len:=0,zero:=some [.string ⟨#[]⟩],flds:=[] }:=by kernel_rfl
theorem ty10:ty Try.prog 10 = { kind:=4,size:=1,bytes:=16,elem:=0,len:=0,zero:=some [.string ⟨#[]⟩],flds:=[] }:=by kernel_rfl
theorem ty11:ty Try.prog 11 = { kind:=4,size:=1,bytes:=16,elem:=0,len:=0,zero:=some [.string ⟨#[]⟩],flds:=[] }:=by kernel_rfl
theorem ty12:ty Try.prog 12 = { kind:=5,size:=1,bytes:=8,elem:=0,len:=0,zero:=some [.int .u64 0],flds:=[] }:=by kernel_rfl
theorem ty13:ty Try.prog 13 = { kind:=3,size:=2,bytes:=24,elem:=0,len:=0,zero:=some [.string ⟨#[]⟩,.int .u64 0],flds:=[(0,9,1),(1,12,1)] }:=by kernel_rfl
theorem ty14:ty Try.prog 14 = { kind:=3,size:=2,bytes:=24,elem:=0,len:=0,zero:=some [.string ⟨#[]⟩,.int .u64 0],flds:=[(0,9,1),(1,12,1)] }:=by kernel_rfl
theorem ty15:ty Try.prog 15 = { kind:=7,size:=1,bytes:=8,elem:=147,len:=0,zero:=some [.pointer none],flds:=[] }:=by kernel_rfl
theorem ty16:ty Try.prog 16 = { kind:=7,size:=1,bytes:=8,elem:=150,len:=0,zero:=some [.pointer none],flds:=[] }:=by kernel_rfl
theorem ty17:ty Try.prog 17 = { kind:=7,size:=1,bytes:=8,elem:=158,len:=0,zero:=some [.pointer none],flds:=[] }:=by kernel_rfl
theorem ty18:ty Try.prog 18 = { kind:=3,size:=1,bytes:=8,elem:=0,len:=0,zero:=some [.pointer none],flds:=[(0,17,1)] }:=by kernel_rfl
theorem ty19:ty Try.prog 19 = { kind:=3,size:=1,bytes:=8,elem:=0,len:=0,zero:=some [.pointer none],flds:=[(0,17,1)] }:=by kernel_rfl
theorem ty21:ty Try.prog 21 = { kind:=5,size:=1,bytes:=4,elem:=0,len:=0,zero:=some [.int .i32 0],flds:=[] }:=by kernel_rfl
theorem ty22:ty Try.prog 22 = { kind:=1,size:=1,bytes:=24,elem:=3,len:=0,zero:=some [.slice none 0 0],flds:=[] }:=by kernel_rfl
theorem ty25:ty Try.prog 25 = { kind:=7,size:=1,bytes:=8,elem:=69,len:=0,zero:=some [.pointer none],flds:=[] }:=by kernel_rfl
theorem ty27:ty Try.prog 27 = { kind:=1,size:=1,bytes:=24,elem:=46,len:=0,zero:=some [.slice none 0 0],flds:=[] }:=by kernel_rfl
theorem ty28:ty Try.prog 28 = { kind:=1,size:=1,bytes:=24,elem:=67,len:=0,zero:=some [.slice none 0 0],flds:=[] }:=by kernel_rfl
theorem ty29:ty Try.prog 29 = { kind:=1,size:=1,bytes:=24,elem:=75,len:=0,zero:=some [.slice none 0 0],flds:=[] }:=by kernel_rfl
theorem ty30:ty Try.prog 30 = { kind:=3,size:=4,bytes:=80,elem:=0,len:=0,zero:=some [.slice none 0 0,.slice none 0 0,.slice none 0 0,.int .i64 0],flds:=[(0,27,1),(1,28,1),(2,29,1),(3,3,1)] }:=by kernel_rfl
theorem ty31:ty Try.prog 31 = { kind:=3,size:=4,bytes:=80,elem:=0,len:=0,zero:=some [.slice none 0 0,.slice none 0 0,.slice none 0 0,.int .i64 0],flds:=[(0,27,1),(1,28,1),(2,29,1),(3,3,1)] }:=by kernel_rfl
theorem ty33:ty Try.prog 33 = { kind:=1,size:=1,bytes:=24,elem:=42,len:=0,zero:=some [.slice none 0 0],flds:=[] }:=by kernel_rfl
theorem ty35:ty Try.prog 35 = { kind:=5,size:=1,bytes:=8,elem:=0,len:=0,zero:=some [.int .i64 0],flds:=[] }:=by kernel_rfl
theorem ty38:ty Try.prog 38 = { kind:=1,size:=1,bytes:=24,elem:=58,len:=0,zero:=some [.slice none 0 0],flds:=[] }:=by kernel_rfl
theorem ty42:ty Try.prog 42 = { kind:=1,size:=1,bytes:=24,elem:=4,len:=0,zero:=some [.slice none 0 0],flds:=[] }:=by kernel_rfl
theorem ty46:ty Try.prog 46 = { kind:=1,size:=1,bytes:=24,elem:=65,len:=0,zero:=some [.slice none 0 0],flds:=[] }:=by kernel_rfl
theorem ty57:ty Try.prog 57 = { kind:=3,size:=4,bytes:=32,elem:=0,len:=0,zero:=some [.int .i64 0,.int .i64 0,.int .i64 0,.int .i64 0],flds:=[(0,3,1),(1,3,1),(2,3,1),(3,3,1)] }:=by kernel_rfl
theorem ty58:ty Try.prog 58 = { kind:=3,size:=4,bytes:=32,elem:=0,len:=0,zero:=some [.int .i64 0,.int .i64 0,.int .i64 0,.int .i64 0],flds:=[(0,3,1),(1,3,1),(2,3,1),(3,3,1)] }:=by kernel_rfl
theorem ty59:ty Try.prog 59 = { kind:=3,size:=4,bytes:=32,elem:=0,len:=0,zero:=some [.int .i64 0,.int .i64 0,.int .i64 0,.int .i64 0],flds:=[(0,3,1),(1,3,1),(2,3,1),(3,3,1)] }:=by kernel_rfl
theorem ty60:ty Try.prog 60 = { kind:=3,size:=4,bytes:=32,elem:=0,len:=0,zero:=some [.int .i64 0,.int .i64 0,.int .i64 0,.int .i64 0],flds:=[(0,3,1),(1,3,1),(2,3,1),(3,3,1)] }:=by kernel_rfl
theorem ty61:ty Try.prog 61 = { kind:=3,size:=5,bytes:=40,elem:=0,len:=0,zero:=some [.int .i64 0,.int .i64 0,.int .i64 0,.int .i64 0,.int .i64 0],flds:=[(0,60,4),(4,3,1)] }:=by kernel_rfl
theorem ty62:ty Try.prog 62 = { kind:=3,size:=5,bytes:=40,elem:=0,len:=0,zero:=some [.int .i64 0,.int .i64 0,.int .i64 0,.int .i64 0,.int .i64 0],flds:=[(0,60,4),(4,3,1)] }:=by kernel_rfl
theorem ty63:ty Try.prog 63 = { kind:=1,size:=1,bytes:=24,elem:=72,len:=0,zero:=some [.slice none 0 0],flds:=[] }:=by kernel_rfl
theorem ty64:ty Try.prog 64 = { kind:=3,size:=6,bytes:=64,elem:=0,len:=0,zero:=some [.int .i64 0,.int .i64 0,.int .i64 0,.int .i64 0,.int .i64 0,.slice none 0 0],flds:=[(0,62,5),(5,63,1)] }:=by kernel_rfl
theorem ty65:ty Try.prog 65 = { kind:=3,size:=6,bytes:=64,elem:=0,len:=0,zero:=some [.int .i64 0,.int .i64 0,.int .i64 0,.int .i64 0,.int .i64 0,.slice none 0 0],flds:=[(0,62,5),(5,63,1)] }:=by kernel_rfl
theorem ty66:ty Try.prog 66 = { kind:=3,size:=4,bytes:=48,elem:=0,len:=0,zero:=some [.int .i64 0,.int .i64 0,.int .i64 0,.slice none 0 0],flds:=[(0,3,1),(1,3,1),(2,3,1),(3,22,1)] }:=by kernel_rfl
theorem ty67:ty Try.prog 67 = { kind:=3,size:=4,bytes:=48,elem:=0,len:=0,zero:=some [.int .i64 0,.int .i64 0,.int .i64 0,.slice none 0 0],flds:=[(0,3,1),(1,3,1),(2,3,1),(3,22,1)] }:=by kernel_rfl
theorem ty68:ty Try.prog 68 = { kind:=3,size:=2,bytes:=32,elem:=0,len:=0,zero:=some [.slice none 0 0,.int .i64 0],flds:=[(0,22,1),(1,3,1)] }:=by kernel_rfl
theorem ty69:ty Try.prog 69 = { kind:=3,size:=2,bytes:=32,elem:=0,len:=0,zero:=some [.slice none 0 0,.int .i64 0],flds:=[(0,22,1),(1,3,1)] }:=by kernel_rfl
theorem ty71:ty Try.prog 71 = { kind:=3,size:=2,bytes:=16,elem:=0,len:=0,zero:=some [.int .i64 0,.int .i64 0],flds:=[(0,3,1),(1,3,1)] }:=by kernel_rfl
theorem ty72:ty Try.prog 72 = { kind:=3,size:=2,bytes:=16,elem:=0,len:=0,zero:=some [.int .i64 0,.int .i64 0],flds:=[(0,3,1),(1,3,1)] }:=by kernel_rfl
theorem ty73:ty Try.prog 73 = { kind:=1,size:=1,bytes:=24,elem:=77,len:=0,zero:=some [.slice none 0 0],flds:=[] }:=by kernel_rfl
theorem ty74:ty Try.prog 74 = { kind:=3,size:=4,bytes:=48,elem:=0,len:=0,zero:=some [.int .i64 0,.slice none 0 0,.int .i64 0,.int .i64 0],flds:=[(0,3,1),(1,73,1),(2,3,1),(3,3,1)] }:=by kernel_rfl
theorem ty75:ty Try.prog 75 = { kind:=3,size:=4,bytes:=48,elem:=0,len:=0,zero:=some [.int .i64 0,.slice none 0 0,.int .i64 0,.int .i64 0],flds:=[(0,3,1),(1,73,1),(2,3,1),(3,3,1)] }:=by kernel_rfl
theorem ty76:ty Try.prog 76 = { kind:=3,size:=3,bytes:=24,elem:=0,len:=0,zero:=some [.int .i64 0,.int .i64 0,.int .i64 0],flds:=[(0,3,1),(1,3,1),(2,3,1)] }:=by kernel_rfl
theorem ty77:ty Try.prog 77 = { kind:=3,size:=3,bytes:=24,elem:=0,len:=0,zero:=some [.int .i64 0,.int .i64 0,.int .i64 0],flds:=[(0,3,1),(1,3,1),(2,3,1)] }:=by kernel_rfl
theorem ty86:ty Try.prog 86 = { kind:=1,size:=1,bytes:=24,elem:=87,len:=0,zero:=some [.slice none 0 0],flds:=[] }:=by kernel_rfl
theorem ty87:ty Try.prog 87 = { kind:=1,size:=1,bytes:=24,elem:=91,len:=0,zero:=some [.slice none 0 0],flds:=[] }:=by kernel_rfl
theorem ty90:ty Try.prog 90 = { kind:=3,size:=2,bytes:=16,elem:=0,len:=0,zero:=some [.bool false,.int .i64 0],flds:=[(0,4,1),(1,3,1)] }:=by kernel_rfl
theorem ty91:ty Try.prog 91 = { kind:=3,size:=2,bytes:=16,elem:=0,len:=0,zero:=some [.bool false,.int .i64 0],flds:=[(0,4,1),(1,3,1)] }:=by kernel_rfl
theorem ty97:ty Try.prog 97 = { kind:=7,size:=1,bytes:=8,elem:=121,len:=0,zero:=some [.pointer none],flds:=[] }:=by kernel_rfl
theorem ty114:ty Try.prog 114 = { kind:=5,size:=1,bytes:=8,elem:=0,len:=0,zero:=some [.int .u64 0],flds:=[] }:=by kernel_rfl
theorem ty119:ty Try.prog 119 = { kind:=1,size:=1,bytes:=24,elem:=122,len:=0,zero:=some [.slice none 0 0],flds:=[] }:=by kernel_rfl
theorem ty120:ty Try.prog 120 = { kind:=3,size:=6,bytes:=128,elem:=0,len:=0,zero:=some [.slice none 0 0,.slice none 0 0,.slice none 0 0,.int .i64 0,.slice none 0 0,.slice none 0 0],flds:=[(0,31,4),(4,119,1),(5,119,1)] }:=by kernel_rfl
theorem ty121:ty Try.prog 121 = { kind:=3,size:=6,bytes:=128,elem:=0,len:=0,zero:=some [.slice none 0 0,.slice none 0 0,.slice none 0 0,.int .i64 0,.slice none 0 0,.slice none 0 0],flds:=[(0,31,4),(4,119,1),(5,119,1)] }:=by kernel_rfl
theorem ty122:ty Try.prog 122 = { kind:=1,size:=1,bytes:=24,elem:=124,len:=0,zero:=some [.slice none 0 0],flds:=[] }:=by kernel_rfl
theorem ty123:ty Try.prog 123 = { kind:=3,size:=2,bytes:=16,elem:=0,len:=0,zero:=some [.int .i64 0,.bool false],flds:=[(0,3,1),(1,4,1)] }:=by kernel_rfl
theorem ty124:ty Try.prog 124 = { kind:=3,size:=2,bytes:=16,elem:=0,len:=0,zero:=some [.int .i64 0,.bool false],flds:=[(0,3,1),(1,4,1)] }:=by kernel_rfl
theorem ty136:ty Try.prog 136 = { kind:=5,size:=1,bytes:=4,elem:=0,len:=0,zero:=some [.int .u32 0],flds:=[] }:=by kernel_rfl
theorem ty139:ty Try.prog 139 = { kind:=5,size:=1,bytes:=8,elem:=0,len:=0,zero:=some [.int .u64 0],flds:=[] }:=by kernel_rfl
theorem ty142:ty Try.prog 142 = { kind:=7,size:=1,bytes:=8,elem:=124,len:=0,zero:=some [.pointer none],flds:=[] }:=by kernel_rfl
theorem ty146:ty Try.prog 146 = { kind:=3,size:=4,bytes:=40,elem:=0,len:=0,zero:=some [.pointer none,.pointer none,.pointer none,.string ⟨#[]⟩],flds:=[(0,17,1),(1,17,1),(2,17,1),(3,9,1)] }:=by kernel_rfl
theorem ty147:ty Try.prog 147 = { kind:=3,size:=4,bytes:=40,elem:=0,len:=0,zero:=some [.pointer none,.pointer none,.pointer none,.string ⟨#[]⟩],flds:=[(0,17,1),(1,17,1),(2,17,1),(3,9,1)] }:=by kernel_rfl
theorem ty148:ty Try.prog 148 = { kind:=2,size:=0,bytes:=0,elem:=16,len:=0,zero:=some [],flds:=[] }:=by kernel_rfl
theorem ty149:ty Try.prog 149 = { kind:=3,size:=0,bytes:=0,elem:=0,len:=0,zero:=some [],flds:=[(0,148,0)] }:=by kernel_rfl
theorem ty150:ty Try.prog 150 = { kind:=3,size:=0,bytes:=0,elem:=0,len:=0,zero:=some [],flds:=[(0,148,0)] }:=by kernel_rfl
theorem ty151:ty Try.prog 151 = { kind:=5,size:=1,bytes:=1,elem:=0,len:=0,zero:=some [.int .u8 0],flds:=[] }:=by kernel_rfl
theorem ty152:ty Try.prog 152 = { kind:=5,size:=1,bytes:=1,elem:=0,len:=0,zero:=some [.int .u8 0],flds:=[] }:=by kernel_rfl
theorem ty154:ty Try.prog 154 = { kind:=7,size:=1,bytes:=8,elem:=5,len:=0,zero:=some [.pointer none],flds:=[] }:=by kernel_rfl
theorem ty155:ty Try.prog 155 = { kind:=5,size:=1,bytes:=4,elem:=0,len:=0,zero:=some [.int .i32 0],flds:=[] }:=by kernel_rfl
theorem ty156:ty Try.prog 156 = { kind:=5,size:=1,bytes:=4,elem:=0,len:=0,zero:=some [.int .i32 0],flds:=[] }:=by kernel_rfl
theorem ty157:ty Try.prog 157 = { kind:=3,size:=11,bytes:=48,elem:=0,len:=0,zero:=some [.int .u64 0,.int .u64 0,.int .u32 0,.int .u8 0,.int .u8 0,.int .u8 0,.int .u8 0,.nilFunc,.pointer none,.int .i32 0,.int .i32 0],flds:=[(0,12,1),(1,12,1),(2,136,1),(3,151,1),(4,5,1),(5,5,1),(6,152,1),(7,153,1),(8,154,1),(9,155,1),(10,156,1)] }:=by kernel_rfl
theorem ty158:ty Try.prog 158 = { kind:=3,size:=11,bytes:=48,elem:=0,len:=0,zero:=some [.int .u64 0,.int .u64 0,.int .u32 0,.int .u8 0,.int .u8 0,.int .u8 0,.int .u8 0,.nilFunc,.pointer none,.int .i32 0,.int .i32 0],flds:=[(0,12,1),(1,12,1),(2,136,1),(3,151,1),(4,5,1),(5,5,1),(6,152,1),(7,153,1),(8,154,1),(9,155,1),(10,156,1)] }:=by kernel_rfl
theorem un2:Try.prog.underlying 2=some (.int .i64):=by kernel_rfl
theorem un3:Try.prog.underlying 3=some (.int .i64):=by kernel_rfl
theorem un5:Try.prog.underlying 5=some (.int .u8):=by kernel_rfl
theorem un6:Try.prog.underlying 6=some (.int .u8):=by kernel_rfl
theorem un12:Try.prog.underlying 12=some (.int .u64):=by kernel_rfl
theorem un21:Try.prog.underlying 21=some (.int .i32):=by kernel_rfl
theorem un35:Try.prog.underlying 35=some (.int .i64):=by kernel_rfl
theorem un114:Try.prog.underlying 114=some (.int .u64):=by kernel_rfl
theorem un136:Try.prog.underlying 136=some (.int .u32):=by kernel_rfl
theorem un139:Try.prog.underlying 139=some (.int .u64):=by kernel_rfl
theorem un151:Try.prog.underlying 151=some (.int .u8):=by kernel_rfl
theorem un152:Try.prog.underlying 152=some (.int .u8):=by kernel_rfl
theorem un155:Try.prog.underlying 155=some (.int .i32):=by kernel_rfl
theorem un156:Try.prog.underlying 156=some (.int .i32):=by kernel_rfl
theorem tys:type_of% ty2∧type_of% ty3∧type_of% ty4∧type_of% ty5∧type_of% ty6∧type_of% ty7∧type_of% ty8∧type_of% ty9∧type_of% ty10∧type_of% ty11∧type_of% ty12∧type_of% ty13∧type_of% ty14∧type_of% ty15∧type_of% ty16∧type_of% ty17∧type_of% ty18∧type_of% ty19∧type_of% ty21∧type_of% ty22∧type_of% ty25∧type_of% ty27∧type_of% ty28∧type_of% ty29∧type_of% ty30∧type_of% ty31∧type_of% ty33∧type_of% ty35∧type_of% ty38∧type_of% ty42∧type_of% ty46∧type_of% ty57∧type_of% ty58∧type_of% ty59∧type_of% ty60∧type_of% ty61∧type_of% ty62∧type_of% ty63∧type_of% ty64∧type_of% ty65∧type_of% ty66∧type_of% ty67∧type_of% ty68∧type_of% ty69∧type_of% ty71∧type_of% ty72∧type_of% ty73∧type_of% ty74∧type_of% ty75∧type_of% ty76∧type_of% ty77∧type_of% ty86∧type_of% ty87∧type_of% ty90∧type_of% ty91∧type_of% ty97∧type_of% ty114∧type_of% ty119∧type_of% ty120∧type_of% ty121∧type_of% ty122∧type_of% ty123∧type_of% ty124∧type_of% ty136∧type_of% ty139∧type_of% ty142∧type_of% ty146∧type_of% ty147∧type_of% ty148∧type_of% ty149∧type_of% ty150∧type_of% ty151∧type_of% ty152∧type_of% ty154∧type_of% ty155∧type_of% ty156∧type_of% ty157∧type_of% ty158∧type_of% un2∧type_of% un3∧type_of% un5∧type_of% un6∧type_of% un12∧type_of% un21∧type_of% un35∧type_of% un114∧type_of% un136∧type_of% un139∧type_of% un151∧type_of% un152∧type_of% un155∧type_of% un156 :=
  ⟨ty2,ty3,ty4,ty5,ty6,ty7,ty8,ty9,ty10,ty11,ty12,ty13,ty14,ty15,ty16,ty17,ty18,ty19,ty21,ty22,ty25,ty27,ty28,ty29,ty30,ty31,ty33,ty35,ty38,ty42,ty46,ty57,ty58,ty59,ty60,ty61,ty62,ty63,ty64,ty65,ty66,ty67,ty68,ty69,ty71,ty72,ty73,ty74,ty75,ty76,ty77,ty86,ty87,ty90,ty91,ty97,ty114,ty119,ty120,ty121,ty122,ty123,ty124,ty136,ty139,ty142,ty146,ty147,ty148,ty149,ty150,ty151,ty152,ty154,ty155,ty156,ty157,ty158,un2,un3,un5,un6,un12,un21,un35,un114,un136,un139,un151,un152,un155,un156⟩
theorem Ac:type_of% @tys∧type_of% @Bc∧type_of% @Sc∧type_of% @Rc :=
  ⟨@tys,@Bc,@Sc,@Rc⟩
theorem Kc:type_of% @LKc∧type_of% @Lc∧type_of% @tys∧type_of% @Rc :=
  ⟨@LKc,@Lc,@tys,@Rc⟩
theorem Oc:type_of% @SelO.eq_1∧type_of% @SelO.eq_2∧type_of% @or_true∧type_of% @false_or∧type_of% @Bc∧type_of% @Sc∧type_of% @Rc :=
  ⟨@SelO.eq_1,@SelO.eq_2,@or_true,@false_or,@Bc,@Sc,@Rc⟩
theorem Hr:type_of% @HasR.eq_1∧type_of% @HasR.eq_2∧type_of% @Bc∧type_of% @Rc∧type_of% @LKc∧type_of% @Lc∧type_of% @tys∧type_of% @and_true∧type_of% @Int.natCast_add∧type_of% @Int.cast_ofNat_Int :=
  ⟨@HasR.eq_1,@HasR.eq_2,@Bc,@Rc,@LKc,@Lc,@tys,@and_true,@Int.natCast_add,@Int.cast_ofNat_Int⟩
theorem Tc:type_of% @Has.eq_1∧type_of% @Has.eq_2∧type_of% @List.length_append.{0}∧type_of% @List.length_cons.{0}∧type_of% @List.length_nil.{0}∧type_of% @Nat.zero_add∧type_of% @LKc∧type_of% @Lc∧type_of% @tys∧type_of% @Rc∧type_of% @and_true∧type_of% @Int.natCast_add∧type_of% @Int.cast_ofNat_Int :=
  ⟨@Has.eq_1,@Has.eq_2,@List.length_append.{0},@List.length_cons.{0},@List.length_nil.{0},@Nat.zero_add,@LKc,@Lc,@tys,@Rc,@and_true,@Int.natCast_add,@Int.cast_ofNat_Int⟩
theorem Qc:type_of% @retQ.eq_1∧type_of% @retQ.eq_2∧type_of% @resW.eq_1∧type_of% @resW.eq_2∧type_of% @resW.eq_3∧type_of% @retV.eq_1∧type_of% @retV_0∧type_of% @retV_2∧type_of% @List.length_nil.{0}∧type_of% @LKc∧type_of% @Lc∧type_of% @tys∧type_of% @Rc :=
  ⟨@retQ.eq_1,@retQ.eq_2,@resW.eq_1,@resW.eq_2,@resW.eq_3,@retV.eq_1,@retV_0,@retV_2,@List.length_nil.{0},@LKc,@Lc,@tys,@Rc⟩
end T

