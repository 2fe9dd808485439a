/- What the walk knows of the program's types. Printed by a program of mine (gen_tab.lean). Helpers over the type table: 64-bit ints, slices of known form, contracts given by hand. From a contract of the abstract walk to a law's row: whatever the arguments, it returns true, and they read as they did. Arguments opened: what any row needs. Arguments opened: cells of any struct, field by field. Plain functions: what layers 34 and 35 (program and reference) compute, on plain data. No program in sight. Plain functions and plain laws of layer 35: what the program and the reference compute, and that they agree. Contracts by the abstract walk: layers 34 and 35. The walks of layers 34 and 35, first part: what each function returns, whatever the memory. The walks of layers 34 and 35, second part: equality, membership, checks, clones. Go's library, walked: what the slices functions that the layers use hand back. Printed by gen_lib.py. The walks of layers 34 and 35, fifth part: closures, the latest time, own copies. The walks of layers 34 and 35, sixth part: own copies. -/
import Derived.Test.YtcbdhigllelmcaaGreatK06
import Derived.Test.YtcbdhigllelmcaaGreatProg
import Derived.KernelRfl
import Derived.Test.YtcbdhigllelmcaaGreatRows
import Derived.ProofKit
import Derived.Lib.SmallJoins
import Derived.Deep.Slices
import Derived.Carry
import Derived.Below
import Derived.Test.YtcbdhigllelmcaaGreatK01
set_option linter.unusedVariables false
set_option linter.unusedSimpArgs false
namespace Go.Proofs.YtcbdhigllelmcaaGreat
def ty1 : TyI := ⟨1, 8, .nilFunc, .other⟩
theorem tyOk1 : TyOk Tryz.prog 1 ty1 := ⟨by kernel_rfl, by kernel_rfl, by kernel_rfl⟩
def ty2 : TyI := ⟨1, 8, .int .i64 0, .int .i64⟩
theorem tyOk2 : TyOk Tryz.prog 2 ty2 := ⟨by kernel_rfl, by kernel_rfl, by kernel_rfl⟩
def ty3 : TyI := ⟨1, 8, .int .i64 0, .int .i64⟩
theorem tyOk3 : TyOk Tryz.prog 3 ty3 := ⟨by kernel_rfl, by kernel_rfl, by kernel_rfl⟩
def ty4 : TyI := ⟨1, 1, .bool false, .bool⟩
theorem tyOk4 : TyOk Tryz.prog 4 ty4 := ⟨by kernel_rfl, by kernel_rfl, by kernel_rfl⟩
def ty5 : TyI := ⟨1, 1, .int .u8 0, .int .u8⟩
theorem tyOk5 : TyOk Tryz.prog 5 ty5 := ⟨by kernel_rfl, by kernel_rfl, by kernel_rfl⟩
def ty6 : TyI := ⟨1, 1, .int .u8 0, .int .u8⟩
theorem tyOk6 : TyOk Tryz.prog 6 ty6 := ⟨by kernel_rfl, by kernel_rfl, by kernel_rfl⟩
def ty7 : TyI := ⟨4, 24, .agg #[.int .i64 0, .int .i64 0, .bool false, .int .u8 0], .strct [(0, 1, some false), (1, 1, some false), (2, 1, some false), (3, 1, some false)]⟩
theorem tyOk7 : TyOk Tryz.prog 7 ty7 := ⟨by kernel_rfl, by kernel_rfl, by kernel_rfl⟩
def ty8 : TyI := ⟨4, 24, .agg #[.int .i64 0, .int .i64 0, .bool false, .int .u8 0], .strct [(0, 1, some false), (1, 1, some false), (2, 1, some false), (3, 1, some false)]⟩
theorem tyOk8 : TyOk Tryz.prog 8 ty8 := ⟨by kernel_rfl, by kernel_rfl, by kernel_rfl⟩
def ty9 : TyI := ⟨1, 16, .string ByteArray.empty, .str⟩
theorem tyOk9 : TyOk Tryz.prog 9 ty9 := ⟨by kernel_rfl, by kernel_rfl, by kernel_rfl⟩
def ty10 : TyI := ⟨1, 16, .string ByteArray.empty, .str⟩
theorem tyOk10 : TyOk Tryz.prog 10 ty10 := ⟨by kernel_rfl, by kernel_rfl, by kernel_rfl⟩
def ty11 : TyI := ⟨1, 16, .string ByteArray.empty, .str⟩
theorem tyOk11 : TyOk Tryz.prog 11 ty11 := ⟨by kernel_rfl, by kernel_rfl, by kernel_rfl⟩
def ty12 : TyI := ⟨1, 8, .int .u64 0, .int .u64⟩
theorem tyOk12 : TyOk Tryz.prog 12 ty12 := ⟨by kernel_rfl, by kernel_rfl, by kernel_rfl⟩
def ty13 : TyI := ⟨2, 24, .agg #[.string ByteArray.empty, .int .u64 0], .strct [(0, 1, some false), (1, 1, some false)]⟩
theorem tyOk13 : TyOk Tryz.prog 13 ty13 := ⟨by kernel_rfl, by kernel_rfl, by kernel_rfl⟩
def ty14 : TyI := ⟨2, 24, .agg #[.string ByteArray.empty, .int .u64 0], .strct [(0, 1, some false), (1, 1, some false)]⟩
theorem tyOk14 : TyOk Tryz.prog 14 ty14 := ⟨by kernel_rfl, by kernel_rfl, by kernel_rfl⟩
def ty15 : TyI := ⟨1, 8, .pointer none, .other⟩
theorem tyOk15 : TyOk Tryz.prog 15 ty15 := ⟨by kernel_rfl, by kernel_rfl, by kernel_rfl⟩
def ty16 : TyI := ⟨1, 8, .pointer none, .other⟩
theorem tyOk16 : TyOk Tryz.prog 16 ty16 := ⟨by kernel_rfl, by kernel_rfl, by kernel_rfl⟩
def ty17 : TyI := ⟨1, 8, .pointer none, .other⟩
theorem tyOk17 : TyOk Tryz.prog 17 ty17 := ⟨by kernel_rfl, by kernel_rfl, by kernel_rfl⟩
def ty18 : TyI := ⟨1, 8, .agg #[.pointer none], .strct [(0, 1, some false)]⟩
theorem tyOk18 : TyOk Tryz.prog 18 ty18 := ⟨by kernel_rfl, by kernel_rfl, by kernel_rfl⟩
def ty19 : TyI := ⟨1, 8, .agg #[.pointer none], .strct [(0, 1, some false)]⟩
theorem tyOk19 : TyOk Tryz.prog 19 ty19 := ⟨by kernel_rfl, by kernel_rfl, by kernel_rfl⟩
def ty21 : TyI := ⟨1, 4, .int .i32 0, .int .i32⟩
theorem tyOk21 : TyOk Tryz.prog 21 ty21 := ⟨by kernel_rfl, by kernel_rfl, by kernel_rfl⟩
def ty22 : TyI := ⟨1, 24, .slice none 0 0, .slc 88 2 40⟩
theorem tyOk22 : TyOk Tryz.prog 22 ty22 := ⟨by kernel_rfl, by kernel_rfl, by kernel_rfl⟩
def ty23 : TyI := ⟨1, 24, .slice none 0 0, .slc 3 1 8⟩
theorem tyOk23 : TyOk Tryz.prog 23 ty23 := ⟨by kernel_rfl, by kernel_rfl, by kernel_rfl⟩
def ty24 : TyI := ⟨1, 24, .slice none 0 0, .slc 116 2 16⟩
theorem tyOk24 : TyOk Tryz.prog 24 ty24 := ⟨by kernel_rfl, by kernel_rfl, by kernel_rfl⟩
def ty25 : TyI := ⟨4, 64, .agg #[.int .i64 0, .slice none 0 0, .slice none 0 0, .int .i64 0], .strct [(0, 1, some false), (1, 1, some false), (2, 1, some false), (3, 1, some false)]⟩
theorem tyOk25 : TyOk Tryz.prog 25 ty25 := ⟨by kernel_rfl, by kernel_rfl, by kernel_rfl⟩
def ty26 : TyI := ⟨4, 64, .agg #[.int .i64 0, .slice none 0 0, .slice none 0 0, .int .i64 0], .strct [(0, 1, some false), (1, 1, some false), (2, 1, some false), (3, 1, some false)]⟩
theorem tyOk26 : TyOk Tryz.prog 26 ty26 := ⟨by kernel_rfl, by kernel_rfl, by kernel_rfl⟩
def ty27 : TyI := ⟨6, 80, .agg #[.int .i64 0, .int .i64 0, .int .i64 0, .slice none 0 0, .slice none 0 0, .int .i64 0], .strct [(0, 1, some false), (1, 1, some false), (2, 4, some true)]⟩
theorem tyOk27 : TyOk Tryz.prog 27 ty27 := ⟨by kernel_rfl, by kernel_rfl, by kernel_rfl⟩
def ty28 : TyI := ⟨6, 80, .agg #[.int .i64 0, .int .i64 0, .int .i64 0, .slice none 0 0, .slice none 0 0, .int .i64 0], .strct [(0, 1, some false), (1, 1, some false), (2, 4, some true)]⟩
theorem tyOk28 : TyOk Tryz.prog 28 ty28 := ⟨by kernel_rfl, by kernel_rfl, by kernel_rfl⟩
def ty29 : TyI := ⟨1, 24, .slice none 0 0, .slc 71 9 88⟩
theorem tyOk29 : TyOk Tryz.prog 29 ty29 := ⟨by kernel_rfl, by kernel_rfl, by kernel_rfl⟩
def ty30 : TyI := ⟨1, 8, .nilFunc, .other⟩
theorem tyOk30 : TyOk Tryz.prog 30 ty30 := ⟨by kernel_rfl, by kernel_rfl, by kernel_rfl⟩
def ty31 : TyI := ⟨1, 8, .nilFunc, .other⟩
theorem tyOk31 : TyOk Tryz.prog 31 ty31 := ⟨by kernel_rfl, by kernel_rfl, by kernel_rfl⟩
def ty32 : TyI := ⟨1, 8, .nilFunc, .other⟩
theorem tyOk32 : TyOk Tryz.prog 32 ty32 := ⟨by kernel_rfl, by kernel_rfl, by kernel_rfl⟩
def ty33 : TyI := ⟨1, 24, .slice none 0 0, .slc 53 7 72⟩
theorem tyOk33 : TyOk Tryz.prog 33 ty33 := ⟨by kernel_rfl, by kernel_rfl, by kernel_rfl⟩
def ty34 : TyI := ⟨1, 8, .int .i64 0, .int .i64⟩
theorem tyOk34 : TyOk Tryz.prog 34 ty34 := ⟨by kernel_rfl, by kernel_rfl, by kernel_rfl⟩
def ty36 : TyI := ⟨1, 8, .nilFunc, .other⟩
theorem tyOk36 : TyOk Tryz.prog 36 ty36 := ⟨by kernel_rfl, by kernel_rfl, by kernel_rfl⟩
def ty38 : TyI := ⟨1, 8, .nilFunc, .other⟩
theorem tyOk38 : TyOk Tryz.prog 38 ty38 := ⟨by kernel_rfl, by kernel_rfl, by kernel_rfl⟩
def ty40 : TyI := ⟨1, 8, .nilFunc, .other⟩
theorem tyOk40 : TyOk Tryz.prog 40 ty40 := ⟨by kernel_rfl, by kernel_rfl, by kernel_rfl⟩
def ty42 : TyI := ⟨1, 8, .nilFunc, .other⟩
theorem tyOk42 : TyOk Tryz.prog 42 ty42 := ⟨by kernel_rfl, by kernel_rfl, by kernel_rfl⟩
def ty43 : TyI := ⟨1, 8, .nilFunc, .other⟩
theorem tyOk43 : TyOk Tryz.prog 43 ty43 := ⟨by kernel_rfl, by kernel_rfl, by kernel_rfl⟩
def ty44 : TyI := ⟨1, 8, .nilFunc, .other⟩
theorem tyOk44 : TyOk Tryz.prog 44 ty44 := ⟨by kernel_rfl, by kernel_rfl, by kernel_rfl⟩
def ty45 : TyI := ⟨1, 8, .nilFunc, .other⟩
theorem tyOk45 : TyOk Tryz.prog 45 ty45 := ⟨by kernel_rfl, by kernel_rfl, by kernel_rfl⟩
def ty46 : TyI := ⟨1, 24, .slice none 0 0, .slc 23 1 24⟩
theorem tyOk46 : TyOk Tryz.prog 46 ty46 := ⟨by kernel_rfl, by kernel_rfl, by kernel_rfl⟩
def ty47 : TyI := ⟨2, 32, .agg #[.slice none 0 0, .int .i64 0], .strct [(0, 1, some false), (1, 1, some false)]⟩
theorem tyOk47 : TyOk Tryz.prog 47 ty47 := ⟨by kernel_rfl, by kernel_rfl, by kernel_rfl⟩
def ty48 : TyI := ⟨2, 32, .agg #[.slice none 0 0, .int .i64 0], .strct [(0, 1, some false), (1, 1, some false)]⟩
theorem tyOk48 : TyOk Tryz.prog 48 ty48 := ⟨by kernel_rfl, by kernel_rfl, by kernel_rfl⟩
def ty49 : TyI := ⟨1, 24, .slice none 0 0, .slc 97 3 32⟩
theorem tyOk49 : TyOk Tryz.prog 49 ty49 := ⟨by kernel_rfl, by kernel_rfl, by kernel_rfl⟩
def ty50 : TyI := ⟨5, 56, .agg #[.int .i64 0, .int .i64 0, .int .i64 0, .int .i64 0, .slice none 0 0], .strct [(0, 1, some false), (1, 1, some false), (2, 1, some false), (3, 1, some false), (4, 1, some false)]⟩
theorem tyOk50 : TyOk Tryz.prog 50 ty50 := ⟨by kernel_rfl, by kernel_rfl, by kernel_rfl⟩
def ty51 : TyI := ⟨5, 56, .agg #[.int .i64 0, .int .i64 0, .int .i64 0, .int .i64 0, .slice none 0 0], .strct [(0, 1, some false), (1, 1, some false), (2, 1, some false), (3, 1, some false), (4, 1, some false)]⟩
theorem tyOk51 : TyOk Tryz.prog 51 ty51 := ⟨by kernel_rfl, by kernel_rfl, by kernel_rfl⟩
def ty52 : TyI := ⟨7, 72, .agg #[.int .i64 0, .int .i64 0, .int .i64 0, .int .i64 0, .int .i64 0, .slice none 0 0, .int .i64 0], .strct [(0, 1, some false), (1, 5, some true), (6, 1, some false)]⟩
theorem tyOk52 : TyOk Tryz.prog 52 ty52 := ⟨by kernel_rfl, by kernel_rfl, by kernel_rfl⟩
def ty53 : TyI := ⟨7, 72, .agg #[.int .i64 0, .int .i64 0, .int .i64 0, .int .i64 0, .int .i64 0, .slice none 0 0, .int .i64 0], .strct [(0, 1, some false), (1, 5, some true), (6, 1, some false)]⟩
theorem tyOk53 : TyOk Tryz.prog 53 ty53 := ⟨by kernel_rfl, by kernel_rfl, by kernel_rfl⟩
def ty54 : TyI := ⟨1, 8, .nilFunc, .other⟩
theorem tyOk54 : TyOk Tryz.prog 54 ty54 := ⟨by kernel_rfl, by kernel_rfl, by kernel_rfl⟩
def ty56 : TyI := ⟨1, 8, .nilFunc, .other⟩
theorem tyOk56 : TyOk Tryz.prog 56 ty56 := ⟨by kernel_rfl, by kernel_rfl, by kernel_rfl⟩
def ty58 : TyI := ⟨1, 8, .nilFunc, .other⟩
theorem tyOk58 : TyOk Tryz.prog 58 ty58 := ⟨by kernel_rfl, by kernel_rfl, by kernel_rfl⟩
def ty59 : TyI := ⟨1, 8, .nilFunc, .other⟩
theorem tyOk59 : TyOk Tryz.prog 59 ty59 := ⟨by kernel_rfl, by kernel_rfl, by kernel_rfl⟩
def ty60 : TyI := ⟨1, 8, .nilFunc, .other⟩
theorem tyOk60 : TyOk Tryz.prog 60 ty60 := ⟨by kernel_rfl, by kernel_rfl, by kernel_rfl⟩
def ty62 : TyI := ⟨1, 8, .nilFunc, .other⟩
theorem tyOk62 : TyOk Tryz.prog 62 ty62 := ⟨by kernel_rfl, by kernel_rfl, by kernel_rfl⟩
def ty64 : TyI := ⟨1, 8, .nilFunc, .other⟩
theorem tyOk64 : TyOk Tryz.prog 64 ty64 := ⟨by kernel_rfl, by kernel_rfl, by kernel_rfl⟩
def ty65 : TyI := ⟨1, 8, .nilFunc, .other⟩
theorem tyOk65 : TyOk Tryz.prog 65 ty65 := ⟨by kernel_rfl, by kernel_rfl, by kernel_rfl⟩
def ty66 : TyI := ⟨1, 8, .nilFunc, .other⟩
theorem tyOk66 : TyOk Tryz.prog 66 ty66 := ⟨by kernel_rfl, by kernel_rfl, by kernel_rfl⟩
def ty67 : TyI := ⟨1, 8, .nilFunc, .other⟩
theorem tyOk67 : TyOk Tryz.prog 67 ty67 := ⟨by kernel_rfl, by kernel_rfl, by kernel_rfl⟩
def ty68 : TyI := ⟨1, 8, .nilFunc, .other⟩
theorem tyOk68 : TyOk Tryz.prog 68 ty68 := ⟨by kernel_rfl, by kernel_rfl, by kernel_rfl⟩
def ty69 : TyI := ⟨1, 8, .nilFunc, .other⟩
theorem tyOk69 : TyOk Tryz.prog 69 ty69 := ⟨by kernel_rfl, by kernel_rfl, by kernel_rfl⟩
def ty70 : TyI := ⟨9, 88, .agg #[.int .i64 0, .int .i64 0, .int .i64 0, .int .i64 0, .int .i64 0, .slice none 0 0, .int .i64 0, .int .i64 0, .int .i64 0], .strct [(0, 1, some false), (1, 5, some true), (6, 1, some false), (7, 1, some false), (8, 1, some false)]⟩
theorem tyOk70 : TyOk Tryz.prog 70 ty70 := ⟨by kernel_rfl, by kernel_rfl, by kernel_rfl⟩
def ty71 : TyI := ⟨9, 88, .agg #[.int .i64 0, .int .i64 0, .int .i64 0, .int .i64 0, .int .i64 0, .slice none 0 0, .int .i64 0, .int .i64 0, .int .i64 0], .strct [(0, 1, some false), (1, 5, some true), (6, 1, some false), (7, 1, some false), (8, 1, some false)]⟩
theorem tyOk71 : TyOk Tryz.prog 71 ty71 := ⟨by kernel_rfl, by kernel_rfl, by kernel_rfl⟩
def ty72 : TyI := ⟨1, 8, .nilFunc, .other⟩
theorem tyOk72 : TyOk Tryz.prog 72 ty72 := ⟨by kernel_rfl, by kernel_rfl, by kernel_rfl⟩
def ty73 : TyI := ⟨1, 8, .nilFunc, .other⟩
theorem tyOk73 : TyOk Tryz.prog 73 ty73 := ⟨by kernel_rfl, by kernel_rfl, by kernel_rfl⟩
def ty74 : TyI := ⟨1, 8, .nilFunc, .other⟩
theorem tyOk74 : TyOk Tryz.prog 74 ty74 := ⟨by kernel_rfl, by kernel_rfl, by kernel_rfl⟩
def ty75 : TyI := ⟨1, 8, .nilFunc, .other⟩
theorem tyOk75 : TyOk Tryz.prog 75 ty75 := ⟨by kernel_rfl, by kernel_rfl, by kernel_rfl⟩
def ty76 : TyI := ⟨1, 8, .nilFunc, .other⟩
theorem tyOk76 : TyOk Tryz.prog 76 ty76 := ⟨by kernel_rfl, by kernel_rfl, by kernel_rfl⟩
def ty77 : TyI := ⟨1, 8, .nilFunc, .other⟩
theorem tyOk77 : TyOk Tryz.prog 77 ty77 := ⟨by kernel_rfl, by kernel_rfl, by kernel_rfl⟩
def ty78 : TyI := ⟨1, 8, .nilFunc, .other⟩
theorem tyOk78 : TyOk Tryz.prog 78 ty78 := ⟨by kernel_rfl, by kernel_rfl, by kernel_rfl⟩
def ty79 : TyI := ⟨1, 8, .nilFunc, .other⟩
theorem tyOk79 : TyOk Tryz.prog 79 ty79 := ⟨by kernel_rfl, by kernel_rfl, by kernel_rfl⟩
def ty80 : TyI := ⟨1, 8, .nilFunc, .other⟩
theorem tyOk80 : TyOk Tryz.prog 80 ty80 := ⟨by kernel_rfl, by kernel_rfl, by kernel_rfl⟩
def ty82 : TyI := ⟨1, 8, .nilFunc, .other⟩
theorem tyOk82 : TyOk Tryz.prog 82 ty82 := ⟨by kernel_rfl, by kernel_rfl, by kernel_rfl⟩
def ty83 : TyI := ⟨1, 8, .nilFunc, .other⟩
theorem tyOk83 : TyOk Tryz.prog 83 ty83 := ⟨by kernel_rfl, by kernel_rfl, by kernel_rfl⟩
def ty84 : TyI := ⟨1, 8, .nilFunc, .other⟩
theorem tyOk84 : TyOk Tryz.prog 84 ty84 := ⟨by kernel_rfl, by kernel_rfl, by kernel_rfl⟩
def ty85 : TyI := ⟨1, 8, .nilFunc, .other⟩
theorem tyOk85 : TyOk Tryz.prog 85 ty85 := ⟨by kernel_rfl, by kernel_rfl, by kernel_rfl⟩
def ty86 : TyI := ⟨1, 24, .slice none 0 0, .slc 109 2 24⟩
theorem tyOk86 : TyOk Tryz.prog 86 ty86 := ⟨by kernel_rfl, by kernel_rfl, by kernel_rfl⟩
def ty87 : TyI := ⟨2, 40, .agg #[.string ByteArray.empty, .slice none 0 0], .strct [(0, 1, some false), (1, 1, some false)]⟩
theorem tyOk87 : TyOk Tryz.prog 87 ty87 := ⟨by kernel_rfl, by kernel_rfl, by kernel_rfl⟩
def ty88 : TyI := ⟨2, 40, .agg #[.string ByteArray.empty, .slice none 0 0], .strct [(0, 1, some false), (1, 1, some false)]⟩
theorem tyOk88 : TyOk Tryz.prog 88 ty88 := ⟨by kernel_rfl, by kernel_rfl, by kernel_rfl⟩
def ty89 : TyI := ⟨1, 8, .nilFunc, .other⟩
theorem tyOk89 : TyOk Tryz.prog 89 ty89 := ⟨by kernel_rfl, by kernel_rfl, by kernel_rfl⟩
def ty90 : TyI := ⟨1, 8, .nilFunc, .other⟩
theorem tyOk90 : TyOk Tryz.prog 90 ty90 := ⟨by kernel_rfl, by kernel_rfl, by kernel_rfl⟩
def ty91 : TyI := ⟨3, 40, .agg #[.int .i64 0, .int .i64 0, .slice none 0 0], .strct [(0, 1, some false), (1, 1, some false), (2, 1, some false)]⟩
theorem tyOk91 : TyOk Tryz.prog 91 ty91 := ⟨by kernel_rfl, by kernel_rfl, by kernel_rfl⟩
def ty92 : TyI := ⟨3, 40, .agg #[.int .i64 0, .int .i64 0, .slice none 0 0], .strct [(0, 1, some false), (1, 1, some false), (2, 1, some false)]⟩
theorem tyOk92 : TyOk Tryz.prog 92 ty92 := ⟨by kernel_rfl, by kernel_rfl, by kernel_rfl⟩
def ty93 : TyI := ⟨1, 24, .slice none 0 0, .slc 92 3 40⟩
theorem tyOk93 : TyOk Tryz.prog 93 ty93 := ⟨by kernel_rfl, by kernel_rfl, by kernel_rfl⟩
def ty94 : TyI := ⟨1, 8, .map none, .map 3 4⟩
theorem tyOk94 : TyOk Tryz.prog 94 ty94 := ⟨by kernel_rfl, by kernel_rfl, by kernel_rfl⟩
def ty95 : TyI := ⟨1, 8, .nilFunc, .other⟩
theorem tyOk95 : TyOk Tryz.prog 95 ty95 := ⟨by kernel_rfl, by kernel_rfl, by kernel_rfl⟩
def ty96 : TyI := ⟨3, 32, .agg #[.int .i64 0, .int .i64 0, .string ByteArray.empty], .strct [(0, 1, some false), (1, 1, some false), (2, 1, some false)]⟩
theorem tyOk96 : TyOk Tryz.prog 96 ty96 := ⟨by kernel_rfl, by kernel_rfl, by kernel_rfl⟩
def ty97 : TyI := ⟨3, 32, .agg #[.int .i64 0, .int .i64 0, .string ByteArray.empty], .strct [(0, 1, some false), (1, 1, some false), (2, 1, some false)]⟩
theorem tyOk97 : TyOk Tryz.prog 97 ty97 := ⟨by kernel_rfl, by kernel_rfl, by kernel_rfl⟩
def ty99 : TyI := ⟨1, 8, .nilFunc, .other⟩
theorem tyOk99 : TyOk Tryz.prog 99 ty99 := ⟨by kernel_rfl, by kernel_rfl, by kernel_rfl⟩
def ty100 : TyI := ⟨1, 8, .nilFunc, .other⟩
theorem tyOk100 : TyOk Tryz.prog 100 ty100 := ⟨by kernel_rfl, by kernel_rfl, by kernel_rfl⟩
def ty101 : TyI := ⟨1, 8, .nilFunc, .other⟩
theorem tyOk101 : TyOk Tryz.prog 101 ty101 := ⟨by kernel_rfl, by kernel_rfl, by kernel_rfl⟩
def ty102 : TyI := ⟨1, 8, .nilFunc, .other⟩
theorem tyOk102 : TyOk Tryz.prog 102 ty102 := ⟨by kernel_rfl, by kernel_rfl, by kernel_rfl⟩
def ty103 : TyI := ⟨1, 8, .nilFunc, .other⟩
theorem tyOk103 : TyOk Tryz.prog 103 ty103 := ⟨by kernel_rfl, by kernel_rfl, by kernel_rfl⟩
def ty104 : TyI := ⟨1, 8, .nilFunc, .other⟩
theorem tyOk104 : TyOk Tryz.prog 104 ty104 := ⟨by kernel_rfl, by kernel_rfl, by kernel_rfl⟩
def ty105 : TyI := ⟨1, 8, .nilFunc, .other⟩
theorem tyOk105 : TyOk Tryz.prog 105 ty105 := ⟨by kernel_rfl, by kernel_rfl, by kernel_rfl⟩
def ty106 : TyI := ⟨1, 8, .nilFunc, .other⟩
theorem tyOk106 : TyOk Tryz.prog 106 ty106 := ⟨by kernel_rfl, by kernel_rfl, by kernel_rfl⟩
def ty107 : TyI := ⟨1, 8, .nilFunc, .other⟩
theorem tyOk107 : TyOk Tryz.prog 107 ty107 := ⟨by kernel_rfl, by kernel_rfl, by kernel_rfl⟩
def ty108 : TyI := ⟨2, 24, .agg #[.string ByteArray.empty, .int .i64 0], .strct [(0, 1, some false), (1, 1, some false)]⟩
theorem tyOk108 : TyOk Tryz.prog 108 ty108 := ⟨by kernel_rfl, by kernel_rfl, by kernel_rfl⟩
def ty109 : TyI := ⟨2, 24, .agg #[.string ByteArray.empty, .int .i64 0], .strct [(0, 1, some false), (1, 1, some false)]⟩
theorem tyOk109 : TyOk Tryz.prog 109 ty109 := ⟨by kernel_rfl, by kernel_rfl, by kernel_rfl⟩
def ty110 : TyI := ⟨1, 8, .map none, .map 9 4⟩
theorem tyOk110 : TyOk Tryz.prog 110 ty110 := ⟨by kernel_rfl, by kernel_rfl, by kernel_rfl⟩
def ty111 : TyI := ⟨1, 8, .nilFunc, .other⟩
theorem tyOk111 : TyOk Tryz.prog 111 ty111 := ⟨by kernel_rfl, by kernel_rfl, by kernel_rfl⟩
def ty112 : TyI := ⟨1, 8, .nilFunc, .other⟩
theorem tyOk112 : TyOk Tryz.prog 112 ty112 := ⟨by kernel_rfl, by kernel_rfl, by kernel_rfl⟩
def ty113 : TyI := ⟨1, 8, .nilFunc, .other⟩
theorem tyOk113 : TyOk Tryz.prog 113 ty113 := ⟨by kernel_rfl, by kernel_rfl, by kernel_rfl⟩
def ty114 : TyI := ⟨1, 8, .nilFunc, .other⟩
theorem tyOk114 : TyOk Tryz.prog 114 ty114 := ⟨by kernel_rfl, by kernel_rfl, by kernel_rfl⟩
def ty115 : TyI := ⟨2, 16, .agg #[.int .i64 0, .int .i64 0], .strct [(0, 1, some false), (1, 1, some false)]⟩
theorem tyOk115 : TyOk Tryz.prog 115 ty115 := ⟨by kernel_rfl, by kernel_rfl, by kernel_rfl⟩
def ty116 : TyI := ⟨2, 16, .agg #[.int .i64 0, .int .i64 0], .strct [(0, 1, some false), (1, 1, some false)]⟩
theorem tyOk116 : TyOk Tryz.prog 116 ty116 := ⟨by kernel_rfl, by kernel_rfl, by kernel_rfl⟩
def ty117 : TyI := ⟨1, 8, .nilFunc, .other⟩
theorem tyOk117 : TyOk Tryz.prog 117 ty117 := ⟨by kernel_rfl, by kernel_rfl, by kernel_rfl⟩
def ty118 : TyI := ⟨1, 8, .nilFunc, .other⟩
theorem tyOk118 : TyOk Tryz.prog 118 ty118 := ⟨by kernel_rfl, by kernel_rfl, by kernel_rfl⟩
def ty119 : TyI := ⟨1, 8, .nilFunc, .other⟩
theorem tyOk119 : TyOk Tryz.prog 119 ty119 := ⟨by kernel_rfl, by kernel_rfl, by kernel_rfl⟩
def ty121 : TyI := ⟨1, 8, .nilFunc, .other⟩
theorem tyOk121 : TyOk Tryz.prog 121 ty121 := ⟨by kernel_rfl, by kernel_rfl, by kernel_rfl⟩
def ty122 : TyI := ⟨1, 8, .nilFunc, .other⟩
theorem tyOk122 : TyOk Tryz.prog 122 ty122 := ⟨by kernel_rfl, by kernel_rfl, by kernel_rfl⟩
def ty123 : TyI := ⟨1, 8, .nilFunc, .other⟩
theorem tyOk123 : TyOk Tryz.prog 123 ty123 := ⟨by kernel_rfl, by kernel_rfl, by kernel_rfl⟩
def ty124 : TyI := ⟨1, 8, .nilFunc, .other⟩
theorem tyOk124 : TyOk Tryz.prog 124 ty124 := ⟨by kernel_rfl, by kernel_rfl, by kernel_rfl⟩
def ty125 : TyI := ⟨1, 8, .nilFunc, .other⟩
theorem tyOk125 : TyOk Tryz.prog 125 ty125 := ⟨by kernel_rfl, by kernel_rfl, by kernel_rfl⟩
def ty126 : TyI := ⟨1, 8, .nilFunc, .other⟩
theorem tyOk126 : TyOk Tryz.prog 126 ty126 := ⟨by kernel_rfl, by kernel_rfl, by kernel_rfl⟩
def ty127 : TyI := ⟨1, 8, .nilFunc, .other⟩
theorem tyOk127 : TyOk Tryz.prog 127 ty127 := ⟨by kernel_rfl, by kernel_rfl, by kernel_rfl⟩
def ty128 : TyI := ⟨1, 24, .slice none 0 0, .slc 4 1 1⟩
theorem tyOk128 : TyOk Tryz.prog 128 ty128 := ⟨by kernel_rfl, by kernel_rfl, by kernel_rfl⟩
def ty130 : TyI := ⟨1, 8, .nilFunc, .other⟩
theorem tyOk130 : TyOk Tryz.prog 130 ty130 := ⟨by kernel_rfl, by kernel_rfl, by kernel_rfl⟩
def ty131 : TyI := ⟨1, 8, .nilFunc, .other⟩
theorem tyOk131 : TyOk Tryz.prog 131 ty131 := ⟨by kernel_rfl, by kernel_rfl, by kernel_rfl⟩
def ty133 : TyI := ⟨1, 8, .nilFunc, .other⟩
theorem tyOk133 : TyOk Tryz.prog 133 ty133 := ⟨by kernel_rfl, by kernel_rfl, by kernel_rfl⟩
def ty134 : TyI := ⟨1, 8, .nilFunc, .other⟩
theorem tyOk134 : TyOk Tryz.prog 134 ty134 := ⟨by kernel_rfl, by kernel_rfl, by kernel_rfl⟩
def ty135 : TyI := ⟨1, 8, .nilFunc, .other⟩
theorem tyOk135 : TyOk Tryz.prog 135 ty135 := ⟨by kernel_rfl, by kernel_rfl, by kernel_rfl⟩
def ty136 : TyI := ⟨1, 8, .nilFunc, .other⟩
theorem tyOk136 : TyOk Tryz.prog 136 ty136 := ⟨by kernel_rfl, by kernel_rfl, by kernel_rfl⟩
def ty137 : TyI := ⟨1, 8, .nilFunc, .other⟩
theorem tyOk137 : TyOk Tryz.prog 137 ty137 := ⟨by kernel_rfl, by kernel_rfl, by kernel_rfl⟩
def ty138 : TyI := ⟨1, 8, .nilFunc, .other⟩
theorem tyOk138 : TyOk Tryz.prog 138 ty138 := ⟨by kernel_rfl, by kernel_rfl, by kernel_rfl⟩
def ty139 : TyI := ⟨1, 8, .nilFunc, .other⟩
theorem tyOk139 : TyOk Tryz.prog 139 ty139 := ⟨by kernel_rfl, by kernel_rfl, by kernel_rfl⟩
def ty141 : TyI := ⟨1, 8, .nilFunc, .other⟩
theorem tyOk141 : TyOk Tryz.prog 141 ty141 := ⟨by kernel_rfl, by kernel_rfl, by kernel_rfl⟩
def ty142 : TyI := ⟨1, 8, .nilFunc, .other⟩
theorem tyOk142 : TyOk Tryz.prog 142 ty142 := ⟨by kernel_rfl, by kernel_rfl, by kernel_rfl⟩
def ty144 : TyI := ⟨1, 8, .nilFunc, .other⟩
theorem tyOk144 : TyOk Tryz.prog 144 ty144 := ⟨by kernel_rfl, by kernel_rfl, by kernel_rfl⟩
def ty145 : TyI := ⟨1, 8, .nilFunc, .other⟩
theorem tyOk145 : TyOk Tryz.prog 145 ty145 := ⟨by kernel_rfl, by kernel_rfl, by kernel_rfl⟩
def ty146 : TyI := ⟨1, 8, .nilFunc, .other⟩
theorem tyOk146 : TyOk Tryz.prog 146 ty146 := ⟨by kernel_rfl, by kernel_rfl, by kernel_rfl⟩
def ty147 : TyI := ⟨1, 8, .nilFunc, .other⟩
theorem tyOk147 : TyOk Tryz.prog 147 ty147 := ⟨by kernel_rfl, by kernel_rfl, by kernel_rfl⟩
def ty148 : TyI := ⟨1, 8, .nilFunc, .other⟩
theorem tyOk148 : TyOk Tryz.prog 148 ty148 := ⟨by kernel_rfl, by kernel_rfl, by kernel_rfl⟩
def ty149 : TyI := ⟨1, 8, .nilFunc, .other⟩
theorem tyOk149 : TyOk Tryz.prog 149 ty149 := ⟨by kernel_rfl, by kernel_rfl, by kernel_rfl⟩
def ty150 : TyI := ⟨1, 8, .nilFunc, .other⟩
theorem tyOk150 : TyOk Tryz.prog 150 ty150 := ⟨by kernel_rfl, by kernel_rfl, by kernel_rfl⟩
def ty151 : TyI := ⟨1, 24, .slice none 0 0, .slc 5 1 1⟩
theorem tyOk151 : TyOk Tryz.prog 151 ty151 := ⟨by kernel_rfl, by kernel_rfl, by kernel_rfl⟩
def ty152 : TyI := ⟨1, 4, .int .u32 0, .int .u32⟩
theorem tyOk152 : TyOk Tryz.prog 152 ty152 := ⟨by kernel_rfl, by kernel_rfl, by kernel_rfl⟩
def ty153 : TyI := ⟨1, 8, .nilFunc, .other⟩
theorem tyOk153 : TyOk Tryz.prog 153 ty153 := ⟨by kernel_rfl, by kernel_rfl, by kernel_rfl⟩
def ty154 : TyI := ⟨1, 24, .slice none 0 0, .slc 26 4 64⟩
theorem tyOk154 : TyOk Tryz.prog 154 ty154 := ⟨by kernel_rfl, by kernel_rfl, by kernel_rfl⟩
def ty156 : TyI := ⟨1, 8, .nilFunc, .other⟩
theorem tyOk156 : TyOk Tryz.prog 156 ty156 := ⟨by kernel_rfl, by kernel_rfl, by kernel_rfl⟩
def ty157 : TyI := ⟨1, 8, .nilFunc, .other⟩
theorem tyOk157 : TyOk Tryz.prog 157 ty157 := ⟨by kernel_rfl, by kernel_rfl, by kernel_rfl⟩
def ty158 : TyI := ⟨1, 8, .nilFunc, .other⟩
theorem tyOk158 : TyOk Tryz.prog 158 ty158 := ⟨by kernel_rfl, by kernel_rfl, by kernel_rfl⟩
def ty159 : TyI := ⟨1, 8, .nilFunc, .other⟩
theorem tyOk159 : TyOk Tryz.prog 159 ty159 := ⟨by kernel_rfl, by kernel_rfl, by kernel_rfl⟩
def ty160 : TyI := ⟨1, 8, .nilFunc, .other⟩
theorem tyOk160 : TyOk Tryz.prog 160 ty160 := ⟨by kernel_rfl, by kernel_rfl, by kernel_rfl⟩
def ty161 : TyI := ⟨1, 8, .nilFunc, .other⟩
theorem tyOk161 : TyOk Tryz.prog 161 ty161 := ⟨by kernel_rfl, by kernel_rfl, by kernel_rfl⟩
def ty162 : TyI := ⟨1, 8, .nilFunc, .other⟩
theorem tyOk162 : TyOk Tryz.prog 162 ty162 := ⟨by kernel_rfl, by kernel_rfl, by kernel_rfl⟩
def ty163 : TyI := ⟨3, 24, .agg #[.nilFunc, .nilFunc, .nilFunc], .strct [(0, 1, some false), (1, 1, some false), (2, 1, some false)]⟩
theorem tyOk163 : TyOk Tryz.prog 163 ty163 := ⟨by kernel_rfl, by kernel_rfl, by kernel_rfl⟩
def ty164 : TyI := ⟨3, 24, .agg #[.nilFunc, .nilFunc, .nilFunc], .strct [(0, 1, some false), (1, 1, some false), (2, 1, some false)]⟩
theorem tyOk164 : TyOk Tryz.prog 164 ty164 := ⟨by kernel_rfl, by kernel_rfl, by kernel_rfl⟩
def ty165 : TyI := ⟨6, 48, .agg #[.nilFunc, .nilFunc, .nilFunc, .nilFunc, .nilFunc, .nilFunc], .arr 2 164 3 (some true)⟩
theorem tyOk165 : TyOk Tryz.prog 165 ty165 := ⟨by kernel_rfl, by kernel_rfl, by kernel_rfl⟩
def ty166 : TyI := ⟨1, 8, .nilFunc, .other⟩
theorem tyOk166 : TyOk Tryz.prog 166 ty166 := ⟨by kernel_rfl, by kernel_rfl, by kernel_rfl⟩
def ty167 : TyI := ⟨1, 8, .nilFunc, .other⟩
theorem tyOk167 : TyOk Tryz.prog 167 ty167 := ⟨by kernel_rfl, by kernel_rfl, by kernel_rfl⟩
def ty168 : TyI := ⟨1, 8, .nilFunc, .other⟩
theorem tyOk168 : TyOk Tryz.prog 168 ty168 := ⟨by kernel_rfl, by kernel_rfl, by kernel_rfl⟩
def ty170 : TyI := ⟨1, 8, .nilFunc, .other⟩
theorem tyOk170 : TyOk Tryz.prog 170 ty170 := ⟨by kernel_rfl, by kernel_rfl, by kernel_rfl⟩
def ty172 : TyI := ⟨1, 8, .nilFunc, .other⟩
theorem tyOk172 : TyOk Tryz.prog 172 ty172 := ⟨by kernel_rfl, by kernel_rfl, by kernel_rfl⟩
def ty173 : TyI := ⟨1, 8, .nilFunc, .other⟩
theorem tyOk173 : TyOk Tryz.prog 173 ty173 := ⟨by kernel_rfl, by kernel_rfl, by kernel_rfl⟩
def ty174 : TyI := ⟨1, 8, .nilFunc, .other⟩
theorem tyOk174 : TyOk Tryz.prog 174 ty174 := ⟨by kernel_rfl, by kernel_rfl, by kernel_rfl⟩
def ty176 : TyI := ⟨1, 8, .nilFunc, .other⟩
theorem tyOk176 : TyOk Tryz.prog 176 ty176 := ⟨by kernel_rfl, by kernel_rfl, by kernel_rfl⟩
def ty177 : TyI := ⟨1, 8, .nilFunc, .other⟩
theorem tyOk177 : TyOk Tryz.prog 177 ty177 := ⟨by kernel_rfl, by kernel_rfl, by kernel_rfl⟩
def ty178 : TyI := ⟨1, 8, .nilFunc, .other⟩
theorem tyOk178 : TyOk Tryz.prog 178 ty178 := ⟨by kernel_rfl, by kernel_rfl, by kernel_rfl⟩
def ty179 : TyI := ⟨1, 8, .nilFunc, .other⟩
theorem tyOk179 : TyOk Tryz.prog 179 ty179 := ⟨by kernel_rfl, by kernel_rfl, by kernel_rfl⟩
def ty180 : TyI := ⟨1, 8, .nilFunc, .other⟩
theorem tyOk180 : TyOk Tryz.prog 180 ty180 := ⟨by kernel_rfl, by kernel_rfl, by kernel_rfl⟩
def ty181 : TyI := ⟨1, 8, .nilFunc, .other⟩
theorem tyOk181 : TyOk Tryz.prog 181 ty181 := ⟨by kernel_rfl, by kernel_rfl, by kernel_rfl⟩
def ty182 : TyI := ⟨1, 8, .nilFunc, .other⟩
theorem tyOk182 : TyOk Tryz.prog 182 ty182 := ⟨by kernel_rfl, by kernel_rfl, by kernel_rfl⟩
def ty184 : TyI := ⟨1, 8, .nilFunc, .other⟩
theorem tyOk184 : TyOk Tryz.prog 184 ty184 := ⟨by kernel_rfl, by kernel_rfl, by kernel_rfl⟩
def ty185 : TyI := ⟨1, 8, .nilFunc, .other⟩
theorem tyOk185 : TyOk Tryz.prog 185 ty185 := ⟨by kernel_rfl, by kernel_rfl, by kernel_rfl⟩
def ty186 : TyI := ⟨1, 8, .nilFunc, .other⟩
theorem tyOk186 : TyOk Tryz.prog 186 ty186 := ⟨by kernel_rfl, by kernel_rfl, by kernel_rfl⟩
def ty187 : TyI := ⟨1, 8, .nilFunc, .other⟩
theorem tyOk187 : TyOk Tryz.prog 187 ty187 := ⟨by kernel_rfl, by kernel_rfl, by kernel_rfl⟩
def ty188 : TyI := ⟨1, 8, .nilFunc, .other⟩
theorem tyOk188 : TyOk Tryz.prog 188 ty188 := ⟨by kernel_rfl, by kernel_rfl, by kernel_rfl⟩
def ty189 : TyI := ⟨1, 8, .nilFunc, .other⟩
theorem tyOk189 : TyOk Tryz.prog 189 ty189 := ⟨by kernel_rfl, by kernel_rfl, by kernel_rfl⟩
def ty190 : TyI := ⟨1, 8, .int .u64 0, .int .u64⟩
theorem tyOk190 : TyOk Tryz.prog 190 ty190 := ⟨by kernel_rfl, by kernel_rfl, by kernel_rfl⟩
def ty191 : TyI := ⟨1, 8, .nilFunc, .other⟩
theorem tyOk191 : TyOk Tryz.prog 191 ty191 := ⟨by kernel_rfl, by kernel_rfl, by kernel_rfl⟩
def ty192 : TyI := ⟨1, 8, .nilFunc, .other⟩
theorem tyOk192 : TyOk Tryz.prog 192 ty192 := ⟨by kernel_rfl, by kernel_rfl, by kernel_rfl⟩
def ty193 : TyI := ⟨1, 8, .nilFunc, .other⟩
theorem tyOk193 : TyOk Tryz.prog 193 ty193 := ⟨by kernel_rfl, by kernel_rfl, by kernel_rfl⟩
def ty194 : TyI := ⟨1, 8, .nilFunc, .other⟩
theorem tyOk194 : TyOk Tryz.prog 194 ty194 := ⟨by kernel_rfl, by kernel_rfl, by kernel_rfl⟩
def ty195 : TyI := ⟨1, 8, .nilFunc, .other⟩
theorem tyOk195 : TyOk Tryz.prog 195 ty195 := ⟨by kernel_rfl, by kernel_rfl, by kernel_rfl⟩
def ty196 : TyI := ⟨1, 8, .nilFunc, .other⟩
theorem tyOk196 : TyOk Tryz.prog 196 ty196 := ⟨by kernel_rfl, by kernel_rfl, by kernel_rfl⟩
def ty197 : TyI := ⟨1, 8, .nilFunc, .other⟩
theorem tyOk197 : TyOk Tryz.prog 197 ty197 := ⟨by kernel_rfl, by kernel_rfl, by kernel_rfl⟩
def ty198 : TyI := ⟨4, 40, .agg #[.pointer none, .pointer none, .pointer none, .string ByteArray.empty], .strct [(0, 1, some false), (1, 1, some false), (2, 1, some false), (3, 1, some false)]⟩
theorem tyOk198 : TyOk Tryz.prog 198 ty198 := ⟨by kernel_rfl, by kernel_rfl, by kernel_rfl⟩
def ty199 : TyI := ⟨4, 40, .agg #[.pointer none, .pointer none, .pointer none, .string ByteArray.empty], .strct [(0, 1, some false), (1, 1, some false), (2, 1, some false), (3, 1, some false)]⟩
theorem tyOk199 : TyOk Tryz.prog 199 ty199 := ⟨by kernel_rfl, by kernel_rfl, by kernel_rfl⟩
def ty203 : TyI := ⟨1, 8, .nilFunc, .other⟩
theorem tyOk203 : TyOk Tryz.prog 203 ty203 := ⟨by kernel_rfl, by kernel_rfl, by kernel_rfl⟩
def ty204 : TyI := ⟨1, 1, .int .u8 0, .int .u8⟩
theorem tyOk204 : TyOk Tryz.prog 204 ty204 := ⟨by kernel_rfl, by kernel_rfl, by kernel_rfl⟩
def ty205 : TyI := ⟨1, 1, .int .u8 0, .int .u8⟩
theorem tyOk205 : TyOk Tryz.prog 205 ty205 := ⟨by kernel_rfl, by kernel_rfl, by kernel_rfl⟩
def ty206 : TyI := ⟨1, 8, .nilFunc, .other⟩
theorem tyOk206 : TyOk Tryz.prog 206 ty206 := ⟨by kernel_rfl, by kernel_rfl, by kernel_rfl⟩
def ty207 : TyI := ⟨1, 8, .pointer none, .other⟩
theorem tyOk207 : TyOk Tryz.prog 207 ty207 := ⟨by kernel_rfl, by kernel_rfl, by kernel_rfl⟩
def ty208 : TyI := ⟨1, 4, .int .i32 0, .int .i32⟩
theorem tyOk208 : TyOk Tryz.prog 208 ty208 := ⟨by kernel_rfl, by kernel_rfl, by kernel_rfl⟩
def ty209 : TyI := ⟨1, 4, .int .i32 0, .int .i32⟩
theorem tyOk209 : TyOk Tryz.prog 209 ty209 := ⟨by kernel_rfl, by kernel_rfl, by kernel_rfl⟩
def ty210 : TyI := ⟨11, 48, .agg #[.int .u64 0, .int .u64 0, .int .u32 0, .int .u8 0, .int .u8 0, .int .u8 0, .int .u8 0, .nilFunc, .pointer none, .int .i32 0, .int .i32 0], .strct [(0, 1, some false), (1, 1, some false), (2, 1, some false), (3, 1, some false), (4, 1, some false), (5, 1, some false), (6, 1, some false), (7, 1, some false), (8, 1, some false), (9, 1, some false), (10, 1, some false)]⟩
theorem tyOk210 : TyOk Tryz.prog 210 ty210 := ⟨by kernel_rfl, by kernel_rfl, by kernel_rfl⟩
def ty211 : TyI := ⟨11, 48, .agg #[.int .u64 0, .int .u64 0, .int .u32 0, .int .u8 0, .int .u8 0, .int .u8 0, .int .u8 0, .nilFunc, .pointer none, .int .i32 0, .int .i32 0], .strct [(0, 1, some false), (1, 1, some false), (2, 1, some false), (3, 1, some false), (4, 1, some false), (5, 1, some false), (6, 1, some false), (7, 1, some false), (8, 1, some false), (9, 1, some false), (10, 1, some false)]⟩
theorem tyOk211 : TyOk Tryz.prog 211 ty211 := ⟨by kernel_rfl, by kernel_rfl, by kernel_rfl⟩
def tab : List (Nat × TyI) := [(1, ty1), (2, ty2), (3, ty3), (4, ty4), (5, ty5), (6, ty6), (7, ty7), (8, ty8), (9, ty9), (10, ty10), (11, ty11), (12, ty12), (13, ty13), (14, ty14), (15, ty15), (16, ty16), (17, ty17), (18, ty18), (19, ty19), (21, ty21), (22, ty22), (23, ty23), (24, ty24), (25, ty25), (26, ty26), (27, ty27), (28, ty28), (29, ty29), (30, ty30), (31, ty31), (32, ty32), (33, ty33), (34, ty34), (36, ty36), (38, ty38), (40, ty40), (42, ty42), (43, ty43), (44, ty44), (45, ty45), (46, ty46), (47, ty47), (48, ty48), (49, ty49), (50, ty50), (51, ty51), (52, ty52), (53, ty53), (54, ty54), (56, ty56), (58, ty58), (59, ty59), (60, ty60), (62, ty62), (64, ty64), (65, ty65), (66, ty66), (67, ty67), (68, ty68), (69, ty69), (70, ty70), (71, ty71), (72, ty72), (73, ty73), (74, ty74), (75, ty75), (76, ty76), (77, ty77), (78, ty78), (79, ty79), (80, ty80), (82, ty82), (83, ty83), (84, ty84), (85, ty85), (86, ty86), (87, ty87), (88, ty88), (89, ty89), (90, ty90), (91, ty91), (92, ty92), (93, ty93), (94, ty94), (95, ty95), (96, ty96), (97, ty97), (99, ty99), (100, ty100), (101, ty101), (102, ty102), (103, ty103), (104, ty104), (105, ty105), (106, ty106), (107, ty107), (108, ty108), (109, ty109), (110, ty110), (111, ty111), (112, ty112), (113, ty113), (114, ty114), (115, ty115), (116, ty116), (117, ty117), (118, ty118), (119, ty119), (121, ty121), (122, ty122), (123, ty123), (124, ty124), (125, ty125), (126, ty126), (127, ty127), (128, ty128), (130, ty130), (131, ty131), (133, ty133), (134, ty134), (135, ty135), (136, ty136), (137, ty137), (138, ty138), (139, ty139), (141, ty141), (142, ty142), (144, ty144), (145, ty145), (146, ty146), (147, ty147), (148, ty148), (149, ty149), (150, ty150), (151, ty151), (152, ty152), (153, ty153), (154, ty154), (156, ty156), (157, ty157), (158, ty158), (159, ty159), (160, ty160), (161, ty161), (162, ty162), (163, ty163), (164, ty164), (165, ty165), (166, ty166), (167, ty167), (168, ty168), (170, ty170), (172, ty172), (173, ty173), (174, ty174), (176, ty176), (177, ty177), (178, ty178), (179, ty179), (180, ty180), (181, ty181), (182, ty182), (184, ty184), (185, ty185), (186, ty186), (187, ty187), (188, ty188), (189, ty189), (190, ty190), (191, ty191), (192, ty192), (193, ty193), (194, ty194), (195, ty195), (196, ty196), (197, ty197), (198, ty198), (199, ty199), (203, ty203), (204, ty204), (205, ty205), (206, ty206), (207, ty207), (208, ty208), (209, ty209), (210, ty210), (211, ty211)]
def AllOk (P : Program) : List (Nat × TyI) → Prop
  | [] => True
  | (t, i) :: r => TyOk P t i ∧ AllOk P r
theorem AllOk.get {P : Program} : ∀ {l : List (Nat × TyI)}, AllOk P l → ∀ T i, lkT l T = some i → TyOk P T i
  | [], _, T, i, h => by simp [lkT] at h
  | (t, j) :: r, hl, T, i, h => by
    simp only [lkT] at h
    split at h
    · rename_i hb
      have := Nat.eq_of_beq_eq_true hb
      subst this
      injection h with h
      subst h
      exact hl.1
    · exact hl.2.get T i h
theorem tabOk : AllOk Tryz.prog tab := ⟨tyOk1, ⟨tyOk2, ⟨tyOk3, ⟨tyOk4, ⟨tyOk5, ⟨tyOk6, ⟨tyOk7, ⟨tyOk8, ⟨tyOk9, ⟨tyOk10, ⟨tyOk11, ⟨tyOk12, ⟨tyOk13, ⟨tyOk14, ⟨tyOk15, ⟨tyOk16, ⟨tyOk17, ⟨tyOk18, ⟨tyOk19, ⟨tyOk21, ⟨tyOk22, ⟨tyOk23, ⟨tyOk24, ⟨tyOk25, ⟨tyOk26, ⟨tyOk27, ⟨tyOk28, ⟨tyOk29, ⟨tyOk30, ⟨tyOk31, ⟨tyOk32, ⟨tyOk33, ⟨tyOk34, ⟨tyOk36, ⟨tyOk38, ⟨tyOk40, ⟨tyOk42, ⟨tyOk43, ⟨tyOk44, ⟨tyOk45, ⟨tyOk46, ⟨tyOk47, ⟨tyOk48, ⟨tyOk49, ⟨tyOk50, ⟨tyOk51, ⟨tyOk52, ⟨tyOk53, ⟨tyOk54, ⟨tyOk56, ⟨tyOk58, ⟨tyOk59, ⟨tyOk60, ⟨tyOk62, ⟨tyOk64, ⟨tyOk65, ⟨tyOk66, ⟨tyOk67, ⟨tyOk68, ⟨tyOk69, ⟨tyOk70, ⟨tyOk71, ⟨tyOk72, ⟨tyOk73, ⟨tyOk74, ⟨tyOk75, ⟨tyOk76, ⟨tyOk77, ⟨tyOk78, ⟨tyOk79, ⟨tyOk80, ⟨tyOk82, ⟨tyOk83, ⟨tyOk84, ⟨tyOk85, ⟨tyOk86, ⟨tyOk87, ⟨tyOk88, ⟨tyOk89, ⟨tyOk90, ⟨tyOk91, ⟨tyOk92, ⟨tyOk93, ⟨tyOk94, ⟨tyOk95, ⟨tyOk96, ⟨tyOk97, ⟨tyOk99, ⟨tyOk100, ⟨tyOk101, ⟨tyOk102, ⟨tyOk103, ⟨tyOk104, ⟨tyOk105, ⟨tyOk106, ⟨tyOk107, ⟨tyOk108, ⟨tyOk109, ⟨tyOk110, ⟨tyOk111, ⟨tyOk112, ⟨tyOk113, ⟨tyOk114, ⟨tyOk115, ⟨tyOk116, ⟨tyOk117, ⟨tyOk118, ⟨tyOk119, ⟨tyOk121, ⟨tyOk122, ⟨tyOk123, ⟨tyOk124, ⟨tyOk125, ⟨tyOk126, ⟨tyOk127, ⟨tyOk128, ⟨tyOk130, ⟨tyOk131, ⟨tyOk133, ⟨tyOk134, ⟨tyOk135, ⟨tyOk136, ⟨tyOk137, ⟨tyOk138, ⟨tyOk139, ⟨tyOk141, ⟨tyOk142, ⟨tyOk144, ⟨tyOk145, ⟨tyOk146, ⟨tyOk147, ⟨tyOk148, ⟨tyOk149, ⟨tyOk150, ⟨tyOk151, ⟨tyOk152, ⟨tyOk153, ⟨tyOk154, ⟨tyOk156, ⟨tyOk157, ⟨tyOk158, ⟨tyOk159, ⟨tyOk160, ⟨tyOk161, ⟨tyOk162, ⟨tyOk163, ⟨tyOk164, ⟨tyOk165, ⟨tyOk166, ⟨tyOk167, ⟨tyOk168, ⟨tyOk170, ⟨tyOk172, ⟨tyOk173, ⟨tyOk174, ⟨tyOk176, ⟨tyOk177, ⟨tyOk178, ⟨tyOk179, ⟨tyOk180, ⟨tyOk181, ⟨tyOk182, ⟨tyOk184, ⟨tyOk185, ⟨tyOk186, ⟨tyOk187, ⟨tyOk188, ⟨tyOk189, ⟨tyOk190, ⟨tyOk191, ⟨tyOk192, ⟨tyOk193, ⟨tyOk194, ⟨tyOk195, ⟨tyOk196, ⟨tyOk197, ⟨tyOk198, ⟨tyOk199, ⟨tyOk203, ⟨tyOk204, ⟨tyOk205, ⟨tyOk206, ⟨tyOk207, ⟨tyOk208, ⟨tyOk209, ⟨tyOk210, ⟨tyOk211, trivial⟩⟩⟩⟩⟩⟩⟩⟩⟩⟩⟩⟩⟩⟩⟩⟩⟩⟩⟩⟩⟩⟩⟩⟩⟩⟩⟩⟩⟩⟩⟩⟩⟩⟩⟩⟩⟩⟩⟩⟩⟩⟩⟩⟩⟩⟩⟩⟩⟩⟩⟩⟩⟩⟩⟩⟩⟩⟩⟩⟩⟩⟩⟩⟩⟩⟩⟩⟩⟩⟩⟩⟩⟩⟩⟩⟩⟩⟩⟩⟩⟩⟩⟩⟩⟩⟩⟩⟩⟩⟩⟩⟩⟩⟩⟩⟩⟩⟩⟩⟩⟩⟩⟩⟩⟩⟩⟩⟩⟩⟩⟩⟩⟩⟩⟩⟩⟩⟩⟩⟩⟩⟩⟩⟩⟩⟩⟩⟩⟩⟩⟩⟩⟩⟩⟩⟩⟩⟩⟩⟩⟩⟩⟩⟩⟩⟩⟩⟩⟩⟩⟩⟩⟩⟩⟩⟩⟩⟩⟩⟩⟩⟩⟩⟩⟩⟩⟩⟩⟩⟩⟩⟩⟩⟩⟩⟩⟩⟩⟩⟩⟩⟩⟩⟩⟩⟩⟩
noncomputable def E0 : Env := ⟨Tryz.prog, tab, fun T i h => tabOk.get T i h, by kernel_rfl, false, false, none, 0⟩
theorem enters_of {f : FuncId} {fn : Func} (hf : E0.P.funcs[f]? = some fn) (hn : (fn.name == "runtime.NumGoroutine") = false) (hb : fn.body.isNone = false) : Enters E0 f := fun args w => by
  unfold callFunc
  simp only [Sem.run_bind, run_program, Result.andThen_ok, hf, hn, hb, Bool.false_eq_true, if_false, Sem.run_pure]
end Go.Proofs.YtcbdhigllelmcaaGreat
namespace Go.Proofs.YtcbdhigllelmcaaGreat
open Go.RowKit

def aI (n : Int) : AV := .int .i64 n

theorem wrap_in (n : Int) (h : -9223372036854775808 ≤ n ∧ n ≤ 9223372036854775807) : IntKind.i64.wrap n = n := IntWalk.i64_in _ h
theorem rep_sl_of {α : Type} {w : World} {S : Nat → Prop} {sz : Nat} {enc : α → List Value} {a : α → AV} {v : Value} {l : List α} (h : Sl w S sz enc v l) (hlen : ∀ x ∈ l, (a x).cells.length = sz) (hlen2 : ∀ x ∈ l, (enc x).length = sz) (h1 : ∀ x ∈ l, ∀ u ∈ enc x, u.oneCell' = true)
    (hr : ∀ x ∈ l, ∀ j (hj : j < (a x).cells.length), Rep w S G0 ((a x).cells[j]) ((enc x).getD j undef)) : Rep w S G0 (.sl sz (l.map a)) v := by
  obtain ⟨A, c, rfl, hc, hx⟩ := h
  have e : l.length = (l.map a).length := by simp
  rw [e]
  refine .sl A c (fun k j => if h : k < l.length ∧ j < sz then (enc l[k]).getD j undef else .bool true) (by simpa using hc) (fun k hk => ?_) (fun h0 => ?_) (fun k hk j hj => ?_) (fun k j => ?_)
  · simp only [List.getElem_map]; exact hlen _ (List.getElem_mem _)
  · obtain ⟨b, off, hA, hS, hb, hcell⟩ := hx (by simpa using h0)
    refine ⟨b, off, hA, hS, hb, fun k j hk hj => ?_⟩
    have hk' : k < l.length := by simpa using hk
    rw [dif_pos ⟨hk', hj⟩]
    refine hcell k hk' j _ ?_
    have hl := hlen2 _ (List.getElem_mem hk')
    rw [List.getD_eq_getElem?_getD, List.getElem?_eq_getElem (by omega)]
    rfl
  · have hk' : k < l.length := by simpa using hk
    simp only [List.getElem_map] at hj ⊢
    have hl := hlen _ (List.getElem_mem hk')
    rw [dif_pos ⟨hk', by omega⟩]
    exact hr _ (List.getElem_mem hk') j hj
  · by_cases h : k < l.length ∧ j < sz
    · rw [dif_pos h]
      have hl := hlen2 _ (List.getElem_mem h.1)
      rw [List.getD_eq_getElem?_getD, List.getElem?_eq_getElem (by omega)]
      exact h1 _ (List.getElem_mem h.1) _ (List.getElem_mem _)
    · rw [dif_neg h]; rfl
theorem sl_of_rep {α : Type} {w : World} {S : Nat → Prop} {γ : Gam} {sz : Nat} {enc : α → List Value} {a : α → AV} {v : Value} {l : List α} (h : Rep w S γ (.sl sz (l.map a)) v) (hl : ∀ x ∈ l, (enc x).length = (a x).cells.length)
    (hr : ∀ x ∈ l, ∀ j (hj : j < (a x).cells.length) u, Rep w S G0 ((a x).cells[j]) u → (enc x)[j]? = some u) : Sl w S sz enc v l := by
  obtain ⟨A, c, rfl, hc, hlen, cell, hb, hrr, _⟩ := h.sl_inv
  refine ⟨A, c, by simp, by simpa using hc, fun h0 => ?_⟩
  obtain ⟨b, off, hA, hS, hb', hcell⟩ := hb (by simpa using h0)
  refine ⟨b, off, hA, hS, hb', fun k hk j u hu => ?_⟩
  have hk' : k < (l.map a).length := by simpa using hk
  have hj0 := (List.getElem?_eq_some_iff.1 hu).1
  have hll := hl _ (List.getElem_mem hk)
  have hlk := hlen k hk'
  simp only [List.getElem_map] at hlk
  have hj : j < (a l[k]).cells.length := by omega
  rw [hcell k j hk' (by omega)]
  have h2 := hrr k hk' j (by simpa using hj)
  simp only [List.getElem_map] at h2
  have h3 := hr _ (List.getElem_mem hk) j hj _ h2
  rw [hu] at h3
  exact h3.symm

theorem getD4 {vs : Array Value} (h : vs.size = 4) : vs = #[vs.getD 0 undef, vs.getD 1 undef, vs.getD 2 undef, vs.getD 3 undef] := by
  obtain ⟨l⟩ := vs
  match l, h with
  | [a, b, c, d], _ => rfl
theorem getD2 {vs : Array Value} (h : vs.size = 2) : vs = #[vs.getD 0 undef, vs.getD 1 undef] := by
  obtain ⟨l⟩ := vs
  match l, h with
  | [a, b], _ => rfl
theorem getD1 {vs : Array Value} (h : vs.size = 1) : vs = #[vs.getD 0 undef] := by
  obtain ⟨l⟩ := vs
  match l, h with
  | [a], _ => rfl
theorem getD3 {vs : Array Value} (h : vs.size = 3) : vs = #[vs.getD 0 undef, vs.getD 1 undef, vs.getD 2 undef] := by
  obtain ⟨l⟩ := vs
  match l, h with
  | [a, b, c], _ => rfl

section
variable {fr : Bool} {f : FuncId} {a b c res : AV}
theorem belE0 {w w' : World} (h : Below w.heap.size w w') : BelE E0 w w' := ⟨h, fun h => Bool.noConfusion (show false = true from h)⟩
theorem Con.of1 (he : Enters E0 f) (h : ∀ S w x, Rep w S G0 a x → Calls E0.P f #[x] w fun e w' => ∃ v, e = .returned v ∧ Below w.heap.size w w' ∧ Rep w' (fun b => (fr = false ∧ S b) ∨ w.heap.size ≤ b) G0 res v) : Con E0 fr f [a] res :=
  ⟨he, fun S w vs ⟨hl, hr⟩ => by
    have e := getD1 hl
    have h0 := hr 0 (by simp)
    rw [e]
    exact (h S w _ h0).mono (fun e w' ⟨v, h1, h2, h3⟩ => ⟨v, h1, belE0 h2, h3⟩)⟩
theorem Con.of2 (he : Enters E0 f) (h : ∀ S w x y, Rep w S G0 a x → Rep w S G0 b y → Calls E0.P f #[x, y] w fun e w' => ∃ v, e = .returned v ∧ Below w.heap.size w w' ∧ Rep w' (fun b => (fr = false ∧ S b) ∨ w.heap.size ≤ b) G0 res v) : Con E0 fr f [a, b] res :=
  ⟨he, fun S w vs ⟨hl, hr⟩ => by
    have e := getD2 hl
    have h0 := hr 0 (by simp)
    have h1 := hr 1 (by simp)
    rw [e]
    exact (h S w _ _ h0 h1).mono (fun e w' ⟨v, h1, h2, h3⟩ => ⟨v, h1, belE0 h2, h3⟩)⟩
theorem Con.of3 (he : Enters E0 f) (h : ∀ S w x y z, Rep w S G0 a x → Rep w S G0 b y → Rep w S G0 c z → Calls E0.P f #[x, y, z] w fun e w' => ∃ v, e = .returned v ∧ Below w.heap.size w w' ∧ Rep w' (fun b => (fr = false ∧ S b) ∨ w.heap.size ≤ b) G0 res v) : Con E0 fr f [a, b, c] res :=
  ⟨he, fun S w vs ⟨hl, hr⟩ => by
    have e := getD3 hl
    have h0 := hr 0 (by simp)
    have h1 := hr 1 (by simp)
    have h2 := hr 2 (by simp)
    rw [e]
    exact (h S w _ _ _ h0 h1 h2).mono (fun e w' ⟨v, h1, h2, h3⟩ => ⟨v, h1, belE0 h2, h3⟩)⟩
end
end Go.Proofs.YtcbdhigllelmcaaGreat
namespace Go.Proofs.YtcbdhigllelmcaaGreat
open Go.ChangeShapes Go.WideShapes Go.ChangeAt Go.RowKit

theorem args_three {w : World} {S : Nat → Prop} {a b c : AV} {x y z : Value} (ha : Rep w S G0 a x) (hb : Rep w S G0 b y) (hc : Rep w S G0 c z) : Args w S [a, b, c] #[x, y, z] :=
  ⟨rfl, fun i hi => by
    have hi' : i < 3 := hi
    rcases i with _ | _ | _ | i
    · exact ha
    · exact hb
    · exact hc
    · omega⟩
theorem own_knob : ownKnob Tryz.prog.godebug = none := by kernel_rfl
theorem laid_out : laidOutB Tryz.prog = true := by kernel_rfl

section
variable {H : Type} {enc : TypeId × Value → H}
theorem trodAll_stays {W W' : World} {sp' : Nat → Bool} (hb : Below W.heap.size W W') (ts : List TypeId) : ∀ (vs : List Value) (ds : List (DataW H)) (p : List MemPlace), ts.all (fun t => Tryz.prog.readableRec t && decide (t < Tryz.prog.types.size)) = true →
    DataW.TrodAll enc Tryz.prog W 0 (fun _ => true) true ts vs ds p → (∀ x ∈ p, x.block < W.heap.size) → (∀ x ∈ p, sp' x.block = true) → DataW.TrodAll enc Tryz.prog W' 0 sp' true ts vs ds p := by
  induction ts with
  | nil =>
    intro vs ds p _ h _ _
    match vs, ds, h with
    | [], [], h => exact h
    | _ :: _, _, h => exact h.elim
    | [], _ :: _, h => exact h.elim
  | cons t ts ih =>
    intro vs ds p hr h hlt hs
    match vs, ds, h with
    | v :: vs, d :: ds, h =>
      obtain ⟨q, r, h1, h2, rfl⟩ := h
      have hr1 : Tryz.prog.readableRec t = true ∧ t < Tryz.prog.types.size := by
        have := List.all_eq_true.mp hr t (List.mem_cons_self ..)
        rw [Bool.and_eq_true, decide_eq_true_eq] at this; exact this
      have hr2 : ts.all (fun t => Tryz.prog.readableRec t && decide (t < Tryz.prog.types.size)) = true :=
        List.all_eq_true.mpr fun x hx => List.all_eq_true.mp hr x (List.mem_cons_of_mem _ hx)
      exact ⟨q, r, WideElems.Trod_stays laid_out hr1.1 hr1.2 h1 (fun x hx => hb.same (hlt x (List.mem_append_left _ hx))) (fun x hx => hs x (List.mem_append_left _ hx)),
        ih vs ds r hr2 h2 (fun x hx => hlt x (List.mem_append_right _ hx)) (fun x hx => hs x (List.mem_append_right _ hx)), rfl⟩
    | [], _, h => exact h.elim
    | _ :: _, [], h => exact h.elim

theorem trodAll_len {W : World} {b : Nat} {sp : Nat → Bool} (ts : List TypeId) : ∀ (vs : List Value) (ds : List (DataW H)) (p : List MemPlace), DataW.TrodAll enc Tryz.prog W b sp true ts vs ds p → ds.length = ts.length := by
  induction ts with
  | nil =>
    intro vs ds p h
    match vs, ds, h with
    | [], [], h => rfl
    | _ :: _, _, h => exact h.elim
    | [], _ :: _, h => exact h.elim
  | cons t ts ih =>
    intro vs ds p h
    match vs, ds, h with
    | v :: vs, d :: ds, h =>
      obtain ⟨q, r, h1, h2, rfl⟩ := h
      simp only [List.length_cons]
      rw [ih vs ds r h2]
    | [], _, h => exact h.elim
    | _ :: _, [], h => exact h.elim

set_option maxRecDepth 100000 in
theorem law_lifted (os : Os) (started : os.Started) {f : FuncId} {fn : Func} {s : ChangeSpec} {fr : Bool} (hf : Tryz.prog.funcs[f]? = some fn) (hni : Tryz.prog.inits.idxOf? f = none)
    (hw : ∃ (w : World) (tape : Tape) (i : Input), w.os = os ∧ (w.forCall tape i).Shaped Tryz.checked.prog ∧ i.vars = [] ∧ Input.okWide Tryz.checked.prog (w.forCall tape i) .any w.heap.size f i ∧
      s.pre6 enc Tryz.checked.prog fn [] false (w.forCall tape i).memory i.args ∧ Assume.holds {} Tryz.checked.prog (lone (Frame.enter Tryz.checked.prog f i.args .normal) [] (w.forCall tape i)))
    (hvars : s.vars = []) (hres : fn.resultTypes = #[4]) (hread : fn.params.toList.all (fun t => Tryz.prog.readableRec t && decide (t < Tryz.prog.types.size)) = true)
    (hspec : ∀ ds : List (DataW H), ds.length = fn.params.size → s.fn H ds = { results := [.lit (.bool true)], args := ds })
    (hopen : ∀ (W : World) (base : Nat) (args : Array Value) (ds : List (DataW H)) (p : List MemPlace), (∀ (j : Nat) t v, fn.params[j]? = some t → args[j]? = some v → Value.okWide Tryz.prog W .any base t v) →
      DataW.TrodAll enc Tryz.prog W 0 (fun _ => true) true fn.params.toList args.toList ds p → ∃ avs, Args W (fun _ => True) avs args ∧ Con E0 fr f avs (.bool true)) :
    ReturnsInHanded {} Tryz.checked os f .any (s.pre6 enc Tryz.prog fn [] false) (s.post enc Tryz.prog fn false true false false) := by
  refine returnsInHanded_of_change (C := Tryz.checked) own_knob started hni hf hw ?_
  intro W base args ds gs before hval hW hcnd _
  have hW' := hW
  obtain ⟨p, q, hA, hV, rfl, hfz, hnd⟩ := hW
  have hlt : ∀ x ∈ p ++ q, x.block < W.heap.size := fun x hx => DataW.Whole.lt hW' x hx
  rw [hvars] at hV
  obtain ⟨rfl, rfl⟩ := trodVars_none hV
  obtain ⟨avs, hargs, hcon⟩ := hopen W base args ds p hval hA
  refine (hcon.2 (fun _ => True) W args hargs).mono fun e W' ⟨v, he, ⟨hb, _⟩, hv⟩ => ?_
  have hv := hv.bool_inv
  subst hv
  subst he
  have hdl : ds.length = fn.params.size := (trodAll_len _ _ _ _ hA).trans (by simp)
  have hsp : s.fn H (ds ++ []) = { results := [.lit (.bool true)], args := ds } := by rw [List.append_nil]; exact hspec ds hdl
  have hltp : ∀ x ∈ p, x.block < W.heap.size := fun x hx => hlt x (by simp [hx])
  have k0 := trodAll_stays (sp' := fun b => decide (b < W.heap.size)) hb _ _ _ _ hread hA hltp (fun x hx => by simpa using hltp x hx)
  have k1 := trodAll_stays (sp' := fun _ => true) hb _ _ _ _ hread hA hltp (fun x hx => rfl)
  have hrl : (Value.bool true).resultList fn.resultTypes.size = [.bool true] := by rw [hres]; rfl
  have hrt : fn.resultTypes.toList = [4] := by rw [hres]
  refine ⟨_, rfl, ds, [], _, [], p, [], hW', ?_, ?_, ?_, World.keptBut_mono (fun x hx => ⟨hx, ?_⟩) (hb.frame (· ∈ p ++ [])), fun h => ?_⟩
  · rw [hsp, hrt, hrl]; exact trodAll_mk1 (shut_bool Tryz.underlying4 true)
  · rw [hsp]; exact k0
  · rw [hsp, hvars]; exact rfl
  · exact Or.inr (Or.inl (by simpa using hx))
  · rw [hrt, hrl, hvars]
    refine ⟨?_, [.lit (.bool true)] ++ ds, [], p, ⟨p, [], ?_, rfl, by simp, ?_, fun h => by simp at h⟩, ?_⟩
    · rw [hres]; intro j t r ht hr
      match j with
      | 0 =>
        obtain rfl : 4 = t := Option.some.inj ht
        obtain rfl : Value.bool true = r := Option.some.inj hr
        exact okWide_bool_mk Tryz.underlying4 true
      | j + 1 => exact absurd hr (by simp)
    · exact trodAll_append k1 (trodAll_mk1 (shut_bool Tryz.underlying4 true))
    · intro b off hp
      have hin : MemPlace.cell b off ∈ p ++ [] := by simpa using hp
      rw [hb.frozen (hlt _ hin)]
      exact hfz b off hin
    · intro x hx _
      simpa using hx
end
end Go.Proofs.YtcbdhigllelmcaaGreat
namespace Go.Proofs.YtcbdhigllelmcaaGreat
open Go.ChangeShapes Go.WideShapes Go.ChangeAt Go.RowKit Go.Joins Go.Deep

section
variable {H : Type} {enc : TypeId × Value → H} {W : World} {base : Nat} {v : Value} {d : DataW H} {p : List MemPlace}
theorem spot_none {a : Addr} {u : Value} (h : W.cell? a = some u) : a.spot = none ∧ a.block < W.heap.size := by
  unfold World.cell? at h
  split at h
  · rename_i c _ _ hg
    split at h
    · cases h
    · rename_i hs
      refine ⟨by cases hh : a.spot with | none => rfl | some _ => simp [hh] at hs, ?_⟩
      rcases Nat.lt_or_ge a.block W.heap.size with hlt | hge
      · exact hlt
      · rw [Array.getElem?_eq_none hge] at hg; cases hg
  · cases h
theorem add_eq (b off k : Nat) : (⟨b, off, none⟩ : Addr).add k = ⟨b, off + k, none⟩ := by
  by_cases h : k = 0 <;> simp [Addr.add, h]
theorem mapM_some {α β : Type} {f : α → Option β} : ∀ {l : List α} {r : List β}, l.mapM f = some r → r.length = l.length ∧ ∀ k (hk : k < l.length) (hr : k < r.length), f l[k] = some r[k]
  | [], r, h => by simp at h; subst h; exact ⟨rfl, fun k hk => absurd hk (by simp)⟩
  | a :: l, r, h => by
    simp only [List.mapM_cons] at h
    cases ha : f a with
    | none => rw [ha] at h; simp at h
    | some b =>
      rw [ha] at h
      cases hl : l.mapM f with
      | none => rw [hl] at h; simp at h
      | some s =>
        rw [hl] at h
        simp at h
        subst h
        obtain ⟨i1, i2⟩ := mapM_some hl
        refine ⟨by simp [i1], fun k hk hr => ?_⟩
        cases k with
        | zero => exact ha
        | succ k => exact i2 k (by simpa using hk) (by simpa using hr)
theorem cells_each {a : Addr} {n : Nat} {cs : List Value} (h : W.cells? 0 a n = some cs) : cs.length = n ∧ ∀ j, j < n → W.cell? (a.add j) = some (cs.getD j undef) := by
  unfold World.cells? at h
  rw [if_pos (Nat.zero_le _)] at h
  obtain ⟨i1, i2⟩ := mapM_some h
  have hl : cs.length = n := by simpa using i1
  refine ⟨hl, fun j hj => ?_⟩
  have := i2 j (by simpa using hj) (by omega)
  rw [List.getElem_range] at this
  rw [this]
  simp [List.getElem?_eq_getElem (show j < cs.length by omega)]
set_option maxRecDepth 100000
def CellsOf {α : Type} (W : World) (a : α → AV) (m : α) (cs : List Value) : Prop :=
  cs.length = (a m).cells.length ∧ ∀ j (hj : j < (a m).cells.length), Rep W (fun _ => True) G0 ((a m).cells[j]) (cs.getD j undef) ∧ (cs.getD j undef).oneCell' = true
theorem sl_open {α : Type} {a : α → AV} {t e : TypeId} {sz : Nat} (ht : Tryz.prog.underlying t = some (.slice e)) (hsz : Tryz.prog.cellsOf e = sz) (h0 : 0 < sz) (i0 : Inhabited α) (hlen : ∀ m, (a m).cells.length = sz)
    (each : ∀ (n : Nat) (cs : List Value) (x : DataW H × List MemPlace), cs.length = sz → DataW.trod enc Tryz.prog W 0 (fun _ => true) true n e cs = some x → ∃ m : α, CellsOf W a m cs)
    {n : Nat} {u : Value} {x : DataW H × List MemPlace} (h : DataW.trod enc Tryz.prog W 0 (fun _ => true) true n t [u] = some x) : ∃ l : List α, Rep W (fun _ => True) G0 (.sl sz (l.map a)) u := by
  rcases open_slice ht h with ⟨h1, _⟩ | ⟨A, len, cap, m, n', D, Pl, h1, _, hlc, hm, hmm, _, hc⟩
  · simp only [List.cons.injEq, and_true] at h1
    subst h1
    exact ⟨[], .sl none 0 (fun _ _ => .bool true) (by simp) (fun k hk => absurd hk (by simp)) (fun h => absurd h (by simp)) (fun k hk => absurd hk (by simp)) (fun _ _ => rfl)⟩
  · simp only [List.cons.injEq, and_true] at h1
    subst h1
    simp only [if_true] at hmm
    subst hmm
    rw [hsz] at hc
    have every : ∀ i, ∃ q : α × List Value, i < len → W.cells? 0 (A.add (i * sz)) sz = some q.2 ∧ CellsOf W a q.1 q.2 := fun i => by
      by_cases hi : i < len
      · obtain ⟨cs, c1, c2⟩ := hc i (by omega)
        obtain ⟨k, hk⟩ := each n' cs _ (cells_each c1).1 c2
        exact ⟨(k, cs), fun _ => ⟨c1, hk⟩⟩
      · exact ⟨(i0.default, []), fun h => absurd h hi⟩
    obtain ⟨f, hf⟩ := Classical.axiomOfChoice every
    have hl : ((List.range len).map fun i => (f i).1).length = len := by simp
    refine ⟨(List.range len).map fun i => (f i).1, ?_⟩
    have e : len = (((List.range len).map fun i => (f i).1).map a).length := by simp
    have hcell : ∀ k j, k < len → j < sz → W.cell? ((A.add (k * sz)).add j) = some ((f k).2.getD j undef) := fun k j hk hj => (cells_each (hf k hk).1).2 j hj
    have : Rep W (fun _ => True) G0 (.sl sz (((List.range len).map fun i => (f i).1).map a)) (.slice (some A) (((List.range len).map fun i => (f i).1).map a).length m) := by
      refine .sl (some A) m (fun k j => if k < len ∧ j < sz then (f k).2.getD j undef else .bool true) (by simpa using hlc) (fun k hk => ?_) (fun h0' => ?_) (fun k hk j hj => ?_) (fun k j => ?_)
      · simp only [List.getElem_map]; exact hlen _
      · have hlp : 0 < len := by simpa using h0'
        have c0 := spot_none (hcell 0 0 hlp h0)
        obtain ⟨b, off, sp⟩ := A
        have e1 : sp = none := by simpa [Addr.add] using c0.1
        subst e1
        rw [add_eq, add_eq] at c0
        refine ⟨b, off, rfl, trivial, c0.2, fun k j hk hj => ?_⟩
        have hk' : k < len := by simpa using hk
        have := hcell k j hk' hj
        rw [add_eq, add_eq] at this
        rw [if_pos ⟨hk', hj⟩, ← this]
        congr 2
        omega
      · have hk' : k < len := by simpa using hk
        simp only [List.getElem_map, List.getElem_range] at hj ⊢
        have hj' : j < sz := by rw [hlen] at hj; exact hj
        rw [if_pos ⟨hk', hj'⟩]
        exact ((hf k hk').2.2 j hj).1
      · by_cases hkj : k < len ∧ j < sz
        · rw [if_pos hkj]
          exact ((hf k hkj.1).2.2 j (by rw [hlen]; exact hkj.2)).2
        · rw [if_neg hkj]; rfl
    rw [← e] at this
    exact this
theorem Rep.one_sl {sz : Nat} {xs : List AV} {u : Value} (h : Rep W (fun _ => True) G0 (.sl sz xs) u) : u.oneCell' = true := by
  cases h; rfl
theorem slArg_open {α : Type} {a : α → AV} {t e : TypeId} {sz : Nat} (ht : Tryz.prog.underlying t = some (.slice e)) (hsz : Tryz.prog.cellsOf e = sz) (h0 : 0 < sz) (i0 : Inhabited α) (hlen : ∀ m, (a m).cells.length = sz)
    (each : ∀ (n : Nat) (cs : List Value) (x : DataW H × List MemPlace), cs.length = sz → DataW.trod enc Tryz.prog W 0 (fun _ => true) true n e cs = some x → ∃ m : α, CellsOf W a m cs)
    (hv : Value.okWide Tryz.prog W .any base t v) (h : DataW.Trod enc Tryz.prog W 0 (fun _ => true) true t v d p) : ∃ l : List α, Rep W (fun _ => True) G0 (.sl sz (l.map a)) v := by
  obtain ⟨A, len, cap, rfl⟩ := okWide_slice ht hv
  obtain ⟨fuel, hf⟩ := h
  exact sl_open ht hsz h0 i0 hlen each hf
theorem agg_of {α : Type} {a : α → AV} {m : α} {cs : Array Value} {xs : List AV} (hm : a m = .agg xs) (h : CellsOf W a m cs.toList) : Rep W (fun _ => True) G0 (a m) (.agg cs) := by
  obtain ⟨h1, h2⟩ := h
  rw [hm] at h1 h2 ⊢
  have hl : cs.size = xs.length := by simpa [AV.cells] using h1
  have g : ∀ i, cs.toList.getD i undef = cs.getD i undef := fun i => by
    by_cases hi : i < cs.size
    · simp [Array.getD, hi]
    · simp [Array.getD, hi]
  refine .agg _ hl (fun i hi => ?_) (fun i hi => ?_)
  · have := (h2 i hi).1
    rw [g] at this
    exact this
  · have := (h2 i (show i < xs.length by rw [← hl]; exact hi)).2
    rw [g] at this
    exact this
end
end Go.Proofs.YtcbdhigllelmcaaGreat
namespace Go.Proofs.YtcbdhigllelmcaaGreat
open Go.ChangeShapes Go.WideShapes Go.ChangeAt Go.RowKit Go.Joins Go.Deep

section
variable {H : Type} {enc : TypeId × Value → H} {W : World} {base : Nat} {v : Value} {d : DataW H} {p : List MemPlace}
set_option maxRecDepth 100000
def CellsL (W : World) (xs : List AV) (cs : List Value) : Prop :=
  cs.length = xs.length ∧ ∀ j (hj : j < xs.length), Rep W (fun _ => True) G0 (xs[j]) (cs.getD j undef) ∧ (cs.getD j undef).oneCell' = true
theorem CellsL.one {a : AV} {c : Value} (h : Rep W (fun _ => True) G0 a c) (h1 : c.oneCell' = true) : CellsL W [a] [c] := by
  refine ⟨rfl, fun j hj => ?_⟩
  have hj' : j < 1 := hj
  rcases j with _ | j
  · exact ⟨h, h1⟩
  · omega
theorem CellsL.append {xs ys : List AV} {cs ds : List Value} (h1 : CellsL W xs cs) (h2 : CellsL W ys ds) : CellsL W (xs ++ ys) (cs ++ ds) := by
  refine ⟨by rw [List.length_append, List.length_append, h1.1, h2.1], fun j hj => ?_⟩
  by_cases h : j < xs.length
  · have := h1.2 j h
    rw [List.getElem_append_left h]
    have e : (cs ++ ds).getD j undef = cs.getD j undef := by
      simp only [List.getD_eq_getElem?_getD]
      rw [List.getElem?_append_left (by rw [h1.1]; exact h)]
    rw [e]; exact this
  · have hj' : j - xs.length < ys.length := by rw [List.length_append] at hj; omega
    have := h2.2 (j - xs.length) hj'
    rw [List.getElem_append_right (by omega)]
    have e : (cs ++ ds).getD j undef = ds.getD (j - xs.length) undef := by
      simp only [List.getD_eq_getElem?_getD]
      rw [List.getElem?_append_right (by rw [h1.1]; omega), h1.1]
    rw [e]; exact this
theorem CellsL.cut {cs : List Value} {o s : Nat} {xs ys : List AV} (h1 : CellsL W xs ((cs.drop o).take s)) (h2 : CellsL W ys (cs.drop (o + s))) : CellsL W (xs ++ ys) (cs.drop o) := by
  have : cs.drop o = (cs.drop o).take s ++ cs.drop (o + s) := by rw [← List.drop_drop, List.take_append_drop]
  rw [this]
  exact h1.append h2
theorem CellsL.done {cs : List Value} {o : Nat} (h : cs.length ≤ o) : CellsL W [] (cs.drop o) := by
  rw [List.drop_eq_nil_of_le h]
  exact ⟨rfl, fun j hj => absurd hj (by simp)⟩
theorem cut_len {cs : List Value} {o s : Nat} (h : o + s ≤ cs.length) : ((cs.drop o).take s).length = s := by rw [List.length_take, List.length_drop]; omega
abbrev FO (enc : TypeId × Value → H) (W : World) (t : TypeId) (sz : Nat) {α : Type} (e : α → List AV) : Prop :=
  ∀ (n : Nat) (cs : List Value) (x : DataW H × List MemPlace), cs.length = sz → DataW.trod enc Tryz.prog W 0 (fun _ => true) true n t cs = some x → ∃ m : α, CellsL W (e m) cs
theorem fo_int {t : TypeId} (ht : Tryz.prog.underlying t = some (.int .i64)) : FO enc W t 1 (fun z : Int => [aI z]) := fun n cs x hl h => by
  obtain ⟨z, rfl, _⟩ := DataW.trod_int (k := .i64) ht h
  exact ⟨z, .one (.int _ _) rfl⟩
theorem fo_str {t : TypeId} (ht : Tryz.prog.underlying t = some .string) : FO enc W t 1 (fun z : ByteArray => [AV.str z]) := fun n cs x hl h => by
  obtain ⟨z, rfl, _⟩ := DataW.trod_string ht h
  exact ⟨z, .one (.str _) rfl⟩
theorem fo_sl {t e : TypeId} {sz : Nat} {α : Type} {a : α → AV} (ht : Tryz.prog.underlying t = some (.slice e)) (hsz : Tryz.prog.cellsOf e = sz) (h0 : 0 < sz) (i0 : Inhabited α) (hlen : ∀ m, (a m).cells.length = sz)
    (each : FO enc W e sz (fun m : α => (a m).cells)) : FO enc W t 1 (fun l : List α => [AV.sl sz (l.map a)]) := fun n cs x hl h => by
  match cs, hl with
  | [c], _ =>
    obtain ⟨l, hl⟩ := sl_open (a := a) ht hsz h0 i0 hlen each h
    exact ⟨l, .one hl hl.one_sl⟩
theorem arg_struct {t : TypeId} {fs : Array Field} {sz : Nat} {α : Type} {a : α → AV} (ht : Tryz.prog.underlying t = some (.struct fs)) (hsz : Tryz.prog.cellsOf t = sz) (ha : ∀ m, ∃ xs, a m = .agg xs) (each : FO enc W t sz (fun m : α => (a m).cells))
    (hv : Value.okWide Tryz.prog W .any base t v) (h : DataW.Trod enc Tryz.prog W 0 (fun _ => true) true t v d p) : ∃ m : α, Rep W (fun _ => True) G0 (a m) v := by
  obtain ⟨cs, rfl, hz⟩ := okWide_struct ht hv
  obtain ⟨fuel, hf⟩ := h
  obtain ⟨m, hm⟩ := each fuel cs.toList _ (by simpa using hz.trans hsz) hf
  obtain ⟨xs, hx⟩ := ha m
  exact ⟨m, agg_of hx hm⟩
theorem arg_slice {α : Type} {a : α → AV} {t e : TypeId} {sz : Nat} (ht : Tryz.prog.underlying t = some (.slice e)) (hsz : Tryz.prog.cellsOf e = sz) (h0 : 0 < sz) (i0 : Inhabited α) (hlen : ∀ m, (a m).cells.length = sz)
    (each : FO enc W e sz (fun m : α => (a m).cells)) (hv : Value.okWide Tryz.prog W .any base t v) (h : DataW.Trod enc Tryz.prog W 0 (fun _ => true) true t v d p) : ∃ l : List α, Rep W (fun _ => True) G0 (.sl sz (l.map a)) v :=
  slArg_open ht hsz h0 i0 hlen each hv h
theorem sl_max {t e : TypeId} {sz : Nat} {xs : List AV} {S : Nat → Prop} (ht : Tryz.prog.underlying t = some (.slice e)) (hr : Rep W S G0 (.sl sz xs) v) (h : DataW.Trod enc Tryz.prog W 0 (fun _ => true) true t v d p) : xs.length ≤ 9223372036854775807 := by
  obtain ⟨A, c, rfl, _⟩ := hr.sl_inv
  obtain ⟨fuel, hf⟩ := h
  have hf : DataW.trod enc Tryz.prog W 0 (fun _ => true) true fuel t [.slice A xs.length c] = some (d, p) := hf
  rcases open_slice ht hf with ⟨h1, _⟩ | ⟨A', len, cap, m, n', D, Pl, h1, _, hlc, hm, _⟩
  · simp only [List.cons.injEq, Value.slice.injEq, and_true] at h1
    omega
  · simp only [List.cons.injEq, Value.slice.injEq, and_true] at h1
    have : maxLen = 9223372036854775807 := rfl
    omega
end
end Go.Proofs.YtcbdhigllelmcaaGreat
namespace Go.Proofs.YtcbdhigllelmcaaGreat
open Go.RowKit

theorem drop_cons {α : Type} (l : List α) (k : Nat) (h : k < l.length) : l.drop k = l[k] :: l.drop (k + 1) := List.drop_eq_getElem_cons h

def sqLoop : Int → List Int → Int
  | _, [] => 0
  | last, n :: r => if n < 0 ∨ 1099511627776 < n then 2 else if n ≤ last then 14 else sqLoop n r
def sqCheck (t : Trk) : Int :=
  if t.next < 0 ∨ 1099511627777 < t.next then 2 else if 256 < t.beyond.length then 5 else sqLoop t.next t.beyond
def hasB (t : Trk) (seq : Int) : Bool := if seq < t.next then decide (0 ≤ seq) else t.beyond.contains seq

def ptValid (p : Pt) : Bool := decide (0 ≤ p.seq) && (decide (p.seq ≤ 1099511627777) && (decide (0 ≤ p.time) && decide (p.time ≤ 1099511627776)))
def implies (a b : Pt) : Bool := decide (a.seq ≤ b.seq) && decide (b.time ≤ a.time)
def ascLoop : Pt → List Pt → Int
  | _, [] => 0
  | last, p :: r => if ptValid p = false then 2 else if p.seq ≤ last.seq ∨ p.time ≤ last.time then 14 else ascLoop p r
def asc (t : Trk) (last : Pt) : Int :=
  if sqCheck t ≠ 0 then sqCheck t else if t.mark < -1 ∨ 1099511627776 < t.mark then 2 else if 256 < t.points.length then 5 else ascLoop last t.points
def puCheck (t : Trk) : Int := asc t ⟨t.next, t.mark⟩
def latest (mark : Int) (l : List Pt) (seq : Int) : Int := (l.filter fun p => decide (p.seq ≤ seq)).foldl (fun m p => max m p.time) mark

end Go.Proofs.YtcbdhigllelmcaaGreat
namespace Go.Proofs.YtcbdhigllelmcaaGreat
open Go.RowKit

def allowsT (t : Trk) (seq time : Int) : Bool × Int :=
  if puCheck t ≠ 0 then (false, puCheck t) else
  if seq < 0 ∨ 1099511627776 < seq ∨ time < 0 ∨ 1099511627776 < time then (false, 2) else
  if seq < t.next ∨ t.beyond.contains seq = true then (false, 7) else (decide (latest t.mark t.points seq < time), 0)
def hits (l : List Pt) (seq time : Int) : Bool := l.any fun p => decide (p.seq ≤ seq) && decide (time ≤ p.time)
def allowsR (t : Trk) (seq time : Int) : Bool × Int :=
  if puCheck t ≠ 0 then (false, puCheck t) else
  if seq < 0 ∨ 1099511627776 < seq ∨ time < 0 ∨ 1099511627776 < time then (false, 2) else
  if hasB t seq = true then (false, 7) else if time ≤ t.mark then (false, 0) else (!hits t.points seq time, 0)

theorem foldl_max_lt (l : List Pt) (a time : Int) : l.foldl (fun m p => max m p.time) a < time ↔ a < time ∧ ∀ p ∈ l, p.time < time := by
  induction l generalizing a with
  | nil => simp
  | cons x r ih =>
    rw [List.foldl_cons, ih]
    simp only [List.mem_cons, forall_eq_or_imp]
    constructor
    · rintro ⟨h1, h2⟩; exact ⟨by omega, by omega, h2⟩
    · rintro ⟨h1, h2, h3⟩; exact ⟨by omega, h3⟩
theorem latest_lt (mark : Int) (l : List Pt) (seq time : Int) : latest mark l seq < time ↔ mark < time ∧ hits l seq time = false := by
  unfold latest hits
  rw [foldl_max_lt, List.any_eq_false]
  simp only [List.mem_filter, decide_eq_true_eq, Bool.and_eq_true, not_and, Int.not_le]
  constructor
  · rintro ⟨h1, h2⟩; exact ⟨h1, fun p hp hs => h2 p ⟨hp, hs⟩⟩
  · rintro ⟨h1, h2⟩; exact ⟨h1, fun p ⟨hp, hs⟩ => h2 p hp hs⟩
theorem allows_eq (t : Trk) (seq time : Int) : allowsR t seq time = allowsT t seq time := by
  unfold allowsR allowsT
  split
  · rfl
  split
  · rfl
  rename_i h1 h2
  have hs : 0 ≤ seq := by omega
  have hh : hasB t seq = true ↔ seq < t.next ∨ t.beyond.contains seq = true := by
    unfold hasB
    by_cases h : seq < t.next
    · simp [h, hs]
    · simp [h]
  by_cases h3 : hasB t seq = true
  · rw [if_pos h3, if_pos (hh.1 h3)]
  · rw [if_neg h3, if_neg (fun h => h3 (hh.2 h))]
    by_cases h4 : time ≤ t.mark
    · rw [if_pos h4]
      congr 1
      symm
      rw [decide_eq_false_iff_not, latest_lt]
      omega
    · rw [if_neg h4]
      congr 1
      rw [Bool.eq_iff_iff, decide_eq_true_iff, latest_lt]
      simp
      omega

def zeroT : Trk := ⟨0, [], [], 0⟩
def settleT (t : Trk) : Trk × Int :=
  if asc t ⟨-1, -1⟩ ≠ 0 then (zeroT, asc t ⟨-1, -1⟩) else
  (⟨t.next, t.beyond, t.points.filter fun p => decide (t.next < p.seq) && decide (latest t.mark t.points t.next < p.time), latest t.mark t.points t.next⟩, 0)

def below (l : List Pt) (s : Int) : Nat := (l.filter fun p => decide (p.seq < s)).length
def addT (t : Trk) (p : Pt) : Trk × Int :=
  if puCheck t ≠ 0 then (zeroT, puCheck t) else if ptValid p = false then (zeroT, 2) else
  if p.time ≤ t.mark ∨ (t.points.any fun x => implies x p) = true then (t, 0) else
  if p.seq ≤ t.next then (⟨t.next, t.beyond, t.points.filter fun x => !implies p x, p.time⟩, 0) else
  if 256 < ((t.points.filter fun x => !implies p x).length + 1) then (zeroT, 5) else
  (⟨t.next, t.beyond, (t.points.filter fun x => !implies p x).take (below (t.points.filter fun x => !implies p x) p.seq) ++ p :: (t.points.filter fun x => !implies p x).drop (below (t.points.filter fun x => !implies p x) p.seq), t.mark⟩, 0)

def withLoop (p : Pt) : Bool → List Pt → List Pt → Bool × List Pt
  | put, acc, [] => (put, acc)
  | put, acc, x :: r =>
    let put' := put || decide (p.seq < x.seq)
    let acc' := if put = false ∧ p.seq < x.seq then acc ++ [p] else acc
    withLoop p put' (if implies p x = true then acc' else acc' ++ [x]) r
def withR (t : Trk) (p : Pt) : Trk :=
  if p.time ≤ t.mark then t else if (t.points.any fun x => implies x p) = true then t else
  let r := withLoop p (decide (p.seq ≤ t.next)) [] t.points
  ⟨t.next, t.beyond, if r.1 = true then r.2 else r.2 ++ [p], if p.seq ≤ t.next then p.time else t.mark⟩
def addR (t : Trk) (p : Pt) : Trk × Int :=
  if puCheck t ≠ 0 then (zeroT, puCheck t) else if ptValid p = false then (zeroT, 2) else
  if 256 < (withR t p).points.length then (zeroT, 5) else (withR t p, 0)

end Go.Proofs.YtcbdhigllelmcaaGreat
namespace Go.Proofs.YtcbdhigllelmcaaGreat
open Go.RowKit

def aPt (p : Pt) : AV := .agg [aI p.seq, aI p.time]
def aInts (l : List Int) : AV := .sl 1 (l.map aI)
def aPts (l : List Pt) : AV := .sl 2 (l.map aPt)
def aTrk (t : Trk) : AV := .agg [aI t.next, aInts t.beyond, aPts t.points, aI t.mark]

end Go.Proofs.YtcbdhigllelmcaaGreat
namespace Go.Proofs.YtcbdhigllelmcaaGreat
open Go.RowKit

theorem ret_int {k : IntKind} {a b : Int} (h : a = b) : Ending.returned (.int k a) = .returned (.int k b) := by rw [h]
theorem ret_bool {a b : Bool} (h : a = b) : Ending.returned (.bool a) = .returned (.bool b) := by rw [h]

set_option maxHeartbeats 400000 in
theorem valid_any (s t : Int) (w : World) :
    Calls Tryz.prog 98 #[.agg #[.int .i64 s, .int .i64 t]] w fun e w' => e = .returned (.bool (ptValid ⟨s, t⟩)) ∧ Below w.heap.size w w' := by
  go_enter Tryz.func98, Tryz.ntmps98
  go_wp2
  all_goals (go_ret; exact ⟨ret_bool (by rw [Bool.eq_iff_iff]; simp only [ptValid, Bool.and_eq_true, decide_eq_true_eq, Bool.false_eq_true, false_iff, true_iff]; omega), by go_grown⟩)

set_option maxHeartbeats 400000 in
theorem rvalid_any (s t : Int) (w : World) :
    Calls Tryz.prog 82 #[.agg #[.int .i64 s, .int .i64 t]] w fun e w' => e = .returned (.bool (ptValid ⟨s, t⟩)) ∧ Below w.heap.size w w' := by
  go_enter Tryz.func82, Tryz.ntmps82
  go_wp2
  all_goals (go_ret; exact ⟨ret_bool (by rw [Bool.eq_iff_iff]; simp only [ptValid, Bool.and_eq_true, decide_eq_true_eq, Bool.false_eq_true, false_iff, true_iff]; omega), by go_grown⟩)

set_option maxHeartbeats 400000 in
theorem implies_any (s t s' t' : Int) (w : World) :
    Calls Tryz.prog 136 #[.agg #[.int .i64 s, .int .i64 t], .agg #[.int .i64 s', .int .i64 t']] w fun e w' => e = .returned (.bool (implies ⟨s, t⟩ ⟨s', t'⟩)) ∧ Below w.heap.size w w' := by
  go_enter Tryz.func136, Tryz.ntmps136
  go_wp2
  all_goals (go_ret; exact ⟨ret_bool (by rw [Bool.eq_iff_iff]; simp only [implies, Bool.and_eq_true, decide_eq_true_eq, Bool.false_eq_true, false_iff, true_iff]; omega), by go_grown⟩)

set_option maxHeartbeats 400000 in
theorem sqCheck_any (t : Trk) (S : Nat → Prop) (v : Value) (w : World) (h : TrkV w S v t) :
    Calls Tryz.prog 97 #[v] w fun e w' => e = .returned (.int .i64 (sqCheck t)) ∧ Below w.heap.size w w' := by
  obtain ⟨vb, vp, rfl, hB, hP⟩ := h
  obtain ⟨A, c, rfl, hc, hcell⟩ := ints_form hB
  obtain ⟨next, l, pts, mark⟩ := t
  dsimp only at *
  have hc' := hide hcell; clear hcell
  have hgoal : Hid (sqCheck ⟨next, l, pts, mark⟩ = if next < 0 ∨ 1099511627777 < next then 2 else if 256 < l.length then 5 else sqLoop next l) := rfl
  go_enter Tryz.func97, Tryz.ntmps97
  go_wp2
  all_goals first
    | (go_ret; refine ⟨ret_int ?_, by go_grown⟩; rw [hgoal.out]; repeat (first | rw [if_pos (by omega)] | rw [if_neg (by omega)]))
    | skip
  go_loopw [3, 25] (fun last i wr => ∃ (k : Nat) (a : Int), k ≤ l.length ∧ i = .int .i64 k ∧ last = .int .i64 a ∧ Hid (sqLoop a (l.drop k) = sqLoop next l) ∧ Below w.heap.size w wr) (fun _ i _ => l.length - (intOf i).toNat)
  case atStart => exact ⟨0, _, Nat.zero_le _, rfl, rfl, rfl, by go_grown⟩
  case round =>
      obtain ⟨k, a, hk, rfl, rfl, hs, hb⟩ := hrel
      by_cases hlt : k < l.length
      · obtain ⟨b, off, rfl, hbl, hx⟩ := hc'.out k hlt
        have hx := cell_later hb hx
        have hs1 := hide (drop_cons l k hlt)
        generalize l[k] = n at *
        go_wp2
        all_goals first
          | (go_ret; refine ⟨ret_int ?_, hb⟩; rw [hgoal.out, if_neg (by omega), if_neg (by omega), ← hs.out, hs1.out, sqLoop]; repeat (first | rw [if_pos (by omega)] | rw [if_neg (by omega)]))
          | skip
        go_roundw
        case rel => exact ⟨k + 1, _, by omega, by go_num, rfl, by unfold Hid; rw [← hs.out, hs1.out, sqLoop, if_neg (by omega), if_neg (by omega)], hb⟩
        case measure => simp [intOf]; omega
      · go_wp2
        go_ret
        refine ⟨ret_int ?_, hb⟩
        rw [hgoal.out, if_neg (by omega), if_neg (by omega), ← hs.out, List.drop_eq_nil_of_le (by omega), sqLoop]

set_option maxHeartbeats 400000 in
theorem rsqCheck_any (t : Trk) (S : Nat → Prop) (v : Value) (w : World) (h : TrkV w S v t) :
    Calls Tryz.prog 99 #[v] w fun e w' => e = .returned (.int .i64 (sqCheck t)) ∧ Below w.heap.size w w' := by
  obtain ⟨vb, vp, rfl, hB, hP⟩ := h
  obtain ⟨A, c, rfl, hc, hcell⟩ := ints_form hB
  obtain ⟨next, l, pts, mark⟩ := t
  dsimp only at *
  have hc' := hide hcell; clear hcell
  have hgoal : Hid (sqCheck ⟨next, l, pts, mark⟩ = if next < 0 ∨ 1099511627777 < next then 2 else if 256 < l.length then 5 else sqLoop next l) := rfl
  go_enter Tryz.func99, Tryz.ntmps99
  go_wp2
  all_goals first
    | (go_ret; refine ⟨ret_int ?_, by go_grown⟩; rw [hgoal.out]; repeat (first | rw [if_pos (by omega)] | rw [if_neg (by omega)]))
    | skip
  go_loopw [3, 4] (fun last i wr => ∃ (k : Nat) (a : Int), k ≤ l.length ∧ i = .int .i64 k ∧ last = .int .i64 a ∧ Hid (sqLoop a (l.drop k) = sqLoop next l) ∧ Below w.heap.size w wr ∧ wr.cell? ⟨w.heap.size, 1, none⟩ = some (.slice A l.length c)) (fun _ i _ => l.length - (intOf i).toNat)
  case atStart => exact ⟨0, _, Nat.zero_le _, rfl, rfl, rfl, by go_grown, by go_cell⟩
  case round =>
      obtain ⟨k, a, hk, rfl, rfl, hs, hb, hbox⟩ := hrel
      by_cases hlt : k < l.length
      · obtain ⟨b, off, rfl, hbl, hx⟩ := hc'.out k hlt
        have hx := cell_later hb hx
        have hs1 := hide (drop_cons l k hlt)
        generalize l[k] = n at *
        go_wp2
        all_goals first
          | (go_ret; refine ⟨ret_int ?_, hb⟩; rw [hgoal.out, if_neg (by omega), if_neg (by omega), ← hs.out, hs1.out, sqLoop]; repeat (first | rw [if_pos (by omega)] | rw [if_neg (by omega)]))
          | skip
        go_roundw
        case rel => exact ⟨k + 1, _, by omega, by go_num, rfl, by unfold Hid; rw [← hs.out, hs1.out, sqLoop, if_neg (by omega), if_neg (by omega)], hb, hbox⟩
        case measure => simp [intOf]; omega
      · go_wp2
        go_ret
        refine ⟨ret_int ?_, hb⟩
        rw [hgoal.out, if_neg (by omega), if_neg (by omega), ← hs.out, List.drop_eq_nil_of_le (by omega), sqLoop]

end Go.Proofs.YtcbdhigllelmcaaGreat
namespace Go.Proofs.YtcbdhigllelmcaaGreat
open Go.RowKit

theorem eok_int : EOk Tryz.prog 23 3 1 8 encI := eok_pt Tryz.underlying23 (by kernel_rfl) (by omega) (fun _ => rfl) (fun x u hu => by simp [encI] at hu; subst hu; rfl)
theorem eok_pts : EOk Tryz.prog 24 116 2 16 encP := eok_pt Tryz.underlying24 (by kernel_rfl) (by omega) (fun _ => rfl) (fun x u hu => by simp [encP] at hu; rcases hu with rfl | rfl <;> rfl)

theorem eqlist_drop (l m : List Int) (k : Nat) (h1 : k < l.length) (h2 : k < m.length) : decide (l.drop k = m.drop k) = (decide (l[k] = m[k]) && decide (l.drop (k + 1) = m.drop (k + 1))) := by
  rw [drop_cons l k h1, drop_cons m k h2]; simp only [List.cons.injEq, Bool.decide_and]

set_option maxHeartbeats 400000 in
theorem sameInts_any (l m : List Int) (S S' : Nat → Prop) (v u : Value) (w : World) (h : Ints w S v l) (h' : Ints w S' u m) (hl : l.length ≤ 1000000000) :
    Calls Tryz.prog 20 #[v, u] w fun e w' => e = .returned (.bool (decide (l = m))) ∧ Below w.heap.size w w' := by
  obtain ⟨A, c, rfl, hc, hcell⟩ := ints_form h
  obtain ⟨A', c', rfl, hc', hcell'⟩ := ints_form h'
  have H := hide hcell; clear hcell h
  have H' := hide hcell'; clear hcell' h'
  by_cases hlen : l.length = m.length
  · have hne : ((l.length : Int) != (m.length : Int)) = false := by simp [hlen]
    have hlm := hide hlen
    have hle1 : l.length ≤ m.length := by omega
    have hle2 : m.length ≤ l.length := by omega
    clear hlen
    go_enter Tryz.func20, Tryz.ntmps20
    go_wp2
    clear hne
    go_loopw [5] (fun i wr => ∃ k : Nat, k ≤ l.length ∧ i = .int .i64 k ∧ Hid (decide (l.drop k = m.drop k) = decide (l = m)) ∧ Below w.heap.size w wr) (fun i _ => l.length - (intOf i).toNat)
    case atStart => exact ⟨0, Nat.zero_le _, rfl, by simp [Hid], by go_grown⟩
    case round =>
      obtain ⟨k, hk, rfl, hs, hb⟩ := hrel
      by_cases hlt : k < l.length
      · obtain ⟨b, off, rfl, hbl, hx⟩ := H.out k hlt
        obtain ⟨b', off', rfl, hbl', hx'⟩ := H'.out k (by omega)
        have hx := cell_later hb hx
        have hx' := cell_later hb hx'
        have hs1 := hide (eqlist_drop l m k hlt (by omega))
        generalize l[k] = n at *
        generalize m[k] = n' at *
        have hkm : (k : Int) < (m.length : Int) := by omega
        have hkl : (k : Int) < (l.length : Int) := by omega
        have hk0 : (0 : Int) ≤ (k : Int) := by omega
        go_wp2
        go_quiet (fail)
        have hb2 := below_drewN hb nq
        by_cases hnn : n = n'
        · have hne : (n != n') = false := by simp [hnn]
          have hnn' := hide hnn; clear hnn
          go_wp2
          go_roundw
          case rel => exact ⟨k + 1, by omega, by go_num, by unfold Hid; rw [← hs.out, hs1.out, hnn'.out]; simp, hb2⟩
          case measure => simp [intOf]; omega
        · have hne : (n != n') = true := by simp [hnn]
          have hnn' := hide hnn; clear hnn
          go_wp2
          go_ret
          exact ⟨ret_bool (by rw [← hs.out, hs1.out, decide_eq_false hnn'.out]; rfl), hb2⟩
      · go_wp2
        go_ret
        exact ⟨ret_bool (by rw [← hs.out, List.drop_eq_nil_of_le (by omega), List.drop_eq_nil_of_le (by omega)]; rfl), hb⟩
  · have hne : ((l.length : Int) != (m.length : Int)) = true := by simp; omega
    have hd := hide (decide_eq_false (p := l = m) (fun e => hlen (by rw [e])))
    clear hlen
    go_enter Tryz.func20, Tryz.ntmps20
    go_wp2
    go_ret
    exact ⟨ret_bool (by rw [hd.out]), by go_grown⟩

end Go.Proofs.YtcbdhigllelmcaaGreat
namespace Go.Proofs.YtcbdhigllelmcaaGreat
open Go.RowKit

set_option maxHeartbeats 400000 in
theorem cloneI_any (l : List Int) (S : Nat → Prop) (v : Value) (w : World) (h : Sl w S 1 encI v l) (hl : l.length ≤ 1000000000) :
    Calls Tryz.prog 56 #[v] w (RetOwn 3 1 encI l w) := by
  obtain ⟨A, c, rfl, hc, _⟩ := h.form
  have hq := fun (W : World) => Lib.run_eql_slice_nil W 23 3 A l.length c 0 0 Tryz.underlying23
  have H := hide h
  cases A with
  | none =>
    have h0 : l = [] := h.none_nil
    subst h0
    clear h H hl hc
    simp only [List.length_nil, Option.isNone_none] at hq ⊢
    go_enter Tryz.func56, Tryz.ntmps56
    go_wp2
    go_ret
    exact ⟨none, 0, rfl, Own.nil_, by go_grown⟩
  | some ad =>
    clear h
    go_enter Tryz.func56, Tryz.ntmps56
    go_wp2_with (at_builtin; refine wpList_append_sl rfl _ _ rfl eok_int rfl Own.made_ rfl (H.out.alloc _) (by simp; omega) (by omega) (by simp) ?_; intro A' c' w1 ho hg _)
    go_ret
    exact ⟨A', c', rfl, ho, (Own.made_ (sz := 1) (enc := encI)).grown ((Below.refl _ _).alloc (Nat.le_refl _) _) (Nat.le_refl _) (by simp) hg⟩

set_option maxHeartbeats 400000 in
theorem cloneP_any (l : List Pt) (S : Nat → Prop) (v : Value) (w : World) (h : Sl w S 2 encP v l) (hl : l.length ≤ 1000000000) :
    Calls Tryz.prog 57 #[v] w (RetOwn 116 2 encP l w) := by
  obtain ⟨A, c, rfl, hc, _⟩ := h.form
  have hq := fun (W : World) => Lib.run_eql_slice_nil W 24 116 A l.length c 0 0 Tryz.underlying24
  have H := hide h
  cases A with
  | none =>
    have h0 : l = [] := h.none_nil
    subst h0
    clear h H hl hc
    simp only [List.length_nil, Option.isNone_none] at hq ⊢
    go_enter Tryz.func57, Tryz.ntmps57
    go_wp2
    go_ret
    exact ⟨none, 0, rfl, Own.nil_, by go_grown⟩
  | some ad =>
    clear h
    go_enter Tryz.func57, Tryz.ntmps57
    go_wp2_with (at_builtin; refine wpList_append_sl rfl _ _ rfl eok_pts rfl Own.made_ rfl (H.out.alloc _) (by simp; omega) (by omega) (by simp) ?_; intro A' c' w1 ho hg _)
    go_ret
    exact ⟨A', c', rfl, ho, (Own.made_ (sz := 2) (enc := encP)).grown ((Below.refl _ _).alloc (Nat.le_refl _) _) (Nat.le_refl _) (by simp) hg⟩

set_option maxHeartbeats 800000 in
theorem filteredP_any (l : List Pt) (p : Pt → Bool) (g : Nat) (lb : Array Value) (eg : ∀ args w, (callFunc g args).run Tryz.prog w = .ok (.enter g args) w)
    (S : Nat → Prop) (v : Value) (w : World) (h : Sl w S 2 encP v l) (hp : PredB Tryz.prog g lb (fun x => .agg (encP x).toArray) p w) (hl : l.length ≤ 1000000000) :
    Calls Tryz.prog 132 #[v, .func (.func g) #[] lb] w (RetOwn 116 2 encP (l.filter p) w) := by
  obtain ⟨A, c, rfl, hc, hcell⟩ := pts_form h
  have H := hide hcell
  have HP := hide hp
  clear hcell hp h
  go_enter Tryz.func132, Tryz.ntmps132
  go_wp2
  go_loopw [5, 10] (fun out i wr => ∃ (k : Nat) (A : Option Addr) (c : Nat), k ≤ l.length ∧ i = .int .i64 k ∧ out = .slice A ((l.take k).filter p).length c ∧ Hid (Own wr w.heap.size 116 2 encP (.slice A ((l.take k).filter p).length c) ((l.take k).filter p)) ∧ Below w.heap.size w wr) (fun _ i _ => l.length - (intOf i).toNat)
  case atStart => exact ⟨0, none, 0, Nat.zero_le _, rfl, rfl, Own.nil_, by go_grown⟩
  case round =>
    obtain ⟨k, A', c', hk, rfl, rfl, ho, hb⟩ := hrel
    by_cases hlt : k < l.length
    · obtain ⟨b, off, rfl, hbl, hx0, hx1⟩ := H.out k hlt
      have hx0 := cell_later hb hx0
      have hx1 := cell_later hb hx1
      have hsn := hide (filter_take_succ l p k hlt)
      have hlen := hide (filter_take_le l p k)
      generalize l[k] = x at *
      obtain ⟨x0, x1⟩ := x
      generalize hfl : (l.take k).filter p = fl at *
      clear hfl
      cases hq : p ⟨x0, x1⟩ with
      | false =>
        rw [hq] at hsn
        have hq' := hide hq
        clear hq
        go_wp2_with (go_at_fn g; refine (HP.out _ ⟨x0, x1⟩ ((hb.alloc hb.size _))).mono ?_; rintro e w1 ⟨rfl, hb1⟩; rw [hq'.out])
        go_roundw
        case rel =>
          have e := hsn.out
          rw [if_neg (by simp)] at e
          exact ⟨k + 1, _, _, by omega, by go_num, by rw [e], by rw [e]; exact ho.out.below (Below.next (by go_grown) hb1), Below.next (hb.alloc hb.size _) hb1⟩
        case measure => simp [intOf]; omega
      | true =>
        rw [hq] at hsn
        have hq' := hide hq
        clear hq
        go_wp2_with fail
        refine (HP.out _ ⟨x0, x1⟩ ((hb.alloc hb.size _))).mono ?_
        rintro e w1 ⟨rfl, hb1⟩
        have hbx0 := cell_later (a := ⟨wr.heap.size, 0, none⟩) (v := .int .i64 x0) hb1 (by simp)
        have hbx1 := cell_later (a := ⟨wr.heap.size, 1, none⟩) (v := .int .i64 x1) hb1 (by simp)
        rw [hq'.out]
        have hsl : Hid (Sl (w1.alloc (.cells #[.int .i64 x0, .int .i64 x1] 116)) (fun _ => True) 2 encP (.slice (some ⟨w1.heap.size, 0, none⟩) 1 1) [⟨x0, x1⟩]) := Sl.one_ (Nat.le_refl _) (by simp) trivial (by
          intro j u hu
          have hj : j < 2 := (List.getElem?_eq_some_iff.1 hu).1
          rw [World.cell?_alloc_new]
          simpa [encP] using hu)
        go_wp2_with (at_builtin; refine wpList_append_sl rfl _ _ rfl eok_pts rfl (ho.out.below (Below.next (Below.next ((Below.refl _ _).alloc (Nat.le_refl _) _) hb1) ((Below.refl _ _).alloc (Nat.le_refl _) _))) rfl hsl.out (by have := hlen.out; simp; omega) (by omega) ?hz ?_; rotate_left; intro A2 c2 w2 ho2 hg2 _)
        case hz => have h1 := hb1.size; have h2 := hb.size; rw [World.size_alloc] at h1 ⊢; omega
        have e := hsn.out
        rw [if_pos trivial] at e
        refine ⟨⟨k + 1, A2, c2, by omega, by go_num, by rw [e]; simp, by rw [e]; exact ho2, ?_⟩, by simp [intOf]; omega⟩
        have hz : w.heap.size ≤ (w1.alloc (.cells #[.int .i64 x0, .int .i64 x1] 116)).heap.size := by have h1 := hb1.size; have h2 := hb.size; rw [World.size_alloc] at h1 ⊢; omega
        exact (ho.out.below (Below.next (Below.next ((Below.refl _ _).alloc (Nat.le_refl _) _) hb1) ((Below.refl _ _).alloc (Nat.le_refl _) _))).grown (Below.next (hb.alloc hb.size _) (Below.next hb1 ((Below.refl _ _).alloc (Nat.le_refl _) _))) (Nat.le_refl _) hz hg2
    · go_wp2
      go_ret
      have e : l.take k = l := List.take_of_length_le (by omega)
      rw [e] at ho ⊢
      exact ⟨_, _, rfl, ho.out, hb⟩

end Go.Proofs.YtcbdhigllelmcaaGreat
namespace Go.Proofs.YtcbdhigllelmcaaGreat
open Go.RowKit

theorem latest1_pred (seq : Int) (g : Nat) (w : World) (hc : w.cell? ⟨g, 0, none⟩ = some (.int .i64 seq)) :
    PredB Tryz.prog 143 #[.pointer (some ⟨g, 0, none⟩)] (fun x => .agg (encP x).toArray) (fun p => decide (p.seq ≤ seq)) w := by
  intro W x hb
  have hc' := cell_later hb hc
  obtain ⟨x0, x1⟩ := x
  have hlt : g < W.heap.size := Nat.lt_of_lt_of_le (World.block_lt_of_cell? w _ hc) hb.size
  show Calls Tryz.prog 143 #[.agg #[.int .i64 x0, .int .i64 x1], .pointer (some ⟨g, 0, none⟩)] W _
  go_enter Tryz.func143, Tryz.ntmps143
  go_wp2
  go_ret
  exact ⟨rfl, by go_grown⟩

theorem add1_pred (q : Pt) (g : Nat) (w : World) (hc0 : w.cell? ⟨g, 0, none⟩ = some (.int .i64 q.seq)) (hc1 : w.cell? ⟨g, 1, none⟩ = some (.int .i64 q.time)) :
    PredB Tryz.prog 135 #[.pointer (some ⟨g, 0, none⟩)] (fun x => .agg (encP x).toArray) (fun x => implies x q) w := by
  intro W x hb
  have hc0' := cell_later hb hc0
  have hc1' := cell_later hb hc1
  obtain ⟨x0, x1⟩ := x
  obtain ⟨y0, y1⟩ := q
  have hlt : g < W.heap.size := Nat.lt_of_lt_of_le (World.block_lt_of_cell? w _ hc0) hb.size
  show Calls Tryz.prog 135 #[.agg #[.int .i64 x0, .int .i64 x1], .pointer (some ⟨g, 0, none⟩)] W fun e w' => e = .returned (.bool (implies ⟨x0, x1⟩ ⟨y0, y1⟩)) ∧ Below W.heap.size W w'
  generalize hr : implies ⟨x0, x1⟩ ⟨y0, y1⟩ = r
  have Hr := hide hr
  clear hr
  go_enter Tryz.func135, Tryz.ntmps135
  go_wp2_with fail
  refine (implies_any x0 x1 y0 y1 _).mono ?_
  rintro e w1 ⟨rfl, hb1⟩
  rw [Hr.out]
  go_wp2
  go_ret
  exact ⟨rfl, Below.next (by go_grown) hb1⟩

theorem add2_pred (q : Pt) (g : Nat) (w : World) (hc0 : w.cell? ⟨g, 0, none⟩ = some (.int .i64 q.seq)) (hc1 : w.cell? ⟨g, 1, none⟩ = some (.int .i64 q.time)) :
    PredB Tryz.prog 137 #[.pointer (some ⟨g, 0, none⟩)] (fun x => .agg (encP x).toArray) (fun x => !implies q x) w := by
  intro W x hb
  have hc0' := cell_later hb hc0
  have hc1' := cell_later hb hc1
  obtain ⟨x0, x1⟩ := x
  obtain ⟨y0, y1⟩ := q
  have hlt : g < W.heap.size := Nat.lt_of_lt_of_le (World.block_lt_of_cell? w _ hc0) hb.size
  show Calls Tryz.prog 137 #[.agg #[.int .i64 x0, .int .i64 x1], .pointer (some ⟨g, 0, none⟩)] W fun e w' => e = .returned (.bool (!implies ⟨y0, y1⟩ ⟨x0, x1⟩)) ∧ Below W.heap.size W w'
  generalize hr : implies ⟨y0, y1⟩ ⟨x0, x1⟩ = r
  have Hr := hide hr
  clear hr
  go_enter Tryz.func137, Tryz.ntmps137
  go_wp2_with fail
  refine (implies_any y0 y1 x0 x1 _).mono ?_
  rintro e w1 ⟨rfl, hb1⟩
  rw [Hr.out]
  go_wp2
  go_ret
  exact ⟨rfl, Below.next (by go_grown) hb1⟩

theorem add3_cmp (tgt : Pt) (w : World) :
    CmpB Tryz.prog 139 #[] (fun x => .agg (encP x).toArray) (.agg (encP tgt).toArray) (fun x => wrap64 (x.seq - tgt.seq)) w := by
  intro W x hb
  obtain ⟨x0, x1⟩ := x
  obtain ⟨y0, y1⟩ := tgt
  show Calls Tryz.prog 139 #[.agg #[.int .i64 x0, .int .i64 x1], .agg #[.int .i64 y0, .int .i64 y1]] W _
  go_enter Tryz.func139, Tryz.ntmps139
  go_wp2
  go_ret
  exact ⟨rfl, by go_grown⟩

theorem settle1_pred (next mark : Int) (g g' : Nat) (w : World) (hc0 : w.cell? ⟨g, 0, none⟩ = some (.int .i64 next)) (hc1 : w.cell? ⟨g', 3, none⟩ = some (.int .i64 mark)) :
    PredB Tryz.prog 133 #[.pointer (some ⟨g, 0, none⟩), .pointer (some ⟨g', 0, none⟩)] (fun x => .agg (encP x).toArray) (fun x => decide (next < x.seq) && decide (mark < x.time)) w := by
  intro W x hb
  have hc0' := cell_later hb hc0
  have hc1' := cell_later hb hc1
  obtain ⟨x0, x1⟩ := x
  have hlt : g < W.heap.size := Nat.lt_of_lt_of_le (World.block_lt_of_cell? w _ hc0) hb.size
  have hlt' : g' < W.heap.size := Nat.lt_of_lt_of_le (World.block_lt_of_cell? w _ hc1) hb.size
  show Calls Tryz.prog 133 #[.agg #[.int .i64 x0, .int .i64 x1], .pointer (some ⟨g, 0, none⟩), .pointer (some ⟨g', 0, none⟩)] W _
  go_enter Tryz.func133, Tryz.ntmps133
  go_wp2
  all_goals (go_ret; exact ⟨ret_bool (by simp <;> omega), by go_grown⟩)

set_option maxHeartbeats 800000 in
theorem latest_any (mark : Int) (l : List Pt) (seq : Int) (S : Nat → Prop) (v : Value) (w : World) (h : Pts w S v l) (hl : l.length ≤ 1000000000) :
    Calls Tryz.prog 129 #[.int .i64 mark, v, .int .i64 seq] w fun e w' => e = .returned (.int .i64 (latest mark l seq)) ∧ Below w.heap.size w w' := by
  obtain ⟨A, c, rfl, hc, _⟩ := pts_form h
  have H := hide h
  clear h
  have hgoal : Hid (latest mark l seq = (l.filter fun p => decide (p.seq ≤ seq)).foldl (fun m p => max m p.time) mark) := rfl
  generalize latest mark l seq = r at *
  have eg := Go.Proofs.enters_of (P := Tryz.prog) Tryz.func143 (by kernel_rfl) rfl
  have hfl : Hid ((l.filter fun p => decide (p.seq ≤ seq)).length ≤ 1000000000) := Nat.le_trans (List.length_filter_le _ _) hl
  go_enter Tryz.func129, Tryz.ntmps129
  go_wp2_with fail
  refine (filteredP_any l (fun p => decide (p.seq ≤ seq)) 143 _ eg S _ _ (H.out.below (by go_grown)) (latest1_pred seq w.heap.size _ (by simp)) hl).mono ?_
  rintro e w1 ⟨A1, c1, rfl, ho, hb1⟩
  generalize (l.filter fun p => decide (p.seq ≤ seq)) = m at *
  obtain ⟨A2, c2, he, hc2, hcell⟩ := pts_form (ho.sl (S := fun _ => True) eok_pts (fun _ _ => trivial))
  injection he with hA hn hc'
  subst hA; subst hc'
  have HM := hide hcell
  have hw1 : Below w.heap.size w w1 := Below.next (by go_grown) hb1
  have hml := hfl.out
  clear hcell ho hb1
  go_wp2
  go_loopw [0, 13] (fun vm i wr => ∃ (k : Nat) (a : Int), k ≤ m.length ∧ i = .int .i64 k ∧ vm = .int .i64 a ∧ Hid ((m.drop k).foldl (fun m p => max m p.time) a = r) ∧ Below w1.heap.size w1 wr) (fun _ i _ => m.length - (intOf i).toNat)
  case atStart => exact ⟨0, mark, Nat.zero_le _, rfl, rfl, hgoal.out.symm, Below.refl _ _⟩
  case round =>
    obtain ⟨k, a, hk, rfl, rfl, hs, hb⟩ := hrel
    by_cases hlt : k < m.length
    · obtain ⟨b, off, rfl, hbl, hx0, hx1⟩ := HM.out k hlt
      have hx0 := cell_later hb hx0
      have hx1 := cell_later hb hx1
      have hd := hide (drop_cons m k hlt)
      generalize m[k] = x at *
      obtain ⟨x0, x1⟩ := x
      go_wp2
      refine ⟨⟨k + 1, _, by omega, by go_num, rfl, ?_, ?_⟩, by simp [intOf]; omega⟩
      · unfold Hid
        have e : (if a < x1 then x1 else a) = max a x1 := by rw [Int.max_def]; split <;> split <;> omega
        first
          | rw [e, ← hs.out, hd.out, List.foldl_cons]
          | rw [← hs.out, hd.out, List.foldl_cons]
      · exact hb.alloc hb.size _
    · go_wp2
      go_ret
      exact ⟨ret_int (by rw [← hs.out, List.drop_eq_nil_of_le (by omega)]; rfl), Below.next hw1 hb⟩

end Go.Proofs.YtcbdhigllelmcaaGreat
namespace Go.Proofs.YtcbdhigllelmcaaGreat
open Go.RowKit

def RetTrk (t : Trk) (w0 : World) (r : Ending) (w' : World) : Prop :=
  ∃ A c A' c', r = .returned (.agg #[.int .i64 t.next, .slice A t.beyond.length c, .slice A' t.points.length c', .int .i64 t.mark]) ∧
    Own w' w0.heap.size 3 1 encI (.slice A t.beyond.length c) t.beyond ∧ Own w' w0.heap.size 116 2 encP (.slice A' t.points.length c') t.points ∧ Below w0.heap.size w0 w'

set_option maxHeartbeats 1600000 in
theorem own_any (t : Trk) (S : Nat → Prop) (v : Value) (w : World) (h : TrkV w S v t) (hl1 : t.beyond.length ≤ 1000000000) (hl2 : t.points.length ≤ 1000000000) :
    Calls Tryz.prog 131 #[v] w (RetTrk t w) := by
  obtain ⟨vb, vp, rfl, hB, hP⟩ := h
  obtain ⟨next, lb, l, mark⟩ := t
  dsimp only at *
  obtain ⟨A, c, rfl, hc, hcell⟩ := pts_form hP
  obtain ⟨Ab, cb, rfl, hcb, _⟩ := ints_form hB
  have HB := hide hB
  have HP := hide hP
  clear hcell hB hP
  go_enter Tryz.func131, Tryz.ntmps131
  go_wp2_with fail
  have hT0 : Hid (Blk (((w.alloc (.cells #[.int .i64 next, .slice Ab lb.length cb, .slice A l.length c, .int .i64 mark] 26)).alloc (.cells #[.int .i64 0, .slice none 0 0, .slice none 0 0, .int .i64 0] 26)).drew) w.heap.size 26 #[.int .i64 next, .slice Ab lb.length cb, .slice A l.length c, .int .i64 mark]) := Blk.alloc (Blk.new w _ _) _
  have hR0 : Hid (Blk (((w.alloc (.cells #[.int .i64 next, .slice Ab lb.length cb, .slice A l.length c, .int .i64 mark] 26)).alloc (.cells #[.int .i64 0, .slice none 0 0, .slice none 0 0, .int .i64 0] 26)).drew) (w.heap.size + 1) 26 #[.int .i64 0, .slice none 0 0, .slice none 0 0, .int .i64 0]) := by
    have := Blk.new (w.alloc (.cells #[.int .i64 next, .slice Ab lb.length cb, .slice A l.length c, .int .i64 mark] 26)) 26 #[.int .i64 0, .slice none 0 0, .slice none 0 0, .int .i64 0]
    rw [World.size_alloc] at this
    exact this
  go_region_with (first
    | (go_at_call 56; refine (cloneI_any lb S _ _ (HB.out.below ?_) hl1).mono ?_; go_grown; rintro e w1 ⟨A1, c1, rfl, ho1, hb1⟩; have hw1 : Below w.heap.size w w1 := Below.next (by go_grown) hb1; have hT1 : Hid (Blk w1 w.heap.size 26 #[.int .i64 next, .slice Ab lb.length cb, .slice A l.length c, .int .i64 mark]) := Blk.below (by first | exact hT1.out | exact hT2.out | exact hT0.out) hb1; have hR1 : Hid (Blk w1 (w.heap.size + 1) 26 #[.int .i64 0, .slice none 0 0, .slice none 0 0, .int .i64 0]) := Blk.below (by first | exact hR1.out | exact hR2.out | exact hR0.out) hb1; have t10 := hT1.out.cell_some 0 rfl; have t11 := hT1.out.cell_some 1 rfl; have t12 := hT1.out.cell_some 2 rfl; have t13 := hT1.out.cell_some 3 rfl; have tf11 := hT1.out.frozen 1; have tf12 := hT1.out.frozen 2)
    | (go_at_call 57; refine (cloneP_any l S _ _ (HP.out.below ?_) hl2).mono ?_; go_grown; rintro e w2 ⟨A2, c2, rfl, ho2, hb2⟩; have hw2 : Below w.heap.size w w2 := Below.next (by go_grown) hb2; have hT2 : Hid (Blk w2 w.heap.size 26 #[.int .i64 next, .slice Ab lb.length cb, .slice A l.length c, .int .i64 mark]) := Blk.below (by first | exact hT1.out | exact hT2.out | exact hT0.out) hb2; have hR2 : Hid (Blk w2 (w.heap.size + 1) 26 #[.int .i64 0, .slice none 0 0, .slice none 0 0, .int .i64 0]) := Blk.below (by first | exact hR1.out | exact hR2.out | exact hR0.out) hb2; have t20 := hT2.out.cell_some 0 rfl; have t21 := hT2.out.cell_some 1 rfl; have t22 := hT2.out.cell_some 2 rfl; have t23 := hT2.out.cell_some 3 rfl; have tf21 := hT2.out.frozen 1; have tf22 := hT2.out.frozen 2))
  all_goals
    have l1 := hR1.out.lt
    have l2 := hR2.out.lt
    have r10 := hR1.out.cell_some 0 rfl
    have r11 := hR1.out.cell_some 1 rfl
    have r12 := hR1.out.cell_some 2 rfl
    have r13 := hR1.out.cell_some 3 rfl
    have r20 := hR2.out.cell_some 0 rfl
    have r21 := hR2.out.cell_some 1 rfl
    have r22 := hR2.out.cell_some 2 rfl
    have r23 := hR2.out.cell_some 3 rfl
    have f10 := hR1.out.frozen 0
    have f11 := hR1.out.frozen 1
    have f12 := hR1.out.frozen 2
    have f13 := hR1.out.frozen 3
    have f20 := hR2.out.frozen 0
    have f21 := hR2.out.frozen 1
    have f22 := hR2.out.frozen 2
    have f23 := hR2.out.frozen 3
    go_wp2
    refine bodyPost_ret (v := .agg #[.int .i64 next, .slice A1 lb.length c1, .slice A2 l.length c2, .int .i64 mark]) (by simp [results, Tryz.results131, go_sem, r10, r11, r12, r13, r20, r21, r22, r23]) rfl ⟨A1, c1, A2, c2, rfl, ?_, ?_, ?_⟩
    · refine Own.le (base := w.heap.size + 2) ?_ (by omega)
      iterate 6 (refine Own.setCell_lt ?_ (by simp <;> omega) _)
      first
        | exact (ho1.below hb2).le (by first | omega | (simp; done) | (simp; omega))
        | exact ho1.le (by first | omega | (simp; done) | (simp; omega))
    · refine Own.le (base := w.heap.size + 2) ?_ (by omega)
      iterate 6 (refine Own.setCell_lt ?_ (by simp <;> omega) _)
      first
        | exact (ho2.below hb1).le (by first | omega | (simp; done) | (simp; omega))
        | exact ho2.le (by first | omega | (simp; done) | (simp; omega))
    · iterate 6 (refine Below.setCell ?_ (by simp <;> omega) _)
      assumption

end Go.Proofs.YtcbdhigllelmcaaGreat
