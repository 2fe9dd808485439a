/- What the walk knows of the program's types. Printed by a program of mine (gen_tab.lean). Helpers over the type table: 64-bit ints, slices of known form, contracts given by hand. From a contract of the abstract walk to a law's row: whatever the arguments, it returns true, and they read as they did. Arguments opened: what any row needs. Arguments opened: cells of any struct, field by field. Plain functions: what layers 34 and 35 (program and reference) compute, on plain data. No program in sight. Plain functions and plain laws of layer 35: what the program and the reference compute, and that they agree. Contracts by the abstract walk: layers 34 and 35. The walks of layers 34 and 35, first part: what each function returns, whatever the memory. The walks of layers 34 and 35, second part: equality, membership, checks, clones. Go's library, walked: what the slices functions that the layers use hand back. Printed by gen_lib.py. The walks of layers 34 and 35, fifth part: closures, the latest time, own copies. The walks of layers 34 and 35, sixth part: own copies. The walks of layers 34 and 35, third part: the checks. The walks of layers 34 and 35, ninth part: Settle. -/
import Derived.Test.YtcbdhigllelmcaaK06
import Derived.Test.YtcbdhigllelmcaaProg
import Derived.KernelRfl
import Derived.Test.YtcbdhigllelmcaaRows
import Derived.ProofKit
import Derived.Lib.SmallJoins
import Derived.Deep.Slices
import Derived.Carry
import Derived.Below
import Derived.Test.YtcbdhigllelmcaaK01
set_option linter.unusedVariables false
set_option linter.unusedSimpArgs false
namespace Go.Proofs.Ytcbdhigllelmcaa
def ty1 : TyI := ⟨1, 8, .nilFunc, .other⟩
theorem tyOk1 : TyOk Try.prog 1 ty1 := ⟨by kernel_rfl, by kernel_rfl, by kernel_rfl⟩
def ty2 : TyI := ⟨1, 8, .int .i64 0, .int .i64⟩
theorem tyOk2 : TyOk Try.prog 2 ty2 := ⟨by kernel_rfl, by kernel_rfl, by kernel_rfl⟩
def ty3 : TyI := ⟨1, 8, .int .i64 0, .int .i64⟩
theorem tyOk3 : TyOk Try.prog 3 ty3 := ⟨by kernel_rfl, by kernel_rfl, by kernel_rfl⟩
def ty4 : TyI := ⟨1, 1, .bool false, .bool⟩
theorem tyOk4 : TyOk Try.prog 4 ty4 := ⟨by kernel_rfl, by kernel_rfl, by kernel_rfl⟩
def ty5 : TyI := ⟨1, 1, .int .u8 0, .int .u8⟩
theorem tyOk5 : TyOk Try.prog 5 ty5 := ⟨by kernel_rfl, by kernel_rfl, by kernel_rfl⟩
def ty6 : TyI := ⟨1, 1, .int .u8 0, .int .u8⟩
theorem tyOk6 : TyOk Try.prog 6 ty6 := ⟨by kernel_rfl, by kernel_rfl, by kernel_rfl⟩
def ty7 : TyI := ⟨4, 24, .agg #[.int .i64 0, .int .i64 0, .bool false, .int .u8 0], .strct [(0, 1, some false), (1, 1, some false), (2, 1, some false), (3, 1, some false)]⟩
theorem tyOk7 : TyOk Try.prog 7 ty7 := ⟨by kernel_rfl, by kernel_rfl, by kernel_rfl⟩
def ty8 : TyI := ⟨4, 24, .agg #[.int .i64 0, .int .i64 0, .bool false, .int .u8 0], .strct [(0, 1, some false), (1, 1, some false), (2, 1, some false), (3, 1, some false)]⟩
theorem tyOk8 : TyOk Try.prog 8 ty8 := ⟨by kernel_rfl, by kernel_rfl, by kernel_rfl⟩
def ty9 : TyI := ⟨1, 16, .string ByteArray.empty, .str⟩
theorem tyOk9 : TyOk Try.prog 9 ty9 := ⟨by kernel_rfl, by kernel_rfl, by kernel_rfl⟩
def ty10 : TyI := ⟨1, 16, .string ByteArray.empty, .str⟩
theorem tyOk10 : TyOk Try.prog 10 ty10 := ⟨by kernel_rfl, by kernel_rfl, by kernel_rfl⟩
def ty11 : TyI := ⟨1, 16, .string ByteArray.empty, .str⟩
theorem tyOk11 : TyOk Try.prog 11 ty11 := ⟨by kernel_rfl, by kernel_rfl, by kernel_rfl⟩
def ty12 : TyI := ⟨1, 8, .int .u64 0, .int .u64⟩
theorem tyOk12 : TyOk Try.prog 12 ty12 := ⟨by kernel_rfl, by kernel_rfl, by kernel_rfl⟩
def ty13 : TyI := ⟨2, 24, .agg #[.string ByteArray.empty, .int .u64 0], .strct [(0, 1, some false), (1, 1, some false)]⟩
theorem tyOk13 : TyOk Try.prog 13 ty13 := ⟨by kernel_rfl, by kernel_rfl, by kernel_rfl⟩
def ty14 : TyI := ⟨2, 24, .agg #[.string ByteArray.empty, .int .u64 0], .strct [(0, 1, some false), (1, 1, some false)]⟩
theorem tyOk14 : TyOk Try.prog 14 ty14 := ⟨by kernel_rfl, by kernel_rfl, by kernel_rfl⟩
def ty15 : TyI := ⟨1, 8, .pointer none, .other⟩
theorem tyOk15 : TyOk Try.prog 15 ty15 := ⟨by kernel_rfl, by kernel_rfl, by kernel_rfl⟩
def ty16 : TyI := ⟨1, 8, .pointer none, .other⟩
theorem tyOk16 : TyOk Try.prog 16 ty16 := ⟨by kernel_rfl, by kernel_rfl, by kernel_rfl⟩
def ty17 : TyI := ⟨1, 8, .pointer none, .other⟩
theorem tyOk17 : TyOk Try.prog 17 ty17 := ⟨by kernel_rfl, by kernel_rfl, by kernel_rfl⟩
def ty18 : TyI := ⟨1, 8, .agg #[.pointer none], .strct [(0, 1, some false)]⟩
theorem tyOk18 : TyOk Try.prog 18 ty18 := ⟨by kernel_rfl, by kernel_rfl, by kernel_rfl⟩
def ty19 : TyI := ⟨1, 8, .agg #[.pointer none], .strct [(0, 1, some false)]⟩
theorem tyOk19 : TyOk Try.prog 19 ty19 := ⟨by kernel_rfl, by kernel_rfl, by kernel_rfl⟩
def ty21 : TyI := ⟨1, 4, .int .i32 0, .int .i32⟩
theorem tyOk21 : TyOk Try.prog 21 ty21 := ⟨by kernel_rfl, by kernel_rfl, by kernel_rfl⟩
def ty22 : TyI := ⟨1, 24, .slice none 0 0, .slc 36 3 32⟩
theorem tyOk22 : TyOk Try.prog 22 ty22 := ⟨by kernel_rfl, by kernel_rfl, by kernel_rfl⟩
def ty23 : TyI := ⟨5, 56, .agg #[.int .i64 0, .int .i64 0, .int .i64 0, .int .i64 0, .slice none 0 0], .strct [(0, 1, some false), (1, 1, some false), (2, 1, some false), (3, 1, some false), (4, 1, some false)]⟩
theorem tyOk23 : TyOk Try.prog 23 ty23 := ⟨by kernel_rfl, by kernel_rfl, by kernel_rfl⟩
def ty24 : TyI := ⟨5, 56, .agg #[.int .i64 0, .int .i64 0, .int .i64 0, .int .i64 0, .slice none 0 0], .strct [(0, 1, some false), (1, 1, some false), (2, 1, some false), (3, 1, some false), (4, 1, some false)]⟩
theorem tyOk24 : TyOk Try.prog 24 ty24 := ⟨by kernel_rfl, by kernel_rfl, by kernel_rfl⟩
def ty25 : TyI := ⟨1, 24, .slice none 0 0, .slc 37 1 24⟩
theorem tyOk25 : TyOk Try.prog 25 ty25 := ⟨by kernel_rfl, by kernel_rfl, by kernel_rfl⟩
def ty26 : TyI := ⟨2, 32, .agg #[.slice none 0 0, .int .i64 0], .strct [(0, 1, some false), (1, 1, some false)]⟩
theorem tyOk26 : TyOk Try.prog 26 ty26 := ⟨by kernel_rfl, by kernel_rfl, by kernel_rfl⟩
def ty27 : TyI := ⟨2, 32, .agg #[.slice none 0 0, .int .i64 0], .strct [(0, 1, some false), (1, 1, some false)]⟩
theorem tyOk27 : TyOk Try.prog 27 ty27 := ⟨by kernel_rfl, by kernel_rfl, by kernel_rfl⟩
def ty28 : TyI := ⟨2, 24, .agg #[.string ByteArray.empty, .int .i64 0], .strct [(0, 1, some false), (1, 1, some false)]⟩
theorem tyOk28 : TyOk Try.prog 28 ty28 := ⟨by kernel_rfl, by kernel_rfl, by kernel_rfl⟩
def ty29 : TyI := ⟨2, 24, .agg #[.string ByteArray.empty, .int .i64 0], .strct [(0, 1, some false), (1, 1, some false)]⟩
theorem tyOk29 : TyOk Try.prog 29 ty29 := ⟨by kernel_rfl, by kernel_rfl, by kernel_rfl⟩
def ty30 : TyI := ⟨1, 24, .slice none 0 0, .slc 29 2 24⟩
theorem tyOk30 : TyOk Try.prog 30 ty30 := ⟨by kernel_rfl, by kernel_rfl, by kernel_rfl⟩
def ty31 : TyI := ⟨2, 40, .agg #[.string ByteArray.empty, .slice none 0 0], .strct [(0, 1, some false), (1, 1, some false)]⟩
theorem tyOk31 : TyOk Try.prog 31 ty31 := ⟨by kernel_rfl, by kernel_rfl, by kernel_rfl⟩
def ty32 : TyI := ⟨2, 40, .agg #[.string ByteArray.empty, .slice none 0 0], .strct [(0, 1, some false), (1, 1, some false)]⟩
theorem tyOk32 : TyOk Try.prog 32 ty32 := ⟨by kernel_rfl, by kernel_rfl, by kernel_rfl⟩
def ty33 : TyI := ⟨1, 24, .slice none 0 0, .slc 32 2 40⟩
theorem tyOk33 : TyOk Try.prog 33 ty33 := ⟨by kernel_rfl, by kernel_rfl, by kernel_rfl⟩
def ty34 : TyI := ⟨1, 8, .nilFunc, .other⟩
theorem tyOk34 : TyOk Try.prog 34 ty34 := ⟨by kernel_rfl, by kernel_rfl, by kernel_rfl⟩
def ty35 : TyI := ⟨3, 32, .agg #[.int .i64 0, .int .i64 0, .string ByteArray.empty], .strct [(0, 1, some false), (1, 1, some false), (2, 1, some false)]⟩
theorem tyOk35 : TyOk Try.prog 35 ty35 := ⟨by kernel_rfl, by kernel_rfl, by kernel_rfl⟩
def ty36 : TyI := ⟨3, 32, .agg #[.int .i64 0, .int .i64 0, .string ByteArray.empty], .strct [(0, 1, some false), (1, 1, some false), (2, 1, some false)]⟩
theorem tyOk36 : TyOk Try.prog 36 ty36 := ⟨by kernel_rfl, by kernel_rfl, by kernel_rfl⟩
def ty37 : TyI := ⟨1, 24, .slice none 0 0, .slc 3 1 8⟩
theorem tyOk37 : TyOk Try.prog 37 ty37 := ⟨by kernel_rfl, by kernel_rfl, by kernel_rfl⟩
def ty38 : TyI := ⟨1, 8, .int .i64 0, .int .i64⟩
theorem tyOk38 : TyOk Try.prog 38 ty38 := ⟨by kernel_rfl, by kernel_rfl, by kernel_rfl⟩
def ty40 : TyI := ⟨1, 8, .nilFunc, .other⟩
theorem tyOk40 : TyOk Try.prog 40 ty40 := ⟨by kernel_rfl, by kernel_rfl, by kernel_rfl⟩
def ty41 : TyI := ⟨7, 72, .agg #[.int .i64 0, .int .i64 0, .int .i64 0, .int .i64 0, .int .i64 0, .slice none 0 0, .int .i64 0], .strct [(0, 1, some false), (1, 5, some true), (6, 1, some false)]⟩
theorem tyOk41 : TyOk Try.prog 41 ty41 := ⟨by kernel_rfl, by kernel_rfl, by kernel_rfl⟩
def ty42 : TyI := ⟨7, 72, .agg #[.int .i64 0, .int .i64 0, .int .i64 0, .int .i64 0, .int .i64 0, .slice none 0 0, .int .i64 0], .strct [(0, 1, some false), (1, 5, some true), (6, 1, some false)]⟩
theorem tyOk42 : TyOk Try.prog 42 ty42 := ⟨by kernel_rfl, by kernel_rfl, by kernel_rfl⟩
def ty43 : TyI := ⟨1, 8, .nilFunc, .other⟩
theorem tyOk43 : TyOk Try.prog 43 ty43 := ⟨by kernel_rfl, by kernel_rfl, by kernel_rfl⟩
def ty44 : TyI := ⟨1, 8, .nilFunc, .other⟩
theorem tyOk44 : TyOk Try.prog 44 ty44 := ⟨by kernel_rfl, by kernel_rfl, by kernel_rfl⟩
def ty45 : TyI := ⟨1, 8, .nilFunc, .other⟩
theorem tyOk45 : TyOk Try.prog 45 ty45 := ⟨by kernel_rfl, by kernel_rfl, by kernel_rfl⟩
def ty46 : TyI := ⟨9, 88, .agg #[.int .i64 0, .int .i64 0, .int .i64 0, .int .i64 0, .int .i64 0, .slice none 0 0, .int .i64 0, .int .i64 0, .int .i64 0], .strct [(0, 1, some false), (1, 5, some true), (6, 1, some false), (7, 1, some false), (8, 1, some false)]⟩
theorem tyOk46 : TyOk Try.prog 46 ty46 := ⟨by kernel_rfl, by kernel_rfl, by kernel_rfl⟩
def ty47 : TyI := ⟨9, 88, .agg #[.int .i64 0, .int .i64 0, .int .i64 0, .int .i64 0, .int .i64 0, .slice none 0 0, .int .i64 0, .int .i64 0, .int .i64 0], .strct [(0, 1, some false), (1, 5, some true), (6, 1, some false), (7, 1, some false), (8, 1, some false)]⟩
theorem tyOk47 : TyOk Try.prog 47 ty47 := ⟨by kernel_rfl, by kernel_rfl, by kernel_rfl⟩
def ty48 : TyI := ⟨1, 24, .slice none 0 0, .slc 47 9 88⟩
theorem tyOk48 : TyOk Try.prog 48 ty48 := ⟨by kernel_rfl, by kernel_rfl, by kernel_rfl⟩
def ty49 : TyI := ⟨1, 24, .slice none 0 0, .slc 96 2 16⟩
theorem tyOk49 : TyOk Try.prog 49 ty49 := ⟨by kernel_rfl, by kernel_rfl, by kernel_rfl⟩
def ty50 : TyI := ⟨4, 64, .agg #[.int .i64 0, .slice none 0 0, .slice none 0 0, .int .i64 0], .strct [(0, 1, some false), (1, 1, some false), (2, 1, some false), (3, 1, some false)]⟩
theorem tyOk50 : TyOk Try.prog 50 ty50 := ⟨by kernel_rfl, by kernel_rfl, by kernel_rfl⟩
def ty51 : TyI := ⟨4, 64, .agg #[.int .i64 0, .slice none 0 0, .slice none 0 0, .int .i64 0], .strct [(0, 1, some false), (1, 1, some false), (2, 1, some false), (3, 1, some false)]⟩
theorem tyOk51 : TyOk Try.prog 51 ty51 := ⟨by kernel_rfl, by kernel_rfl, by kernel_rfl⟩
def ty52 : TyI := ⟨6, 80, .agg #[.int .i64 0, .int .i64 0, .int .i64 0, .slice none 0 0, .slice none 0 0, .int .i64 0], .strct [(0, 1, some false), (1, 1, some false), (2, 4, some true)]⟩
theorem tyOk52 : TyOk Try.prog 52 ty52 := ⟨by kernel_rfl, by kernel_rfl, by kernel_rfl⟩
def ty53 : TyI := ⟨6, 80, .agg #[.int .i64 0, .int .i64 0, .int .i64 0, .slice none 0 0, .slice none 0 0, .int .i64 0], .strct [(0, 1, some false), (1, 1, some false), (2, 4, some true)]⟩
theorem tyOk53 : TyOk Try.prog 53 ty53 := ⟨by kernel_rfl, by kernel_rfl, by kernel_rfl⟩
def ty55 : TyI := ⟨1, 8, .nilFunc, .other⟩
theorem tyOk55 : TyOk Try.prog 55 ty55 := ⟨by kernel_rfl, by kernel_rfl, by kernel_rfl⟩
def ty56 : TyI := ⟨1, 24, .slice none 0 0, .slc 42 7 72⟩
theorem tyOk56 : TyOk Try.prog 56 ty56 := ⟨by kernel_rfl, by kernel_rfl, by kernel_rfl⟩
def ty58 : TyI := ⟨1, 8, .nilFunc, .other⟩
theorem tyOk58 : TyOk Try.prog 58 ty58 := ⟨by kernel_rfl, by kernel_rfl, by kernel_rfl⟩
def ty59 : TyI := ⟨1, 8, .nilFunc, .other⟩
theorem tyOk59 : TyOk Try.prog 59 ty59 := ⟨by kernel_rfl, by kernel_rfl, by kernel_rfl⟩
def ty60 : TyI := ⟨1, 8, .nilFunc, .other⟩
theorem tyOk60 : TyOk Try.prog 60 ty60 := ⟨by kernel_rfl, by kernel_rfl, by kernel_rfl⟩
def ty61 : TyI := ⟨1, 8, .nilFunc, .other⟩
theorem tyOk61 : TyOk Try.prog 61 ty61 := ⟨by kernel_rfl, by kernel_rfl, by kernel_rfl⟩
def ty62 : TyI := ⟨1, 8, .nilFunc, .other⟩
theorem tyOk62 : TyOk Try.prog 62 ty62 := ⟨by kernel_rfl, by kernel_rfl, by kernel_rfl⟩
def ty63 : TyI := ⟨1, 8, .nilFunc, .other⟩
theorem tyOk63 : TyOk Try.prog 63 ty63 := ⟨by kernel_rfl, by kernel_rfl, by kernel_rfl⟩
def ty64 : TyI := ⟨3, 40, .agg #[.int .i64 0, .int .i64 0, .slice none 0 0], .strct [(0, 1, some false), (1, 1, some false), (2, 1, some false)]⟩
theorem tyOk64 : TyOk Try.prog 64 ty64 := ⟨by kernel_rfl, by kernel_rfl, by kernel_rfl⟩
def ty65 : TyI := ⟨3, 40, .agg #[.int .i64 0, .int .i64 0, .slice none 0 0], .strct [(0, 1, some false), (1, 1, some false), (2, 1, some false)]⟩
theorem tyOk65 : TyOk Try.prog 65 ty65 := ⟨by kernel_rfl, by kernel_rfl, by kernel_rfl⟩
def ty66 : TyI := ⟨1, 24, .slice none 0 0, .slc 65 3 40⟩
theorem tyOk66 : TyOk Try.prog 66 ty66 := ⟨by kernel_rfl, by kernel_rfl, by kernel_rfl⟩
def ty67 : TyI := ⟨1, 8, .map none, .map 3 4⟩
theorem tyOk67 : TyOk Try.prog 67 ty67 := ⟨by kernel_rfl, by kernel_rfl, by kernel_rfl⟩
def ty68 : TyI := ⟨1, 8, .nilFunc, .other⟩
theorem tyOk68 : TyOk Try.prog 68 ty68 := ⟨by kernel_rfl, by kernel_rfl, by kernel_rfl⟩
def ty70 : TyI := ⟨1, 8, .nilFunc, .other⟩
theorem tyOk70 : TyOk Try.prog 70 ty70 := ⟨by kernel_rfl, by kernel_rfl, by kernel_rfl⟩
def ty72 : TyI := ⟨1, 8, .nilFunc, .other⟩
theorem tyOk72 : TyOk Try.prog 72 ty72 := ⟨by kernel_rfl, by kernel_rfl, by kernel_rfl⟩
def ty73 : TyI := ⟨1, 8, .nilFunc, .other⟩
theorem tyOk73 : TyOk Try.prog 73 ty73 := ⟨by kernel_rfl, by kernel_rfl, by kernel_rfl⟩
def ty74 : TyI := ⟨1, 8, .nilFunc, .other⟩
theorem tyOk74 : TyOk Try.prog 74 ty74 := ⟨by kernel_rfl, by kernel_rfl, by kernel_rfl⟩
def ty75 : TyI := ⟨1, 8, .nilFunc, .other⟩
theorem tyOk75 : TyOk Try.prog 75 ty75 := ⟨by kernel_rfl, by kernel_rfl, by kernel_rfl⟩
def ty77 : TyI := ⟨1, 8, .nilFunc, .other⟩
theorem tyOk77 : TyOk Try.prog 77 ty77 := ⟨by kernel_rfl, by kernel_rfl, by kernel_rfl⟩
def ty78 : TyI := ⟨1, 8, .nilFunc, .other⟩
theorem tyOk78 : TyOk Try.prog 78 ty78 := ⟨by kernel_rfl, by kernel_rfl, by kernel_rfl⟩
def ty79 : TyI := ⟨1, 8, .nilFunc, .other⟩
theorem tyOk79 : TyOk Try.prog 79 ty79 := ⟨by kernel_rfl, by kernel_rfl, by kernel_rfl⟩
def ty80 : TyI := ⟨1, 8, .nilFunc, .other⟩
theorem tyOk80 : TyOk Try.prog 80 ty80 := ⟨by kernel_rfl, by kernel_rfl, by kernel_rfl⟩
def ty81 : TyI := ⟨1, 8, .nilFunc, .other⟩
theorem tyOk81 : TyOk Try.prog 81 ty81 := ⟨by kernel_rfl, by kernel_rfl, by kernel_rfl⟩
def ty82 : TyI := ⟨1, 8, .nilFunc, .other⟩
theorem tyOk82 : TyOk Try.prog 82 ty82 := ⟨by kernel_rfl, by kernel_rfl, by kernel_rfl⟩
def ty83 : TyI := ⟨1, 8, .map none, .map 9 4⟩
theorem tyOk83 : TyOk Try.prog 83 ty83 := ⟨by kernel_rfl, by kernel_rfl, by kernel_rfl⟩
def ty84 : TyI := ⟨1, 8, .nilFunc, .other⟩
theorem tyOk84 : TyOk Try.prog 84 ty84 := ⟨by kernel_rfl, by kernel_rfl, by kernel_rfl⟩
def ty85 : TyI := ⟨1, 8, .nilFunc, .other⟩
theorem tyOk85 : TyOk Try.prog 85 ty85 := ⟨by kernel_rfl, by kernel_rfl, by kernel_rfl⟩
def ty86 : TyI := ⟨1, 8, .nilFunc, .other⟩
theorem tyOk86 : TyOk Try.prog 86 ty86 := ⟨by kernel_rfl, by kernel_rfl, by kernel_rfl⟩
def ty87 : TyI := ⟨1, 8, .nilFunc, .other⟩
theorem tyOk87 : TyOk Try.prog 87 ty87 := ⟨by kernel_rfl, by kernel_rfl, by kernel_rfl⟩
def ty88 : TyI := ⟨1, 8, .nilFunc, .other⟩
theorem tyOk88 : TyOk Try.prog 88 ty88 := ⟨by kernel_rfl, by kernel_rfl, by kernel_rfl⟩
def ty89 : TyI := ⟨1, 8, .nilFunc, .other⟩
theorem tyOk89 : TyOk Try.prog 89 ty89 := ⟨by kernel_rfl, by kernel_rfl, by kernel_rfl⟩
def ty90 : TyI := ⟨1, 8, .nilFunc, .other⟩
theorem tyOk90 : TyOk Try.prog 90 ty90 := ⟨by kernel_rfl, by kernel_rfl, by kernel_rfl⟩
def ty92 : TyI := ⟨1, 8, .nilFunc, .other⟩
theorem tyOk92 : TyOk Try.prog 92 ty92 := ⟨by kernel_rfl, by kernel_rfl, by kernel_rfl⟩
def ty93 : TyI := ⟨1, 8, .nilFunc, .other⟩
theorem tyOk93 : TyOk Try.prog 93 ty93 := ⟨by kernel_rfl, by kernel_rfl, by kernel_rfl⟩
def ty94 : TyI := ⟨1, 8, .nilFunc, .other⟩
theorem tyOk94 : TyOk Try.prog 94 ty94 := ⟨by kernel_rfl, by kernel_rfl, by kernel_rfl⟩
def ty95 : TyI := ⟨2, 16, .agg #[.int .i64 0, .int .i64 0], .strct [(0, 1, some false), (1, 1, some false)]⟩
theorem tyOk95 : TyOk Try.prog 95 ty95 := ⟨by kernel_rfl, by kernel_rfl, by kernel_rfl⟩
def ty96 : TyI := ⟨2, 16, .agg #[.int .i64 0, .int .i64 0], .strct [(0, 1, some false), (1, 1, some false)]⟩
theorem tyOk96 : TyOk Try.prog 96 ty96 := ⟨by kernel_rfl, by kernel_rfl, by kernel_rfl⟩
def ty97 : TyI := ⟨1, 8, .nilFunc, .other⟩
theorem tyOk97 : TyOk Try.prog 97 ty97 := ⟨by kernel_rfl, by kernel_rfl, by kernel_rfl⟩
def ty98 : TyI := ⟨1, 8, .nilFunc, .other⟩
theorem tyOk98 : TyOk Try.prog 98 ty98 := ⟨by kernel_rfl, by kernel_rfl, by kernel_rfl⟩
def ty99 : TyI := ⟨1, 8, .nilFunc, .other⟩
theorem tyOk99 : TyOk Try.prog 99 ty99 := ⟨by kernel_rfl, by kernel_rfl, by kernel_rfl⟩
def ty100 : TyI := ⟨1, 8, .nilFunc, .other⟩
theorem tyOk100 : TyOk Try.prog 100 ty100 := ⟨by kernel_rfl, by kernel_rfl, by kernel_rfl⟩
def ty101 : TyI := ⟨1, 8, .nilFunc, .other⟩
theorem tyOk101 : TyOk Try.prog 101 ty101 := ⟨by kernel_rfl, by kernel_rfl, by kernel_rfl⟩
def ty102 : TyI := ⟨1, 8, .nilFunc, .other⟩
theorem tyOk102 : TyOk Try.prog 102 ty102 := ⟨by kernel_rfl, by kernel_rfl, by kernel_rfl⟩
def ty103 : TyI := ⟨1, 24, .slice none 0 0, .slc 5 1 1⟩
theorem tyOk103 : TyOk Try.prog 103 ty103 := ⟨by kernel_rfl, by kernel_rfl, by kernel_rfl⟩
def ty104 : TyI := ⟨1, 4, .int .u32 0, .int .u32⟩
theorem tyOk104 : TyOk Try.prog 104 ty104 := ⟨by kernel_rfl, by kernel_rfl, by kernel_rfl⟩
def ty105 : TyI := ⟨1, 24, .slice none 0 0, .slc 4 1 1⟩
theorem tyOk105 : TyOk Try.prog 105 ty105 := ⟨by kernel_rfl, by kernel_rfl, by kernel_rfl⟩
def ty106 : TyI := ⟨1, 8, .nilFunc, .other⟩
theorem tyOk106 : TyOk Try.prog 106 ty106 := ⟨by kernel_rfl, by kernel_rfl, by kernel_rfl⟩
def ty107 : TyI := ⟨1, 8, .nilFunc, .other⟩
theorem tyOk107 : TyOk Try.prog 107 ty107 := ⟨by kernel_rfl, by kernel_rfl, by kernel_rfl⟩
def ty108 : TyI := ⟨1, 8, .nilFunc, .other⟩
theorem tyOk108 : TyOk Try.prog 108 ty108 := ⟨by kernel_rfl, by kernel_rfl, by kernel_rfl⟩
def ty109 : TyI := ⟨1, 24, .slice none 0 0, .slc 51 4 64⟩
theorem tyOk109 : TyOk Try.prog 109 ty109 := ⟨by kernel_rfl, by kernel_rfl, by kernel_rfl⟩
def ty111 : TyI := ⟨1, 8, .nilFunc, .other⟩
theorem tyOk111 : TyOk Try.prog 111 ty111 := ⟨by kernel_rfl, by kernel_rfl, by kernel_rfl⟩
def ty112 : TyI := ⟨1, 8, .nilFunc, .other⟩
theorem tyOk112 : TyOk Try.prog 112 ty112 := ⟨by kernel_rfl, by kernel_rfl, by kernel_rfl⟩
def ty113 : TyI := ⟨1, 8, .nilFunc, .other⟩
theorem tyOk113 : TyOk Try.prog 113 ty113 := ⟨by kernel_rfl, by kernel_rfl, by kernel_rfl⟩
def ty114 : TyI := ⟨1, 8, .nilFunc, .other⟩
theorem tyOk114 : TyOk Try.prog 114 ty114 := ⟨by kernel_rfl, by kernel_rfl, by kernel_rfl⟩
def ty115 : TyI := ⟨1, 8, .nilFunc, .other⟩
theorem tyOk115 : TyOk Try.prog 115 ty115 := ⟨by kernel_rfl, by kernel_rfl, by kernel_rfl⟩
def ty116 : TyI := ⟨3, 24, .agg #[.nilFunc, .nilFunc, .nilFunc], .strct [(0, 1, some false), (1, 1, some false), (2, 1, some false)]⟩
theorem tyOk116 : TyOk Try.prog 116 ty116 := ⟨by kernel_rfl, by kernel_rfl, by kernel_rfl⟩
def ty117 : TyI := ⟨3, 24, .agg #[.nilFunc, .nilFunc, .nilFunc], .strct [(0, 1, some false), (1, 1, some false), (2, 1, some false)]⟩
theorem tyOk117 : TyOk Try.prog 117 ty117 := ⟨by kernel_rfl, by kernel_rfl, by kernel_rfl⟩
def ty118 : TyI := ⟨6, 48, .agg #[.nilFunc, .nilFunc, .nilFunc, .nilFunc, .nilFunc, .nilFunc], .arr 2 117 3 (some true)⟩
theorem tyOk118 : TyOk Try.prog 118 ty118 := ⟨by kernel_rfl, by kernel_rfl, by kernel_rfl⟩
def ty119 : TyI := ⟨1, 8, .nilFunc, .other⟩
theorem tyOk119 : TyOk Try.prog 119 ty119 := ⟨by kernel_rfl, by kernel_rfl, by kernel_rfl⟩
def ty120 : TyI := ⟨1, 8, .nilFunc, .other⟩
theorem tyOk120 : TyOk Try.prog 120 ty120 := ⟨by kernel_rfl, by kernel_rfl, by kernel_rfl⟩
def ty121 : TyI := ⟨1, 8, .nilFunc, .other⟩
theorem tyOk121 : TyOk Try.prog 121 ty121 := ⟨by kernel_rfl, by kernel_rfl, by kernel_rfl⟩
def ty123 : TyI := ⟨1, 8, .nilFunc, .other⟩
theorem tyOk123 : TyOk Try.prog 123 ty123 := ⟨by kernel_rfl, by kernel_rfl, by kernel_rfl⟩
def ty124 : TyI := ⟨1, 8, .nilFunc, .other⟩
theorem tyOk124 : TyOk Try.prog 124 ty124 := ⟨by kernel_rfl, by kernel_rfl, by kernel_rfl⟩
def ty126 : TyI := ⟨1, 8, .nilFunc, .other⟩
theorem tyOk126 : TyOk Try.prog 126 ty126 := ⟨by kernel_rfl, by kernel_rfl, by kernel_rfl⟩
def ty127 : TyI := ⟨1, 8, .nilFunc, .other⟩
theorem tyOk127 : TyOk Try.prog 127 ty127 := ⟨by kernel_rfl, by kernel_rfl, by kernel_rfl⟩
def ty128 : TyI := ⟨1, 8, .nilFunc, .other⟩
theorem tyOk128 : TyOk Try.prog 128 ty128 := ⟨by kernel_rfl, by kernel_rfl, by kernel_rfl⟩
def ty130 : TyI := ⟨1, 8, .nilFunc, .other⟩
theorem tyOk130 : TyOk Try.prog 130 ty130 := ⟨by kernel_rfl, by kernel_rfl, by kernel_rfl⟩
def ty131 : TyI := ⟨1, 8, .nilFunc, .other⟩
theorem tyOk131 : TyOk Try.prog 131 ty131 := ⟨by kernel_rfl, by kernel_rfl, by kernel_rfl⟩
def ty132 : TyI := ⟨1, 8, .nilFunc, .other⟩
theorem tyOk132 : TyOk Try.prog 132 ty132 := ⟨by kernel_rfl, by kernel_rfl, by kernel_rfl⟩
def ty133 : TyI := ⟨1, 8, .nilFunc, .other⟩
theorem tyOk133 : TyOk Try.prog 133 ty133 := ⟨by kernel_rfl, by kernel_rfl, by kernel_rfl⟩
def ty134 : TyI := ⟨1, 8, .nilFunc, .other⟩
theorem tyOk134 : TyOk Try.prog 134 ty134 := ⟨by kernel_rfl, by kernel_rfl, by kernel_rfl⟩
def ty135 : TyI := ⟨1, 8, .nilFunc, .other⟩
theorem tyOk135 : TyOk Try.prog 135 ty135 := ⟨by kernel_rfl, by kernel_rfl, by kernel_rfl⟩
def ty136 : TyI := ⟨1, 8, .nilFunc, .other⟩
theorem tyOk136 : TyOk Try.prog 136 ty136 := ⟨by kernel_rfl, by kernel_rfl, by kernel_rfl⟩
def ty137 : TyI := ⟨1, 8, .nilFunc, .other⟩
theorem tyOk137 : TyOk Try.prog 137 ty137 := ⟨by kernel_rfl, by kernel_rfl, by kernel_rfl⟩
def ty138 : TyI := ⟨1, 8, .nilFunc, .other⟩
theorem tyOk138 : TyOk Try.prog 138 ty138 := ⟨by kernel_rfl, by kernel_rfl, by kernel_rfl⟩
def ty139 : TyI := ⟨1, 8, .nilFunc, .other⟩
theorem tyOk139 : TyOk Try.prog 139 ty139 := ⟨by kernel_rfl, by kernel_rfl, by kernel_rfl⟩
def ty140 : TyI := ⟨1, 8, .nilFunc, .other⟩
theorem tyOk140 : TyOk Try.prog 140 ty140 := ⟨by kernel_rfl, by kernel_rfl, by kernel_rfl⟩
def ty142 : TyI := ⟨1, 8, .nilFunc, .other⟩
theorem tyOk142 : TyOk Try.prog 142 ty142 := ⟨by kernel_rfl, by kernel_rfl, by kernel_rfl⟩
def ty143 : TyI := ⟨1, 8, .nilFunc, .other⟩
theorem tyOk143 : TyOk Try.prog 143 ty143 := ⟨by kernel_rfl, by kernel_rfl, by kernel_rfl⟩
def ty144 : TyI := ⟨1, 8, .nilFunc, .other⟩
theorem tyOk144 : TyOk Try.prog 144 ty144 := ⟨by kernel_rfl, by kernel_rfl, by kernel_rfl⟩
def ty145 : TyI := ⟨1, 8, .nilFunc, .other⟩
theorem tyOk145 : TyOk Try.prog 145 ty145 := ⟨by kernel_rfl, by kernel_rfl, by kernel_rfl⟩
def ty146 : TyI := ⟨1, 8, .nilFunc, .other⟩
theorem tyOk146 : TyOk Try.prog 146 ty146 := ⟨by kernel_rfl, by kernel_rfl, by kernel_rfl⟩
def ty147 : TyI := ⟨1, 8, .nilFunc, .other⟩
theorem tyOk147 : TyOk Try.prog 147 ty147 := ⟨by kernel_rfl, by kernel_rfl, by kernel_rfl⟩
def ty148 : TyI := ⟨1, 8, .int .u64 0, .int .u64⟩
theorem tyOk148 : TyOk Try.prog 148 ty148 := ⟨by kernel_rfl, by kernel_rfl, by kernel_rfl⟩
def ty149 : TyI := ⟨1, 8, .nilFunc, .other⟩
theorem tyOk149 : TyOk Try.prog 149 ty149 := ⟨by kernel_rfl, by kernel_rfl, by kernel_rfl⟩
def ty150 : TyI := ⟨1, 8, .nilFunc, .other⟩
theorem tyOk150 : TyOk Try.prog 150 ty150 := ⟨by kernel_rfl, by kernel_rfl, by kernel_rfl⟩
def ty151 : TyI := ⟨1, 8, .nilFunc, .other⟩
theorem tyOk151 : TyOk Try.prog 151 ty151 := ⟨by kernel_rfl, by kernel_rfl, by kernel_rfl⟩
def ty152 : TyI := ⟨1, 8, .nilFunc, .other⟩
theorem tyOk152 : TyOk Try.prog 152 ty152 := ⟨by kernel_rfl, by kernel_rfl, by kernel_rfl⟩
def ty153 : TyI := ⟨1, 8, .nilFunc, .other⟩
theorem tyOk153 : TyOk Try.prog 153 ty153 := ⟨by kernel_rfl, by kernel_rfl, by kernel_rfl⟩
def ty154 : TyI := ⟨1, 8, .nilFunc, .other⟩
theorem tyOk154 : TyOk Try.prog 154 ty154 := ⟨by kernel_rfl, by kernel_rfl, by kernel_rfl⟩
def ty155 : TyI := ⟨1, 8, .nilFunc, .other⟩
theorem tyOk155 : TyOk Try.prog 155 ty155 := ⟨by kernel_rfl, by kernel_rfl, by kernel_rfl⟩
def ty156 : TyI := ⟨4, 40, .agg #[.pointer none, .pointer none, .pointer none, .string ByteArray.empty], .strct [(0, 1, some false), (1, 1, some false), (2, 1, some false), (3, 1, some false)]⟩
theorem tyOk156 : TyOk Try.prog 156 ty156 := ⟨by kernel_rfl, by kernel_rfl, by kernel_rfl⟩
def ty157 : TyI := ⟨4, 40, .agg #[.pointer none, .pointer none, .pointer none, .string ByteArray.empty], .strct [(0, 1, some false), (1, 1, some false), (2, 1, some false), (3, 1, some false)]⟩
theorem tyOk157 : TyOk Try.prog 157 ty157 := ⟨by kernel_rfl, by kernel_rfl, by kernel_rfl⟩
def ty161 : TyI := ⟨1, 8, .nilFunc, .other⟩
theorem tyOk161 : TyOk Try.prog 161 ty161 := ⟨by kernel_rfl, by kernel_rfl, by kernel_rfl⟩
def ty162 : TyI := ⟨1, 1, .int .u8 0, .int .u8⟩
theorem tyOk162 : TyOk Try.prog 162 ty162 := ⟨by kernel_rfl, by kernel_rfl, by kernel_rfl⟩
def ty163 : TyI := ⟨1, 1, .int .u8 0, .int .u8⟩
theorem tyOk163 : TyOk Try.prog 163 ty163 := ⟨by kernel_rfl, by kernel_rfl, by kernel_rfl⟩
def ty164 : TyI := ⟨1, 8, .nilFunc, .other⟩
theorem tyOk164 : TyOk Try.prog 164 ty164 := ⟨by kernel_rfl, by kernel_rfl, by kernel_rfl⟩
def ty165 : TyI := ⟨1, 8, .pointer none, .other⟩
theorem tyOk165 : TyOk Try.prog 165 ty165 := ⟨by kernel_rfl, by kernel_rfl, by kernel_rfl⟩
def ty166 : TyI := ⟨1, 4, .int .i32 0, .int .i32⟩
theorem tyOk166 : TyOk Try.prog 166 ty166 := ⟨by kernel_rfl, by kernel_rfl, by kernel_rfl⟩
def ty167 : TyI := ⟨1, 4, .int .i32 0, .int .i32⟩
theorem tyOk167 : TyOk Try.prog 167 ty167 := ⟨by kernel_rfl, by kernel_rfl, by kernel_rfl⟩
def ty168 : TyI := ⟨11, 48, .agg #[.int .u64 0, .int .u64 0, .int .u32 0, .int .u8 0, .int .u8 0, .int .u8 0, .int .u8 0, .nilFunc, .pointer none, .int .i32 0, .int .i32 0], .strct [(0, 1, some false), (1, 1, some false), (2, 1, some false), (3, 1, some false), (4, 1, some false), (5, 1, some false), (6, 1, some false), (7, 1, some false), (8, 1, some false), (9, 1, some false), (10, 1, some false)]⟩
theorem tyOk168 : TyOk Try.prog 168 ty168 := ⟨by kernel_rfl, by kernel_rfl, by kernel_rfl⟩
def ty169 : TyI := ⟨11, 48, .agg #[.int .u64 0, .int .u64 0, .int .u32 0, .int .u8 0, .int .u8 0, .int .u8 0, .int .u8 0, .nilFunc, .pointer none, .int .i32 0, .int .i32 0], .strct [(0, 1, some false), (1, 1, some false), (2, 1, some false), (3, 1, some false), (4, 1, some false), (5, 1, some false), (6, 1, some false), (7, 1, some false), (8, 1, some false), (9, 1, some false), (10, 1, some false)]⟩
theorem tyOk169 : TyOk Try.prog 169 ty169 := ⟨by kernel_rfl, by kernel_rfl, by kernel_rfl⟩
def tab : List (Nat × TyI) := [(1, ty1), (2, ty2), (3, ty3), (4, ty4), (5, ty5), (6, ty6), (7, ty7), (8, ty8), (9, ty9), (10, ty10), (11, ty11), (12, ty12), (13, ty13), (14, ty14), (15, ty15), (16, ty16), (17, ty17), (18, ty18), (19, ty19), (21, ty21), (22, ty22), (23, ty23), (24, ty24), (25, ty25), (26, ty26), (27, ty27), (28, ty28), (29, ty29), (30, ty30), (31, ty31), (32, ty32), (33, ty33), (34, ty34), (35, ty35), (36, ty36), (37, ty37), (38, ty38), (40, ty40), (41, ty41), (42, ty42), (43, ty43), (44, ty44), (45, ty45), (46, ty46), (47, ty47), (48, ty48), (49, ty49), (50, ty50), (51, ty51), (52, ty52), (53, ty53), (55, ty55), (56, ty56), (58, ty58), (59, ty59), (60, ty60), (61, ty61), (62, ty62), (63, ty63), (64, ty64), (65, ty65), (66, ty66), (67, ty67), (68, ty68), (70, ty70), (72, ty72), (73, ty73), (74, ty74), (75, ty75), (77, ty77), (78, ty78), (79, ty79), (80, ty80), (81, ty81), (82, ty82), (83, ty83), (84, ty84), (85, ty85), (86, ty86), (87, ty87), (88, ty88), (89, ty89), (90, ty90), (92, ty92), (93, ty93), (94, ty94), (95, ty95), (96, ty96), (97, ty97), (98, ty98), (99, ty99), (100, ty100), (101, ty101), (102, ty102), (103, ty103), (104, ty104), (105, ty105), (106, ty106), (107, ty107), (108, ty108), (109, ty109), (111, ty111), (112, ty112), (113, ty113), (114, ty114), (115, ty115), (116, ty116), (117, ty117), (118, ty118), (119, ty119), (120, ty120), (121, ty121), (123, ty123), (124, ty124), (126, ty126), (127, ty127), (128, ty128), (130, ty130), (131, ty131), (132, ty132), (133, ty133), (134, ty134), (135, ty135), (136, ty136), (137, ty137), (138, ty138), (139, ty139), (140, ty140), (142, ty142), (143, ty143), (144, ty144), (145, ty145), (146, ty146), (147, ty147), (148, ty148), (149, ty149), (150, ty150), (151, ty151), (152, ty152), (153, ty153), (154, ty154), (155, ty155), (156, ty156), (157, ty157), (161, ty161), (162, ty162), (163, ty163), (164, ty164), (165, ty165), (166, ty166), (167, ty167), (168, ty168), (169, ty169)]
def AllOk (P : Program) : List (Nat × TyI) → Prop
  | [] => True
  | (t, i) :: r => TyOk P t i ∧ AllOk P r
theorem AllOk.get {P : Program} : ∀ {l : List (Nat × TyI)}, AllOk P l → ∀ T i, lkT l T = some i → TyOk P T i
  | [], _, T, i, h => by simp [lkT] at h
  | (t, j) :: r, hl, T, i, h => by
    simp only [lkT] at h
    split at h
    · rename_i hb
      have := Nat.eq_of_beq_eq_true hb
      subst this
      injection h with h
      subst h
      exact hl.1
    · exact hl.2.get T i h
theorem tabOk : AllOk Try.prog tab := ⟨tyOk1, ⟨tyOk2, ⟨tyOk3, ⟨tyOk4, ⟨tyOk5, ⟨tyOk6, ⟨tyOk7, ⟨tyOk8, ⟨tyOk9, ⟨tyOk10, ⟨tyOk11, ⟨tyOk12, ⟨tyOk13, ⟨tyOk14, ⟨tyOk15, ⟨tyOk16, ⟨tyOk17, ⟨tyOk18, ⟨tyOk19, ⟨tyOk21, ⟨tyOk22, ⟨tyOk23, ⟨tyOk24, ⟨tyOk25, ⟨tyOk26, ⟨tyOk27, ⟨tyOk28, ⟨tyOk29, ⟨tyOk30, ⟨tyOk31, ⟨tyOk32, ⟨tyOk33, ⟨tyOk34, ⟨tyOk35, ⟨tyOk36, ⟨tyOk37, ⟨tyOk38, ⟨tyOk40, ⟨tyOk41, ⟨tyOk42, ⟨tyOk43, ⟨tyOk44, ⟨tyOk45, ⟨tyOk46, ⟨tyOk47, ⟨tyOk48, ⟨tyOk49, ⟨tyOk50, ⟨tyOk51, ⟨tyOk52, ⟨tyOk53, ⟨tyOk55, ⟨tyOk56, ⟨tyOk58, ⟨tyOk59, ⟨tyOk60, ⟨tyOk61, ⟨tyOk62, ⟨tyOk63, ⟨tyOk64, ⟨tyOk65, ⟨tyOk66, ⟨tyOk67, ⟨tyOk68, ⟨tyOk70, ⟨tyOk72, ⟨tyOk73, ⟨tyOk74, ⟨tyOk75, ⟨tyOk77, ⟨tyOk78, ⟨tyOk79, ⟨tyOk80, ⟨tyOk81, ⟨tyOk82, ⟨tyOk83, ⟨tyOk84, ⟨tyOk85, ⟨tyOk86, ⟨tyOk87, ⟨tyOk88, ⟨tyOk89, ⟨tyOk90, ⟨tyOk92, ⟨tyOk93, ⟨tyOk94, ⟨tyOk95, ⟨tyOk96, ⟨tyOk97, ⟨tyOk98, ⟨tyOk99, ⟨tyOk100, ⟨tyOk101, ⟨tyOk102, ⟨tyOk103, ⟨tyOk104, ⟨tyOk105, ⟨tyOk106, ⟨tyOk107, ⟨tyOk108, ⟨tyOk109, ⟨tyOk111, ⟨tyOk112, ⟨tyOk113, ⟨tyOk114, ⟨tyOk115, ⟨tyOk116, ⟨tyOk117, ⟨tyOk118, ⟨tyOk119, ⟨tyOk120, ⟨tyOk121, ⟨tyOk123, ⟨tyOk124, ⟨tyOk126, ⟨tyOk127, ⟨tyOk128, ⟨tyOk130, ⟨tyOk131, ⟨tyOk132, ⟨tyOk133, ⟨tyOk134, ⟨tyOk135, ⟨tyOk136, ⟨tyOk137, ⟨tyOk138, ⟨tyOk139, ⟨tyOk140, ⟨tyOk142, ⟨tyOk143, ⟨tyOk144, ⟨tyOk145, ⟨tyOk146, ⟨tyOk147, ⟨tyOk148, ⟨tyOk149, ⟨tyOk150, ⟨tyOk151, ⟨tyOk152, ⟨tyOk153, ⟨tyOk154, ⟨tyOk155, ⟨tyOk156, ⟨tyOk157, ⟨tyOk161, ⟨tyOk162, ⟨tyOk163, ⟨tyOk164, ⟨tyOk165, ⟨tyOk166, ⟨tyOk167, ⟨tyOk168, ⟨tyOk169, trivial⟩⟩⟩⟩⟩⟩⟩⟩⟩⟩⟩⟩⟩⟩⟩⟩⟩⟩⟩⟩⟩⟩⟩⟩⟩⟩⟩⟩⟩⟩⟩⟩⟩⟩⟩⟩⟩⟩⟩⟩⟩⟩⟩⟩⟩⟩⟩⟩⟩⟩⟩⟩⟩⟩⟩⟩⟩⟩⟩⟩⟩⟩⟩⟩⟩⟩⟩⟩⟩⟩⟩⟩⟩⟩⟩⟩⟩⟩⟩⟩⟩⟩⟩⟩⟩⟩⟩⟩⟩⟩⟩⟩⟩⟩⟩⟩⟩⟩⟩⟩⟩⟩⟩⟩⟩⟩⟩⟩⟩⟩⟩⟩⟩⟩⟩⟩⟩⟩⟩⟩⟩⟩⟩⟩⟩⟩⟩⟩⟩⟩⟩⟩⟩⟩⟩⟩⟩⟩⟩⟩⟩⟩⟩⟩⟩⟩⟩⟩⟩⟩⟩⟩⟩
noncomputable def E0 : Env := ⟨Try.prog, tab, fun T i h => tabOk.get T i h, by kernel_rfl, false, false, none, 0⟩
theorem enters_of {f : FuncId} {fn : Func} (hf : E0.P.funcs[f]? = some fn) (hn : (fn.name == "runtime.NumGoroutine") = false) (hb : fn.body.isNone = false) : Enters E0 f := fun args w => by
  unfold callFunc
  simp only [Sem.run_bind, run_program, Result.andThen_ok, hf, hn, hb, Bool.false_eq_true, if_false, Sem.run_pure]
end Go.Proofs.Ytcbdhigllelmcaa
namespace Go.Proofs.Ytcbdhigllelmcaa
open Go.RowKit

def aI (n : Int) : AV := .int .i64 n

theorem wrap_in (n : Int) (h : -9223372036854775808 ≤ n ∧ n ≤ 9223372036854775807) : IntKind.i64.wrap n = n := IntWalk.i64_in _ h
theorem rep_sl_of {α : Type} {w : World} {S : Nat → Prop} {sz : Nat} {enc : α → List Value} {a : α → AV} {v : Value} {l : List α} (h : Sl w S sz enc v l) (hlen : ∀ x ∈ l, (a x).cells.length = sz) (hlen2 : ∀ x ∈ l, (enc x).length = sz) (h1 : ∀ x ∈ l, ∀ u ∈ enc x, u.oneCell' = true)
    (hr : ∀ x ∈ l, ∀ j (hj : j < (a x).cells.length), Rep w S G0 ((a x).cells[j]) ((enc x).getD j undef)) : Rep w S G0 (.sl sz (l.map a)) v := by
  obtain ⟨A, c, rfl, hc, hx⟩ := h
  have e : l.length = (l.map a).length := by simp
  rw [e]
  refine .sl A c (fun k j => if h : k < l.length ∧ j < sz then (enc l[k]).getD j undef else .bool true) (by simpa using hc) (fun k hk => ?_) (fun h0 => ?_) (fun k hk j hj => ?_) (fun k j => ?_)
  · simp only [List.getElem_map]; exact hlen _ (List.getElem_mem _)
  · obtain ⟨b, off, hA, hS, hb, hcell⟩ := hx (by simpa using h0)
    refine ⟨b, off, hA, hS, hb, fun k j hk hj => ?_⟩
    have hk' : k < l.length := by simpa using hk
    rw [dif_pos ⟨hk', hj⟩]
    refine hcell k hk' j _ ?_
    have hl := hlen2 _ (List.getElem_mem hk')
    rw [List.getD_eq_getElem?_getD, List.getElem?_eq_getElem (by omega)]
    rfl
  · have hk' : k < l.length := by simpa using hk
    simp only [List.getElem_map] at hj ⊢
    have hl := hlen _ (List.getElem_mem hk')
    rw [dif_pos ⟨hk', by omega⟩]
    exact hr _ (List.getElem_mem hk') j hj
  · by_cases h : k < l.length ∧ j < sz
    · rw [dif_pos h]
      have hl := hlen2 _ (List.getElem_mem h.1)
      rw [List.getD_eq_getElem?_getD, List.getElem?_eq_getElem (by omega)]
      exact h1 _ (List.getElem_mem h.1) _ (List.getElem_mem _)
    · rw [dif_neg h]; rfl
theorem sl_of_rep {α : Type} {w : World} {S : Nat → Prop} {γ : Gam} {sz : Nat} {enc : α → List Value} {a : α → AV} {v : Value} {l : List α} (h : Rep w S γ (.sl sz (l.map a)) v) (hl : ∀ x ∈ l, (enc x).length = (a x).cells.length)
    (hr : ∀ x ∈ l, ∀ j (hj : j < (a x).cells.length) u, Rep w S G0 ((a x).cells[j]) u → (enc x)[j]? = some u) : Sl w S sz enc v l := by
  obtain ⟨A, c, rfl, hc, hlen, cell, hb, hrr, _⟩ := h.sl_inv
  refine ⟨A, c, by simp, by simpa using hc, fun h0 => ?_⟩
  obtain ⟨b, off, hA, hS, hb', hcell⟩ := hb (by simpa using h0)
  refine ⟨b, off, hA, hS, hb', fun k hk j u hu => ?_⟩
  have hk' : k < (l.map a).length := by simpa using hk
  have hj0 := (List.getElem?_eq_some_iff.1 hu).1
  have hll := hl _ (List.getElem_mem hk)
  have hlk := hlen k hk'
  simp only [List.getElem_map] at hlk
  have hj : j < (a l[k]).cells.length := by omega
  rw [hcell k j hk' (by omega)]
  have h2 := hrr k hk' j (by simpa using hj)
  simp only [List.getElem_map] at h2
  have h3 := hr _ (List.getElem_mem hk) j hj _ h2
  rw [hu] at h3
  exact h3.symm

theorem getD4 {vs : Array Value} (h : vs.size = 4) : vs = #[vs.getD 0 undef, vs.getD 1 undef, vs.getD 2 undef, vs.getD 3 undef] := by
  obtain ⟨l⟩ := vs
  match l, h with
  | [a, b, c, d], _ => rfl
theorem getD2 {vs : Array Value} (h : vs.size = 2) : vs = #[vs.getD 0 undef, vs.getD 1 undef] := by
  obtain ⟨l⟩ := vs
  match l, h with
  | [a, b], _ => rfl
theorem getD1 {vs : Array Value} (h : vs.size = 1) : vs = #[vs.getD 0 undef] := by
  obtain ⟨l⟩ := vs
  match l, h with
  | [a], _ => rfl
theorem getD3 {vs : Array Value} (h : vs.size = 3) : vs = #[vs.getD 0 undef, vs.getD 1 undef, vs.getD 2 undef] := by
  obtain ⟨l⟩ := vs
  match l, h with
  | [a, b, c], _ => rfl

section
variable {fr : Bool} {f : FuncId} {a b c res : AV}
theorem belE0 {w w' : World} (h : Below w.heap.size w w') : BelE E0 w w' := ⟨h, fun h => Bool.noConfusion (show false = true from h)⟩
theorem Con.of1 (he : Enters E0 f) (h : ∀ S w x, Rep w S G0 a x → Calls E0.P f #[x] w fun e w' => ∃ v, e = .returned v ∧ Below w.heap.size w w' ∧ Rep w' (fun b => (fr = false ∧ S b) ∨ w.heap.size ≤ b) G0 res v) : Con E0 fr f [a] res :=
  ⟨he, fun S w vs ⟨hl, hr⟩ => by
    have e := getD1 hl
    have h0 := hr 0 (by simp)
    rw [e]
    exact (h S w _ h0).mono (fun e w' ⟨v, h1, h2, h3⟩ => ⟨v, h1, belE0 h2, h3⟩)⟩
theorem Con.of2 (he : Enters E0 f) (h : ∀ S w x y, Rep w S G0 a x → Rep w S G0 b y → Calls E0.P f #[x, y] w fun e w' => ∃ v, e = .returned v ∧ Below w.heap.size w w' ∧ Rep w' (fun b => (fr = false ∧ S b) ∨ w.heap.size ≤ b) G0 res v) : Con E0 fr f [a, b] res :=
  ⟨he, fun S w vs ⟨hl, hr⟩ => by
    have e := getD2 hl
    have h0 := hr 0 (by simp)
    have h1 := hr 1 (by simp)
    rw [e]
    exact (h S w _ _ h0 h1).mono (fun e w' ⟨v, h1, h2, h3⟩ => ⟨v, h1, belE0 h2, h3⟩)⟩
theorem Con.of3 (he : Enters E0 f) (h : ∀ S w x y z, Rep w S G0 a x → Rep w S G0 b y → Rep w S G0 c z → Calls E0.P f #[x, y, z] w fun e w' => ∃ v, e = .returned v ∧ Below w.heap.size w w' ∧ Rep w' (fun b => (fr = false ∧ S b) ∨ w.heap.size ≤ b) G0 res v) : Con E0 fr f [a, b, c] res :=
  ⟨he, fun S w vs ⟨hl, hr⟩ => by
    have e := getD3 hl
    have h0 := hr 0 (by simp)
    have h1 := hr 1 (by simp)
    have h2 := hr 2 (by simp)
    rw [e]
    exact (h S w _ _ _ h0 h1 h2).mono (fun e w' ⟨v, h1, h2, h3⟩ => ⟨v, h1, belE0 h2, h3⟩)⟩
end
end Go.Proofs.Ytcbdhigllelmcaa
namespace Go.Proofs.Ytcbdhigllelmcaa
open Go.ChangeShapes Go.WideShapes Go.ChangeAt Go.RowKit

theorem args_three {w : World} {S : Nat → Prop} {a b c : AV} {x y z : Value} (ha : Rep w S G0 a x) (hb : Rep w S G0 b y) (hc : Rep w S G0 c z) : Args w S [a, b, c] #[x, y, z] :=
  ⟨rfl, fun i hi => by
    have hi' : i < 3 := hi
    rcases i with _ | _ | _ | i
    · exact ha
    · exact hb
    · exact hc
    · omega⟩
theorem own_knob : ownKnob Try.prog.godebug = none := by kernel_rfl
theorem laid_out : laidOutB Try.prog = true := by kernel_rfl

section
variable {H : Type} {enc : TypeId × Value → H}
theorem trodAll_stays {W W' : World} {sp' : Nat → Bool} (hb : Below W.heap.size W W') (ts : List TypeId) : ∀ (vs : List Value) (ds : List (DataW H)) (p : List MemPlace), ts.all (fun t => Try.prog.readableRec t && decide (t < Try.prog.types.size)) = true →
    DataW.TrodAll enc Try.prog W 0 (fun _ => true) true ts vs ds p → (∀ x ∈ p, x.block < W.heap.size) → (∀ x ∈ p, sp' x.block = true) → DataW.TrodAll enc Try.prog W' 0 sp' true ts vs ds p := by
  induction ts with
  | nil =>
    intro vs ds p _ h _ _
    match vs, ds, h with
    | [], [], h => exact h
    | _ :: _, _, h => exact h.elim
    | [], _ :: _, h => exact h.elim
  | cons t ts ih =>
    intro vs ds p hr h hlt hs
    match vs, ds, h with
    | v :: vs, d :: ds, h =>
      obtain ⟨q, r, h1, h2, rfl⟩ := h
      have hr1 : Try.prog.readableRec t = true ∧ t < Try.prog.types.size := by
        have := List.all_eq_true.mp hr t (List.mem_cons_self ..)
        rw [Bool.and_eq_true, decide_eq_true_eq] at this; exact this
      have hr2 : ts.all (fun t => Try.prog.readableRec t && decide (t < Try.prog.types.size)) = true :=
        List.all_eq_true.mpr fun x hx => List.all_eq_true.mp hr x (List.mem_cons_of_mem _ hx)
      exact ⟨q, r, WideElems.Trod_stays laid_out hr1.1 hr1.2 h1 (fun x hx => hb.same (hlt x (List.mem_append_left _ hx))) (fun x hx => hs x (List.mem_append_left _ hx)),
        ih vs ds r hr2 h2 (fun x hx => hlt x (List.mem_append_right _ hx)) (fun x hx => hs x (List.mem_append_right _ hx)), rfl⟩
    | [], _, h => exact h.elim
    | _ :: _, [], h => exact h.elim

theorem trodAll_len {W : World} {b : Nat} {sp : Nat → Bool} (ts : List TypeId) : ∀ (vs : List Value) (ds : List (DataW H)) (p : List MemPlace), DataW.TrodAll enc Try.prog W b sp true ts vs ds p → ds.length = ts.length := by
  induction ts with
  | nil =>
    intro vs ds p h
    match vs, ds, h with
    | [], [], h => rfl
    | _ :: _, _, h => exact h.elim
    | [], _ :: _, h => exact h.elim
  | cons t ts ih =>
    intro vs ds p h
    match vs, ds, h with
    | v :: vs, d :: ds, h =>
      obtain ⟨q, r, h1, h2, rfl⟩ := h
      simp only [List.length_cons]
      rw [ih vs ds r h2]
    | [], _, h => exact h.elim
    | _ :: _, [], h => exact h.elim

set_option maxRecDepth 100000 in
theorem law_lifted (os : Os) (started : os.Started) {f : FuncId} {fn : Func} {s : ChangeSpec} {fr : Bool} (hf : Try.prog.funcs[f]? = some fn) (hni : Try.prog.inits.idxOf? f = none)
    (hw : ∃ (w : World) (tape : Tape) (i : Input), w.os = os ∧ (w.forCall tape i).Shaped Try.checked.prog ∧ i.vars = [] ∧ Input.okWide Try.checked.prog (w.forCall tape i) .any w.heap.size f i ∧
      s.pre6 enc Try.checked.prog fn [] false (w.forCall tape i).memory i.args ∧ Assume.holds {} Try.checked.prog (lone (Frame.enter Try.checked.prog f i.args .normal) [] (w.forCall tape i)))
    (hvars : s.vars = []) (hres : fn.resultTypes = #[4]) (hread : fn.params.toList.all (fun t => Try.prog.readableRec t && decide (t < Try.prog.types.size)) = true)
    (hspec : ∀ ds : List (DataW H), ds.length = fn.params.size → s.fn H ds = { results := [.lit (.bool true)], args := ds })
    (hopen : ∀ (W : World) (base : Nat) (args : Array Value) (ds : List (DataW H)) (p : List MemPlace), (∀ (j : Nat) t v, fn.params[j]? = some t → args[j]? = some v → Value.okWide Try.prog W .any base t v) →
      DataW.TrodAll enc Try.prog W 0 (fun _ => true) true fn.params.toList args.toList ds p → ∃ avs, Args W (fun _ => True) avs args ∧ Con E0 fr f avs (.bool true)) :
    ReturnsInHanded {} Try.checked os f .any (s.pre6 enc Try.prog fn [] false) (s.post enc Try.prog fn false true false false) := by
  refine returnsInHanded_of_change (C := Try.checked) own_knob started hni hf hw ?_
  intro W base args ds gs before hval hW hcnd _
  have hW' := hW
  obtain ⟨p, q, hA, hV, rfl, hfz, hnd⟩ := hW
  have hlt : ∀ x ∈ p ++ q, x.block < W.heap.size := fun x hx => DataW.Whole.lt hW' x hx
  rw [hvars] at hV
  obtain ⟨rfl, rfl⟩ := trodVars_none hV
  obtain ⟨avs, hargs, hcon⟩ := hopen W base args ds p hval hA
  refine (hcon.2 (fun _ => True) W args hargs).mono fun e W' ⟨v, he, ⟨hb, _⟩, hv⟩ => ?_
  have hv := hv.bool_inv
  subst hv
  subst he
  have hdl : ds.length = fn.params.size := (trodAll_len _ _ _ _ hA).trans (by simp)
  have hsp : s.fn H (ds ++ []) = { results := [.lit (.bool true)], args := ds } := by rw [List.append_nil]; exact hspec ds hdl
  have hltp : ∀ x ∈ p, x.block < W.heap.size := fun x hx => hlt x (by simp [hx])
  have k0 := trodAll_stays (sp' := fun b => decide (b < W.heap.size)) hb _ _ _ _ hread hA hltp (fun x hx => by simpa using hltp x hx)
  have k1 := trodAll_stays (sp' := fun _ => true) hb _ _ _ _ hread hA hltp (fun x hx => rfl)
  have hrl : (Value.bool true).resultList fn.resultTypes.size = [.bool true] := by rw [hres]; rfl
  have hrt : fn.resultTypes.toList = [4] := by rw [hres]
  refine ⟨_, rfl, ds, [], _, [], p, [], hW', ?_, ?_, ?_, World.keptBut_mono (fun x hx => ⟨hx, ?_⟩) (hb.frame (· ∈ p ++ [])), fun h => ?_⟩
  · rw [hsp, hrt, hrl]; exact trodAll_mk1 (shut_bool Try.underlying4 true)
  · rw [hsp]; exact k0
  · rw [hsp, hvars]; exact rfl
  · exact Or.inr (Or.inl (by simpa using hx))
  · rw [hrt, hrl, hvars]
    refine ⟨?_, [.lit (.bool true)] ++ ds, [], p, ⟨p, [], ?_, rfl, by simp, ?_, fun h => by simp at h⟩, ?_⟩
    · rw [hres]; intro j t r ht hr
      match j with
      | 0 =>
        obtain rfl : 4 = t := Option.some.inj ht
        obtain rfl : Value.bool true = r := Option.some.inj hr
        exact okWide_bool_mk Try.underlying4 true
      | j + 1 => exact absurd hr (by simp)
    · exact trodAll_append k1 (trodAll_mk1 (shut_bool Try.underlying4 true))
    · intro b off hp
      have hin : MemPlace.cell b off ∈ p ++ [] := by simpa using hp
      rw [hb.frozen (hlt _ hin)]
      exact hfz b off hin
    · intro x hx _
      simpa using hx
end
end Go.Proofs.Ytcbdhigllelmcaa
namespace Go.Proofs.Ytcbdhigllelmcaa
open Go.ChangeShapes Go.WideShapes Go.ChangeAt Go.RowKit Go.Joins Go.Deep

section
variable {H : Type} {enc : TypeId × Value → H} {W : World} {base : Nat} {v : Value} {d : DataW H} {p : List MemPlace}
theorem spot_none {a : Addr} {u : Value} (h : W.cell? a = some u) : a.spot = none ∧ a.block < W.heap.size := by
  unfold World.cell? at h
  split at h
  · rename_i c _ _ hg
    split at h
    · cases h
    · rename_i hs
      refine ⟨by cases hh : a.spot with | none => rfl | some _ => simp [hh] at hs, ?_⟩
      rcases Nat.lt_or_ge a.block W.heap.size with hlt | hge
      · exact hlt
      · rw [Array.getElem?_eq_none hge] at hg; cases hg
  · cases h
theorem add_eq (b off k : Nat) : (⟨b, off, none⟩ : Addr).add k = ⟨b, off + k, none⟩ := by
  by_cases h : k = 0 <;> simp [Addr.add, h]
theorem mapM_some {α β : Type} {f : α → Option β} : ∀ {l : List α} {r : List β}, l.mapM f = some r → r.length = l.length ∧ ∀ k (hk : k < l.length) (hr : k < r.length), f l[k] = some r[k]
  | [], r, h => by simp at h; subst h; exact ⟨rfl, fun k hk => absurd hk (by simp)⟩
  | a :: l, r, h => by
    simp only [List.mapM_cons] at h
    cases ha : f a with
    | none => rw [ha] at h; simp at h
    | some b =>
      rw [ha] at h
      cases hl : l.mapM f with
      | none => rw [hl] at h; simp at h
      | some s =>
        rw [hl] at h
        simp at h
        subst h
        obtain ⟨i1, i2⟩ := mapM_some hl
        refine ⟨by simp [i1], fun k hk hr => ?_⟩
        cases k with
        | zero => exact ha
        | succ k => exact i2 k (by simpa using hk) (by simpa using hr)
theorem cells_each {a : Addr} {n : Nat} {cs : List Value} (h : W.cells? 0 a n = some cs) : cs.length = n ∧ ∀ j, j < n → W.cell? (a.add j) = some (cs.getD j undef) := by
  unfold World.cells? at h
  rw [if_pos (Nat.zero_le _)] at h
  obtain ⟨i1, i2⟩ := mapM_some h
  have hl : cs.length = n := by simpa using i1
  refine ⟨hl, fun j hj => ?_⟩
  have := i2 j (by simpa using hj) (by omega)
  rw [List.getElem_range] at this
  rw [this]
  simp [List.getElem?_eq_getElem (show j < cs.length by omega)]
set_option maxRecDepth 100000
def CellsOf {α : Type} (W : World) (a : α → AV) (m : α) (cs : List Value) : Prop :=
  cs.length = (a m).cells.length ∧ ∀ j (hj : j < (a m).cells.length), Rep W (fun _ => True) G0 ((a m).cells[j]) (cs.getD j undef) ∧ (cs.getD j undef).oneCell' = true
theorem sl_open {α : Type} {a : α → AV} {t e : TypeId} {sz : Nat} (ht : Try.prog.underlying t = some (.slice e)) (hsz : Try.prog.cellsOf e = sz) (h0 : 0 < sz) (i0 : Inhabited α) (hlen : ∀ m, (a m).cells.length = sz)
    (each : ∀ (n : Nat) (cs : List Value) (x : DataW H × List MemPlace), cs.length = sz → DataW.trod enc Try.prog W 0 (fun _ => true) true n e cs = some x → ∃ m : α, CellsOf W a m cs)
    {n : Nat} {u : Value} {x : DataW H × List MemPlace} (h : DataW.trod enc Try.prog W 0 (fun _ => true) true n t [u] = some x) : ∃ l : List α, Rep W (fun _ => True) G0 (.sl sz (l.map a)) u := by
  rcases open_slice ht h with ⟨h1, _⟩ | ⟨A, len, cap, m, n', D, Pl, h1, _, hlc, hm, hmm, _, hc⟩
  · simp only [List.cons.injEq, and_true] at h1
    subst h1
    exact ⟨[], .sl none 0 (fun _ _ => .bool true) (by simp) (fun k hk => absurd hk (by simp)) (fun h => absurd h (by simp)) (fun k hk => absurd hk (by simp)) (fun _ _ => rfl)⟩
  · simp only [List.cons.injEq, and_true] at h1
    subst h1
    simp only [if_true] at hmm
    subst hmm
    rw [hsz] at hc
    have every : ∀ i, ∃ q : α × List Value, i < len → W.cells? 0 (A.add (i * sz)) sz = some q.2 ∧ CellsOf W a q.1 q.2 := fun i => by
      by_cases hi : i < len
      · obtain ⟨cs, c1, c2⟩ := hc i (by omega)
        obtain ⟨k, hk⟩ := each n' cs _ (cells_each c1).1 c2
        exact ⟨(k, cs), fun _ => ⟨c1, hk⟩⟩
      · exact ⟨(i0.default, []), fun h => absurd h hi⟩
    obtain ⟨f, hf⟩ := Classical.axiomOfChoice every
    have hl : ((List.range len).map fun i => (f i).1).length = len := by simp
    refine ⟨(List.range len).map fun i => (f i).1, ?_⟩
    have e : len = (((List.range len).map fun i => (f i).1).map a).length := by simp
    have hcell : ∀ k j, k < len → j < sz → W.cell? ((A.add (k * sz)).add j) = some ((f k).2.getD j undef) := fun k j hk hj => (cells_each (hf k hk).1).2 j hj
    have : Rep W (fun _ => True) G0 (.sl sz (((List.range len).map fun i => (f i).1).map a)) (.slice (some A) (((List.range len).map fun i => (f i).1).map a).length m) := by
      refine .sl (some A) m (fun k j => if k < len ∧ j < sz then (f k).2.getD j undef else .bool true) (by simpa using hlc) (fun k hk => ?_) (fun h0' => ?_) (fun k hk j hj => ?_) (fun k j => ?_)
      · simp only [List.getElem_map]; exact hlen _
      · have hlp : 0 < len := by simpa using h0'
        have c0 := spot_none (hcell 0 0 hlp h0)
        obtain ⟨b, off, sp⟩ := A
        have e1 : sp = none := by simpa [Addr.add] using c0.1
        subst e1
        rw [add_eq, add_eq] at c0
        refine ⟨b, off, rfl, trivial, c0.2, fun k j hk hj => ?_⟩
        have hk' : k < len := by simpa using hk
        have := hcell k j hk' hj
        rw [add_eq, add_eq] at this
        rw [if_pos ⟨hk', hj⟩, ← this]
        congr 2
        omega
      · have hk' : k < len := by simpa using hk
        simp only [List.getElem_map, List.getElem_range] at hj ⊢
        have hj' : j < sz := by rw [hlen] at hj; exact hj
        rw [if_pos ⟨hk', hj'⟩]
        exact ((hf k hk').2.2 j hj).1
      · by_cases hkj : k < len ∧ j < sz
        · rw [if_pos hkj]
          exact ((hf k hkj.1).2.2 j (by rw [hlen]; exact hkj.2)).2
        · rw [if_neg hkj]; rfl
    rw [← e] at this
    exact this
theorem Rep.one_sl {sz : Nat} {xs : List AV} {u : Value} (h : Rep W (fun _ => True) G0 (.sl sz xs) u) : u.oneCell' = true := by
  cases h; rfl
theorem agg_of {α : Type} {a : α → AV} {m : α} {cs : Array Value} {xs : List AV} (hm : a m = .agg xs) (h : CellsOf W a m cs.toList) : Rep W (fun _ => True) G0 (a m) (.agg cs) := by
  obtain ⟨h1, h2⟩ := h
  rw [hm] at h1 h2 ⊢
  have hl : cs.size = xs.length := by simpa [AV.cells] using h1
  have g : ∀ i, cs.toList.getD i undef = cs.getD i undef := fun i => by
    by_cases hi : i < cs.size
    · simp [Array.getD, hi]
    · simp [Array.getD, hi]
  refine .agg _ hl (fun i hi => ?_) (fun i hi => ?_)
  · have := (h2 i hi).1
    rw [g] at this
    exact this
  · have := (h2 i (show i < xs.length by rw [← hl]; exact hi)).2
    rw [g] at this
    exact this
end
end Go.Proofs.Ytcbdhigllelmcaa
namespace Go.Proofs.Ytcbdhigllelmcaa
open Go.ChangeShapes Go.WideShapes Go.ChangeAt Go.RowKit Go.Joins Go.Deep

section
variable {H : Type} {enc : TypeId × Value → H} {W : World} {base : Nat} {v : Value} {d : DataW H} {p : List MemPlace}
set_option maxRecDepth 100000
def CellsL (W : World) (xs : List AV) (cs : List Value) : Prop :=
  cs.length = xs.length ∧ ∀ j (hj : j < xs.length), Rep W (fun _ => True) G0 (xs[j]) (cs.getD j undef) ∧ (cs.getD j undef).oneCell' = true
theorem CellsL.one {a : AV} {c : Value} (h : Rep W (fun _ => True) G0 a c) (h1 : c.oneCell' = true) : CellsL W [a] [c] := by
  refine ⟨rfl, fun j hj => ?_⟩
  have hj' : j < 1 := hj
  rcases j with _ | j
  · exact ⟨h, h1⟩
  · omega
theorem CellsL.append {xs ys : List AV} {cs ds : List Value} (h1 : CellsL W xs cs) (h2 : CellsL W ys ds) : CellsL W (xs ++ ys) (cs ++ ds) := by
  refine ⟨by rw [List.length_append, List.length_append, h1.1, h2.1], fun j hj => ?_⟩
  by_cases h : j < xs.length
  · have := h1.2 j h
    rw [List.getElem_append_left h]
    have e : (cs ++ ds).getD j undef = cs.getD j undef := by
      simp only [List.getD_eq_getElem?_getD]
      rw [List.getElem?_append_left (by rw [h1.1]; exact h)]
    rw [e]; exact this
  · have hj' : j - xs.length < ys.length := by rw [List.length_append] at hj; omega
    have := h2.2 (j - xs.length) hj'
    rw [List.getElem_append_right (by omega)]
    have e : (cs ++ ds).getD j undef = ds.getD (j - xs.length) undef := by
      simp only [List.getD_eq_getElem?_getD]
      rw [List.getElem?_append_right (by rw [h1.1]; omega), h1.1]
    rw [e]; exact this
theorem CellsL.cut {cs : List Value} {o s : Nat} {xs ys : List AV} (h1 : CellsL W xs ((cs.drop o).take s)) (h2 : CellsL W ys (cs.drop (o + s))) : CellsL W (xs ++ ys) (cs.drop o) := by
  have : cs.drop o = (cs.drop o).take s ++ cs.drop (o + s) := by rw [← List.drop_drop, List.take_append_drop]
  rw [this]
  exact h1.append h2
theorem CellsL.done {cs : List Value} {o : Nat} (h : cs.length ≤ o) : CellsL W [] (cs.drop o) := by
  rw [List.drop_eq_nil_of_le h]
  exact ⟨rfl, fun j hj => absurd hj (by simp)⟩
theorem cut_len {cs : List Value} {o s : Nat} (h : o + s ≤ cs.length) : ((cs.drop o).take s).length = s := by rw [List.length_take, List.length_drop]; omega
abbrev FO (enc : TypeId × Value → H) (W : World) (t : TypeId) (sz : Nat) {α : Type} (e : α → List AV) : Prop :=
  ∀ (n : Nat) (cs : List Value) (x : DataW H × List MemPlace), cs.length = sz → DataW.trod enc Try.prog W 0 (fun _ => true) true n t cs = some x → ∃ m : α, CellsL W (e m) cs
theorem fo_int {t : TypeId} (ht : Try.prog.underlying t = some (.int .i64)) : FO enc W t 1 (fun z : Int => [aI z]) := fun n cs x hl h => by
  obtain ⟨z, rfl, _⟩ := DataW.trod_int (k := .i64) ht h
  exact ⟨z, .one (.int _ _) rfl⟩
theorem fo_str {t : TypeId} (ht : Try.prog.underlying t = some .string) : FO enc W t 1 (fun z : ByteArray => [AV.str z]) := fun n cs x hl h => by
  obtain ⟨z, rfl, _⟩ := DataW.trod_string ht h
  exact ⟨z, .one (.str _) rfl⟩
theorem fo_sl {t e : TypeId} {sz : Nat} {α : Type} {a : α → AV} (ht : Try.prog.underlying t = some (.slice e)) (hsz : Try.prog.cellsOf e = sz) (h0 : 0 < sz) (i0 : Inhabited α) (hlen : ∀ m, (a m).cells.length = sz)
    (each : FO enc W e sz (fun m : α => (a m).cells)) : FO enc W t 1 (fun l : List α => [AV.sl sz (l.map a)]) := fun n cs x hl h => by
  match cs, hl with
  | [c], _ =>
    obtain ⟨l, hl⟩ := sl_open (a := a) ht hsz h0 i0 hlen each h
    exact ⟨l, .one hl hl.one_sl⟩
theorem arg_struct {t : TypeId} {fs : Array Field} {sz : Nat} {α : Type} {a : α → AV} (ht : Try.prog.underlying t = some (.struct fs)) (hsz : Try.prog.cellsOf t = sz) (ha : ∀ m, ∃ xs, a m = .agg xs) (each : FO enc W t sz (fun m : α => (a m).cells))
    (hv : Value.okWide Try.prog W .any base t v) (h : DataW.Trod enc Try.prog W 0 (fun _ => true) true t v d p) : ∃ m : α, Rep W (fun _ => True) G0 (a m) v := by
  obtain ⟨cs, rfl, hz⟩ := okWide_struct ht hv
  obtain ⟨fuel, hf⟩ := h
  obtain ⟨m, hm⟩ := each fuel cs.toList _ (by simpa using hz.trans hsz) hf
  obtain ⟨xs, hx⟩ := ha m
  exact ⟨m, agg_of hx hm⟩
end
end Go.Proofs.Ytcbdhigllelmcaa
namespace Go.Proofs.Ytcbdhigllelmcaa
open Go.RowKit

theorem drop_cons {α : Type} (l : List α) (k : Nat) (h : k < l.length) : l.drop k = l[k] :: l.drop (k + 1) := List.drop_eq_getElem_cons h

def sqLoop : Int → List Int → Int
  | _, [] => 0
  | last, n :: r => if n < 0 ∨ 1099511627776 < n then 2 else if n ≤ last then 14 else sqLoop n r
def sqCheck (t : Trk) : Int :=
  if t.next < 0 ∨ 1099511627777 < t.next then 2 else if 256 < t.beyond.length then 5 else sqLoop t.next t.beyond
def hasB (t : Trk) (seq : Int) : Bool := if seq < t.next then decide (0 ≤ seq) else t.beyond.contains seq

def ptValid (p : Pt) : Bool := decide (0 ≤ p.seq) && (decide (p.seq ≤ 1099511627777) && (decide (0 ≤ p.time) && decide (p.time ≤ 1099511627776)))
def implies (a b : Pt) : Bool := decide (a.seq ≤ b.seq) && decide (b.time ≤ a.time)
def ascLoop : Pt → List Pt → Int
  | _, [] => 0
  | last, p :: r => if ptValid p = false then 2 else if p.seq ≤ last.seq ∨ p.time ≤ last.time then 14 else ascLoop p r
def asc (t : Trk) (last : Pt) : Int :=
  if sqCheck t ≠ 0 then sqCheck t else if t.mark < -1 ∨ 1099511627776 < t.mark then 2 else if 256 < t.points.length then 5 else ascLoop last t.points
def puCheck (t : Trk) : Int := asc t ⟨t.next, t.mark⟩
def latest (mark : Int) (l : List Pt) (seq : Int) : Int := (l.filter fun p => decide (p.seq ≤ seq)).foldl (fun m p => max m p.time) mark

end Go.Proofs.Ytcbdhigllelmcaa
namespace Go.Proofs.Ytcbdhigllelmcaa
open Go.RowKit

def allowsT (t : Trk) (seq time : Int) : Bool × Int :=
  if puCheck t ≠ 0 then (false, puCheck t) else
  if seq < 0 ∨ 1099511627776 < seq ∨ time < 0 ∨ 1099511627776 < time then (false, 2) else
  if seq < t.next ∨ t.beyond.contains seq = true then (false, 7) else (decide (latest t.mark t.points seq < time), 0)
def zeroT : Trk := ⟨0, [], [], 0⟩
def settleT (t : Trk) : Trk × Int :=
  if asc t ⟨-1, -1⟩ ≠ 0 then (zeroT, asc t ⟨-1, -1⟩) else
  (⟨t.next, t.beyond, t.points.filter fun p => decide (t.next < p.seq) && decide (latest t.mark t.points t.next < p.time), latest t.mark t.points t.next⟩, 0)

def below (l : List Pt) (s : Int) : Nat := (l.filter fun p => decide (p.seq < s)).length
def addT (t : Trk) (p : Pt) : Trk × Int :=
  if puCheck t ≠ 0 then (zeroT, puCheck t) else if ptValid p = false then (zeroT, 2) else
  if p.time ≤ t.mark ∨ (t.points.any fun x => implies x p) = true then (t, 0) else
  if p.seq ≤ t.next then (⟨t.next, t.beyond, t.points.filter fun x => !implies p x, p.time⟩, 0) else
  if 256 < ((t.points.filter fun x => !implies p x).length + 1) then (zeroT, 5) else
  (⟨t.next, t.beyond, (t.points.filter fun x => !implies p x).take (below (t.points.filter fun x => !implies p x) p.seq) ++ p :: (t.points.filter fun x => !implies p x).drop (below (t.points.filter fun x => !implies p x) p.seq), t.mark⟩, 0)

end Go.Proofs.Ytcbdhigllelmcaa
namespace Go.Proofs.Ytcbdhigllelmcaa
open Go.RowKit

def aPt (p : Pt) : AV := .agg [aI p.seq, aI p.time]
def aInts (l : List Int) : AV := .sl 1 (l.map aI)
def aPts (l : List Pt) : AV := .sl 2 (l.map aPt)
def aTrk (t : Trk) : AV := .agg [aI t.next, aInts t.beyond, aPts t.points, aI t.mark]

end Go.Proofs.Ytcbdhigllelmcaa
namespace Go.Proofs.Ytcbdhigllelmcaa
open Go.RowKit

theorem ret_int {k : IntKind} {a b : Int} (h : a = b) : Ending.returned (.int k a) = .returned (.int k b) := by rw [h]
theorem ret_bool {a b : Bool} (h : a = b) : Ending.returned (.bool a) = .returned (.bool b) := by rw [h]

set_option maxHeartbeats 400000 in
theorem valid_any (s t : Int) (w : World) :
    Calls Try.prog 60 #[.agg #[.int .i64 s, .int .i64 t]] w fun e w' => e = .returned (.bool (ptValid ⟨s, t⟩)) ∧ Below w.heap.size w w' := by
  go_enter Try.func60, Try.ntmps60
  go_wp2
  all_goals (go_ret; exact ⟨ret_bool (by rw [Bool.eq_iff_iff]; simp only [ptValid, Bool.and_eq_true, decide_eq_true_eq, Bool.false_eq_true, false_iff, true_iff]; omega), by go_grown⟩)

set_option maxHeartbeats 400000 in
theorem implies_any (s t s' t' : Int) (w : World) :
    Calls Try.prog 84 #[.agg #[.int .i64 s, .int .i64 t], .agg #[.int .i64 s', .int .i64 t']] w fun e w' => e = .returned (.bool (implies ⟨s, t⟩ ⟨s', t'⟩)) ∧ Below w.heap.size w w' := by
  go_enter Try.func84, Try.ntmps84
  go_wp2
  all_goals (go_ret; exact ⟨ret_bool (by rw [Bool.eq_iff_iff]; simp only [implies, Bool.and_eq_true, decide_eq_true_eq, Bool.false_eq_true, false_iff, true_iff]; omega), by go_grown⟩)

set_option maxHeartbeats 400000 in
theorem sqCheck_any (t : Trk) (S : Nat → Prop) (v : Value) (w : World) (h : TrkV w S v t) :
    Calls Try.prog 59 #[v] w fun e w' => e = .returned (.int .i64 (sqCheck t)) ∧ Below w.heap.size w w' := by
  obtain ⟨vb, vp, rfl, hB, hP⟩ := h
  obtain ⟨A, c, rfl, hc, hcell⟩ := ints_form hB
  obtain ⟨next, l, pts, mark⟩ := t
  dsimp only at *
  have hc' := hide hcell; clear hcell
  have hgoal : Hid (sqCheck ⟨next, l, pts, mark⟩ = if next < 0 ∨ 1099511627777 < next then 2 else if 256 < l.length then 5 else sqLoop next l) := rfl
  go_enter Try.func59, Try.ntmps59
  go_wp2
  all_goals first
    | (go_ret; refine ⟨ret_int ?_, by go_grown⟩; rw [hgoal.out]; repeat (first | rw [if_pos (by omega)] | rw [if_neg (by omega)]))
    | skip
  go_loopw [3, 25] (fun last i wr => ∃ (k : Nat) (a : Int), k ≤ l.length ∧ i = .int .i64 k ∧ last = .int .i64 a ∧ Hid (sqLoop a (l.drop k) = sqLoop next l) ∧ Below w.heap.size w wr) (fun _ i _ => l.length - (intOf i).toNat)
  case atStart => exact ⟨0, _, Nat.zero_le _, rfl, rfl, rfl, by go_grown⟩
  case round =>
      obtain ⟨k, a, hk, rfl, rfl, hs, hb⟩ := hrel
      by_cases hlt : k < l.length
      · obtain ⟨b, off, rfl, hbl, hx⟩ := hc'.out k hlt
        have hx := cell_later hb hx
        have hs1 := hide (drop_cons l k hlt)
        generalize l[k] = n at *
        go_wp2
        all_goals first
          | (go_ret; refine ⟨ret_int ?_, hb⟩; rw [hgoal.out, if_neg (by omega), if_neg (by omega), ← hs.out, hs1.out, sqLoop]; repeat (first | rw [if_pos (by omega)] | rw [if_neg (by omega)]))
          | skip
        go_roundw
        case rel => exact ⟨k + 1, _, by omega, by go_num, rfl, by unfold Hid; rw [← hs.out, hs1.out, sqLoop, if_neg (by omega), if_neg (by omega)], hb⟩
        case measure => simp [intOf]; omega
      · go_wp2
        go_ret
        refine ⟨ret_int ?_, hb⟩
        rw [hgoal.out, if_neg (by omega), if_neg (by omega), ← hs.out, List.drop_eq_nil_of_le (by omega), sqLoop]

end Go.Proofs.Ytcbdhigllelmcaa
namespace Go.Proofs.Ytcbdhigllelmcaa
open Go.RowKit

theorem eok_int : EOk Try.prog 37 3 1 8 encI := eok_pt Try.underlying37 (by kernel_rfl) (by omega) (fun _ => rfl) (fun x u hu => by simp [encI] at hu; subst hu; rfl)
theorem eok_pts : EOk Try.prog 49 96 2 16 encP := eok_pt Try.underlying49 (by kernel_rfl) (by omega) (fun _ => rfl) (fun x u hu => by simp [encP] at hu; rcases hu with rfl | rfl <;> rfl)

end Go.Proofs.Ytcbdhigllelmcaa
namespace Go.Proofs.Ytcbdhigllelmcaa
open Go.RowKit

set_option maxHeartbeats 400000 in
theorem cloneI_any (l : List Int) (S : Nat → Prop) (v : Value) (w : World) (h : Sl w S 1 encI v l) (hl : l.length ≤ 1000000000) :
    Calls Try.prog 36 #[v] w (RetOwn 3 1 encI l w) := by
  obtain ⟨A, c, rfl, hc, _⟩ := h.form
  have hq := fun (W : World) => Lib.run_eql_slice_nil W 37 3 A l.length c 0 0 Try.underlying37
  have H := hide h
  cases A with
  | none =>
    have h0 : l = [] := h.none_nil
    subst h0
    clear h H hl hc
    simp only [List.length_nil, Option.isNone_none] at hq ⊢
    go_enter Try.func36, Try.ntmps36
    go_wp2
    go_ret
    exact ⟨none, 0, rfl, Own.nil_, by go_grown⟩
  | some ad =>
    clear h
    go_enter Try.func36, Try.ntmps36
    go_wp2_with (at_builtin; refine wpList_append_sl rfl _ _ rfl eok_int rfl Own.made_ rfl (H.out.alloc _) (by simp; omega) (by omega) (by simp) ?_; intro A' c' w1 ho hg _)
    go_ret
    exact ⟨A', c', rfl, ho, (Own.made_ (sz := 1) (enc := encI)).grown ((Below.refl _ _).alloc (Nat.le_refl _) _) (Nat.le_refl _) (by simp) hg⟩

set_option maxHeartbeats 400000 in
theorem cloneP_any (l : List Pt) (S : Nat → Prop) (v : Value) (w : World) (h : Sl w S 2 encP v l) (hl : l.length ≤ 1000000000) :
    Calls Try.prog 37 #[v] w (RetOwn 96 2 encP l w) := by
  obtain ⟨A, c, rfl, hc, _⟩ := h.form
  have hq := fun (W : World) => Lib.run_eql_slice_nil W 49 96 A l.length c 0 0 Try.underlying49
  have H := hide h
  cases A with
  | none =>
    have h0 : l = [] := h.none_nil
    subst h0
    clear h H hl hc
    simp only [List.length_nil, Option.isNone_none] at hq ⊢
    go_enter Try.func37, Try.ntmps37
    go_wp2
    go_ret
    exact ⟨none, 0, rfl, Own.nil_, by go_grown⟩
  | some ad =>
    clear h
    go_enter Try.func37, Try.ntmps37
    go_wp2_with (at_builtin; refine wpList_append_sl rfl _ _ rfl eok_pts rfl Own.made_ rfl (H.out.alloc _) (by simp; omega) (by omega) (by simp) ?_; intro A' c' w1 ho hg _)
    go_ret
    exact ⟨A', c', rfl, ho, (Own.made_ (sz := 2) (enc := encP)).grown ((Below.refl _ _).alloc (Nat.le_refl _) _) (Nat.le_refl _) (by simp) hg⟩

set_option maxHeartbeats 800000 in
theorem filteredP_any (l : List Pt) (p : Pt → Bool) (g : Nat) (lb : Array Value) (eg : ∀ args w, (callFunc g args).run Try.prog w = .ok (.enter g args) w)
    (S : Nat → Prop) (v : Value) (w : World) (h : Sl w S 2 encP v l) (hp : PredB Try.prog g lb (fun x => .agg (encP x).toArray) p w) (hl : l.length ≤ 1000000000) :
    Calls Try.prog 80 #[v, .func (.func g) #[] lb] w (RetOwn 96 2 encP (l.filter p) w) := by
  obtain ⟨A, c, rfl, hc, hcell⟩ := pts_form h
  have H := hide hcell
  have HP := hide hp
  clear hcell hp h
  go_enter Try.func80, Try.ntmps80
  go_wp2
  go_loopw [5, 10] (fun out i wr => ∃ (k : Nat) (A : Option Addr) (c : Nat), k ≤ l.length ∧ i = .int .i64 k ∧ out = .slice A ((l.take k).filter p).length c ∧ Hid (Own wr w.heap.size 96 2 encP (.slice A ((l.take k).filter p).length c) ((l.take k).filter p)) ∧ Below w.heap.size w wr) (fun _ i _ => l.length - (intOf i).toNat)
  case atStart => exact ⟨0, none, 0, Nat.zero_le _, rfl, rfl, Own.nil_, by go_grown⟩
  case round =>
    obtain ⟨k, A', c', hk, rfl, rfl, ho, hb⟩ := hrel
    by_cases hlt : k < l.length
    · obtain ⟨b, off, rfl, hbl, hx0, hx1⟩ := H.out k hlt
      have hx0 := cell_later hb hx0
      have hx1 := cell_later hb hx1
      have hsn := hide (filter_take_succ l p k hlt)
      have hlen := hide (filter_take_le l p k)
      generalize l[k] = x at *
      obtain ⟨x0, x1⟩ := x
      generalize hfl : (l.take k).filter p = fl at *
      clear hfl
      cases hq : p ⟨x0, x1⟩ with
      | false =>
        rw [hq] at hsn
        have hq' := hide hq
        clear hq
        go_wp2_with (go_at_fn g; refine (HP.out _ ⟨x0, x1⟩ ((hb.alloc hb.size _))).mono ?_; rintro e w1 ⟨rfl, hb1⟩; rw [hq'.out])
        go_roundw
        case rel =>
          have e := hsn.out
          rw [if_neg (by simp)] at e
          exact ⟨k + 1, _, _, by omega, by go_num, by rw [e], by rw [e]; exact ho.out.below (Below.next (by go_grown) hb1), Below.next (hb.alloc hb.size _) hb1⟩
        case measure => simp [intOf]; omega
      | true =>
        rw [hq] at hsn
        have hq' := hide hq
        clear hq
        go_wp2_with fail
        refine (HP.out _ ⟨x0, x1⟩ ((hb.alloc hb.size _))).mono ?_
        rintro e w1 ⟨rfl, hb1⟩
        have hbx0 := cell_later (a := ⟨wr.heap.size, 0, none⟩) (v := .int .i64 x0) hb1 (by simp)
        have hbx1 := cell_later (a := ⟨wr.heap.size, 1, none⟩) (v := .int .i64 x1) hb1 (by simp)
        rw [hq'.out]
        have hsl : Hid (Sl (w1.alloc (.cells #[.int .i64 x0, .int .i64 x1] 96)) (fun _ => True) 2 encP (.slice (some ⟨w1.heap.size, 0, none⟩) 1 1) [⟨x0, x1⟩]) := Sl.one_ (Nat.le_refl _) (by simp) trivial (by
          intro j u hu
          have hj : j < 2 := (List.getElem?_eq_some_iff.1 hu).1
          rw [World.cell?_alloc_new]
          simpa [encP] using hu)
        go_wp2_with (at_builtin; refine wpList_append_sl rfl _ _ rfl eok_pts rfl (ho.out.below (Below.next (Below.next ((Below.refl _ _).alloc (Nat.le_refl _) _) hb1) ((Below.refl _ _).alloc (Nat.le_refl _) _))) rfl hsl.out (by have := hlen.out; simp; omega) (by omega) ?hz ?_; rotate_left; intro A2 c2 w2 ho2 hg2 _)
        case hz => have h1 := hb1.size; have h2 := hb.size; rw [World.size_alloc] at h1 ⊢; omega
        have e := hsn.out
        rw [if_pos trivial] at e
        refine ⟨⟨k + 1, A2, c2, by omega, by go_num, by rw [e]; simp, by rw [e]; exact ho2, ?_⟩, by simp [intOf]; omega⟩
        have hz : w.heap.size ≤ (w1.alloc (.cells #[.int .i64 x0, .int .i64 x1] 96)).heap.size := by have h1 := hb1.size; have h2 := hb.size; rw [World.size_alloc] at h1 ⊢; omega
        exact (ho.out.below (Below.next (Below.next ((Below.refl _ _).alloc (Nat.le_refl _) _) hb1) ((Below.refl _ _).alloc (Nat.le_refl _) _))).grown (Below.next (hb.alloc hb.size _) (Below.next hb1 ((Below.refl _ _).alloc (Nat.le_refl _) _))) (Nat.le_refl _) hz hg2
    · go_wp2
      go_ret
      have e : l.take k = l := List.take_of_length_le (by omega)
      rw [e] at ho ⊢
      exact ⟨_, _, rfl, ho.out, hb⟩

end Go.Proofs.Ytcbdhigllelmcaa
namespace Go.Proofs.Ytcbdhigllelmcaa
open Go.RowKit

theorem latest1_pred (seq : Int) (g : Nat) (w : World) (hc : w.cell? ⟨g, 0, none⟩ = some (.int .i64 seq)) :
    PredB Try.prog 91 #[.pointer (some ⟨g, 0, none⟩)] (fun x => .agg (encP x).toArray) (fun p => decide (p.seq ≤ seq)) w := by
  intro W x hb
  have hc' := cell_later hb hc
  obtain ⟨x0, x1⟩ := x
  have hlt : g < W.heap.size := Nat.lt_of_lt_of_le (World.block_lt_of_cell? w _ hc) hb.size
  show Calls Try.prog 91 #[.agg #[.int .i64 x0, .int .i64 x1], .pointer (some ⟨g, 0, none⟩)] W _
  go_enter Try.func91, Try.ntmps91
  go_wp2
  go_ret
  exact ⟨rfl, by go_grown⟩

theorem add1_pred (q : Pt) (g : Nat) (w : World) (hc0 : w.cell? ⟨g, 0, none⟩ = some (.int .i64 q.seq)) (hc1 : w.cell? ⟨g, 1, none⟩ = some (.int .i64 q.time)) :
    PredB Try.prog 83 #[.pointer (some ⟨g, 0, none⟩)] (fun x => .agg (encP x).toArray) (fun x => implies x q) w := by
  intro W x hb
  have hc0' := cell_later hb hc0
  have hc1' := cell_later hb hc1
  obtain ⟨x0, x1⟩ := x
  obtain ⟨y0, y1⟩ := q
  have hlt : g < W.heap.size := Nat.lt_of_lt_of_le (World.block_lt_of_cell? w _ hc0) hb.size
  show Calls Try.prog 83 #[.agg #[.int .i64 x0, .int .i64 x1], .pointer (some ⟨g, 0, none⟩)] W fun e w' => e = .returned (.bool (implies ⟨x0, x1⟩ ⟨y0, y1⟩)) ∧ Below W.heap.size W w'
  generalize hr : implies ⟨x0, x1⟩ ⟨y0, y1⟩ = r
  have Hr := hide hr
  clear hr
  go_enter Try.func83, Try.ntmps83
  go_wp2_with fail
  refine (implies_any x0 x1 y0 y1 _).mono ?_
  rintro e w1 ⟨rfl, hb1⟩
  rw [Hr.out]
  go_wp2
  go_ret
  exact ⟨rfl, Below.next (by go_grown) hb1⟩

theorem add2_pred (q : Pt) (g : Nat) (w : World) (hc0 : w.cell? ⟨g, 0, none⟩ = some (.int .i64 q.seq)) (hc1 : w.cell? ⟨g, 1, none⟩ = some (.int .i64 q.time)) :
    PredB Try.prog 85 #[.pointer (some ⟨g, 0, none⟩)] (fun x => .agg (encP x).toArray) (fun x => !implies q x) w := by
  intro W x hb
  have hc0' := cell_later hb hc0
  have hc1' := cell_later hb hc1
  obtain ⟨x0, x1⟩ := x
  obtain ⟨y0, y1⟩ := q
  have hlt : g < W.heap.size := Nat.lt_of_lt_of_le (World.block_lt_of_cell? w _ hc0) hb.size
  show Calls Try.prog 85 #[.agg #[.int .i64 x0, .int .i64 x1], .pointer (some ⟨g, 0, none⟩)] W fun e w' => e = .returned (.bool (!implies ⟨y0, y1⟩ ⟨x0, x1⟩)) ∧ Below W.heap.size W w'
  generalize hr : implies ⟨y0, y1⟩ ⟨x0, x1⟩ = r
  have Hr := hide hr
  clear hr
  go_enter Try.func85, Try.ntmps85
  go_wp2_with fail
  refine (implies_any y0 y1 x0 x1 _).mono ?_
  rintro e w1 ⟨rfl, hb1⟩
  rw [Hr.out]
  go_wp2
  go_ret
  exact ⟨rfl, Below.next (by go_grown) hb1⟩

theorem add3_cmp (tgt : Pt) (w : World) :
    CmpB Try.prog 87 #[] (fun x => .agg (encP x).toArray) (.agg (encP tgt).toArray) (fun x => wrap64 (x.seq - tgt.seq)) w := by
  intro W x hb
  obtain ⟨x0, x1⟩ := x
  obtain ⟨y0, y1⟩ := tgt
  show Calls Try.prog 87 #[.agg #[.int .i64 x0, .int .i64 x1], .agg #[.int .i64 y0, .int .i64 y1]] W _
  go_enter Try.func87, Try.ntmps87
  go_wp2
  go_ret
  exact ⟨rfl, by go_grown⟩

theorem settle1_pred (next mark : Int) (g g' : Nat) (w : World) (hc0 : w.cell? ⟨g, 0, none⟩ = some (.int .i64 next)) (hc1 : w.cell? ⟨g', 3, none⟩ = some (.int .i64 mark)) :
    PredB Try.prog 81 #[.pointer (some ⟨g, 0, none⟩), .pointer (some ⟨g', 0, none⟩)] (fun x => .agg (encP x).toArray) (fun x => decide (next < x.seq) && decide (mark < x.time)) w := by
  intro W x hb
  have hc0' := cell_later hb hc0
  have hc1' := cell_later hb hc1
  obtain ⟨x0, x1⟩ := x
  have hlt : g < W.heap.size := Nat.lt_of_lt_of_le (World.block_lt_of_cell? w _ hc0) hb.size
  have hlt' : g' < W.heap.size := Nat.lt_of_lt_of_le (World.block_lt_of_cell? w _ hc1) hb.size
  show Calls Try.prog 81 #[.agg #[.int .i64 x0, .int .i64 x1], .pointer (some ⟨g, 0, none⟩), .pointer (some ⟨g', 0, none⟩)] W _
  go_enter Try.func81, Try.ntmps81
  go_wp2
  all_goals (go_ret; exact ⟨ret_bool (by simp <;> omega), by go_grown⟩)

set_option maxHeartbeats 800000 in
theorem latest_any (mark : Int) (l : List Pt) (seq : Int) (S : Nat → Prop) (v : Value) (w : World) (h : Pts w S v l) (hl : l.length ≤ 1000000000) :
    Calls Try.prog 77 #[.int .i64 mark, v, .int .i64 seq] w fun e w' => e = .returned (.int .i64 (latest mark l seq)) ∧ Below w.heap.size w w' := by
  obtain ⟨A, c, rfl, hc, _⟩ := pts_form h
  have H := hide h
  clear h
  have hgoal : Hid (latest mark l seq = (l.filter fun p => decide (p.seq ≤ seq)).foldl (fun m p => max m p.time) mark) := rfl
  generalize latest mark l seq = r at *
  have eg := Go.Proofs.enters_of (P := Try.prog) Try.func91 (by kernel_rfl) rfl
  have hfl : Hid ((l.filter fun p => decide (p.seq ≤ seq)).length ≤ 1000000000) := Nat.le_trans (List.length_filter_le _ _) hl
  go_enter Try.func77, Try.ntmps77
  go_wp2_with fail
  refine (filteredP_any l (fun p => decide (p.seq ≤ seq)) 91 _ eg S _ _ (H.out.below (by go_grown)) (latest1_pred seq w.heap.size _ (by simp)) hl).mono ?_
  rintro e w1 ⟨A1, c1, rfl, ho, hb1⟩
  generalize (l.filter fun p => decide (p.seq ≤ seq)) = m at *
  obtain ⟨A2, c2, he, hc2, hcell⟩ := pts_form (ho.sl (S := fun _ => True) eok_pts (fun _ _ => trivial))
  injection he with hA hn hc'
  subst hA; subst hc'
  have HM := hide hcell
  have hw1 : Below w.heap.size w w1 := Below.next (by go_grown) hb1
  have hml := hfl.out
  clear hcell ho hb1
  go_wp2
  go_loopw [0, 13] (fun vm i wr => ∃ (k : Nat) (a : Int), k ≤ m.length ∧ i = .int .i64 k ∧ vm = .int .i64 a ∧ Hid ((m.drop k).foldl (fun m p => max m p.time) a = r) ∧ Below w1.heap.size w1 wr) (fun _ i _ => m.length - (intOf i).toNat)
  case atStart => exact ⟨0, mark, Nat.zero_le _, rfl, rfl, hgoal.out.symm, Below.refl _ _⟩
  case round =>
    obtain ⟨k, a, hk, rfl, rfl, hs, hb⟩ := hrel
    by_cases hlt : k < m.length
    · obtain ⟨b, off, rfl, hbl, hx0, hx1⟩ := HM.out k hlt
      have hx0 := cell_later hb hx0
      have hx1 := cell_later hb hx1
      have hd := hide (drop_cons m k hlt)
      generalize m[k] = x at *
      obtain ⟨x0, x1⟩ := x
      go_wp2
      refine ⟨⟨k + 1, _, by omega, by go_num, rfl, ?_, ?_⟩, by simp [intOf]; omega⟩
      · unfold Hid
        have e : (if a < x1 then x1 else a) = max a x1 := by rw [Int.max_def]; split <;> split <;> omega
        first
          | rw [e, ← hs.out, hd.out, List.foldl_cons]
          | rw [← hs.out, hd.out, List.foldl_cons]
      · exact hb.alloc hb.size _
    · go_wp2
      go_ret
      exact ⟨ret_int (by rw [← hs.out, List.drop_eq_nil_of_le (by omega)]; rfl), Below.next hw1 hb⟩

end Go.Proofs.Ytcbdhigllelmcaa
namespace Go.Proofs.Ytcbdhigllelmcaa
open Go.RowKit

def RetTrk (t : Trk) (w0 : World) (r : Ending) (w' : World) : Prop :=
  ∃ A c A' c', r = .returned (.agg #[.int .i64 t.next, .slice A t.beyond.length c, .slice A' t.points.length c', .int .i64 t.mark]) ∧
    Own w' w0.heap.size 3 1 encI (.slice A t.beyond.length c) t.beyond ∧ Own w' w0.heap.size 96 2 encP (.slice A' t.points.length c') t.points ∧ Below w0.heap.size w0 w'

set_option maxHeartbeats 1600000 in
theorem own_any (t : Trk) (S : Nat → Prop) (v : Value) (w : World) (h : TrkV w S v t) (hl1 : t.beyond.length ≤ 1000000000) (hl2 : t.points.length ≤ 1000000000) :
    Calls Try.prog 79 #[v] w (RetTrk t w) := by
  obtain ⟨vb, vp, rfl, hB, hP⟩ := h
  obtain ⟨next, lb, l, mark⟩ := t
  dsimp only at *
  obtain ⟨A, c, rfl, hc, hcell⟩ := pts_form hP
  obtain ⟨Ab, cb, rfl, hcb, _⟩ := ints_form hB
  have HB := hide hB
  have HP := hide hP
  clear hcell hB hP
  go_enter Try.func79, Try.ntmps79
  go_wp2_with fail
  have hT0 : Hid (Blk (((w.alloc (.cells #[.int .i64 next, .slice Ab lb.length cb, .slice A l.length c, .int .i64 mark] 51)).alloc (.cells #[.int .i64 0, .slice none 0 0, .slice none 0 0, .int .i64 0] 51)).drew) w.heap.size 51 #[.int .i64 next, .slice Ab lb.length cb, .slice A l.length c, .int .i64 mark]) := Blk.alloc (Blk.new w _ _) _
  have hR0 : Hid (Blk (((w.alloc (.cells #[.int .i64 next, .slice Ab lb.length cb, .slice A l.length c, .int .i64 mark] 51)).alloc (.cells #[.int .i64 0, .slice none 0 0, .slice none 0 0, .int .i64 0] 51)).drew) (w.heap.size + 1) 51 #[.int .i64 0, .slice none 0 0, .slice none 0 0, .int .i64 0]) := by
    have := Blk.new (w.alloc (.cells #[.int .i64 next, .slice Ab lb.length cb, .slice A l.length c, .int .i64 mark] 51)) 51 #[.int .i64 0, .slice none 0 0, .slice none 0 0, .int .i64 0]
    rw [World.size_alloc] at this
    exact this
  go_region_with (first
    | (go_at_call 36; refine (cloneI_any lb S _ _ (HB.out.below ?_) hl1).mono ?_; go_grown; rintro e w1 ⟨A1, c1, rfl, ho1, hb1⟩; have hw1 : Below w.heap.size w w1 := Below.next (by go_grown) hb1; have hT1 : Hid (Blk w1 w.heap.size 51 #[.int .i64 next, .slice Ab lb.length cb, .slice A l.length c, .int .i64 mark]) := Blk.below (by first | exact hT1.out | exact hT2.out | exact hT0.out) hb1; have hR1 : Hid (Blk w1 (w.heap.size + 1) 51 #[.int .i64 0, .slice none 0 0, .slice none 0 0, .int .i64 0]) := Blk.below (by first | exact hR1.out | exact hR2.out | exact hR0.out) hb1; have t10 := hT1.out.cell_some 0 rfl; have t11 := hT1.out.cell_some 1 rfl; have t12 := hT1.out.cell_some 2 rfl; have t13 := hT1.out.cell_some 3 rfl; have tf11 := hT1.out.frozen 1; have tf12 := hT1.out.frozen 2)
    | (go_at_call 37; refine (cloneP_any l S _ _ (HP.out.below ?_) hl2).mono ?_; go_grown; rintro e w2 ⟨A2, c2, rfl, ho2, hb2⟩; have hw2 : Below w.heap.size w w2 := Below.next (by go_grown) hb2; have hT2 : Hid (Blk w2 w.heap.size 51 #[.int .i64 next, .slice Ab lb.length cb, .slice A l.length c, .int .i64 mark]) := Blk.below (by first | exact hT1.out | exact hT2.out | exact hT0.out) hb2; have hR2 : Hid (Blk w2 (w.heap.size + 1) 51 #[.int .i64 0, .slice none 0 0, .slice none 0 0, .int .i64 0]) := Blk.below (by first | exact hR1.out | exact hR2.out | exact hR0.out) hb2; have t20 := hT2.out.cell_some 0 rfl; have t21 := hT2.out.cell_some 1 rfl; have t22 := hT2.out.cell_some 2 rfl; have t23 := hT2.out.cell_some 3 rfl; have tf21 := hT2.out.frozen 1; have tf22 := hT2.out.frozen 2))
  all_goals
    have l1 := hR1.out.lt
    have l2 := hR2.out.lt
    have r10 := hR1.out.cell_some 0 rfl
    have r11 := hR1.out.cell_some 1 rfl
    have r12 := hR1.out.cell_some 2 rfl
    have r13 := hR1.out.cell_some 3 rfl
    have r20 := hR2.out.cell_some 0 rfl
    have r21 := hR2.out.cell_some 1 rfl
    have r22 := hR2.out.cell_some 2 rfl
    have r23 := hR2.out.cell_some 3 rfl
    have f10 := hR1.out.frozen 0
    have f11 := hR1.out.frozen 1
    have f12 := hR1.out.frozen 2
    have f13 := hR1.out.frozen 3
    have f20 := hR2.out.frozen 0
    have f21 := hR2.out.frozen 1
    have f22 := hR2.out.frozen 2
    have f23 := hR2.out.frozen 3
    go_wp2
    refine bodyPost_ret (v := .agg #[.int .i64 next, .slice A1 lb.length c1, .slice A2 l.length c2, .int .i64 mark]) (by simp [results, Try.results79, go_sem, r10, r11, r12, r13, r20, r21, r22, r23]) rfl ⟨A1, c1, A2, c2, rfl, ?_, ?_, ?_⟩
    · refine Own.le (base := w.heap.size + 2) ?_ (by omega)
      iterate 6 (refine Own.setCell_lt ?_ (by simp <;> omega) _)
      first
        | exact (ho1.below hb2).le (by first | omega | (simp; done) | (simp; omega))
        | exact ho1.le (by first | omega | (simp; done) | (simp; omega))
    · refine Own.le (base := w.heap.size + 2) ?_ (by omega)
      iterate 6 (refine Own.setCell_lt ?_ (by simp <;> omega) _)
      first
        | exact (ho2.below hb1).le (by first | omega | (simp; done) | (simp; omega))
        | exact ho2.le (by first | omega | (simp; done) | (simp; omega))
    · iterate 6 (refine Below.setCell ?_ (by simp <;> omega) _)
      assumption

end Go.Proofs.Ytcbdhigllelmcaa
namespace Go.Proofs.Ytcbdhigllelmcaa
open Go.RowKit

set_option maxHeartbeats 800000 in
theorem asc_any (t : Trk) (a : Pt) (S : Nat → Prop) (v : Value) (w : World) (h : TrkV w S v t) :
    Calls Try.prog 55 #[v, .agg #[.int .i64 a.seq, .int .i64 a.time]] w fun e w' => e = .returned (.int .i64 (asc t a)) ∧ Below w.heap.size w w' := by
  obtain ⟨vb, vp, rfl, hB, hP⟩ := h
  obtain ⟨A, c, rfl, hc, hcell⟩ := pts_form hP
  obtain ⟨Ab, cb, rfl, _, _⟩ := ints_form hB
  have H := hide hcell
  have HB := hide hB
  have HP := hide hP
  clear hcell hB hP
  obtain ⟨next, lb, l, mark⟩ := t
  obtain ⟨a0, a1⟩ := a
  dsimp only at *
  have hgoal : Hid (asc ⟨next, lb, l, mark⟩ ⟨a0, a1⟩ = if sqCheck ⟨next, lb, l, mark⟩ ≠ 0 then sqCheck ⟨next, lb, l, mark⟩ else if mark < -1 ∨ 1099511627776 < mark then 2 else if 256 < l.length then 5 else ascLoop ⟨a0, a1⟩ l) := rfl
  generalize hq : sqCheck ⟨next, lb, l, mark⟩ = q at *
  have Hq := hide hq
  clear hq
  by_cases hq0 : q = 0
  · have hne : (q != 0) = false := by simp [hq0]
    have hq0' := hide hq0
    clear hq0
    go_enter Try.func55, Try.ntmps55
    go_wp2_with fail
    refine (sqCheck_any ⟨next, lb, l, mark⟩ S _ _ ⟨_, _, rfl, HB.out.below (by go_grown), HP.out.below (by go_grown)⟩).mono ?_
    rintro e w1 ⟨rfl, hb1⟩
    rw [Hq.out]
    have hw1 : Below w.heap.size w w1 := Below.next (by go_grown) hb1
    have ht2 := cell_later (a := ⟨w.heap.size, 2, none⟩) (v := .slice A l.length c) hb1 (by simp)
    have ht3 := cell_later (a := ⟨w.heap.size, 3, none⟩) (v := .int .i64 mark) hb1 (by simp)
    have hL : Hid (Blk w1 (w.heap.size + 1) 96 #[.int .i64 a0, .int .i64 a1]) := Blk.below (by simpa using Blk.new (w.alloc _) 96 #[.int .i64 a0, .int .i64 a1]) hb1
    clear hb1
    go_wp2
    all_goals first
      | (go_ret; refine ⟨ret_int ?_, by go_grown⟩; rw [hgoal.out, if_neg (by simp [hq0'.out])]; repeat (first | rw [if_pos (by omega)] | rw [if_neg (by omega)]))
      | skip
    go_loopw [30] (fun i wr => ∃ (k : Nat) (b0 b1 : Int), k ≤ l.length ∧ i = .int .i64 k ∧ Hid (ascLoop ⟨b0, b1⟩ (l.drop k) = ascLoop ⟨a0, a1⟩ l) ∧ Hid (Blk wr (w.heap.size + 1) 96 #[.int .i64 b0, .int .i64 b1]) ∧ Below w.heap.size w wr) (fun i _ => l.length - (intOf i).toNat)
    case atStart => exact ⟨0, _, _, Nat.zero_le _, rfl, rfl, hL, hw1⟩
    case round =>
      clear hL ht2 ht3
      obtain ⟨k, b0, b1, hk, rfl, hs, hL, hb⟩ := hrel
      by_cases hlt : k < l.length
      · obtain ⟨b, off, rfl, hbl, hx0, hx1⟩ := H.out k hlt
        have hx0 := cell_later hb hx0
        have hx1 := cell_later hb hx1
        have hd := hide (drop_cons l k hlt)
        generalize l[k] = x at *
        obtain ⟨x0, x1⟩ := x
        cases hv : ptValid ⟨x0, x1⟩ with
        | false =>
          have hv' := hide hv
          clear hv
          go_wp2_with (go_at_call 60; refine (valid_any x0 x1 _).mono ?_; rintro e w2 ⟨rfl, hb2⟩; rw [hv'.out])
          go_ret
          exact ⟨ret_int (by rw [hgoal.out, if_neg (by simp [hq0'.out]), if_neg (by omega), if_neg (by omega), ← hs.out, hd.out, ascLoop, if_pos hv'.out]), Below.next (hb.alloc hb.size _) hb2⟩
        | true =>
          have hv' := hide hv
          clear hv
          go_wp2_with fail
          refine (valid_any x0 x1 _).mono ?_
          rintro e w2 ⟨rfl, hb2⟩
          rw [hv'.out]
          have hw2 : Below w.heap.size w w2 := Below.next (hb.alloc hb.size _) hb2
          have hp0 := cell_later (a := ⟨wr.heap.size, 0, none⟩) (v := .int .i64 x0) hb2 (by simp)
          have hp1 := cell_later (a := ⟨wr.heap.size, 1, none⟩) (v := .int .i64 x1) hb2 (by simp)
          have hL2 : Hid (Blk w2 (w.heap.size + 1) 96 #[.int .i64 b0, .int .i64 b1]) := (hL.out.alloc _).below hb2
          have hl0 := hL2.out.cell_some 0 rfl
          have hl1 := hL2.out.cell_some 1 rfl
          have hf0 := hL2.out.frozen 0
          have hf1 := hL2.out.frozen 1
          clear hb2
          go_wp2
          all_goals first
            | (go_ret; exact ⟨ret_int (by rw [hgoal.out, if_neg (by simp [hq0'.out]), if_neg (by omega), if_neg (by omega), ← hs.out, hd.out, ascLoop, if_neg (by simp [hv'.out]), if_pos (by simp only; omega)]), hw2⟩)
            | skip
          go_roundw
          case rel => exact ⟨k + 1, x0, x1, by omega, by go_num, by unfold Hid; rw [← hs.out, hd.out, ascLoop, if_neg (by simp [hv'.out]), if_neg (by simp only; omega)], (hL2.out.set 0 _).set 1 _, (hw2.setCell (by simp) _).setCell (by simp) _⟩
          case measure => simp [intOf]; omega
      · go_wp2
        go_ret
        exact ⟨ret_int (by rw [hgoal.out, if_neg (by simp [hq0'.out]), if_neg (by omega), if_neg (by omega), ← hs.out, List.drop_eq_nil_of_le (by omega), ascLoop]), hb⟩
  · have hne : (q != 0) = true := by simp [hq0]
    have hr := hide (hgoal.out.trans (if_pos hq0))
    clear hgoal hq0
    go_enter Try.func55, Try.ntmps55
    go_wp2_with fail
    refine (sqCheck_any ⟨next, lb, l, mark⟩ S _ _ ⟨_, _, rfl, HB.out.below (by go_grown), HP.out.below (by go_grown)⟩).mono ?_
    rintro e w1 ⟨rfl, hb1⟩
    rw [Hq.out]
    go_wp2
    go_ret
    exact ⟨ret_int hr.out.symm, Below.next (by go_grown) hb1⟩

set_option maxHeartbeats 400000 in
theorem puCheck_any (t : Trk) (S : Nat → Prop) (v : Value) (w : World) (h : TrkV w S v t) :
    Calls Try.prog 46 #[v] w fun e w' => e = .returned (.int .i64 (puCheck t)) ∧ Below w.heap.size w w' := by
  obtain ⟨vb, vp, rfl, hB, hP⟩ := h
  obtain ⟨A, c, rfl, _, _⟩ := pts_form hP
  obtain ⟨Ab, cb, rfl, _, _⟩ := ints_form hB
  have HB := hide hB
  have HP := hide hP
  clear hB hP
  obtain ⟨next, lb, l, mark⟩ := t
  dsimp only at *
  have hr : Hid (asc ⟨next, lb, l, mark⟩ ⟨next, mark⟩ = puCheck ⟨next, lb, l, mark⟩) := rfl
  generalize puCheck ⟨next, lb, l, mark⟩ = r at *
  go_enter Try.func46, Try.ntmps46
  go_wp2_with fail
  refine (asc_any ⟨next, lb, l, mark⟩ ⟨next, mark⟩ S _ _ ⟨_, _, rfl, HB.out.below (by go_grown), HP.out.below (by go_grown)⟩).mono ?_
  rintro e w1 ⟨rfl, hb1⟩
  rw [hr.out]
  go_wp2
  go_ret
  exact ⟨rfl, Below.next (by go_grown) hb1⟩

end Go.Proofs.Ytcbdhigllelmcaa
namespace Go.Proofs.Ytcbdhigllelmcaa
open Go.RowKit

def RetTE (x : Trk × Int) (w0 : World) (r : Ending) (w' : World) : Prop :=
  ∃ A c A' c', r = .returned (.tuple #[.agg #[.int .i64 x.1.next, .slice A x.1.beyond.length c, .slice A' x.1.points.length c', .int .i64 x.1.mark], .int .i64 x.2]) ∧
    Own w' w0.heap.size 3 1 encI (.slice A x.1.beyond.length c) x.1.beyond ∧ Own w' w0.heap.size 96 2 encP (.slice A' x.1.points.length c') x.1.points ∧ Below w0.heap.size w0 w'
theorem RetTE.trkV {x : Trk × Int} {w0 w' : World} {A A' : Option Addr} {c c' : Nat} (h1 : Own w' w0.heap.size 3 1 encI (.slice A x.1.beyond.length c) x.1.beyond) (h2 : Own w' w0.heap.size 96 2 encP (.slice A' x.1.points.length c') x.1.points) :
    TrkV w' (fun b => w0.heap.size ≤ b) (.agg #[.int .i64 x.1.next, .slice A x.1.beyond.length c, .slice A' x.1.points.length c', .int .i64 x.1.mark]) x.1 :=
  ⟨_, _, rfl, h1.sl eok_int (fun _ h => h), h2.sl eok_pts (fun _ h => h)⟩

set_option maxHeartbeats 1600000 in
theorem settle_any (t : Trk) (S : Nat → Prop) (v : Value) (w : World) (h : TrkV w S v t) (hl1 : t.beyond.length ≤ 1000000000) (hl2 : t.points.length ≤ 1000000000) :
    Calls Try.prog 72 #[v] w (RetTE (settleT t) w) := by
  obtain ⟨vb, vp, rfl, hB, hP⟩ := h
  obtain ⟨A, c, rfl, hc, hcell⟩ := pts_form hP
  obtain ⟨Ab, cb, rfl, _, _⟩ := ints_form hB
  have HB := hide hB
  have HP := hide hP
  clear hcell hB hP
  obtain ⟨next, lb, l, mark⟩ := t
  dsimp only at *
  have hgoal : Hid (settleT ⟨next, lb, l, mark⟩ = if asc ⟨next, lb, l, mark⟩ ⟨-1, -1⟩ ≠ 0 then (zeroT, asc ⟨next, lb, l, mark⟩ ⟨-1, -1⟩) else (⟨next, lb, l.filter fun p => decide (next < p.seq) && decide (latest mark l next < p.time), latest mark l next⟩, 0)) := rfl
  generalize hq : asc ⟨next, lb, l, mark⟩ ⟨-1, -1⟩ = q at *
  generalize hla : latest mark l next = la at *
  generalize settleT ⟨next, lb, l, mark⟩ = res at *
  have Hq := hide hq
  have Hla := hide hla
  clear hq hla
  by_cases hq0 : q = 0
  · have hne : (q != 0) = false := by simp [hq0]
    have hr := hide (hgoal.out.trans (if_neg (by simp [hq0])))
    clear hgoal hq0
    rw [hr.out]
    have eg := Go.Proofs.enters_of (P := Try.prog) Try.func81 (by kernel_rfl) rfl
    go_enter Try.func72, Try.ntmps72
    go_wp2_with fail
    refine (asc_any ⟨next, lb, l, mark⟩ ⟨-1, -1⟩ S _ _ ⟨_, _, rfl, HB.out.below (by go_grown), HP.out.below (by go_grown)⟩).mono ?_
    rintro e w1 ⟨rfl, hb1⟩
    rw [Hq.out]
    have hw1 : Below w.heap.size w w1 := Below.next (by go_grown) hb1
    have hT1 : Hid (Blk w1 w.heap.size 51 #[.int .i64 next, .slice Ab lb.length cb, .slice A l.length c, .int .i64 mark]) := Blk.below (Blk.alloc (Blk.new w _ _) _) hb1
    have hR1 : Hid (Blk w1 (w.heap.size + 1) 51 #[.int .i64 0, .slice none 0 0, .slice none 0 0, .int .i64 0]) := Blk.below (by simpa using Blk.new (w.alloc _) _ _) hb1
    have t0 := hT1.out.cell_some 0 rfl
    have t1 := hT1.out.cell_some 1 rfl
    have t2 := hT1.out.cell_some 2 rfl
    have t3 := hT1.out.cell_some 3 rfl
    clear hb1
    go_wp2_with fail
    refine (own_any ⟨next, lb, l, mark⟩ S _ _ ⟨_, _, rfl, HB.out.below hw1, HP.out.below hw1⟩ hl1 hl2).mono ?_
    rintro e w2 ⟨A1, c1, A2, c2, rfl, ho1, ho2, hb2⟩
    clear t0 t1 t2 t3
    have hT2 := hide (hT1.out.below hb2)
    have hR2 := hide (hR1.out.below hb2)
    have hw2 := hide (Below.next hw1 hb2)
    have hw1z := hide (hR1.out.lt)
    have Ho1 := hide ho1
    have Hb2 := hide hb2
    have t0 := cell_later (hb2) (hT1.out.cell_some 0 rfl)
    have t2 := cell_later (hb2) (hT1.out.cell_some 2 rfl)
    have t3 := cell_later (hb2) (hT1.out.cell_some 3 rfl)
    have lt0 := hT2.out.lt
    clear ho1 ho2 hb2 hT1 hR1 hw1
    dsimp only
    go_wp2_with fail
    refine (latest_any mark l next S _ _ (HP.out.below (hw2.out.alloc hw2.out.size _)) hl2).mono ?_
    rintro e w3 ⟨rfl, hb3⟩
    rw [Hla.out]
    have hO3 : Hid (Blk w3 w2.heap.size 51 #[.int .i64 next, .slice A1 lb.length c1, .slice A2 l.length c2, .int .i64 mark]) := Blk.below (Blk.new w2 _ _) hb3
    have hT3 := hide ((hT2.out.alloc (.cells #[.int .i64 next, .slice A1 lb.length c1, .slice A2 l.length c2, .int .i64 mark] 51)).below hb3)
    have hR3 := hide ((hR2.out.alloc (.cells #[.int .i64 next, .slice A1 lb.length c1, .slice A2 l.length c2, .int .i64 mark] 51)).below hb3)
    have hw3 := hide (Below.next (hw2.out.alloc hw2.out.size _) hb3)
    have Hb3 := hide hb3
    clear t0 t2 t3 hb3
    have t2 := hT3.out.cell_some 2 rfl
    have o3 := hO3.out.cell_some 3 rfl
    have f3 := hO3.out.frozen 3
    have hle2 : w.heap.size ≤ w2.heap.size := hw2.out.size
    have hne0 : ¬ (w2.heap.size = w.heap.size) := by have := hT2.out.lt; omega
    have hne0' : ¬ (w.heap.size = w2.heap.size) := by omega
    go_wp2_with fail
    have hw3' : Below w.heap.size w (w3.setCell ⟨w2.heap.size, 3, none⟩ (.int .i64 la)) := hw3.out.setCell hle2 _
    refine (filteredP_any l (fun p => decide (next < p.seq) && decide (la < p.time)) 81 _ eg S _ _ (HP.out.below hw3') (settle1_pred next la w.heap.size w2.heap.size _ ((hT3.out.far hne0' _).cell_some 0 rfl) ((hO3.out.set 3 _).cell_some 3 rfl)) hl2).mono ?_
    rintro e w4 ⟨A3, c3, rfl, ho3, hb4⟩
    have hO4 : Hid (Blk w4 w2.heap.size 51 #[.int .i64 next, .slice A1 lb.length c1, .slice A2 l.length c2, .int .i64 la]) := (hO3.out.set 3 _).below hb4
    have hR4 := hide ((hR3.out.far (p := ⟨w2.heap.size, 3, none⟩) (by have := hR2.out.lt; simp; omega) (.int .i64 la)).below hb4)
    have hw4 := hide (Below.next hw3' hb4)
    have Ho3 := hide ho3
    have Hb4 := hide hb4
    clear t2 o3 f3 ho3 hb4 hw3'
    have o0 := hO4.out.cell_some 0 rfl
    have o1 := hO4.out.cell_some 1 rfl
    have o2 := hO4.out.cell_some 2 rfl
    have o3 := hO4.out.cell_some 3 rfl
    have p2 := hO4.out.frozen 2
    have r0 := hR4.out.cell_some 0 rfl
    have r1 := hR4.out.cell_some 1 rfl
    have r2 := hR4.out.cell_some 2 rfl
    have r3 := hR4.out.cell_some 3 rfl
    have f0 := hR4.out.frozen 0
    have f1 := hR4.out.frozen 1
    have f2 := hR4.out.frozen 2
    have f3 := hR4.out.frozen 3
    have hne1 : ¬ (w2.heap.size = w.heap.size + 1) := by have := hR2.out.lt; omega
    have hne1' : ¬ (w.heap.size + 1 = w2.heap.size) := by omega
    go_wp2
    refine bodyPost_ret (v := .tuple #[.agg #[.int .i64 next, .slice A1 lb.length c1, .slice A3 (l.filter fun p => decide (next < p.seq) && decide (la < p.time)).length c3, .int .i64 la], .int .i64 0]) (by simp [results, Try.results72, go_sem, r0, r1, r2, r3, hne1, hne1']) rfl ⟨A1, c1, A3, c3, rfl, ?_, ?_, ?_⟩
    · have hnb : (Value.slice A1 lb.length c1).ownBlock ≠ some w2.heap.size := fun e => by have := (Ho1.out.lt _ e).2; omega
      refine Own.le (base := w1.heap.size) ?_ (by have := hw1z.out; omega)
      iterate 4 (refine Own.setCell_lt ?_ (by have := hw1z.out; simp <;> omega) _)
      refine Own.setCell_ne ?_ hnb _
      exact (Own.setCell_ne (((Ho1.out.below ((Below.refl _ _).alloc (Nat.le_refl _) _))).below Hb3.out) hnb _).below Hb4.out
    · have hlt := hO3.out.lt
      have hsz : (w3.setCell ⟨w2.heap.size, 3, none⟩ (.int .i64 la)).heap.size = w3.heap.size := by simp [World.setCell]
      refine Own.le (base := w3.heap.size) ?_ (by omega)
      iterate 5 (refine Own.setCell_lt ?_ (by have := hw1z.out; simp <;> omega) _)
      exact Ho3.out.le (by omega)
    · iterate 5 (refine Below.setCell ?_ (by simp <;> omega) _)
      exact hw4.out
  · have hne : (q != 0) = true := by simp [hq0]
    have hr := hide (hgoal.out.trans (if_pos hq0))
    clear hgoal hq0
    rw [hr.out]
    go_enter Try.func72, Try.ntmps72
    go_wp2_with fail
    refine (asc_any ⟨next, lb, l, mark⟩ ⟨-1, -1⟩ S _ _ ⟨_, _, rfl, HB.out.below (by go_grown), HP.out.below (by go_grown)⟩).mono ?_
    rintro e w1 ⟨rfl, hb1⟩
    rw [Hq.out]
    have hw1 : Below w.heap.size w w1 := Below.next (by go_grown) hb1
    have hR1 : Hid (Blk w1 (w.heap.size + 1) 51 #[.int .i64 0, .slice none 0 0, .slice none 0 0, .int .i64 0]) := Blk.below (by simpa using Blk.new (w.alloc _) _ _) hb1
    have r0 := hR1.out.cell_some 0 rfl
    have r1 := hR1.out.cell_some 1 rfl
    have r2 := hR1.out.cell_some 2 rfl
    have r3 := hR1.out.cell_some 3 rfl
    have f0 := hR1.out.frozen 0
    have f1 := hR1.out.frozen 1
    have f2 := hR1.out.frozen 2
    have f3 := hR1.out.frozen 3
    clear hb1
    go_wp2
    refine bodyPost_ret (v := .tuple #[.agg #[.int .i64 0, .slice none 0 0, .slice none 0 0, .int .i64 0], .int .i64 q]) (by simp [results, Try.results72, go_sem, r0, r1, r2, r3]) rfl ⟨none, 0, none, 0, rfl, Own.nil_, Own.nil_, ?_⟩
    iterate 4 (refine Below.setCell ?_ (by simp <;> omega) _)
    exact hw1

end Go.Proofs.Ytcbdhigllelmcaa
