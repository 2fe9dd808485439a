/- What the walk knows of the program's types. Printed by a program of mine (gen_tab.lean). Helpers over the type table: 64-bit ints, slices of known form, contracts given by hand. From a contract of the abstract walk to a law's row: whatever the arguments, it returns true, and they read as they did. Arguments opened: what any row needs. Arguments opened: cells of any struct, field by field. The abstract walk, fourteenth part: rows frozen; steps counted; weakening between statements. The abstract walk, after its evaluator: rows given up everywhere; contracts whose result holds a row. -/
import Derived.Test.YtjpknpjjcddnnaaGreatK07
import Derived.Test.YtjpknpjjcddnnaaGreatProg
import Derived.KernelRfl
import Derived.Test.YtjpknpjjcddnnaaGreatRows
import Derived.ProofKit
import Derived.Lib.SmallJoins
import Derived.Deep.Slices
import Derived.Carry
import Derived.Below
set_option linter.unusedVariables false
set_option linter.unusedSimpArgs false
namespace Go.Proofs.YtjpknpjjcddnnaaGreat
def ty1 : TyI := ⟨1, 8, .nilFunc, .other⟩
theorem tyOk1 : TyOk Tryz.prog 1 ty1 := ⟨by kernel_rfl, by kernel_rfl, by kernel_rfl⟩
def ty2 : TyI := ⟨1, 8, .int .i64 0, .int .i64⟩
theorem tyOk2 : TyOk Tryz.prog 2 ty2 := ⟨by kernel_rfl, by kernel_rfl, by kernel_rfl⟩
def ty3 : TyI := ⟨1, 8, .int .i64 0, .int .i64⟩
theorem tyOk3 : TyOk Tryz.prog 3 ty3 := ⟨by kernel_rfl, by kernel_rfl, by kernel_rfl⟩
def ty4 : TyI := ⟨1, 1, .bool false, .bool⟩
theorem tyOk4 : TyOk Tryz.prog 4 ty4 := ⟨by kernel_rfl, by kernel_rfl, by kernel_rfl⟩
def ty5 : TyI := ⟨1, 1, .int .u8 0, .int .u8⟩
theorem tyOk5 : TyOk Tryz.prog 5 ty5 := ⟨by kernel_rfl, by kernel_rfl, by kernel_rfl⟩
def ty6 : TyI := ⟨1, 1, .int .u8 0, .int .u8⟩
theorem tyOk6 : TyOk Tryz.prog 6 ty6 := ⟨by kernel_rfl, by kernel_rfl, by kernel_rfl⟩
def ty7 : TyI := ⟨4, 24, .agg #[.int .i64 0, .int .i64 0, .bool false, .int .u8 0], .strct [(0, 1, some false), (1, 1, some false), (2, 1, some false), (3, 1, some false)]⟩
theorem tyOk7 : TyOk Tryz.prog 7 ty7 := ⟨by kernel_rfl, by kernel_rfl, by kernel_rfl⟩
def ty8 : TyI := ⟨4, 24, .agg #[.int .i64 0, .int .i64 0, .bool false, .int .u8 0], .strct [(0, 1, some false), (1, 1, some false), (2, 1, some false), (3, 1, some false)]⟩
theorem tyOk8 : TyOk Tryz.prog 8 ty8 := ⟨by kernel_rfl, by kernel_rfl, by kernel_rfl⟩
def ty9 : TyI := ⟨1, 16, .string ByteArray.empty, .str⟩
theorem tyOk9 : TyOk Tryz.prog 9 ty9 := ⟨by kernel_rfl, by kernel_rfl, by kernel_rfl⟩
def ty10 : TyI := ⟨1, 16, .string ByteArray.empty, .str⟩
theorem tyOk10 : TyOk Tryz.prog 10 ty10 := ⟨by kernel_rfl, by kernel_rfl, by kernel_rfl⟩
def ty11 : TyI := ⟨1, 16, .string ByteArray.empty, .str⟩
theorem tyOk11 : TyOk Tryz.prog 11 ty11 := ⟨by kernel_rfl, by kernel_rfl, by kernel_rfl⟩
def ty12 : TyI := ⟨1, 8, .int .u64 0, .int .u64⟩
theorem tyOk12 : TyOk Tryz.prog 12 ty12 := ⟨by kernel_rfl, by kernel_rfl, by kernel_rfl⟩
def ty13 : TyI := ⟨2, 24, .agg #[.string ByteArray.empty, .int .u64 0], .strct [(0, 1, some false), (1, 1, some false)]⟩
theorem tyOk13 : TyOk Tryz.prog 13 ty13 := ⟨by kernel_rfl, by kernel_rfl, by kernel_rfl⟩
def ty14 : TyI := ⟨2, 24, .agg #[.string ByteArray.empty, .int .u64 0], .strct [(0, 1, some false), (1, 1, some false)]⟩
theorem tyOk14 : TyOk Tryz.prog 14 ty14 := ⟨by kernel_rfl, by kernel_rfl, by kernel_rfl⟩
def ty15 : TyI := ⟨1, 8, .pointer none, .other⟩
theorem tyOk15 : TyOk Tryz.prog 15 ty15 := ⟨by kernel_rfl, by kernel_rfl, by kernel_rfl⟩
def ty16 : TyI := ⟨1, 8, .pointer none, .other⟩
theorem tyOk16 : TyOk Tryz.prog 16 ty16 := ⟨by kernel_rfl, by kernel_rfl, by kernel_rfl⟩
def ty17 : TyI := ⟨1, 8, .pointer none, .other⟩
theorem tyOk17 : TyOk Tryz.prog 17 ty17 := ⟨by kernel_rfl, by kernel_rfl, by kernel_rfl⟩
def ty18 : TyI := ⟨1, 8, .agg #[.pointer none], .strct [(0, 1, some false)]⟩
theorem tyOk18 : TyOk Tryz.prog 18 ty18 := ⟨by kernel_rfl, by kernel_rfl, by kernel_rfl⟩
def ty19 : TyI := ⟨1, 8, .agg #[.pointer none], .strct [(0, 1, some false)]⟩
theorem tyOk19 : TyOk Tryz.prog 19 ty19 := ⟨by kernel_rfl, by kernel_rfl, by kernel_rfl⟩
def ty21 : TyI := ⟨1, 4, .int .i32 0, .int .i32⟩
theorem tyOk21 : TyOk Tryz.prog 21 ty21 := ⟨by kernel_rfl, by kernel_rfl, by kernel_rfl⟩
def ty22 : TyI := ⟨1, 24, .slice none 0 0, .slc 56 1 24⟩
theorem tyOk22 : TyOk Tryz.prog 22 ty22 := ⟨by kernel_rfl, by kernel_rfl, by kernel_rfl⟩
def ty23 : TyI := ⟨1, 24, .slice none 0 0, .slc 51 17 240⟩
theorem tyOk23 : TyOk Tryz.prog 23 ty23 := ⟨by kernel_rfl, by kernel_rfl, by kernel_rfl⟩
def ty24 : TyI := ⟨4, 64, .agg #[.int .i64 0, .int .i64 0, .slice none 0 0, .slice none 0 0], .strct [(0, 1, some false), (1, 1, some false), (2, 1, some false), (3, 1, some false)]⟩
theorem tyOk24 : TyOk Tryz.prog 24 ty24 := ⟨by kernel_rfl, by kernel_rfl, by kernel_rfl⟩
def ty25 : TyI := ⟨4, 64, .agg #[.int .i64 0, .int .i64 0, .slice none 0 0, .slice none 0 0], .strct [(0, 1, some false), (1, 1, some false), (2, 1, some false), (3, 1, some false)]⟩
theorem tyOk25 : TyOk Tryz.prog 25 ty25 := ⟨by kernel_rfl, by kernel_rfl, by kernel_rfl⟩
def ty26 : TyI := ⟨1, 24, .slice none 0 0, .slc 66 5 56⟩
theorem tyOk26 : TyOk Tryz.prog 26 ty26 := ⟨by kernel_rfl, by kernel_rfl, by kernel_rfl⟩
def ty27 : TyI := ⟨1, 8, .nilFunc, .other⟩
theorem tyOk27 : TyOk Tryz.prog 27 ty27 := ⟨by kernel_rfl, by kernel_rfl, by kernel_rfl⟩
def ty28 : TyI := ⟨1, 8, .nilFunc, .other⟩
theorem tyOk28 : TyOk Tryz.prog 28 ty28 := ⟨by kernel_rfl, by kernel_rfl, by kernel_rfl⟩
def ty29 : TyI := ⟨1, 24, .slice none 0 0, .slc 77 3 56⟩
theorem tyOk29 : TyOk Tryz.prog 29 ty29 := ⟨by kernel_rfl, by kernel_rfl, by kernel_rfl⟩
def ty30 : TyI := ⟨1, 24, .slice none 0 0, .slc 83 1 24⟩
theorem tyOk30 : TyOk Tryz.prog 30 ty30 := ⟨by kernel_rfl, by kernel_rfl, by kernel_rfl⟩
def ty31 : TyI := ⟨1, 8, .int .i64 0, .int .i64⟩
theorem tyOk31 : TyOk Tryz.prog 31 ty31 := ⟨by kernel_rfl, by kernel_rfl, by kernel_rfl⟩
def ty33 : TyI := ⟨1, 8, .nilFunc, .other⟩
theorem tyOk33 : TyOk Tryz.prog 33 ty33 := ⟨by kernel_rfl, by kernel_rfl, by kernel_rfl⟩
def ty35 : TyI := ⟨1, 8, .nilFunc, .other⟩
theorem tyOk35 : TyOk Tryz.prog 35 ty35 := ⟨by kernel_rfl, by kernel_rfl, by kernel_rfl⟩
def ty37 : TyI := ⟨1, 8, .nilFunc, .other⟩
theorem tyOk37 : TyOk Tryz.prog 37 ty37 := ⟨by kernel_rfl, by kernel_rfl, by kernel_rfl⟩
def ty38 : TyI := ⟨1, 8, .nilFunc, .other⟩
theorem tyOk38 : TyOk Tryz.prog 38 ty38 := ⟨by kernel_rfl, by kernel_rfl, by kernel_rfl⟩
def ty39 : TyI := ⟨1, 8, .nilFunc, .other⟩
theorem tyOk39 : TyOk Tryz.prog 39 ty39 := ⟨by kernel_rfl, by kernel_rfl, by kernel_rfl⟩
def ty40 : TyI := ⟨1, 8, .nilFunc, .other⟩
theorem tyOk40 : TyOk Tryz.prog 40 ty40 := ⟨by kernel_rfl, by kernel_rfl, by kernel_rfl⟩
def ty41 : TyI := ⟨1, 8, .nilFunc, .other⟩
theorem tyOk41 : TyOk Tryz.prog 41 ty41 := ⟨by kernel_rfl, by kernel_rfl, by kernel_rfl⟩
def ty42 : TyI := ⟨1, 8, .nilFunc, .other⟩
theorem tyOk42 : TyOk Tryz.prog 42 ty42 := ⟨by kernel_rfl, by kernel_rfl, by kernel_rfl⟩
def ty43 : TyI := ⟨1, 24, .slice none 0 0, .slc 47 8 88⟩
theorem tyOk43 : TyOk Tryz.prog 43 ty43 := ⟨by kernel_rfl, by kernel_rfl, by kernel_rfl⟩
def ty44 : TyI := ⟨3, 32, .agg #[.int .i64 0, .int .i64 0, .string ByteArray.empty], .strct [(0, 1, some false), (1, 1, some false), (2, 1, some false)]⟩
theorem tyOk44 : TyOk Tryz.prog 44 ty44 := ⟨by kernel_rfl, by kernel_rfl, by kernel_rfl⟩
def ty45 : TyI := ⟨3, 32, .agg #[.int .i64 0, .int .i64 0, .string ByteArray.empty], .strct [(0, 1, some false), (1, 1, some false), (2, 1, some false)]⟩
theorem tyOk45 : TyOk Tryz.prog 45 ty45 := ⟨by kernel_rfl, by kernel_rfl, by kernel_rfl⟩
def ty46 : TyI := ⟨8, 88, .agg #[.int .i64 0, .slice none 0 0, .int .i64 0, .int .i64 0, .int .i64 0, .int .i64 0, .int .i64 0, .string ByteArray.empty], .strct [(0, 1, some false), (1, 1, some false), (2, 1, some false), (3, 1, some false), (4, 1, some false), (5, 3, some true)]⟩
theorem tyOk46 : TyOk Tryz.prog 46 ty46 := ⟨by kernel_rfl, by kernel_rfl, by kernel_rfl⟩
def ty47 : TyI := ⟨8, 88, .agg #[.int .i64 0, .slice none 0 0, .int .i64 0, .int .i64 0, .int .i64 0, .int .i64 0, .int .i64 0, .string ByteArray.empty], .strct [(0, 1, some false), (1, 1, some false), (2, 1, some false), (3, 1, some false), (4, 1, some false), (5, 3, some true)]⟩
theorem tyOk47 : TyOk Tryz.prog 47 ty47 := ⟨by kernel_rfl, by kernel_rfl, by kernel_rfl⟩
def ty48 : TyI := ⟨1, 24, .slice none 0 0, .slc 3 1 8⟩
theorem tyOk48 : TyOk Tryz.prog 48 ty48 := ⟨by kernel_rfl, by kernel_rfl, by kernel_rfl⟩
def ty49 : TyI := ⟨1, 24, .slice none 0 0, .slc 92 2 16⟩
theorem tyOk49 : TyOk Tryz.prog 49 ty49 := ⟨by kernel_rfl, by kernel_rfl, by kernel_rfl⟩
def ty50 : TyI := ⟨17, 240, .agg #[.int .i64 0, .int .i64 0, .int .i64 0, .int .i64 0, .int .i64 0, .slice none 0 0, .int .i64 0, .int .i64 0, .int .i64 0, .int .i64 0, .int .i64 0, .string ByteArray.empty, .slice none 0 0, .slice none 0 0, .slice none 0 0, .slice none 0 0, .slice none 0 0], .strct [(0, 1, some false), (1, 1, some false), (2, 1, some false), (3, 1, some false), (4, 8, some true), (12, 1, some false), (13, 1, some false), (14, 1, some false), (15, 1, some false), (16, 1, some false)]⟩
theorem tyOk50 : TyOk Tryz.prog 50 ty50 := ⟨by kernel_rfl, by kernel_rfl, by kernel_rfl⟩
def ty51 : TyI := ⟨17, 240, .agg #[.int .i64 0, .int .i64 0, .int .i64 0, .int .i64 0, .int .i64 0, .slice none 0 0, .int .i64 0, .int .i64 0, .int .i64 0, .int .i64 0, .int .i64 0, .string ByteArray.empty, .slice none 0 0, .slice none 0 0, .slice none 0 0, .slice none 0 0, .slice none 0 0], .strct [(0, 1, some false), (1, 1, some false), (2, 1, some false), (3, 1, some false), (4, 8, some true), (12, 1, some false), (13, 1, some false), (14, 1, some false), (15, 1, some false), (16, 1, some false)]⟩
theorem tyOk51 : TyOk Tryz.prog 51 ty51 := ⟨by kernel_rfl, by kernel_rfl, by kernel_rfl⟩
def ty52 : TyI := ⟨1, 8, .nilFunc, .other⟩
theorem tyOk52 : TyOk Tryz.prog 52 ty52 := ⟨by kernel_rfl, by kernel_rfl, by kernel_rfl⟩
def ty53 : TyI := ⟨1, 8, .nilFunc, .other⟩
theorem tyOk53 : TyOk Tryz.prog 53 ty53 := ⟨by kernel_rfl, by kernel_rfl, by kernel_rfl⟩
def ty54 : TyI := ⟨1, 24, .slice none 0 0, .slc 59 11 112⟩
theorem tyOk54 : TyOk Tryz.prog 54 ty54 := ⟨by kernel_rfl, by kernel_rfl, by kernel_rfl⟩
def ty55 : TyI := ⟨1, 24, .agg #[.slice none 0 0], .strct [(0, 1, some false)]⟩
theorem tyOk55 : TyOk Tryz.prog 55 ty55 := ⟨by kernel_rfl, by kernel_rfl, by kernel_rfl⟩
def ty56 : TyI := ⟨1, 24, .agg #[.slice none 0 0], .strct [(0, 1, some false)]⟩
theorem tyOk56 : TyOk Tryz.prog 56 ty56 := ⟨by kernel_rfl, by kernel_rfl, by kernel_rfl⟩
def ty57 : TyI := ⟨1, 8, .nilFunc, .other⟩
theorem tyOk57 : TyOk Tryz.prog 57 ty57 := ⟨by kernel_rfl, by kernel_rfl, by kernel_rfl⟩
def ty58 : TyI := ⟨11, 112, .agg #[.int .i64 0, .int .i64 0, .int .i64 0, .int .i64 0, .slice none 0 0, .int .i64 0, .int .i64 0, .int .i64 0, .int .i64 0, .int .i64 0, .string ByteArray.empty], .strct [(0, 1, some false), (1, 1, some false), (2, 1, some false), (3, 8, some true)]⟩
theorem tyOk58 : TyOk Tryz.prog 58 ty58 := ⟨by kernel_rfl, by kernel_rfl, by kernel_rfl⟩
def ty59 : TyI := ⟨11, 112, .agg #[.int .i64 0, .int .i64 0, .int .i64 0, .int .i64 0, .slice none 0 0, .int .i64 0, .int .i64 0, .int .i64 0, .int .i64 0, .int .i64 0, .string ByteArray.empty], .strct [(0, 1, some false), (1, 1, some false), (2, 1, some false), (3, 8, some true)]⟩
theorem tyOk59 : TyOk Tryz.prog 59 ty59 := ⟨by kernel_rfl, by kernel_rfl, by kernel_rfl⟩
def ty60 : TyI := ⟨1, 8, .nilFunc, .other⟩
theorem tyOk60 : TyOk Tryz.prog 60 ty60 := ⟨by kernel_rfl, by kernel_rfl, by kernel_rfl⟩
def ty61 : TyI := ⟨1, 8, .nilFunc, .other⟩
theorem tyOk61 : TyOk Tryz.prog 61 ty61 := ⟨by kernel_rfl, by kernel_rfl, by kernel_rfl⟩
def ty63 : TyI := ⟨1, 8, .nilFunc, .other⟩
theorem tyOk63 : TyOk Tryz.prog 63 ty63 := ⟨by kernel_rfl, by kernel_rfl, by kernel_rfl⟩
def ty64 : TyI := ⟨1, 24, .slice none 0 0, .slc 45 3 32⟩
theorem tyOk64 : TyOk Tryz.prog 64 ty64 := ⟨by kernel_rfl, by kernel_rfl, by kernel_rfl⟩
def ty65 : TyI := ⟨5, 56, .agg #[.int .i64 0, .int .i64 0, .int .i64 0, .int .i64 0, .slice none 0 0], .strct [(0, 1, some false), (1, 1, some false), (2, 1, some false), (3, 1, some false), (4, 1, some false)]⟩
theorem tyOk65 : TyOk Tryz.prog 65 ty65 := ⟨by kernel_rfl, by kernel_rfl, by kernel_rfl⟩
def ty66 : TyI := ⟨5, 56, .agg #[.int .i64 0, .int .i64 0, .int .i64 0, .int .i64 0, .slice none 0 0], .strct [(0, 1, some false), (1, 1, some false), (2, 1, some false), (3, 1, some false), (4, 1, some false)]⟩
theorem tyOk66 : TyOk Tryz.prog 66 ty66 := ⟨by kernel_rfl, by kernel_rfl, by kernel_rfl⟩
def ty67 : TyI := ⟨1, 8, .nilFunc, .other⟩
theorem tyOk67 : TyOk Tryz.prog 67 ty67 := ⟨by kernel_rfl, by kernel_rfl, by kernel_rfl⟩
def ty68 : TyI := ⟨1, 8, .nilFunc, .other⟩
theorem tyOk68 : TyOk Tryz.prog 68 ty68 := ⟨by kernel_rfl, by kernel_rfl, by kernel_rfl⟩
def ty70 : TyI := ⟨1, 8, .nilFunc, .other⟩
theorem tyOk70 : TyOk Tryz.prog 70 ty70 := ⟨by kernel_rfl, by kernel_rfl, by kernel_rfl⟩
def ty72 : TyI := ⟨1, 8, .nilFunc, .other⟩
theorem tyOk72 : TyOk Tryz.prog 72 ty72 := ⟨by kernel_rfl, by kernel_rfl, by kernel_rfl⟩
def ty73 : TyI := ⟨1, 8, .nilFunc, .other⟩
theorem tyOk73 : TyOk Tryz.prog 73 ty73 := ⟨by kernel_rfl, by kernel_rfl, by kernel_rfl⟩
def ty74 : TyI := ⟨1, 24, .slice none 0 0, .slc 128 4 32⟩
theorem tyOk74 : TyOk Tryz.prog 74 ty74 := ⟨by kernel_rfl, by kernel_rfl, by kernel_rfl⟩
def ty75 : TyI := ⟨1, 24, .slice none 0 0, .slc 120 2 16⟩
theorem tyOk75 : TyOk Tryz.prog 75 ty75 := ⟨by kernel_rfl, by kernel_rfl, by kernel_rfl⟩
def ty76 : TyI := ⟨3, 56, .agg #[.int .i64 0, .slice none 0 0, .slice none 0 0], .strct [(0, 1, some false), (1, 1, some false), (2, 1, some false)]⟩
theorem tyOk76 : TyOk Tryz.prog 76 ty76 := ⟨by kernel_rfl, by kernel_rfl, by kernel_rfl⟩
def ty77 : TyI := ⟨3, 56, .agg #[.int .i64 0, .slice none 0 0, .slice none 0 0], .strct [(0, 1, some false), (1, 1, some false), (2, 1, some false)]⟩
theorem tyOk77 : TyOk Tryz.prog 77 ty77 := ⟨by kernel_rfl, by kernel_rfl, by kernel_rfl⟩
def ty78 : TyI := ⟨1, 8, .nilFunc, .other⟩
theorem tyOk78 : TyOk Tryz.prog 78 ty78 := ⟨by kernel_rfl, by kernel_rfl, by kernel_rfl⟩
def ty79 : TyI := ⟨1, 8, .nilFunc, .other⟩
theorem tyOk79 : TyOk Tryz.prog 79 ty79 := ⟨by kernel_rfl, by kernel_rfl, by kernel_rfl⟩
def ty80 : TyI := ⟨1, 8, .nilFunc, .other⟩
theorem tyOk80 : TyOk Tryz.prog 80 ty80 := ⟨by kernel_rfl, by kernel_rfl, by kernel_rfl⟩
def ty81 : TyI := ⟨1, 8, .nilFunc, .other⟩
theorem tyOk81 : TyOk Tryz.prog 81 ty81 := ⟨by kernel_rfl, by kernel_rfl, by kernel_rfl⟩
def ty82 : TyI := ⟨1, 24, .agg #[.slice none 0 0], .strct [(0, 1, some false)]⟩
theorem tyOk82 : TyOk Tryz.prog 82 ty82 := ⟨by kernel_rfl, by kernel_rfl, by kernel_rfl⟩
def ty83 : TyI := ⟨1, 24, .agg #[.slice none 0 0], .strct [(0, 1, some false)]⟩
theorem tyOk83 : TyOk Tryz.prog 83 ty83 := ⟨by kernel_rfl, by kernel_rfl, by kernel_rfl⟩
def ty84 : TyI := ⟨1, 8, .nilFunc, .other⟩
theorem tyOk84 : TyOk Tryz.prog 84 ty84 := ⟨by kernel_rfl, by kernel_rfl, by kernel_rfl⟩
def ty85 : TyI := ⟨1, 8, .nilFunc, .other⟩
theorem tyOk85 : TyOk Tryz.prog 85 ty85 := ⟨by kernel_rfl, by kernel_rfl, by kernel_rfl⟩
def ty86 : TyI := ⟨1, 8, .nilFunc, .other⟩
theorem tyOk86 : TyOk Tryz.prog 86 ty86 := ⟨by kernel_rfl, by kernel_rfl, by kernel_rfl⟩
def ty88 : TyI := ⟨1, 8, .nilFunc, .other⟩
theorem tyOk88 : TyOk Tryz.prog 88 ty88 := ⟨by kernel_rfl, by kernel_rfl, by kernel_rfl⟩
def ty89 : TyI := ⟨1, 8, .nilFunc, .other⟩
theorem tyOk89 : TyOk Tryz.prog 89 ty89 := ⟨by kernel_rfl, by kernel_rfl, by kernel_rfl⟩
def ty90 : TyI := ⟨1, 8, .nilFunc, .other⟩
theorem tyOk90 : TyOk Tryz.prog 90 ty90 := ⟨by kernel_rfl, by kernel_rfl, by kernel_rfl⟩
def ty91 : TyI := ⟨2, 16, .agg #[.int .i64 0, .int .i64 0], .strct [(0, 1, some false), (1, 1, some false)]⟩
theorem tyOk91 : TyOk Tryz.prog 91 ty91 := ⟨by kernel_rfl, by kernel_rfl, by kernel_rfl⟩
def ty92 : TyI := ⟨2, 16, .agg #[.int .i64 0, .int .i64 0], .strct [(0, 1, some false), (1, 1, some false)]⟩
theorem tyOk92 : TyOk Tryz.prog 92 ty92 := ⟨by kernel_rfl, by kernel_rfl, by kernel_rfl⟩
def ty93 : TyI := ⟨1, 8, .nilFunc, .other⟩
theorem tyOk93 : TyOk Tryz.prog 93 ty93 := ⟨by kernel_rfl, by kernel_rfl, by kernel_rfl⟩
def ty94 : TyI := ⟨1, 8, .pointer none, .other⟩
theorem tyOk94 : TyOk Tryz.prog 94 ty94 := ⟨by kernel_rfl, by kernel_rfl, by kernel_rfl⟩
def ty96 : TyI := ⟨1, 8, .nilFunc, .other⟩
theorem tyOk96 : TyOk Tryz.prog 96 ty96 := ⟨by kernel_rfl, by kernel_rfl, by kernel_rfl⟩
def ty97 : TyI := ⟨1, 8, .nilFunc, .other⟩
theorem tyOk97 : TyOk Tryz.prog 97 ty97 := ⟨by kernel_rfl, by kernel_rfl, by kernel_rfl⟩
def ty99 : TyI := ⟨1, 8, .nilFunc, .other⟩
theorem tyOk99 : TyOk Tryz.prog 99 ty99 := ⟨by kernel_rfl, by kernel_rfl, by kernel_rfl⟩
def ty100 : TyI := ⟨1, 8, .nilFunc, .other⟩
theorem tyOk100 : TyOk Tryz.prog 100 ty100 := ⟨by kernel_rfl, by kernel_rfl, by kernel_rfl⟩
def ty101 : TyI := ⟨1, 8, .nilFunc, .other⟩
theorem tyOk101 : TyOk Tryz.prog 101 ty101 := ⟨by kernel_rfl, by kernel_rfl, by kernel_rfl⟩
def ty102 : TyI := ⟨1, 8, .nilFunc, .other⟩
theorem tyOk102 : TyOk Tryz.prog 102 ty102 := ⟨by kernel_rfl, by kernel_rfl, by kernel_rfl⟩
def ty103 : TyI := ⟨1, 8, .nilFunc, .other⟩
theorem tyOk103 : TyOk Tryz.prog 103 ty103 := ⟨by kernel_rfl, by kernel_rfl, by kernel_rfl⟩
def ty104 : TyI := ⟨1, 8, .nilFunc, .other⟩
theorem tyOk104 : TyOk Tryz.prog 104 ty104 := ⟨by kernel_rfl, by kernel_rfl, by kernel_rfl⟩
def ty105 : TyI := ⟨1, 8, .nilFunc, .other⟩
theorem tyOk105 : TyOk Tryz.prog 105 ty105 := ⟨by kernel_rfl, by kernel_rfl, by kernel_rfl⟩
def ty106 : TyI := ⟨1, 8, .nilFunc, .other⟩
theorem tyOk106 : TyOk Tryz.prog 106 ty106 := ⟨by kernel_rfl, by kernel_rfl, by kernel_rfl⟩
def ty107 : TyI := ⟨3, 24, .agg #[.int .i64 0, .int .i64 0, .int .i64 0], .strct [(0, 1, some false), (1, 1, some false), (2, 1, some false)]⟩
theorem tyOk107 : TyOk Tryz.prog 107 ty107 := ⟨by kernel_rfl, by kernel_rfl, by kernel_rfl⟩
def ty108 : TyI := ⟨3, 24, .agg #[.int .i64 0, .int .i64 0, .int .i64 0], .strct [(0, 1, some false), (1, 1, some false), (2, 1, some false)]⟩
theorem tyOk108 : TyOk Tryz.prog 108 ty108 := ⟨by kernel_rfl, by kernel_rfl, by kernel_rfl⟩
def ty109 : TyI := ⟨1, 8, .nilFunc, .other⟩
theorem tyOk109 : TyOk Tryz.prog 109 ty109 := ⟨by kernel_rfl, by kernel_rfl, by kernel_rfl⟩
def ty110 : TyI := ⟨1, 8, .nilFunc, .other⟩
theorem tyOk110 : TyOk Tryz.prog 110 ty110 := ⟨by kernel_rfl, by kernel_rfl, by kernel_rfl⟩
def ty111 : TyI := ⟨1, 8, .nilFunc, .other⟩
theorem tyOk111 : TyOk Tryz.prog 111 ty111 := ⟨by kernel_rfl, by kernel_rfl, by kernel_rfl⟩
def ty112 : TyI := ⟨1, 8, .nilFunc, .other⟩
theorem tyOk112 : TyOk Tryz.prog 112 ty112 := ⟨by kernel_rfl, by kernel_rfl, by kernel_rfl⟩
def ty113 : TyI := ⟨1, 8, .nilFunc, .other⟩
theorem tyOk113 : TyOk Tryz.prog 113 ty113 := ⟨by kernel_rfl, by kernel_rfl, by kernel_rfl⟩
def ty114 : TyI := ⟨1, 8, .nilFunc, .other⟩
theorem tyOk114 : TyOk Tryz.prog 114 ty114 := ⟨by kernel_rfl, by kernel_rfl, by kernel_rfl⟩
def ty115 : TyI := ⟨1, 8, .nilFunc, .other⟩
theorem tyOk115 : TyOk Tryz.prog 115 ty115 := ⟨by kernel_rfl, by kernel_rfl, by kernel_rfl⟩
def ty116 : TyI := ⟨1, 8, .nilFunc, .other⟩
theorem tyOk116 : TyOk Tryz.prog 116 ty116 := ⟨by kernel_rfl, by kernel_rfl, by kernel_rfl⟩
def ty117 : TyI := ⟨1, 8, .nilFunc, .other⟩
theorem tyOk117 : TyOk Tryz.prog 117 ty117 := ⟨by kernel_rfl, by kernel_rfl, by kernel_rfl⟩
def ty118 : TyI := ⟨1, 8, .nilFunc, .other⟩
theorem tyOk118 : TyOk Tryz.prog 118 ty118 := ⟨by kernel_rfl, by kernel_rfl, by kernel_rfl⟩
def ty119 : TyI := ⟨2, 16, .agg #[.int .i64 0, .int .i64 0], .strct [(0, 1, some false), (1, 1, some false)]⟩
theorem tyOk119 : TyOk Tryz.prog 119 ty119 := ⟨by kernel_rfl, by kernel_rfl, by kernel_rfl⟩
def ty120 : TyI := ⟨2, 16, .agg #[.int .i64 0, .int .i64 0], .strct [(0, 1, some false), (1, 1, some false)]⟩
theorem tyOk120 : TyOk Tryz.prog 120 ty120 := ⟨by kernel_rfl, by kernel_rfl, by kernel_rfl⟩
def ty121 : TyI := ⟨1, 8, .nilFunc, .other⟩
theorem tyOk121 : TyOk Tryz.prog 121 ty121 := ⟨by kernel_rfl, by kernel_rfl, by kernel_rfl⟩
def ty122 : TyI := ⟨1, 8, .nilFunc, .other⟩
theorem tyOk122 : TyOk Tryz.prog 122 ty122 := ⟨by kernel_rfl, by kernel_rfl, by kernel_rfl⟩
def ty123 : TyI := ⟨1, 8, .nilFunc, .other⟩
theorem tyOk123 : TyOk Tryz.prog 123 ty123 := ⟨by kernel_rfl, by kernel_rfl, by kernel_rfl⟩
def ty124 : TyI := ⟨1, 8, .nilFunc, .other⟩
theorem tyOk124 : TyOk Tryz.prog 124 ty124 := ⟨by kernel_rfl, by kernel_rfl, by kernel_rfl⟩
def ty125 : TyI := ⟨1, 8, .nilFunc, .other⟩
theorem tyOk125 : TyOk Tryz.prog 125 ty125 := ⟨by kernel_rfl, by kernel_rfl, by kernel_rfl⟩
def ty126 : TyI := ⟨1, 8, .nilFunc, .other⟩
theorem tyOk126 : TyOk Tryz.prog 126 ty126 := ⟨by kernel_rfl, by kernel_rfl, by kernel_rfl⟩
def ty127 : TyI := ⟨4, 32, .agg #[.int .i64 0, .int .i64 0, .int .i64 0, .int .i64 0], .strct [(0, 1, some false), (1, 3, some true)]⟩
theorem tyOk127 : TyOk Tryz.prog 127 ty127 := ⟨by kernel_rfl, by kernel_rfl, by kernel_rfl⟩
def ty128 : TyI := ⟨4, 32, .agg #[.int .i64 0, .int .i64 0, .int .i64 0, .int .i64 0], .strct [(0, 1, some false), (1, 3, some true)]⟩
theorem tyOk128 : TyOk Tryz.prog 128 ty128 := ⟨by kernel_rfl, by kernel_rfl, by kernel_rfl⟩
def ty129 : TyI := ⟨1, 8, .nilFunc, .other⟩
theorem tyOk129 : TyOk Tryz.prog 129 ty129 := ⟨by kernel_rfl, by kernel_rfl, by kernel_rfl⟩
def ty130 : TyI := ⟨1, 8, .nilFunc, .other⟩
theorem tyOk130 : TyOk Tryz.prog 130 ty130 := ⟨by kernel_rfl, by kernel_rfl, by kernel_rfl⟩
def ty131 : TyI := ⟨1, 8, .map none, .map 108 66⟩
theorem tyOk131 : TyOk Tryz.prog 131 ty131 := ⟨by kernel_rfl, by kernel_rfl, by kernel_rfl⟩
def ty132 : TyI := ⟨5, 72, .agg #[.int .i64 0, .int .i64 0, .slice none 0 0, .slice none 0 0, .map none], .strct [(0, 4, some true), (4, 1, some false)]⟩
theorem tyOk132 : TyOk Tryz.prog 132 ty132 := ⟨by kernel_rfl, by kernel_rfl, by kernel_rfl⟩
def ty133 : TyI := ⟨5, 72, .agg #[.int .i64 0, .int .i64 0, .slice none 0 0, .slice none 0 0, .map none], .strct [(0, 4, some true), (4, 1, some false)]⟩
theorem tyOk133 : TyOk Tryz.prog 133 ty133 := ⟨by kernel_rfl, by kernel_rfl, by kernel_rfl⟩
def ty134 : TyI := ⟨1, 8, .nilFunc, .other⟩
theorem tyOk134 : TyOk Tryz.prog 134 ty134 := ⟨by kernel_rfl, by kernel_rfl, by kernel_rfl⟩
def ty135 : TyI := ⟨1, 8, .nilFunc, .other⟩
theorem tyOk135 : TyOk Tryz.prog 135 ty135 := ⟨by kernel_rfl, by kernel_rfl, by kernel_rfl⟩
def ty136 : TyI := ⟨1, 8, .nilFunc, .other⟩
theorem tyOk136 : TyOk Tryz.prog 136 ty136 := ⟨by kernel_rfl, by kernel_rfl, by kernel_rfl⟩
def ty137 : TyI := ⟨1, 8, .nilFunc, .other⟩
theorem tyOk137 : TyOk Tryz.prog 137 ty137 := ⟨by kernel_rfl, by kernel_rfl, by kernel_rfl⟩
def ty138 : TyI := ⟨1, 8, .nilFunc, .other⟩
theorem tyOk138 : TyOk Tryz.prog 138 ty138 := ⟨by kernel_rfl, by kernel_rfl, by kernel_rfl⟩
def ty139 : TyI := ⟨1, 8, .nilFunc, .other⟩
theorem tyOk139 : TyOk Tryz.prog 139 ty139 := ⟨by kernel_rfl, by kernel_rfl, by kernel_rfl⟩
def ty140 : TyI := ⟨1, 8, .nilFunc, .other⟩
theorem tyOk140 : TyOk Tryz.prog 140 ty140 := ⟨by kernel_rfl, by kernel_rfl, by kernel_rfl⟩
def ty141 : TyI := ⟨1, 8, .nilFunc, .other⟩
theorem tyOk141 : TyOk Tryz.prog 141 ty141 := ⟨by kernel_rfl, by kernel_rfl, by kernel_rfl⟩
def ty142 : TyI := ⟨1, 8, .nilFunc, .other⟩
theorem tyOk142 : TyOk Tryz.prog 142 ty142 := ⟨by kernel_rfl, by kernel_rfl, by kernel_rfl⟩
def ty143 : TyI := ⟨1, 8, .nilFunc, .other⟩
theorem tyOk143 : TyOk Tryz.prog 143 ty143 := ⟨by kernel_rfl, by kernel_rfl, by kernel_rfl⟩
def ty144 : TyI := ⟨1, 8, .nilFunc, .other⟩
theorem tyOk144 : TyOk Tryz.prog 144 ty144 := ⟨by kernel_rfl, by kernel_rfl, by kernel_rfl⟩
def ty145 : TyI := ⟨1, 8, .nilFunc, .other⟩
theorem tyOk145 : TyOk Tryz.prog 145 ty145 := ⟨by kernel_rfl, by kernel_rfl, by kernel_rfl⟩
def ty146 : TyI := ⟨1, 8, .nilFunc, .other⟩
theorem tyOk146 : TyOk Tryz.prog 146 ty146 := ⟨by kernel_rfl, by kernel_rfl, by kernel_rfl⟩
def ty147 : TyI := ⟨1, 8, .nilFunc, .other⟩
theorem tyOk147 : TyOk Tryz.prog 147 ty147 := ⟨by kernel_rfl, by kernel_rfl, by kernel_rfl⟩
def ty148 : TyI := ⟨1, 8, .nilFunc, .other⟩
theorem tyOk148 : TyOk Tryz.prog 148 ty148 := ⟨by kernel_rfl, by kernel_rfl, by kernel_rfl⟩
def ty149 : TyI := ⟨1, 8, .nilFunc, .other⟩
theorem tyOk149 : TyOk Tryz.prog 149 ty149 := ⟨by kernel_rfl, by kernel_rfl, by kernel_rfl⟩
def ty150 : TyI := ⟨1, 8, .nilFunc, .other⟩
theorem tyOk150 : TyOk Tryz.prog 150 ty150 := ⟨by kernel_rfl, by kernel_rfl, by kernel_rfl⟩
def ty151 : TyI := ⟨1, 8, .nilFunc, .other⟩
theorem tyOk151 : TyOk Tryz.prog 151 ty151 := ⟨by kernel_rfl, by kernel_rfl, by kernel_rfl⟩
def ty153 : TyI := ⟨1, 8, .nilFunc, .other⟩
theorem tyOk153 : TyOk Tryz.prog 153 ty153 := ⟨by kernel_rfl, by kernel_rfl, by kernel_rfl⟩
def ty154 : TyI := ⟨1, 8, .nilFunc, .other⟩
theorem tyOk154 : TyOk Tryz.prog 154 ty154 := ⟨by kernel_rfl, by kernel_rfl, by kernel_rfl⟩
def ty155 : TyI := ⟨1, 8, .nilFunc, .other⟩
theorem tyOk155 : TyOk Tryz.prog 155 ty155 := ⟨by kernel_rfl, by kernel_rfl, by kernel_rfl⟩
def ty156 : TyI := ⟨1, 8, .nilFunc, .other⟩
theorem tyOk156 : TyOk Tryz.prog 156 ty156 := ⟨by kernel_rfl, by kernel_rfl, by kernel_rfl⟩
def ty157 : TyI := ⟨1, 8, .nilFunc, .other⟩
theorem tyOk157 : TyOk Tryz.prog 157 ty157 := ⟨by kernel_rfl, by kernel_rfl, by kernel_rfl⟩
def ty158 : TyI := ⟨1, 8, .nilFunc, .other⟩
theorem tyOk158 : TyOk Tryz.prog 158 ty158 := ⟨by kernel_rfl, by kernel_rfl, by kernel_rfl⟩
def ty159 : TyI := ⟨1, 8, .nilFunc, .other⟩
theorem tyOk159 : TyOk Tryz.prog 159 ty159 := ⟨by kernel_rfl, by kernel_rfl, by kernel_rfl⟩
def ty160 : TyI := ⟨1, 8, .map none, .map 163 4⟩
theorem tyOk160 : TyOk Tryz.prog 160 ty160 := ⟨by kernel_rfl, by kernel_rfl, by kernel_rfl⟩
def ty161 : TyI := ⟨1, 8, .nilFunc, .other⟩
theorem tyOk161 : TyOk Tryz.prog 161 ty161 := ⟨by kernel_rfl, by kernel_rfl, by kernel_rfl⟩
def ty162 : TyI := ⟨2, 16, .agg #[.int .i64 0, .int .i64 0], .strct [(0, 1, some false), (1, 1, some false)]⟩
theorem tyOk162 : TyOk Tryz.prog 162 ty162 := ⟨by kernel_rfl, by kernel_rfl, by kernel_rfl⟩
def ty163 : TyI := ⟨2, 16, .agg #[.int .i64 0, .int .i64 0], .strct [(0, 1, some false), (1, 1, some false)]⟩
theorem tyOk163 : TyOk Tryz.prog 163 ty163 := ⟨by kernel_rfl, by kernel_rfl, by kernel_rfl⟩
def ty164 : TyI := ⟨1, 8, .nilFunc, .other⟩
theorem tyOk164 : TyOk Tryz.prog 164 ty164 := ⟨by kernel_rfl, by kernel_rfl, by kernel_rfl⟩
def ty165 : TyI := ⟨1, 24, .slice none 0 0, .slc 26 1 24⟩
theorem tyOk165 : TyOk Tryz.prog 165 ty165 := ⟨by kernel_rfl, by kernel_rfl, by kernel_rfl⟩
def ty166 : TyI := ⟨1, 24, .agg #[.slice none 0 0], .strct [(0, 1, some false)]⟩
theorem tyOk166 : TyOk Tryz.prog 166 ty166 := ⟨by kernel_rfl, by kernel_rfl, by kernel_rfl⟩
def ty167 : TyI := ⟨1, 24, .agg #[.slice none 0 0], .strct [(0, 1, some false)]⟩
theorem tyOk167 : TyOk Tryz.prog 167 ty167 := ⟨by kernel_rfl, by kernel_rfl, by kernel_rfl⟩
def ty168 : TyI := ⟨1, 8, .nilFunc, .other⟩
theorem tyOk168 : TyOk Tryz.prog 168 ty168 := ⟨by kernel_rfl, by kernel_rfl, by kernel_rfl⟩
def ty169 : TyI := ⟨1, 8, .nilFunc, .other⟩
theorem tyOk169 : TyOk Tryz.prog 169 ty169 := ⟨by kernel_rfl, by kernel_rfl, by kernel_rfl⟩
def ty171 : TyI := ⟨1, 8, .nilFunc, .other⟩
theorem tyOk171 : TyOk Tryz.prog 171 ty171 := ⟨by kernel_rfl, by kernel_rfl, by kernel_rfl⟩
def ty172 : TyI := ⟨1, 8, .nilFunc, .other⟩
theorem tyOk172 : TyOk Tryz.prog 172 ty172 := ⟨by kernel_rfl, by kernel_rfl, by kernel_rfl⟩
def ty173 : TyI := ⟨1, 8, .nilFunc, .other⟩
theorem tyOk173 : TyOk Tryz.prog 173 ty173 := ⟨by kernel_rfl, by kernel_rfl, by kernel_rfl⟩
def ty174 : TyI := ⟨1, 8, .int .u64 0, .int .u64⟩
theorem tyOk174 : TyOk Tryz.prog 174 ty174 := ⟨by kernel_rfl, by kernel_rfl, by kernel_rfl⟩
def ty175 : TyI := ⟨1, 8, .nilFunc, .other⟩
theorem tyOk175 : TyOk Tryz.prog 175 ty175 := ⟨by kernel_rfl, by kernel_rfl, by kernel_rfl⟩
def ty176 : TyI := ⟨1, 24, .slice none 0 0, .slc 48 1 24⟩
theorem tyOk176 : TyOk Tryz.prog 176 ty176 := ⟨by kernel_rfl, by kernel_rfl, by kernel_rfl⟩
def ty177 : TyI := ⟨1, 8, .nilFunc, .other⟩
theorem tyOk177 : TyOk Tryz.prog 177 ty177 := ⟨by kernel_rfl, by kernel_rfl, by kernel_rfl⟩
def ty178 : TyI := ⟨1, 8, .nilFunc, .other⟩
theorem tyOk178 : TyOk Tryz.prog 178 ty178 := ⟨by kernel_rfl, by kernel_rfl, by kernel_rfl⟩
def ty179 : TyI := ⟨1, 8, .nilFunc, .other⟩
theorem tyOk179 : TyOk Tryz.prog 179 ty179 := ⟨by kernel_rfl, by kernel_rfl, by kernel_rfl⟩
def ty180 : TyI := ⟨1, 8, .nilFunc, .other⟩
theorem tyOk180 : TyOk Tryz.prog 180 ty180 := ⟨by kernel_rfl, by kernel_rfl, by kernel_rfl⟩
def ty181 : TyI := ⟨1, 8, .nilFunc, .other⟩
theorem tyOk181 : TyOk Tryz.prog 181 ty181 := ⟨by kernel_rfl, by kernel_rfl, by kernel_rfl⟩
def ty182 : TyI := ⟨1, 8, .nilFunc, .other⟩
theorem tyOk182 : TyOk Tryz.prog 182 ty182 := ⟨by kernel_rfl, by kernel_rfl, by kernel_rfl⟩
def ty183 : TyI := ⟨1, 8, .nilFunc, .other⟩
theorem tyOk183 : TyOk Tryz.prog 183 ty183 := ⟨by kernel_rfl, by kernel_rfl, by kernel_rfl⟩
def ty184 : TyI := ⟨1, 8, .nilFunc, .other⟩
theorem tyOk184 : TyOk Tryz.prog 184 ty184 := ⟨by kernel_rfl, by kernel_rfl, by kernel_rfl⟩
def ty185 : TyI := ⟨1, 8, .nilFunc, .other⟩
theorem tyOk185 : TyOk Tryz.prog 185 ty185 := ⟨by kernel_rfl, by kernel_rfl, by kernel_rfl⟩
def ty186 : TyI := ⟨1, 8, .nilFunc, .other⟩
theorem tyOk186 : TyOk Tryz.prog 186 ty186 := ⟨by kernel_rfl, by kernel_rfl, by kernel_rfl⟩
def ty187 : TyI := ⟨1, 8, .nilFunc, .other⟩
theorem tyOk187 : TyOk Tryz.prog 187 ty187 := ⟨by kernel_rfl, by kernel_rfl, by kernel_rfl⟩
def ty188 : TyI := ⟨1, 8, .nilFunc, .other⟩
theorem tyOk188 : TyOk Tryz.prog 188 ty188 := ⟨by kernel_rfl, by kernel_rfl, by kernel_rfl⟩
def ty189 : TyI := ⟨1, 8, .nilFunc, .other⟩
theorem tyOk189 : TyOk Tryz.prog 189 ty189 := ⟨by kernel_rfl, by kernel_rfl, by kernel_rfl⟩
def ty190 : TyI := ⟨1, 8, .nilFunc, .other⟩
theorem tyOk190 : TyOk Tryz.prog 190 ty190 := ⟨by kernel_rfl, by kernel_rfl, by kernel_rfl⟩
def ty191 : TyI := ⟨1, 8, .nilFunc, .other⟩
theorem tyOk191 : TyOk Tryz.prog 191 ty191 := ⟨by kernel_rfl, by kernel_rfl, by kernel_rfl⟩
def ty192 : TyI := ⟨1, 8, .nilFunc, .other⟩
theorem tyOk192 : TyOk Tryz.prog 192 ty192 := ⟨by kernel_rfl, by kernel_rfl, by kernel_rfl⟩
def ty193 : TyI := ⟨1, 8, .nilFunc, .other⟩
theorem tyOk193 : TyOk Tryz.prog 193 ty193 := ⟨by kernel_rfl, by kernel_rfl, by kernel_rfl⟩
def ty194 : TyI := ⟨1, 8, .nilFunc, .other⟩
theorem tyOk194 : TyOk Tryz.prog 194 ty194 := ⟨by kernel_rfl, by kernel_rfl, by kernel_rfl⟩
def ty195 : TyI := ⟨1, 8, .nilFunc, .other⟩
theorem tyOk195 : TyOk Tryz.prog 195 ty195 := ⟨by kernel_rfl, by kernel_rfl, by kernel_rfl⟩
def ty196 : TyI := ⟨1, 8, .nilFunc, .other⟩
theorem tyOk196 : TyOk Tryz.prog 196 ty196 := ⟨by kernel_rfl, by kernel_rfl, by kernel_rfl⟩
def ty197 : TyI := ⟨1, 8, .nilFunc, .other⟩
theorem tyOk197 : TyOk Tryz.prog 197 ty197 := ⟨by kernel_rfl, by kernel_rfl, by kernel_rfl⟩
def ty198 : TyI := ⟨1, 8, .nilFunc, .other⟩
theorem tyOk198 : TyOk Tryz.prog 198 ty198 := ⟨by kernel_rfl, by kernel_rfl, by kernel_rfl⟩
def ty199 : TyI := ⟨1, 8, .nilFunc, .other⟩
theorem tyOk199 : TyOk Tryz.prog 199 ty199 := ⟨by kernel_rfl, by kernel_rfl, by kernel_rfl⟩
def ty200 : TyI := ⟨1, 8, .nilFunc, .other⟩
theorem tyOk200 : TyOk Tryz.prog 200 ty200 := ⟨by kernel_rfl, by kernel_rfl, by kernel_rfl⟩
def ty201 : TyI := ⟨1, 8, .int .i64 0, .int .i64⟩
theorem tyOk201 : TyOk Tryz.prog 201 ty201 := ⟨by kernel_rfl, by kernel_rfl, by kernel_rfl⟩
def ty203 : TyI := ⟨1, 8, .nilFunc, .other⟩
theorem tyOk203 : TyOk Tryz.prog 203 ty203 := ⟨by kernel_rfl, by kernel_rfl, by kernel_rfl⟩
def ty204 : TyI := ⟨1, 8, .nilFunc, .other⟩
theorem tyOk204 : TyOk Tryz.prog 204 ty204 := ⟨by kernel_rfl, by kernel_rfl, by kernel_rfl⟩
def ty205 : TyI := ⟨1, 8, .nilFunc, .other⟩
theorem tyOk205 : TyOk Tryz.prog 205 ty205 := ⟨by kernel_rfl, by kernel_rfl, by kernel_rfl⟩
def ty207 : TyI := ⟨1, 8, .nilFunc, .other⟩
theorem tyOk207 : TyOk Tryz.prog 207 ty207 := ⟨by kernel_rfl, by kernel_rfl, by kernel_rfl⟩
def ty208 : TyI := ⟨1, 8, .nilFunc, .other⟩
theorem tyOk208 : TyOk Tryz.prog 208 ty208 := ⟨by kernel_rfl, by kernel_rfl, by kernel_rfl⟩
def ty209 : TyI := ⟨1, 4, .int .u32 0, .int .u32⟩
theorem tyOk209 : TyOk Tryz.prog 209 ty209 := ⟨by kernel_rfl, by kernel_rfl, by kernel_rfl⟩
def ty210 : TyI := ⟨1, 8, .nilFunc, .other⟩
theorem tyOk210 : TyOk Tryz.prog 210 ty210 := ⟨by kernel_rfl, by kernel_rfl, by kernel_rfl⟩
def ty211 : TyI := ⟨1, 8, .int .u64 0, .int .u64⟩
theorem tyOk211 : TyOk Tryz.prog 211 ty211 := ⟨by kernel_rfl, by kernel_rfl, by kernel_rfl⟩
def ty212 : TyI := ⟨1, 8, .nilFunc, .other⟩
theorem tyOk212 : TyOk Tryz.prog 212 ty212 := ⟨by kernel_rfl, by kernel_rfl, by kernel_rfl⟩
def ty213 : TyI := ⟨1, 8, .nilFunc, .other⟩
theorem tyOk213 : TyOk Tryz.prog 213 ty213 := ⟨by kernel_rfl, by kernel_rfl, by kernel_rfl⟩
def ty214 : TyI := ⟨1, 8, .nilFunc, .other⟩
theorem tyOk214 : TyOk Tryz.prog 214 ty214 := ⟨by kernel_rfl, by kernel_rfl, by kernel_rfl⟩
def ty215 : TyI := ⟨1, 8, .nilFunc, .other⟩
theorem tyOk215 : TyOk Tryz.prog 215 ty215 := ⟨by kernel_rfl, by kernel_rfl, by kernel_rfl⟩
def ty216 : TyI := ⟨1, 8, .nilFunc, .other⟩
theorem tyOk216 : TyOk Tryz.prog 216 ty216 := ⟨by kernel_rfl, by kernel_rfl, by kernel_rfl⟩
def ty217 : TyI := ⟨1, 8, .nilFunc, .other⟩
theorem tyOk217 : TyOk Tryz.prog 217 ty217 := ⟨by kernel_rfl, by kernel_rfl, by kernel_rfl⟩
def ty218 : TyI := ⟨1, 8, .nilFunc, .other⟩
theorem tyOk218 : TyOk Tryz.prog 218 ty218 := ⟨by kernel_rfl, by kernel_rfl, by kernel_rfl⟩
def ty219 : TyI := ⟨1, 8, .nilFunc, .other⟩
theorem tyOk219 : TyOk Tryz.prog 219 ty219 := ⟨by kernel_rfl, by kernel_rfl, by kernel_rfl⟩
def ty220 : TyI := ⟨1, 8, .nilFunc, .other⟩
theorem tyOk220 : TyOk Tryz.prog 220 ty220 := ⟨by kernel_rfl, by kernel_rfl, by kernel_rfl⟩
def ty221 : TyI := ⟨1, 8, .nilFunc, .other⟩
theorem tyOk221 : TyOk Tryz.prog 221 ty221 := ⟨by kernel_rfl, by kernel_rfl, by kernel_rfl⟩
def ty223 : TyI := ⟨1, 8, .nilFunc, .other⟩
theorem tyOk223 : TyOk Tryz.prog 223 ty223 := ⟨by kernel_rfl, by kernel_rfl, by kernel_rfl⟩
def ty224 : TyI := ⟨1, 8, .nilFunc, .other⟩
theorem tyOk224 : TyOk Tryz.prog 224 ty224 := ⟨by kernel_rfl, by kernel_rfl, by kernel_rfl⟩
def ty225 : TyI := ⟨1, 8, .nilFunc, .other⟩
theorem tyOk225 : TyOk Tryz.prog 225 ty225 := ⟨by kernel_rfl, by kernel_rfl, by kernel_rfl⟩
def ty227 : TyI := ⟨1, 8, .nilFunc, .other⟩
theorem tyOk227 : TyOk Tryz.prog 227 ty227 := ⟨by kernel_rfl, by kernel_rfl, by kernel_rfl⟩
def ty228 : TyI := ⟨1, 8, .nilFunc, .other⟩
theorem tyOk228 : TyOk Tryz.prog 228 ty228 := ⟨by kernel_rfl, by kernel_rfl, by kernel_rfl⟩
def ty229 : TyI := ⟨1, 8, .nilFunc, .other⟩
theorem tyOk229 : TyOk Tryz.prog 229 ty229 := ⟨by kernel_rfl, by kernel_rfl, by kernel_rfl⟩
def ty230 : TyI := ⟨1, 8, .nilFunc, .other⟩
theorem tyOk230 : TyOk Tryz.prog 230 ty230 := ⟨by kernel_rfl, by kernel_rfl, by kernel_rfl⟩
def ty231 : TyI := ⟨1, 8, .nilFunc, .other⟩
theorem tyOk231 : TyOk Tryz.prog 231 ty231 := ⟨by kernel_rfl, by kernel_rfl, by kernel_rfl⟩
def ty232 : TyI := ⟨1, 8, .nilFunc, .other⟩
theorem tyOk232 : TyOk Tryz.prog 232 ty232 := ⟨by kernel_rfl, by kernel_rfl, by kernel_rfl⟩
def ty233 : TyI := ⟨1, 8, .int .u64 0, .int .u64⟩
theorem tyOk233 : TyOk Tryz.prog 233 ty233 := ⟨by kernel_rfl, by kernel_rfl, by kernel_rfl⟩
def ty234 : TyI := ⟨1, 8, .nilFunc, .other⟩
theorem tyOk234 : TyOk Tryz.prog 234 ty234 := ⟨by kernel_rfl, by kernel_rfl, by kernel_rfl⟩
def ty235 : TyI := ⟨1, 8, .nilFunc, .other⟩
theorem tyOk235 : TyOk Tryz.prog 235 ty235 := ⟨by kernel_rfl, by kernel_rfl, by kernel_rfl⟩
def ty236 : TyI := ⟨1, 8, .nilFunc, .other⟩
theorem tyOk236 : TyOk Tryz.prog 236 ty236 := ⟨by kernel_rfl, by kernel_rfl, by kernel_rfl⟩
def ty237 : TyI := ⟨1, 8, .pointer none, .other⟩
theorem tyOk237 : TyOk Tryz.prog 237 ty237 := ⟨by kernel_rfl, by kernel_rfl, by kernel_rfl⟩
def ty238 : TyI := ⟨1, 8, .nilFunc, .other⟩
theorem tyOk238 : TyOk Tryz.prog 238 ty238 := ⟨by kernel_rfl, by kernel_rfl, by kernel_rfl⟩
def ty239 : TyI := ⟨1, 8, .nilFunc, .other⟩
theorem tyOk239 : TyOk Tryz.prog 239 ty239 := ⟨by kernel_rfl, by kernel_rfl, by kernel_rfl⟩
def ty241 : TyI := ⟨1, 8, .nilFunc, .other⟩
theorem tyOk241 : TyOk Tryz.prog 241 ty241 := ⟨by kernel_rfl, by kernel_rfl, by kernel_rfl⟩
def ty242 : TyI := ⟨1, 8, .nilFunc, .other⟩
theorem tyOk242 : TyOk Tryz.prog 242 ty242 := ⟨by kernel_rfl, by kernel_rfl, by kernel_rfl⟩
def ty243 : TyI := ⟨1, 8, .nilFunc, .other⟩
theorem tyOk243 : TyOk Tryz.prog 243 ty243 := ⟨by kernel_rfl, by kernel_rfl, by kernel_rfl⟩
def ty244 : TyI := ⟨1, 8, .nilFunc, .other⟩
theorem tyOk244 : TyOk Tryz.prog 244 ty244 := ⟨by kernel_rfl, by kernel_rfl, by kernel_rfl⟩
def ty245 : TyI := ⟨1, 8, .nilFunc, .other⟩
theorem tyOk245 : TyOk Tryz.prog 245 ty245 := ⟨by kernel_rfl, by kernel_rfl, by kernel_rfl⟩
def ty246 : TyI := ⟨1, 8, .nilFunc, .other⟩
theorem tyOk246 : TyOk Tryz.prog 246 ty246 := ⟨by kernel_rfl, by kernel_rfl, by kernel_rfl⟩
def ty248 : TyI := ⟨1, 8, .nilFunc, .other⟩
theorem tyOk248 : TyOk Tryz.prog 248 ty248 := ⟨by kernel_rfl, by kernel_rfl, by kernel_rfl⟩
def ty249 : TyI := ⟨1, 8, .nilFunc, .other⟩
theorem tyOk249 : TyOk Tryz.prog 249 ty249 := ⟨by kernel_rfl, by kernel_rfl, by kernel_rfl⟩
def ty250 : TyI := ⟨1, 8, .map none, .map 3 263⟩
theorem tyOk250 : TyOk Tryz.prog 250 ty250 := ⟨by kernel_rfl, by kernel_rfl, by kernel_rfl⟩
def ty251 : TyI := ⟨1, 8, .nilFunc, .other⟩
theorem tyOk251 : TyOk Tryz.prog 251 ty251 := ⟨by kernel_rfl, by kernel_rfl, by kernel_rfl⟩
def ty252 : TyI := ⟨8, 96, .agg #[.slice none 0 0, .int .i64 0, .int .i64 0, .int .i64 0, .int .i64 0, .int .i64 0, .slice none 0 0, .map none], .strct [(0, 1, some true), (1, 1, some false), (2, 5, some true), (7, 1, some false)]⟩
theorem tyOk252 : TyOk Tryz.prog 252 ty252 := ⟨by kernel_rfl, by kernel_rfl, by kernel_rfl⟩
def ty253 : TyI := ⟨8, 96, .agg #[.slice none 0 0, .int .i64 0, .int .i64 0, .int .i64 0, .int .i64 0, .int .i64 0, .slice none 0 0, .map none], .strct [(0, 1, some true), (1, 1, some false), (2, 5, some true), (7, 1, some false)]⟩
theorem tyOk253 : TyOk Tryz.prog 253 ty253 := ⟨by kernel_rfl, by kernel_rfl, by kernel_rfl⟩
def ty254 : TyI := ⟨1, 8, .nilFunc, .other⟩
theorem tyOk254 : TyOk Tryz.prog 254 ty254 := ⟨by kernel_rfl, by kernel_rfl, by kernel_rfl⟩
def ty255 : TyI := ⟨1, 8, .nilFunc, .other⟩
theorem tyOk255 : TyOk Tryz.prog 255 ty255 := ⟨by kernel_rfl, by kernel_rfl, by kernel_rfl⟩
def ty256 : TyI := ⟨1, 8, .nilFunc, .other⟩
theorem tyOk256 : TyOk Tryz.prog 256 ty256 := ⟨by kernel_rfl, by kernel_rfl, by kernel_rfl⟩
def ty257 : TyI := ⟨1, 8, .pointer none, .other⟩
theorem tyOk257 : TyOk Tryz.prog 257 ty257 := ⟨by kernel_rfl, by kernel_rfl, by kernel_rfl⟩
def ty258 : TyI := ⟨1, 8, .nilFunc, .other⟩
theorem tyOk258 : TyOk Tryz.prog 258 ty258 := ⟨by kernel_rfl, by kernel_rfl, by kernel_rfl⟩
def ty259 : TyI := ⟨1, 8, .nilFunc, .other⟩
theorem tyOk259 : TyOk Tryz.prog 259 ty259 := ⟨by kernel_rfl, by kernel_rfl, by kernel_rfl⟩
def ty260 : TyI := ⟨1, 8, .nilFunc, .other⟩
theorem tyOk260 : TyOk Tryz.prog 260 ty260 := ⟨by kernel_rfl, by kernel_rfl, by kernel_rfl⟩
def ty261 : TyI := ⟨1, 8, .nilFunc, .other⟩
theorem tyOk261 : TyOk Tryz.prog 261 ty261 := ⟨by kernel_rfl, by kernel_rfl, by kernel_rfl⟩
def ty262 : TyI := ⟨1, 8, .nilFunc, .other⟩
theorem tyOk262 : TyOk Tryz.prog 262 ty262 := ⟨by kernel_rfl, by kernel_rfl, by kernel_rfl⟩
def ty263 : TyI := ⟨1, 8, .nilFunc, .other⟩
theorem tyOk263 : TyOk Tryz.prog 263 ty263 := ⟨by kernel_rfl, by kernel_rfl, by kernel_rfl⟩
def ty264 : TyI := ⟨1, 8, .nilFunc, .other⟩
theorem tyOk264 : TyOk Tryz.prog 264 ty264 := ⟨by kernel_rfl, by kernel_rfl, by kernel_rfl⟩
def ty265 : TyI := ⟨1, 8, .nilFunc, .other⟩
theorem tyOk265 : TyOk Tryz.prog 265 ty265 := ⟨by kernel_rfl, by kernel_rfl, by kernel_rfl⟩
def ty266 : TyI := ⟨1, 8, .nilFunc, .other⟩
theorem tyOk266 : TyOk Tryz.prog 266 ty266 := ⟨by kernel_rfl, by kernel_rfl, by kernel_rfl⟩
def ty267 : TyI := ⟨1, 8, .nilFunc, .other⟩
theorem tyOk267 : TyOk Tryz.prog 267 ty267 := ⟨by kernel_rfl, by kernel_rfl, by kernel_rfl⟩
def ty268 : TyI := ⟨1, 8, .nilFunc, .other⟩
theorem tyOk268 : TyOk Tryz.prog 268 ty268 := ⟨by kernel_rfl, by kernel_rfl, by kernel_rfl⟩
def ty269 : TyI := ⟨1, 8, .nilFunc, .other⟩
theorem tyOk269 : TyOk Tryz.prog 269 ty269 := ⟨by kernel_rfl, by kernel_rfl, by kernel_rfl⟩
def ty270 : TyI := ⟨1, 8, .nilFunc, .other⟩
theorem tyOk270 : TyOk Tryz.prog 270 ty270 := ⟨by kernel_rfl, by kernel_rfl, by kernel_rfl⟩
def ty271 : TyI := ⟨1, 8, .nilFunc, .other⟩
theorem tyOk271 : TyOk Tryz.prog 271 ty271 := ⟨by kernel_rfl, by kernel_rfl, by kernel_rfl⟩
def ty272 : TyI := ⟨1, 8, .nilFunc, .other⟩
theorem tyOk272 : TyOk Tryz.prog 272 ty272 := ⟨by kernel_rfl, by kernel_rfl, by kernel_rfl⟩
def ty273 : TyI := ⟨1, 8, .nilFunc, .other⟩
theorem tyOk273 : TyOk Tryz.prog 273 ty273 := ⟨by kernel_rfl, by kernel_rfl, by kernel_rfl⟩
def ty274 : TyI := ⟨5, 48, .agg #[.int .i64 0, .int .i64 0, .int .i64 0, .int .i64 0, .string ByteArray.empty], .strct [(0, 1, some false), (1, 1, some false), (2, 3, some true)]⟩
theorem tyOk274 : TyOk Tryz.prog 274 ty274 := ⟨by kernel_rfl, by kernel_rfl, by kernel_rfl⟩
def ty275 : TyI := ⟨5, 48, .agg #[.int .i64 0, .int .i64 0, .int .i64 0, .int .i64 0, .string ByteArray.empty], .strct [(0, 1, some false), (1, 1, some false), (2, 3, some true)]⟩
theorem tyOk275 : TyOk Tryz.prog 275 ty275 := ⟨by kernel_rfl, by kernel_rfl, by kernel_rfl⟩
def ty277 : TyI := ⟨1, 8, .nilFunc, .other⟩
theorem tyOk277 : TyOk Tryz.prog 277 ty277 := ⟨by kernel_rfl, by kernel_rfl, by kernel_rfl⟩
def ty278 : TyI := ⟨1, 8, .nilFunc, .other⟩
theorem tyOk278 : TyOk Tryz.prog 278 ty278 := ⟨by kernel_rfl, by kernel_rfl, by kernel_rfl⟩
def ty279 : TyI := ⟨1, 8, .nilFunc, .other⟩
theorem tyOk279 : TyOk Tryz.prog 279 ty279 := ⟨by kernel_rfl, by kernel_rfl, by kernel_rfl⟩
def ty280 : TyI := ⟨1, 8, .nilFunc, .other⟩
theorem tyOk280 : TyOk Tryz.prog 280 ty280 := ⟨by kernel_rfl, by kernel_rfl, by kernel_rfl⟩
def ty281 : TyI := ⟨1, 8, .nilFunc, .other⟩
theorem tyOk281 : TyOk Tryz.prog 281 ty281 := ⟨by kernel_rfl, by kernel_rfl, by kernel_rfl⟩
def ty282 : TyI := ⟨1, 8, .nilFunc, .other⟩
theorem tyOk282 : TyOk Tryz.prog 282 ty282 := ⟨by kernel_rfl, by kernel_rfl, by kernel_rfl⟩
def ty283 : TyI := ⟨1, 8, .nilFunc, .other⟩
theorem tyOk283 : TyOk Tryz.prog 283 ty283 := ⟨by kernel_rfl, by kernel_rfl, by kernel_rfl⟩
def ty284 : TyI := ⟨1, 8, .nilFunc, .other⟩
theorem tyOk284 : TyOk Tryz.prog 284 ty284 := ⟨by kernel_rfl, by kernel_rfl, by kernel_rfl⟩
def ty285 : TyI := ⟨1, 8, .nilFunc, .other⟩
theorem tyOk285 : TyOk Tryz.prog 285 ty285 := ⟨by kernel_rfl, by kernel_rfl, by kernel_rfl⟩
def ty286 : TyI := ⟨1, 8, .nilFunc, .other⟩
theorem tyOk286 : TyOk Tryz.prog 286 ty286 := ⟨by kernel_rfl, by kernel_rfl, by kernel_rfl⟩
def ty287 : TyI := ⟨1, 8, .nilFunc, .other⟩
theorem tyOk287 : TyOk Tryz.prog 287 ty287 := ⟨by kernel_rfl, by kernel_rfl, by kernel_rfl⟩
def ty288 : TyI := ⟨1, 8, .nilFunc, .other⟩
theorem tyOk288 : TyOk Tryz.prog 288 ty288 := ⟨by kernel_rfl, by kernel_rfl, by kernel_rfl⟩
def ty289 : TyI := ⟨1, 8, .nilFunc, .other⟩
theorem tyOk289 : TyOk Tryz.prog 289 ty289 := ⟨by kernel_rfl, by kernel_rfl, by kernel_rfl⟩
def ty290 : TyI := ⟨6, 48, .agg #[.nilFunc, .nilFunc, .nilFunc, .nilFunc, .nilFunc, .nilFunc], .arr 6 289 1 (some false)⟩
theorem tyOk290 : TyOk Tryz.prog 290 ty290 := ⟨by kernel_rfl, by kernel_rfl, by kernel_rfl⟩
def ty291 : TyI := ⟨1, 8, .nilFunc, .other⟩
theorem tyOk291 : TyOk Tryz.prog 291 ty291 := ⟨by kernel_rfl, by kernel_rfl, by kernel_rfl⟩
def ty292 : TyI := ⟨4, 40, .agg #[.pointer none, .pointer none, .pointer none, .string ByteArray.empty], .strct [(0, 1, some false), (1, 1, some false), (2, 1, some false), (3, 1, some false)]⟩
theorem tyOk292 : TyOk Tryz.prog 292 ty292 := ⟨by kernel_rfl, by kernel_rfl, by kernel_rfl⟩
def ty293 : TyI := ⟨4, 40, .agg #[.pointer none, .pointer none, .pointer none, .string ByteArray.empty], .strct [(0, 1, some false), (1, 1, some false), (2, 1, some false), (3, 1, some false)]⟩
theorem tyOk293 : TyOk Tryz.prog 293 ty293 := ⟨by kernel_rfl, by kernel_rfl, by kernel_rfl⟩
def ty297 : TyI := ⟨1, 8, .nilFunc, .other⟩
theorem tyOk297 : TyOk Tryz.prog 297 ty297 := ⟨by kernel_rfl, by kernel_rfl, by kernel_rfl⟩
def ty298 : TyI := ⟨1, 1, .int .u8 0, .int .u8⟩
theorem tyOk298 : TyOk Tryz.prog 298 ty298 := ⟨by kernel_rfl, by kernel_rfl, by kernel_rfl⟩
def ty299 : TyI := ⟨1, 1, .int .u8 0, .int .u8⟩
theorem tyOk299 : TyOk Tryz.prog 299 ty299 := ⟨by kernel_rfl, by kernel_rfl, by kernel_rfl⟩
def ty300 : TyI := ⟨1, 8, .nilFunc, .other⟩
theorem tyOk300 : TyOk Tryz.prog 300 ty300 := ⟨by kernel_rfl, by kernel_rfl, by kernel_rfl⟩
def ty301 : TyI := ⟨1, 8, .pointer none, .other⟩
theorem tyOk301 : TyOk Tryz.prog 301 ty301 := ⟨by kernel_rfl, by kernel_rfl, by kernel_rfl⟩
def ty302 : TyI := ⟨1, 4, .int .i32 0, .int .i32⟩
theorem tyOk302 : TyOk Tryz.prog 302 ty302 := ⟨by kernel_rfl, by kernel_rfl, by kernel_rfl⟩
def ty303 : TyI := ⟨1, 4, .int .i32 0, .int .i32⟩
theorem tyOk303 : TyOk Tryz.prog 303 ty303 := ⟨by kernel_rfl, by kernel_rfl, by kernel_rfl⟩
def ty304 : TyI := ⟨11, 48, .agg #[.int .u64 0, .int .u64 0, .int .u32 0, .int .u8 0, .int .u8 0, .int .u8 0, .int .u8 0, .nilFunc, .pointer none, .int .i32 0, .int .i32 0], .strct [(0, 1, some false), (1, 1, some false), (2, 1, some false), (3, 1, some false), (4, 1, some false), (5, 1, some false), (6, 1, some false), (7, 1, some false), (8, 1, some false), (9, 1, some false), (10, 1, some false)]⟩
theorem tyOk304 : TyOk Tryz.prog 304 ty304 := ⟨by kernel_rfl, by kernel_rfl, by kernel_rfl⟩
def ty305 : TyI := ⟨11, 48, .agg #[.int .u64 0, .int .u64 0, .int .u32 0, .int .u8 0, .int .u8 0, .int .u8 0, .int .u8 0, .nilFunc, .pointer none, .int .i32 0, .int .i32 0], .strct [(0, 1, some false), (1, 1, some false), (2, 1, some false), (3, 1, some false), (4, 1, some false), (5, 1, some false), (6, 1, some false), (7, 1, some false), (8, 1, some false), (9, 1, some false), (10, 1, some false)]⟩
theorem tyOk305 : TyOk Tryz.prog 305 ty305 := ⟨by kernel_rfl, by kernel_rfl, by kernel_rfl⟩
def tab : List (Nat × TyI) := [(1, ty1), (2, ty2), (3, ty3), (4, ty4), (5, ty5), (6, ty6), (7, ty7), (8, ty8), (9, ty9), (10, ty10), (11, ty11), (12, ty12), (13, ty13), (14, ty14), (15, ty15), (16, ty16), (17, ty17), (18, ty18), (19, ty19), (21, ty21), (22, ty22), (23, ty23), (24, ty24), (25, ty25), (26, ty26), (27, ty27), (28, ty28), (29, ty29), (30, ty30), (31, ty31), (33, ty33), (35, ty35), (37, ty37), (38, ty38), (39, ty39), (40, ty40), (41, ty41), (42, ty42), (43, ty43), (44, ty44), (45, ty45), (46, ty46), (47, ty47), (48, ty48), (49, ty49), (50, ty50), (51, ty51), (52, ty52), (53, ty53), (54, ty54), (55, ty55), (56, ty56), (57, ty57), (58, ty58), (59, ty59), (60, ty60), (61, ty61), (63, ty63), (64, ty64), (65, ty65), (66, ty66), (67, ty67), (68, ty68), (70, ty70), (72, ty72), (73, ty73), (74, ty74), (75, ty75), (76, ty76), (77, ty77), (78, ty78), (79, ty79), (80, ty80), (81, ty81), (82, ty82), (83, ty83), (84, ty84), (85, ty85), (86, ty86), (88, ty88), (89, ty89), (90, ty90), (91, ty91), (92, ty92), (93, ty93), (94, ty94), (96, ty96), (97, ty97), (99, ty99), (100, ty100), (101, ty101), (102, ty102), (103, ty103), (104, ty104), (105, ty105), (106, ty106), (107, ty107), (108, ty108), (109, ty109), (110, ty110), (111, ty111), (112, ty112), (113, ty113), (114, ty114), (115, ty115), (116, ty116), (117, ty117), (118, ty118), (119, ty119), (120, ty120), (121, ty121), (122, ty122), (123, ty123), (124, ty124), (125, ty125), (126, ty126), (127, ty127), (128, ty128), (129, ty129), (130, ty130), (131, ty131), (132, ty132), (133, ty133), (134, ty134), (135, ty135), (136, ty136), (137, ty137), (138, ty138), (139, ty139), (140, ty140), (141, ty141), (142, ty142), (143, ty143), (144, ty144), (145, ty145), (146, ty146), (147, ty147), (148, ty148), (149, ty149), (150, ty150), (151, ty151), (153, ty153), (154, ty154), (155, ty155), (156, ty156), (157, ty157), (158, ty158), (159, ty159), (160, ty160), (161, ty161), (162, ty162), (163, ty163), (164, ty164), (165, ty165), (166, ty166), (167, ty167), (168, ty168), (169, ty169), (171, ty171), (172, ty172), (173, ty173), (174, ty174), (175, ty175), (176, ty176), (177, ty177), (178, ty178), (179, ty179), (180, ty180), (181, ty181), (182, ty182), (183, ty183), (184, ty184), (185, ty185), (186, ty186), (187, ty187), (188, ty188), (189, ty189), (190, ty190), (191, ty191), (192, ty192), (193, ty193), (194, ty194), (195, ty195), (196, ty196), (197, ty197), (198, ty198), (199, ty199), (200, ty200), (201, ty201), (203, ty203), (204, ty204), (205, ty205), (207, ty207), (208, ty208), (209, ty209), (210, ty210), (211, ty211), (212, ty212), (213, ty213), (214, ty214), (215, ty215), (216, ty216), (217, ty217), (218, ty218), (219, ty219), (220, ty220), (221, ty221), (223, ty223), (224, ty224), (225, ty225), (227, ty227), (228, ty228), (229, ty229), (230, ty230), (231, ty231), (232, ty232), (233, ty233), (234, ty234), (235, ty235), (236, ty236), (237, ty237), (238, ty238), (239, ty239), (241, ty241), (242, ty242), (243, ty243), (244, ty244), (245, ty245), (246, ty246), (248, ty248), (249, ty249), (250, ty250), (251, ty251), (252, ty252), (253, ty253), (254, ty254), (255, ty255), (256, ty256), (257, ty257), (258, ty258), (259, ty259), (260, ty260), (261, ty261), (262, ty262), (263, ty263), (264, ty264), (265, ty265), (266, ty266), (267, ty267), (268, ty268), (269, ty269), (270, ty270), (271, ty271), (272, ty272), (273, ty273), (274, ty274), (275, ty275), (277, ty277), (278, ty278), (279, ty279), (280, ty280), (281, ty281), (282, ty282), (283, ty283), (284, ty284), (285, ty285), (286, ty286), (287, ty287), (288, ty288), (289, ty289), (290, ty290), (291, ty291), (292, ty292), (293, ty293), (297, ty297), (298, ty298), (299, ty299), (300, ty300), (301, ty301), (302, ty302), (303, ty303), (304, ty304), (305, ty305)]
def AllOk (P : Program) : List (Nat × TyI) → Prop
 | [] => True
 | (t, i) :: r => TyOk P t i ∧ AllOk P r
theorem AllOk.get {P : Program} : ∀ {l : List (Nat × TyI)}, AllOk P l → ∀ T i, lkT l T = some i → TyOk P T i
 | [], _, T, i, h => by simp [lkT] at h
 | (t, j) :: r, hl, T, i, h => by
   simp only [lkT] at h
   split at h
   ·rename_i hb
    have := Nat.eq_of_beq_eq_true hb
    subst this
    injection h with h
    subst h
    exact hl.1
   ·exact hl.2.get T i h
set_option maxRecDepth 100000 in
theorem tabOk : AllOk Tryz.prog tab := ⟨tyOk1, ⟨tyOk2, ⟨tyOk3, ⟨tyOk4, ⟨tyOk5, ⟨tyOk6, ⟨tyOk7, ⟨tyOk8, ⟨tyOk9, ⟨tyOk10, ⟨tyOk11, ⟨tyOk12, ⟨tyOk13, ⟨tyOk14, ⟨tyOk15, ⟨tyOk16, ⟨tyOk17, ⟨tyOk18, ⟨tyOk19, ⟨tyOk21, ⟨tyOk22, ⟨tyOk23, ⟨tyOk24, ⟨tyOk25, ⟨tyOk26, ⟨tyOk27, ⟨tyOk28, ⟨tyOk29, ⟨tyOk30, ⟨tyOk31, ⟨tyOk33, ⟨tyOk35, ⟨tyOk37, ⟨tyOk38, ⟨tyOk39, ⟨tyOk40, ⟨tyOk41, ⟨tyOk42, ⟨tyOk43, ⟨tyOk44, ⟨tyOk45, ⟨tyOk46, ⟨tyOk47, ⟨tyOk48, ⟨tyOk49, ⟨tyOk50, ⟨tyOk51, ⟨tyOk52, ⟨tyOk53, ⟨tyOk54, ⟨tyOk55, ⟨tyOk56, ⟨tyOk57, ⟨tyOk58, ⟨tyOk59, ⟨tyOk60, ⟨tyOk61, ⟨tyOk63, ⟨tyOk64, ⟨tyOk65, ⟨tyOk66, ⟨tyOk67, ⟨tyOk68, ⟨tyOk70, ⟨tyOk72, ⟨tyOk73, ⟨tyOk74, ⟨tyOk75, ⟨tyOk76, ⟨tyOk77, ⟨tyOk78, ⟨tyOk79, ⟨tyOk80, ⟨tyOk81, ⟨tyOk82, ⟨tyOk83, ⟨tyOk84, ⟨tyOk85, ⟨tyOk86, ⟨tyOk88, ⟨tyOk89, ⟨tyOk90, ⟨tyOk91, ⟨tyOk92, ⟨tyOk93, ⟨tyOk94, ⟨tyOk96, ⟨tyOk97, ⟨tyOk99, ⟨tyOk100, ⟨tyOk101, ⟨tyOk102, ⟨tyOk103, ⟨tyOk104, ⟨tyOk105, ⟨tyOk106, ⟨tyOk107, ⟨tyOk108, ⟨tyOk109, ⟨tyOk110, ⟨tyOk111, ⟨tyOk112, ⟨tyOk113, ⟨tyOk114, ⟨tyOk115, ⟨tyOk116, ⟨tyOk117, ⟨tyOk118, ⟨tyOk119, ⟨tyOk120, ⟨tyOk121, ⟨tyOk122, ⟨tyOk123, ⟨tyOk124, ⟨tyOk125, ⟨tyOk126, ⟨tyOk127, ⟨tyOk128, ⟨tyOk129, ⟨tyOk130, ⟨tyOk131, ⟨tyOk132, ⟨tyOk133, ⟨tyOk134, ⟨tyOk135, ⟨tyOk136, ⟨tyOk137, ⟨tyOk138, ⟨tyOk139, ⟨tyOk140, ⟨tyOk141, ⟨tyOk142, ⟨tyOk143, ⟨tyOk144, ⟨tyOk145, ⟨tyOk146, ⟨tyOk147, ⟨tyOk148, ⟨tyOk149, ⟨tyOk150, ⟨tyOk151, ⟨tyOk153, ⟨tyOk154, ⟨tyOk155, ⟨tyOk156, ⟨tyOk157, ⟨tyOk158, ⟨tyOk159, ⟨tyOk160, ⟨tyOk161, ⟨tyOk162, ⟨tyOk163, ⟨tyOk164, ⟨tyOk165, ⟨tyOk166, ⟨tyOk167, ⟨tyOk168, ⟨tyOk169, ⟨tyOk171, ⟨tyOk172, ⟨tyOk173, ⟨tyOk174, ⟨tyOk175, ⟨tyOk176, ⟨tyOk177, ⟨tyOk178, ⟨tyOk179, ⟨tyOk180, ⟨tyOk181, ⟨tyOk182, ⟨tyOk183, ⟨tyOk184, ⟨tyOk185, ⟨tyOk186, ⟨tyOk187, ⟨tyOk188, ⟨tyOk189, ⟨tyOk190, ⟨tyOk191, ⟨tyOk192, ⟨tyOk193, ⟨tyOk194, ⟨tyOk195, ⟨tyOk196, ⟨tyOk197, ⟨tyOk198, ⟨tyOk199, ⟨tyOk200, ⟨tyOk201, ⟨tyOk203, ⟨tyOk204, ⟨tyOk205, ⟨tyOk207, ⟨tyOk208, ⟨tyOk209, ⟨tyOk210, ⟨tyOk211, ⟨tyOk212, ⟨tyOk213, ⟨tyOk214, ⟨tyOk215, ⟨tyOk216, ⟨tyOk217, ⟨tyOk218, ⟨tyOk219, ⟨tyOk220, ⟨tyOk221, ⟨tyOk223, ⟨tyOk224, ⟨tyOk225, ⟨tyOk227, ⟨tyOk228, ⟨tyOk229, ⟨tyOk230, ⟨tyOk231, ⟨tyOk232, ⟨tyOk233, ⟨tyOk234, ⟨tyOk235, ⟨tyOk236, ⟨tyOk237, ⟨tyOk238, ⟨tyOk239, ⟨tyOk241, ⟨tyOk242, ⟨tyOk243, ⟨tyOk244, ⟨tyOk245, ⟨tyOk246, ⟨tyOk248, ⟨tyOk249, ⟨tyOk250, ⟨tyOk251, ⟨tyOk252, ⟨tyOk253, ⟨tyOk254, ⟨tyOk255, ⟨tyOk256, ⟨tyOk257, ⟨tyOk258, ⟨tyOk259, ⟨tyOk260, ⟨tyOk261, ⟨tyOk262, ⟨tyOk263, ⟨tyOk264, ⟨tyOk265, ⟨tyOk266, ⟨tyOk267, ⟨tyOk268, ⟨tyOk269, ⟨tyOk270, ⟨tyOk271, ⟨tyOk272, ⟨tyOk273, ⟨tyOk274, ⟨tyOk275, ⟨tyOk277, ⟨tyOk278, ⟨tyOk279, ⟨tyOk280, ⟨tyOk281, ⟨tyOk282, ⟨tyOk283, ⟨tyOk284, ⟨tyOk285, ⟨tyOk286, ⟨tyOk287, ⟨tyOk288, ⟨tyOk289, ⟨tyOk290, ⟨tyOk291, ⟨tyOk292, ⟨tyOk293, ⟨tyOk297, ⟨tyOk298, ⟨tyOk299, ⟨tyOk300, ⟨tyOk301, ⟨tyOk302, ⟨tyOk303, ⟨tyOk304, ⟨tyOk305, trivial⟩⟩⟩⟩⟩⟩⟩⟩⟩⟩⟩⟩⟩⟩⟩⟩⟩⟩⟩⟩⟩⟩⟩⟩⟩⟩⟩⟩⟩⟩⟩⟩⟩⟩⟩⟩⟩⟩⟩⟩⟩⟩⟩⟩⟩⟩⟩⟩⟩⟩⟩⟩⟩⟩⟩⟩⟩⟩⟩⟩⟩⟩⟩⟩⟩⟩⟩⟩⟩⟩⟩⟩⟩⟩⟩⟩⟩⟩⟩⟩⟩⟩⟩⟩⟩⟩⟩⟩⟩⟩⟩⟩⟩⟩⟩⟩⟩⟩⟩⟩⟩⟩⟩⟩⟩⟩⟩⟩⟩⟩⟩⟩⟩⟩⟩⟩⟩⟩⟩⟩⟩⟩⟩⟩⟩⟩⟩⟩⟩⟩⟩⟩⟩⟩⟩⟩⟩⟩⟩⟩⟩⟩⟩⟩⟩⟩⟩⟩⟩⟩⟩⟩⟩⟩⟩⟩⟩⟩⟩⟩⟩⟩⟩⟩⟩⟩⟩⟩⟩⟩⟩⟩⟩⟩⟩⟩⟩⟩⟩⟩⟩⟩⟩⟩⟩⟩⟩⟩⟩⟩⟩⟩⟩⟩⟩⟩⟩⟩⟩⟩⟩⟩⟩⟩⟩⟩⟩⟩⟩⟩⟩⟩⟩⟩⟩⟩⟩⟩⟩⟩⟩⟩⟩⟩⟩⟩⟩⟩⟩⟩⟩⟩⟩⟩⟩⟩⟩⟩⟩⟩⟩⟩⟩⟩⟩⟩⟩⟩⟩⟩⟩⟩⟩⟩⟩⟩⟩⟩⟩⟩⟩⟩⟩⟩⟩⟩⟩⟩⟩⟩⟩⟩⟩⟩⟩⟩⟩⟩⟩⟩⟩⟩⟩
noncomputable def E0 : Env := ⟨Tryz.prog, tab, fun T i h => tabOk.get T i h, by kernel_rfl, false, false, none, 0, false⟩
noncomputable def E0d : Env := ⟨Tryz.prog, tab, fun T i h => tabOk.get T i h, by kernel_rfl, true, false, none, 0, false⟩
theorem z06 {f : FuncId} {fn : Func} (hf : E0.P.funcs[f]? = some fn) (hn : (fn.name == "runtime.NumGoroutine") = false) (hb : fn.body.isNone = false) : z9y E0 f := fun args w => by
 unfold callFunc
 simp only [Sem.run_bind, run_program, Result.andThen_ok, hf, hn, hb, Bool.false_eq_true, if_false, Sem.run_pure]
end Go.Proofs.YtjpknpjjcddnnaaGreat
namespace Go.Proofs.YtjpknpjjcddnnaaGreat
open Go.RowKit
def aI (n : Int) : AV := .int .i64 n
theorem wrap_in (n : Int) (h : -9223372036854775808 ≤ n ∧ n ≤ 9223372036854775807) : IntKind.i64.wrap n = n := IntWalk.i64_in _ h
theorem getD2 {vs : Array Value} (h : vs.size = 2) : vs = #[vs.getD 0 undef, vs.getD 1 undef] := by
 obtain ⟨l⟩ := vs
 match l, h with
 | [a, b], _ => rfl
theorem getD1 {vs : Array Value} (h : vs.size = 1) : vs = #[vs.getD 0 undef] := by
 obtain ⟨l⟩ := vs
 match l, h with
 | [a], _ => rfl
section
variable {fr : Bool} {f : FuncId} {a b c res : AV}
theorem belE0 {w w' : World} (h : Below w.heap.size w w') : BelE E0 w w' := ⟨h, fun h => Bool.noConfusion (show false = true from h)⟩
end
end Go.Proofs.YtjpknpjjcddnnaaGreat
namespace Go.Proofs.YtjpknpjjcddnnaaGreat
open Go.ChangeShapes Go.WideShapes Go.ChangeAt Go.RowKit
theorem args_one {w : World} {S : Nat → Prop} {a : AV} {x : Value} (ha : Rep w S G0 a x) : Args w S [a] #[x] :=
 ⟨rfl, fun i hi => by
  have hi' : i < 1 := hi
  rcases i with _ | i
  ·exact ha
  ·omega⟩
theorem own_knob : ownKnob Tryz.prog.godebug = none := by kernel_rfl
theorem laid_out : laidOutB Tryz.prog = true := by kernel_rfl
section
variable {H : Type} {enc : TypeId × Value → H}
theorem zs3 {W W' : World} {sp' : Nat → Bool} (hb : Below W.heap.size W W') (ts : List TypeId) : ∀ (vs : List Value) (ds : List (DataW H)) (p : List MemPlace), ts.all (fun t => Tryz.prog.readableRec t && decide (t < Tryz.prog.types.size)) = true →
  DataW.TrodAll enc Tryz.prog W 0 (fun _ => true) true ts vs ds p → (∀ x ∈ p, x.block < W.heap.size) → (∀ x ∈ p, sp' x.block = true) → DataW.TrodAll enc Tryz.prog W' 0 sp' true ts vs ds p := by
 induction ts with
 | nil =>
   intro vs ds p _ h _ _
   match vs, ds, h with
   | [], [], h => exact h
   | _ :: _, _, h => exact h.elim
   | [], _ :: _, h => exact h.elim
 | cons t ts ih =>
   intro vs ds p hr h hlt hs
   match vs, ds, h with
   | v :: vs, d :: ds, h =>
     obtain ⟨q, r, h1, h2, rfl⟩ := h
     have hr1 : Tryz.prog.readableRec t = true ∧ t < Tryz.prog.types.size := by
      have := List.all_eq_true.mp hr t (List.mem_cons_self ..)
      rw [Bool.and_eq_true, decide_eq_true_eq] at this; exact this
     have hr2 : ts.all (fun t => Tryz.prog.readableRec t && decide (t < Tryz.prog.types.size)) = true :=
      List.all_eq_true.mpr fun x hx => List.all_eq_true.mp hr x (List.mem_cons_of_mem _ hx)
     exact ⟨q, r, WideElems.Trod_stays laid_out hr1.1 hr1.2 h1 (fun x hx => hb.same (hlt x (List.mem_append_left _ hx))) (fun x hx => hs x (List.mem_append_left _ hx)),
      ih vs ds r hr2 h2 (fun x hx => hlt x (List.mem_append_right _ hx)) (fun x hx => hs x (List.mem_append_right _ hx)), rfl⟩
   | [], _, h => exact h.elim
   | _ :: _, [], h => exact h.elim
theorem trodAll_len {W : World} {b : Nat} {sp : Nat → Bool} (ts : List TypeId) : ∀ (vs : List Value) (ds : List (DataW H)) (p : List MemPlace), DataW.TrodAll enc Tryz.prog W b sp true ts vs ds p → ds.length = ts.length := by
 induction ts with
 | nil =>
   intro vs ds p h
   match vs, ds, h with
   | [], [], h => rfl
   | _ :: _, _, h => exact h.elim
   | [], _ :: _, h => exact h.elim
 | cons t ts ih =>
   intro vs ds p h
   match vs, ds, h with
   | v :: vs, d :: ds, h =>
     obtain ⟨q, r, h1, h2, rfl⟩ := h
     simp only [List.length_cons]
     rw [ih vs ds r h2]
   | [], _, h => exact h.elim
   | _ :: _, [], h => exact h.elim
set_option maxRecDepth 100000 in
theorem law_lifted (os : Os) (started : os.Started) {f : FuncId} {fn : Func} {s : ChangeSpec} {fr : Bool} (hf : Tryz.prog.funcs[f]? = some fn) (hni : Tryz.prog.inits.idxOf? f = none)
  (hw : ∃ (w : World) (tape : Tape) (i : Input), w.os = os ∧ (w.forCall tape i).Shaped Tryz.checked.prog ∧ i.vars = [] ∧ Input.okWide Tryz.checked.prog (w.forCall tape i) .any w.heap.size f i ∧
    s.pre6 enc Tryz.checked.prog fn [] false (w.forCall tape i).memory i.args ∧ Assume.holds {} Tryz.checked.prog (lone (Frame.enter Tryz.checked.prog f i.args .normal) [] (w.forCall tape i)))
  (hvars : s.vars = []) (hres : fn.resultTypes = #[4]) (hread : fn.params.toList.all (fun t => Tryz.prog.readableRec t && decide (t < Tryz.prog.types.size)) = true)
  (hspec : ∀ ds : List (DataW H), ds.length = fn.params.size → s.fn H ds = { results := [.lit (.bool true)], args := ds })
  (hopen : ∀ (W : World) (base : Nat) (args : Array Value) (ds : List (DataW H)) (p : List MemPlace), (∀ (j : Nat) t v, fn.params[j]? = some t → args[j]? = some v → Value.okWide Tryz.prog W .any base t v) →
    DataW.TrodAll enc Tryz.prog W 0 (fun _ => true) true fn.params.toList args.toList ds p → ∃ avs, Args W (fun _ => True) avs args ∧ Con E0 fr f avs (.bool true)) :
  ReturnsInHanded {} Tryz.checked os f .any (s.pre6 enc Tryz.prog fn [] false) (s.post enc Tryz.prog fn false true false false) := by
 refine returnsInHanded_of_change (C := Tryz.checked) own_knob started hni hf hw ?_
 intro W base args ds gs before hval hW hcnd _
 have hW' := hW
 obtain ⟨p, q, hA, hV, rfl, hfz, hnd⟩ := hW
 have hlt : ∀ x ∈ p ++ q, x.block < W.heap.size := fun x hx => DataW.Whole.lt hW' x hx
 rw [hvars] at hV
 obtain ⟨rfl, rfl⟩ := trodVars_none hV
 obtain ⟨avs, hargs, hcon⟩ := hopen W base args ds p hval hA
 refine (hcon.2 (fun _ => True) W args hargs).mono fun e W' ⟨v, he, ⟨hb, _⟩, hv⟩ => ?_
 have hv := hv.bool_inv
 subst hv
 subst he
 have hdl : ds.length = fn.params.size := (trodAll_len _ _ _ _ hA).trans (by simp)
 have hsp : s.fn H (ds ++ []) = { results := [.lit (.bool true)], args := ds } := by rw [List.append_nil]; exact hspec ds hdl
 have hltp : ∀ x ∈ p, x.block < W.heap.size := fun x hx => hlt x (by simp [hx])
 have k0 := zs3 (sp' := fun b => decide (b < W.heap.size)) hb _ _ _ _ hread hA hltp (fun x hx => by simpa using hltp x hx)
 have k1 := zs3 (sp' := fun _ => true) hb _ _ _ _ hread hA hltp (fun x hx => rfl)
 have hrl : (Value.bool true).resultList fn.resultTypes.size = [.bool true] := by rw [hres]; rfl
 have hrt : fn.resultTypes.toList = [4] := by rw [hres]
 refine ⟨_, rfl, ds, [], _, [], p, [], hW', ?_, ?_, ?_, World.keptBut_mono (fun x hx => ⟨hx, ?_⟩) (hb.frame (· ∈ p ++ [])), fun h => ?_⟩
 ·rw [hsp, hrt, hrl]; exact trodAll_mk1 (shut_bool Tryz.underlying4 true)
 ·rw [hsp]; exact k0
 ·rw [hsp, hvars]; exact rfl
 ·exact Or.inr (Or.inl (by simpa using hx))
 ·rw [hrt, hrl, hvars]
  refine ⟨?_, [.lit (.bool true)] ++ ds, [], p, ⟨p, [], ?_, rfl, by simp, ?_, fun h => by simp at h⟩, ?_⟩
  ·rw [hres]; intro j t r ht hr
   match j with
   | 0 =>
     obtain rfl : 4 = t := Option.some.inj ht
     obtain rfl : Value.bool true = r := Option.some.inj hr
     exact okWide_bool_mk Tryz.underlying4 true
   | j + 1 => exact absurd hr (by simp)
  ·exact trodAll_append k1 (trodAll_mk1 (shut_bool Tryz.underlying4 true))
  ·intro b off hp
   have hin : MemPlace.cell b off ∈ p ++ [] := by simpa using hp
   rw [hb.frozen (hlt _ hin)]
   exact hfz b off hin
  ·intro x hx _
   simpa using hx
end
end Go.Proofs.YtjpknpjjcddnnaaGreat
namespace Go.Proofs.YtjpknpjjcddnnaaGreat
open Go.ChangeShapes Go.WideShapes Go.ChangeAt Go.RowKit Go.Joins Go.Deep
section
variable {H : Type} {enc : TypeId × Value → H} {W : World} {base : Nat} {v : Value} {d : DataW H} {p : List MemPlace}
theorem spot_none {a : Addr} {u : Value} (h : W.cell? a = some u) : a.spot = none ∧ a.block < W.heap.size := by
 unfold World.cell? at h
 split at h
 ·rename_i c _ _ hg
  split at h
  ·cases h
  ·rename_i hs
   refine ⟨by cases hh : a.spot with | none => rfl | some _ => simp [hh] at hs, ?_⟩
   rcases Nat.lt_or_ge a.block W.heap.size with hlt | hge
   ·exact hlt
   ·rw [Array.getElem?_eq_none hge] at hg; cases hg
 ·cases h
theorem add_eq (b off k : Nat) : (⟨b, off, none⟩ : Addr).add k = ⟨b, off + k, none⟩ := by
 by_cases h : k = 0 <;> simp [Addr.add, h]
theorem mapM_some {α β : Type} {f : α → Option β} : ∀ {l : List α} {r : List β}, l.mapM f = some r → r.length = l.length ∧ ∀ k (hk : k < l.length) (hr : k < r.length), f l[k] = some r[k]
 | [], r, h => by simp at h; subst h; exact ⟨rfl, fun k hk => absurd hk (by simp)⟩
 | a :: l, r, h => by
   simp only [List.mapM_cons] at h
   cases ha : f a with
   | none => rw [ha] at h; simp at h
   | some b =>
     rw [ha] at h
     cases hl : l.mapM f with
     | none => rw [hl] at h; simp at h
     | some s =>
       rw [hl] at h
       simp at h
       subst h
       obtain ⟨i1, i2⟩ := mapM_some hl
       refine ⟨by simp [i1], fun k hk hr => ?_⟩
       cases k with
       | zero => exact ha
       | succ k => exact i2 k (by simpa using hk) (by simpa using hr)
theorem cells_each {a : Addr} {n : Nat} {cs : List Value} (h : W.cells? 0 a n = some cs) : cs.length = n ∧ ∀ j, j < n → W.cell? (a.add j) = some (cs.getD j undef) := by
 unfold World.cells? at h
 rw [if_pos (Nat.zero_le _)] at h
 obtain ⟨i1, i2⟩ := mapM_some h
 have hl : cs.length = n := by simpa using i1
 refine ⟨hl, fun j hj => ?_⟩
 have := i2 j (by simpa using hj) (by omega)
 rw [List.getElem_range] at this
 rw [this]
 simp [List.getElem?_eq_getElem (show j < cs.length by omega)]
set_option maxRecDepth 100000
def CellsOf {α : Type} (W : World) (a : α → AV) (m : α) (cs : List Value) : Prop :=
 cs.length = (a m).cells.length ∧ ∀ j (hj : j < (a m).cells.length), Rep W (fun _ => True) G0 ((a m).cells[j]) (cs.getD j undef) ∧ (cs.getD j undef).oneCell' = true
theorem sl_open {α : Type} {a : α → AV} {t e : TypeId} {sz : Nat} (ht : Tryz.prog.underlying t = some (.slice e)) (hsz : Tryz.prog.cellsOf e = sz) (h0 : 0 < sz) (i0 : Inhabited α) (hlen : ∀ m, (a m).cells.length = sz)
  (each : ∀ (n : Nat) (cs : List Value) (x : DataW H × List MemPlace), cs.length = sz → DataW.trod enc Tryz.prog W 0 (fun _ => true) true n e cs = some x → ∃ m : α, CellsOf W a m cs)
  {n : Nat} {u : Value} {x : DataW H × List MemPlace} (h : DataW.trod enc Tryz.prog W 0 (fun _ => true) true n t [u] = some x) : ∃ l : List α, Rep W (fun _ => True) G0 (.sl sz (l.map a)) u := by
 rcases open_slice ht h with ⟨h1, _⟩ | ⟨A, len, cap, m, n', D, Pl, h1, _, hlc, hm, hmm, _, hc⟩
 ·simp only [List.cons.injEq, and_true] at h1
  subst h1
  exact ⟨[], .sl none 0 (fun _ _ => .bool true) (by simp) (fun k hk => absurd hk (by simp)) (fun h => absurd h (by simp)) (fun k hk => absurd hk (by simp)) (fun _ _ => rfl)⟩
 ·simp only [List.cons.injEq, and_true] at h1
  subst h1
  simp only [if_true] at hmm
  subst hmm
  rw [hsz] at hc
  have every : ∀ i, ∃ q : α × List Value, i < len → W.cells? 0 (A.add (i * sz)) sz = some q.2 ∧ CellsOf W a q.1 q.2 := fun i => by
   by_cases hi : i < len
   ·obtain ⟨cs, c1, c2⟩ := hc i (by omega)
    obtain ⟨k, hk⟩ := each n' cs _ (cells_each c1).1 c2
    exact ⟨(k, cs), fun _ => ⟨c1, hk⟩⟩
   ·exact ⟨(i0.default, []), fun h => absurd h hi⟩
  obtain ⟨f, hf⟩ := Classical.axiomOfChoice every
  have hl : ((List.range len).map fun i => (f i).1).length = len := by simp
  refine ⟨(List.range len).map fun i => (f i).1, ?_⟩
  have e : len = (((List.range len).map fun i => (f i).1).map a).length := by simp
  have hcell : ∀ k j, k < len → j < sz → W.cell? ((A.add (k * sz)).add j) = some ((f k).2.getD j undef) := fun k j hk hj => (cells_each (hf k hk).1).2 j hj
  have : Rep W (fun _ => True) G0 (.sl sz (((List.range len).map fun i => (f i).1).map a)) (.slice (some A) (((List.range len).map fun i => (f i).1).map a).length m) := by
   refine .sl (some A) m (fun k j => if k < len ∧ j < sz then (f k).2.getD j undef else .bool true) (by simpa using hlc) (fun k hk => ?_) (fun h0' => ?_) (fun k hk j hj => ?_) (fun k j => ?_)
   ·simp only [List.getElem_map]; exact hlen _
   ·have hlp : 0 < len := by simpa using h0'
    have c0 := spot_none (hcell 0 0 hlp h0)
    obtain ⟨b, off, sp⟩ := A
    have e1 : sp = none := by simpa [Addr.add] using c0.1
    subst e1
    rw [add_eq, add_eq] at c0
    refine ⟨b, off, rfl, trivial, c0.2, fun k j hk hj => ?_⟩
    have hk' : k < len := by simpa using hk
    have := hcell k j hk' hj
    rw [add_eq, add_eq] at this
    rw [if_pos ⟨hk', hj⟩, ← this]
    congr 2
    omega
   ·have hk' : k < len := by simpa using hk
    simp only [List.getElem_map, List.getElem_range] at hj ⊢
    have hj' : j < sz := by rw [hlen] at hj; exact hj
    rw [if_pos ⟨hk', hj'⟩]
    exact ((hf k hk').2.2 j hj).1
   ·by_cases hkj : k < len ∧ j < sz
    ·rw [if_pos hkj]
     exact ((hf k hkj.1).2.2 j (by rw [hlen]; exact hkj.2)).2
    ·rw [if_neg hkj]; rfl
  rw [← e] at this
  exact this
theorem Rep.one_sl {sz : Nat} {xs : List AV} {u : Value} (h : Rep W (fun _ => True) G0 (.sl sz xs) u) : u.oneCell' = true := by
 cases h; rfl
theorem slArg_open {α : Type} {a : α → AV} {t e : TypeId} {sz : Nat} (ht : Tryz.prog.underlying t = some (.slice e)) (hsz : Tryz.prog.cellsOf e = sz) (h0 : 0 < sz) (i0 : Inhabited α) (hlen : ∀ m, (a m).cells.length = sz)
  (each : ∀ (n : Nat) (cs : List Value) (x : DataW H × List MemPlace), cs.length = sz → DataW.trod enc Tryz.prog W 0 (fun _ => true) true n e cs = some x → ∃ m : α, CellsOf W a m cs)
  (hv : Value.okWide Tryz.prog W .any base t v) (h : DataW.Trod enc Tryz.prog W 0 (fun _ => true) true t v d p) : ∃ l : List α, Rep W (fun _ => True) G0 (.sl sz (l.map a)) v := by
 obtain ⟨A, len, cap, rfl⟩ := okWide_slice ht hv
 obtain ⟨fuel, hf⟩ := h
 exact sl_open ht hsz h0 i0 hlen each hf
end
end Go.Proofs.YtjpknpjjcddnnaaGreat
namespace Go.Proofs.YtjpknpjjcddnnaaGreat
open Go.ChangeShapes Go.WideShapes Go.ChangeAt Go.RowKit Go.Joins Go.Deep
section
variable {H : Type} {enc : TypeId × Value → H} {W : World} {base : Nat} {v : Value} {d : DataW H} {p : List MemPlace}
set_option maxRecDepth 100000
def zde (W : World) (xs : List AV) (cs : List Value) : Prop :=
 cs.length = xs.length ∧ ∀ j (hj : j < xs.length), Rep W (fun _ => True) G0 (xs[j]) (cs.getD j undef) ∧ (cs.getD j undef).oneCell' = true
theorem zde.one {a : AV} {c : Value} (h : Rep W (fun _ => True) G0 a c) (h1 : c.oneCell' = true) : zde W [a] [c] := by
 refine ⟨rfl, fun j hj => ?_⟩
 have hj' : j < 1 := hj
 rcases j with _ | j
 ·exact ⟨h, h1⟩
 ·omega
theorem zde.append {xs ys : List AV} {cs ds : List Value} (h1 : zde W xs cs) (h2 : zde W ys ds) : zde W (xs ++ ys) (cs ++ ds) := by
 refine ⟨by rw [List.length_append, List.length_append, h1.1, h2.1], fun j hj => ?_⟩
 by_cases h : j < xs.length
 ·have := h1.2 j h
  rw [List.getElem_append_left h]
  have e : (cs ++ ds).getD j undef = cs.getD j undef := by
   simp only [List.getD_eq_getElem?_getD]
   rw [List.getElem?_append_left (by rw [h1.1]; exact h)]
  rw [e]; exact this
 ·have hj' : j - xs.length < ys.length := by rw [List.length_append] at hj; omega
  have := h2.2 (j - xs.length) hj'
  rw [List.getElem_append_right (by omega)]
  have e : (cs ++ ds).getD j undef = ds.getD (j - xs.length) undef := by
   simp only [List.getD_eq_getElem?_getD]
   rw [List.getElem?_append_right (by rw [h1.1]; omega), h1.1]
  rw [e]; exact this
theorem zde.cut {cs : List Value} {o s : Nat} {xs ys : List AV} (h1 : zde W xs ((cs.drop o).take s)) (h2 : zde W ys (cs.drop (o + s))) : zde W (xs ++ ys) (cs.drop o) := by
 have : cs.drop o = (cs.drop o).take s ++ cs.drop (o + s) := by rw [← List.drop_drop, List.take_append_drop]
 rw [this]
 exact h1.append h2
theorem zde.done {cs : List Value} {o : Nat} (h : cs.length ≤ o) : zde W [] (cs.drop o) := by
 rw [List.drop_eq_nil_of_le h]
 exact ⟨rfl, fun j hj => absurd hj (by simp)⟩
theorem zkr {cs : List Value} {o s : Nat} (h : o + s ≤ cs.length) : ((cs.drop o).take s).length = s := by rw [List.length_take, List.length_drop]; omega
abbrev FO (enc : TypeId × Value → H) (W : World) (t : TypeId) (sz : Nat) {α : Type} (e : α → List AV) : Prop :=
 ∀ (n : Nat) (cs : List Value) (x : DataW H × List MemPlace), cs.length = sz → DataW.trod enc Tryz.prog W 0 (fun _ => true) true n t cs = some x → ∃ m : α, zde W (e m) cs
theorem fo_int {t : TypeId} (ht : Tryz.prog.underlying t = some (.int .i64)) : FO enc W t 1 (fun z : Int => [aI z]) := fun n cs x hl h => by
 obtain ⟨z, rfl, _⟩ := DataW.trod_int (k := .i64) ht h
 exact ⟨z, .one (.int _ _) rfl⟩
theorem fo_sl {t e : TypeId} {sz : Nat} {α : Type} {a : α → AV} (ht : Tryz.prog.underlying t = some (.slice e)) (hsz : Tryz.prog.cellsOf e = sz) (h0 : 0 < sz) (i0 : Inhabited α) (hlen : ∀ m, (a m).cells.length = sz)
  (each : FO enc W e sz (fun m : α => (a m).cells)) : FO enc W t 1 (fun l : List α => [AV.sl sz (l.map a)]) := fun n cs x hl h => by
 match cs, hl with
 | [c], _ =>
   obtain ⟨l, hl⟩ := sl_open (a := a) ht hsz h0 i0 hlen each h
   exact ⟨l, .one hl hl.one_sl⟩
theorem arg_slice {α : Type} {a : α → AV} {t e : TypeId} {sz : Nat} (ht : Tryz.prog.underlying t = some (.slice e)) (hsz : Tryz.prog.cellsOf e = sz) (h0 : 0 < sz) (i0 : Inhabited α) (hlen : ∀ m, (a m).cells.length = sz)
  (each : FO enc W e sz (fun m : α => (a m).cells)) (hv : Value.okWide Tryz.prog W .any base t v) (h : DataW.Trod enc Tryz.prog W 0 (fun _ => true) true t v d p) : ∃ l : List α, Rep W (fun _ => True) G0 (.sl sz (l.map a)) v :=
 slArg_open ht hsz h0 i0 hlen each hv h
end
end Go.Proofs.YtjpknpjjcddnnaaGreat
namespace Go.Proofs.YtjpknpjjcddnnaaGreat
open Go.RowKit
def AS.freeze (σ : AS) (t r sz : Nat) (xs : List AV) : AS := ⟨(t, .sl sz xs) :: σ.tm, (r, .dead) :: σ.me⟩
theorem LeX.freeze {E : Env} {nt : Nat} {σ : AS} (t r ty sz : Nat) (xs : List AV) (ht : σ.get t = .row r) (hr : σ.find r = some (.row ty sz xs)) : LeX E nt σ (σ.freeze t r sz xs) := fun cx hE hn a w ⟨γ, h⟩ => by
 have hme := h.me r
 rw [hr] at hme
 obtain ⟨d, hd, he⟩ := hme
 have hown : ∀ b, own (γ.set r none) b → own γ b ∧ ∀ s, γ r ≠ some (some (some b, s)) := fun b ⟨i, s, hi, hm⟩ => by
  by_cases hir : i = r
  ·subst hir; rw [Gam.set_self] at hi; injection hi with hi; subst hi; simp [blks] at hm
  ·rw [Gam.set_ne _ _ _ hir] at hi
   exact ⟨⟨i, s, hi, hm⟩, fun s' hs' => hir (h.inj _ _ _ _ _ hi hs' hm z4p)⟩
 have hS : ∀ b, Sg cx.S0 cx.w0.heap.size γ b → Sg cx.S0 cx.w0.heap.size (γ.set r none) b := fun b hb => hb.elim Or.inl (fun ⟨h1, h2⟩ => Or.inr ⟨h1, fun ho => h2 (hown b ho).1⟩)
 have hg : ∀ i x, γ i = some x → γ.set r none i = some x ∨ γ.set r none i = some none ∨ Turn (γ.set r none) i x := fun i x hx => by
  by_cases hir : i = r
  ·subst hir; exact Or.inr (Or.inl (Gam.set_self _ _ _))
  ·exact Or.inl (by rw [Gam.set_ne _ _ _ hir]; exact hx)
 have mv : ∀ {av v}, Rep w (Sg cx.S0 cx.w0.heap.size γ) γ av v → Rep w (Sg cx.S0 cx.w0.heap.size (γ.set r none)) (γ.set r none) av v := fun hv => (hv.mono (Nat.le_refl _) (fun b hb _ => ⟨rfl, hS b hb⟩)).gam hg
 refine ⟨γ.set r none, fun u => ?_, fun i => ?_, fun i j b s s' hi hj mi mj => ?_, fun b hb => h.ge b (hown b hb).1, h.below, h.size, h.defers.gam (fun b hb => (hown b hb).1), h.gh, fun b hb => by obtain ⟨f2, f3, f4⟩ := h.fr b hb; exact ⟨fun ho => f2 (hown b ho).1, f3, f4⟩, h.dr⟩
 ·by_cases hu : t = u
  ·subst hu
   have e : (σ.freeze t r sz xs).get t = .sl sz xs := by simp [AS.freeze, AS.get, lkV]
   rw [e]
   have hv := h.tm t
   rw [ht] at hv
   obtain ⟨s, hs, hrr⟩ := row_sl (S' := Sg cx.S0 cx.w0.heap.size (γ.set r none)) he (fun b hb _ => hS b hb) (fun s g hg => Or.inr ⟨(h.ge g (own.mk (id := r) (s := s) (by rw [hd, hg]))).1, fun ho => (hown g ho).2 s (by rw [hd, hg])⟩) (γ.set r none)
   subst hs
   rw [hv.row_inv hd]
   exact hrr
  ·have e : (σ.freeze t r sz xs).get u = σ.get u := by
    unfold AS.freeze AS.get
    simp only [lkV]
    cases hb : Nat.beq t u with
    | true => exact absurd (Nat.eq_of_beq_eq_true hb) hu
    | false => rfl
   rw [e]
   exact mv (h.tm u)
 ·by_cases hi : r = i
  ·subst hi
   have e : (σ.freeze t r sz xs).find r = some .dead := by simp [AS.freeze, AS.find, lkE]
   rw [e]
   exact ⟨none, Gam.set_self _ _ _, rfl⟩
  ·have e : (σ.freeze t r sz xs).find i = σ.find i := by
    unfold AS.freeze AS.find
    simp only [lkE]
    cases hb : Nat.beq r i with
    | true => exact absurd (Nat.eq_of_beq_eq_true hb) hi
    | false => rfl
   rw [e, Gam.set_ne _ _ _ (Ne.symm hi)]
   have := h.me i
   cases hf : σ.find i with
   | none => rw [hf] at this; exact this
   | some en =>
     rw [hf] at this
     obtain ⟨x, hx, he⟩ := this
     exact ⟨x, hx, he.move (Nat.le_refl _) (fun b hb _ => ⟨rfl, hS b hb⟩) hg (fun _ _ => rfl)⟩
 ·have hir : i ≠ r := fun e => by subst e; rw [Gam.set_self] at hi; injection hi with hi; subst hi; simp [blks] at mi
  have hjr : j ≠ r := fun e => by subst e; rw [Gam.set_self] at hj; injection hj with hj; subst hj; simp [blks] at mj
  rw [Gam.set_ne _ _ _ hir] at hi
  rw [Gam.set_ne _ _ _ hjr] at hj
  exact h.inj _ _ _ _ _ hi hj mi mj
section
variable {E : Env} {nt : Nat} {R : Exit → AS → Prop}
theorem AW.weaken {c : Code} {K : List z16} {σ τ : AS} (hl : LeX E nt σ τ) (h : AW E nt R (.code c :: K) .normal τ) : AW E nt R (.code c :: K) .normal σ := ⟨fun cx hE hn => WP.weaken (hl cx hE hn) (h.out cx hE hn)⟩
end
end Go.Proofs.YtjpknpjjcddnnaaGreat
namespace Go.Proofs.YtjpknpjjcddnnaaGreat
open Go.RowKit
def Ent.frz (r sz : Nat) (xs : List AV) : Ent → Ent
 | .box ty cs => .box ty (AV.frzL r sz xs cs)
 | e => e
def AS.frzAll (σ : AS) (r sz : Nat) (xs : List AV) : AS := ⟨σ.tm.map fun p => (p.1, p.2.frz r sz xs), (r, .dead) :: σ.me.map fun p => (p.1, p.2.frz r sz xs)⟩
theorem lkV_map (g : AV → AV) (h : g .any = .any) (l : List (Nat × AV)) (t : Nat) : lkV (l.map fun p => (p.1, g p.2)) t = g (lkV l t) := by
 induction l with
 | nil => simp [lkV, h]
 | cons p l ih =>
   obtain ⟨u, x⟩ := p
   simp only [List.map_cons, lkV]
   cases Nat.beq u t <;> simp [ih]
theorem lkE_map (g : Ent → Ent) (l : List (Nat × Ent)) (t : Nat) : lkE (l.map fun p => (p.1, g p.2)) t = (lkE l t).map g := by
 induction l with
 | nil => simp [lkE]
 | cons p l ih =>
   obtain ⟨u, x⟩ := p
   simp only [List.map_cons, lkE]
   cases Nat.beq u t <;> simp [ih]
theorem LeX.frzAll {E : Env} {nt : Nat} {σ : AS} (r ty sz : Nat) (xs : List AV) (hr : σ.find r = some (.row ty sz xs)) : LeX E nt σ (σ.frzAll r sz xs) := fun cx hE hn a w ⟨γ, h⟩ => by
 have hme := h.me r
 rw [hr] at hme
 obtain ⟨d, hd, he⟩ := hme
 have hown : ∀ b, own (γ.set r none) b → own γ b ∧ ∀ s, γ r ≠ some (some (some b, s)) := fun b ⟨i, s, hi, hm⟩ => by
  by_cases hir : i = r
  ·subst hir; rw [Gam.set_self] at hi; injection hi with hi; subst hi; simp [blks] at hm
  ·rw [Gam.set_ne _ _ _ hir] at hi
   exact ⟨⟨i, s, hi, hm⟩, fun s' hs' => hir (h.inj _ _ _ _ _ hi hs' hm z4p)⟩
 have hS : ∀ b, Sg cx.S0 cx.w0.heap.size γ b → Sg cx.S0 cx.w0.heap.size (γ.set r none) b := fun b hb => hb.elim Or.inl (fun ⟨h1, h2⟩ => Or.inr ⟨h1, fun ho => h2 (hown b ho).1⟩)
 have hg : ∀ i x, γ i = some x → γ.set r none i = some x ∨ γ.set r none i = some none ∨ Turn (γ.set r none) i x := fun i x hx => by
  by_cases hir : i = r
  ·subst hir; exact Or.inr (Or.inl (Gam.set_self _ _ _))
  ·exact Or.inl (by rw [Gam.set_ne _ _ _ hir]; exact hx)
 obtain ⟨s, hs, hrr⟩ := row_sl (S' := Sg cx.S0 cx.w0.heap.size (γ.set r none)) he (fun b hb _ => hS b hb) (fun s g hg => Or.inr ⟨(h.ge g (own.mk (id := r) (s := s) (by rw [hd, hg]))).1, fun ho => (hown g ho).2 s (by rw [hd, hg])⟩) (γ.set r none)
 have mv : ∀ {av v}, Rep w (Sg cx.S0 cx.w0.heap.size γ) γ av v → Rep w (Sg cx.S0 cx.w0.heap.size (γ.set r none)) (γ.set r none) (av.frz r sz xs) v := fun hv =>
  (hv.mono (Nat.le_refl _) (fun b hb _ => ⟨rfl, hS b hb⟩)).frz (fun i x hi hx => by rw [Gam.set_ne _ _ _ hi]; exact hx) hd (Gam.set_self _ _ _) (fun v hv => by rw [hv _ _ hs hrr.sl_tup]; exact hrr)
 refine ⟨γ.set r none, fun u => ?_, fun i => ?_, fun i j b s s' hi hj mi mj => ?_, fun b hb => h.ge b (hown b hb).1, h.below, h.size, h.defers.gam (fun b hb => (hown b hb).1), h.gh, fun b hb => by obtain ⟨f2, f3, f4⟩ := h.fr b hb; exact ⟨fun ho => f2 (hown b ho).1, f3, f4⟩, h.dr⟩
 ·have e : (σ.frzAll r sz xs).get u = (σ.get u).frz r sz xs := lkV_map _ rfl _ _
  rw [e]
  exact mv (h.tm u)
 ·by_cases hi : r = i
  ·subst hi
   have e : (σ.frzAll r sz xs).find r = some .dead := by simp [AS.frzAll, AS.find, lkE]
   rw [e]
   exact ⟨none, Gam.set_self _ _ _, rfl⟩
  ·have e : (σ.frzAll r sz xs).find i = (σ.find i).map (Ent.frz r sz xs) := by
    unfold AS.frzAll AS.find
    simp only [lkE]
    cases hb : Nat.beq r i with
    | true => exact absurd (Nat.eq_of_beq_eq_true hb) hi
    | false => exact lkE_map _ _ _
   rw [e, Gam.set_ne _ _ _ (Ne.symm hi)]
   have := h.me i
   cases hf : σ.find i with
   | none => rw [hf] at this; exact this
   | some en =>
     rw [hf] at this
     obtain ⟨x, hx, he⟩ := this
     cases en with
     | box ty cs =>
       obtain ⟨g, vs, h1, h2, h3, h4, h5⟩ := he
       exact ⟨x, hx, g, vs, h1, h2, by rw [h3, AV.frzL_length], fun i hi => by
        have hi2 := hi
        rw [AV.frzL_length] at hi2
        rw [AV.frzL_at r sz xs _ i hi2]
        exact mv (h4 i hi2), h5⟩
     | _ => exact ⟨x, hx, he.move (Nat.le_refl _) (fun b hb _ => ⟨rfl, hS b hb⟩) hg (fun _ _ => rfl)⟩
 ·have hir : i ≠ r := fun e => by subst e; rw [Gam.set_self] at hi; injection hi with hi; subst hi; simp [blks] at mi
  have hjr : j ≠ r := fun e => by subst e; rw [Gam.set_self] at hj; injection hj with hj; subst hj; simp [blks] at mj
  rw [Gam.set_ne _ _ _ hir] at hi
  rw [Gam.set_ne _ _ _ hjr] at hj
  exact h.inj _ _ _ _ _ hi hj mi mj
def closeT0 (σ : AS) (i : Nat) : AV → AV
 | .row j => match Nat.beq j i with
   | true => .row j
   | false => match σ.find j with | some (.row _ sz xs) => .sl sz xs | _ => .any
 | x => match x.closed with | true => x | false => .any
def closeT1 (σ : AS) (i : Nat) : AV → AV
 | .agg cs => .agg (cs.map (closeT0 σ i))
 | x => closeT0 σ i x
def closeT (σ : AS) (i : Nat) : AV → AV
 | .tup cs => .tup (cs.map (closeT1 σ i))
 | x => closeT1 σ i x
section
variable {cx : Cx} {σ : AS} {γ γ' : Gam} {a : Act} {w : World} {S' : Nat → Prop} {i : Nat} {x : Option (Option Nat × Value)}
theorem closeT0_rep (hst : StG cx γ σ a w) (hi : γ i = some x) (hi' : γ' i = some x) (hS : ∀ b, Sg cx.S0 cx.w0.heap.size γ b → S' b) (ho : ∀ j b s, j ≠ i → γ j = some (some (some b, s)) → S' b) {av : AV} {v : Value} (h : Rep w (Sg cx.S0 cx.w0.heap.size γ) γ av v) : Rep w S' γ' (closeT0 σ i av) v := by
 have cl : ∀ av v, Rep w (Sg cx.S0 cx.w0.heap.size γ) γ av v → Rep w S' γ' (match av.closed with | true => av | false => .any) v := fun av v h => by
  cases hc : av.closed with
  | true => exact (h.close hc).mono (Nat.le_refl _) (fun b hb _ => ⟨rfl, hS b hb⟩)
  | false => exact .any _
 cases av with
 | row j =>
   simp only [closeT0]
   cases hb : Nat.beq j i with
   | true =>
     have := Nat.eq_of_beq_eq_true hb
     subst this
     cases h with
     | row h hv => rw [hi] at h; injection h with h; subst h; exact .row hi' hv
   | false =>
     have hji := Nat.ne_of_beq_eq_false hb
     simp only
     have hme := hst.me j
     cases hf : σ.find j with
     | none => exact .any _
     | some e =>
       cases e with
       | row ty sz xs =>
         rw [hf] at hme
         obtain ⟨d, hd, he⟩ := hme
         obtain ⟨s, hs, hrr⟩ := row_sl (S' := S') he (fun b hb _ => hS b hb) (fun s g hg => ho j g s hji (by rw [hd, hg])) γ'
         subst hs
         rw [h.row_inv hd]
         exact hrr
       | _ => exact .any _
 | _ => exact cl _ _ h
theorem closeT1_rep (hst : StG cx γ σ a w) (hi : γ i = some x) (hi' : γ' i = some x) (hS : ∀ b, Sg cx.S0 cx.w0.heap.size γ b → S' b) (ho : ∀ j b s, j ≠ i → γ j = some (some (some b, s)) → S' b) {av : AV} {v : Value} (h : Rep w (Sg cx.S0 cx.w0.heap.size γ) γ av v) : Rep w S' γ' (closeT1 σ i av) v := by
 cases av with
 | agg cs =>
   obtain ⟨vs, rfl, hl, hr, h1⟩ := h.agg_inv
   simp only [closeT1]
   refine .agg vs (by simpa using hl) (fun k hk => ?_) h1
   have hk' : k < cs.length := by simpa using hk
   simp only [List.getElem_map]
   exact closeT0_rep hst hi hi' hS ho (hr k hk')
 | _ => exact closeT0_rep hst hi hi' hS ho h
theorem closeT_rep (hst : StG cx γ σ a w) (hi : γ i = some x) (hi' : γ' i = some x) (hS : ∀ b, Sg cx.S0 cx.w0.heap.size γ b → S' b) (ho : ∀ j b s, j ≠ i → γ j = some (some (some b, s)) → S' b) {av : AV} {v : Value} (h : Rep w (Sg cx.S0 cx.w0.heap.size γ) γ av v) : Rep w S' γ' (closeT σ i av) v := by
 cases av with
 | tup cs =>
   obtain ⟨vs, rfl, hl, hr⟩ := h.tup_inv
   simp only [closeT]
   refine .tup vs (by simpa using hl) (fun k hk => ?_)
   have hk' : k < cs.length := by simpa using hk
   simp only [List.getElem_map]
   exact closeT1_rep hst hi hi' hS ho (hr k hk')
 | _ => exact closeT1_rep hst hi hi' hS ho h
end
inductive TX (E : Env) (nt : Nat) (fn : Func) (σ : AS) (ty sz : Nat) (xs : List AV) (res : AV) : Prop
 | mk (τ : AS) (i : Nat) (hl : LeX E nt σ τ) (avs : List AV) (h1 : retA E.tab τ fn.results.toList = some avs) (h2 : τ.find i = some (.row ty sz xs)) (h3 : Sub (closeT τ i (packA avs)) (res.ren fun _ => i))
def EndT (E : Env) (nt : Nat) (fn : Func) (ty sz : Nat) (xs : List AV) (res : AV) : Exit → AS → Prop
 | .normal, σ => TX E nt fn σ ty sz xs res
 | .ret, σ => TX E nt fn σ ty sz xs res
 | _, _ => False
theorem ConT.walk {E : Env} {f : FuncId} {fn : Func} {args xs : List AV} {ty sz : Nat} {res : AV} (c : Code) (hf : E.P.funcs[f]? = some fn) (hb : fn.body = some c) (he : z9y E f) (hn : Nat.ble args.length fn.ntmps = true) (hres : res.inM [0] = true)
  (h : AW E fn.ntmps (EndT E fn.ntmps fn ty sz xs res) [.code c] .normal (start args)) (hrg : E.rg = false := by rfl) (hyl : E.yl = none := by rfl) (hnp : E.np = 0 := by rfl) : ConT E f args ty sz xs res := by
 refine ⟨he, hres, fun S w vs ha => callsIn_wide.1 (callsIn_of_wp (F := Fence.wide) (n := 0) hf hb trivial ?_)⟩
 have h0 : WP (Cx.call E S w fn.ntmps) c (EndT E fn.ntmps fn ty sz xs res) (start args) := WP.mono (h.out (Cx.call E S w fn.ntmps) rfl rfl) fun e σ hk => by cases e <;> exact hk
 refine wpIn_mono (h0 _ _ (start_st hyl hnp ha (Nat.le_of_ble_eq_true hn))) (fun e a w' ⟨σ, hq, hst0⟩ => ?_)
 have key : TX E fn.ntmps fn σ ty sz xs res → bodyPost E.P fn (fun e w' => ∃ u v us, e = .returned u ∧ Below w.heap.size w w' ∧ w'.ownsRow w.heap.size ty sz v xs.length us ∧
  (∀ k (hk : k < xs.length), (xs[k]).cells.length = sz) ∧ (∀ k (hk : k < xs.length) j (hj : j < (xs[k]).cells.length), Rep w' (fun b => (S b ∨ w.heap.size ≤ b) ∧ v.ownBlock ≠ some b) G0 ((xs[k]).cells[j]) (us.getD (k * sz + j) undef)) ∧ (∀ u ∈ us, u.oneCell' = true) ∧
  ∀ γ' : Gam, γ' 0 = some (some (v.ownBlock, v)) → Rep w' (fun b => (S b ∨ w.heap.size ≤ b) ∧ v.ownBlock ≠ some b) γ' res u) .ret a w' := by
  rintro ⟨τ, i, hl, avs, h1, h2, h3⟩
  obtain ⟨γ, hst⟩ := hl (Cx.call E S w fn.ntmps) rfl rfl a w' hst0
  obtain ⟨u, hu, hr⟩ := zim hst h1
  have hme := hst.me i
  rw [h2] at hme
  obtain ⟨d, hd, s, us, hde, hone, hown, hlen, hrr, hone2⟩ := hme
  subst hde
  have hS : ∀ b, Sg (fun b => S b ∧ b < w.heap.size) w.heap.size γ b → (S b ∨ w.heap.size ≤ b) ∧ s.ownBlock ≠ some b := fun b hb => by
   refine ⟨?_, fun e => ?_⟩
   ·rcases hb with ⟨hb, _⟩ | ⟨hb, _⟩
    ·exact Or.inl hb.1
    ·exact Or.inr hb.1
   ·have ho : own γ b := own.mk (id := i) (s := s) (by rw [hd, e])
    rcases hb with ⟨_, hb⟩ | ⟨_, hb⟩
    ·have := (hst.ge b ho).1.1; exact absurd hb (by show ¬ b < w.heap.size; exact Nat.not_lt.2 this)
    ·exact hb ho
  refine ⟨hst.defers.d0 hrg, u, hu, u, s, us, rfl, hst.below, hown, hlen, fun k hk j hj => (hrr k hk j hj).mono (Nat.le_refl _) (fun b hb _ => ⟨rfl, hS b hb⟩), hone2, fun γ' hγ' => ?_⟩
  have hc := closeT_rep (S' := fun b => (S b ∨ w.heap.size ≤ b) ∧ s.ownBlock ≠ some b) (γ' := fun j => if j = i then γ i else none) hst hd (by simp [hd]) hS (fun j b s' hj hb => ⟨Or.inr (hst.ge b (own.mk hb)).1.1, fun e => hj (hst.inj _ _ _ _ _ hb hd z4p (by rw [e]; exact z4p))⟩) hr
  exact (hc.sub h3).ren (ids := [0]) (ρ := fun _ => i) (fun id hid => by
   have : id = 0 := by simpa using hid
   subst this
   rw [hγ']
   simp [hd]) res rfl hres
 cases e with
 | normal => exact key hq
 | ret => exact key hq
 | _ => exact hq.elim
end Go.Proofs.YtjpknpjjcddnnaaGreat
