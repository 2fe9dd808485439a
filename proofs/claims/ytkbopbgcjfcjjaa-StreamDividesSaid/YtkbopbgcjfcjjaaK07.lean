/- What the walk knows of the program's types. Printed by a program of mine (gen_tab.lean). Helpers over the type table: 64-bit ints, slices of known form, contracts given by hand. From a contract of the abstract walk to a law's row: whatever the arguments, it returns true, and they read as they did. Arguments opened: what any row needs. The abstract walk, fourteenth part: rows frozen; steps counted; weakening between statements. The abstract walk, after its evaluator: rows given up everywhere; contracts whose result holds a row. What a walked function computes, as a term over plain values: the forms of such terms, and how the walk's stops follow them. slices.SortFunc at structs, in its place: a contract of the abstract walk out of the kit's. Clones of slices, for elements of any kind. -/
import Derived.Test.YtkbopbgcjfcjjaaK06
import Derived.Test.YtkbopbgcjfcjjaaProg
import Derived.KernelRfl
import Derived.Test.YtkbopbgcjfcjjaaRows
import Derived.ProofKit
import Derived.Lib.SmallJoins
import Derived.Deep.Slices
import Derived.Carry
import Derived.Below
import Derived.Shelf.SlSortCmp.NoneTotal
import Derived.Sort.OwnSorted
set_option linter.unusedVariables false
set_option linter.unusedSimpArgs false
namespace Go.Proofs.Ytkbopbgcjfcjjaa
def ty1 : TyI := ⟨1, 8, .nilFunc, .other⟩
theorem tyOk1 : TyOk Try.prog 1 ty1 := ⟨by kernel_rfl, by kernel_rfl, by kernel_rfl⟩
def ty2 : TyI := ⟨1, 8, .int .i64 0, .int .i64⟩
theorem tyOk2 : TyOk Try.prog 2 ty2 := ⟨by kernel_rfl, by kernel_rfl, by kernel_rfl⟩
def ty3 : TyI := ⟨1, 8, .int .i64 0, .int .i64⟩
theorem tyOk3 : TyOk Try.prog 3 ty3 := ⟨by kernel_rfl, by kernel_rfl, by kernel_rfl⟩
def ty4 : TyI := ⟨1, 1, .bool false, .bool⟩
theorem tyOk4 : TyOk Try.prog 4 ty4 := ⟨by kernel_rfl, by kernel_rfl, by kernel_rfl⟩
def ty5 : TyI := ⟨1, 1, .int .u8 0, .int .u8⟩
theorem tyOk5 : TyOk Try.prog 5 ty5 := ⟨by kernel_rfl, by kernel_rfl, by kernel_rfl⟩
def ty6 : TyI := ⟨1, 1, .int .u8 0, .int .u8⟩
theorem tyOk6 : TyOk Try.prog 6 ty6 := ⟨by kernel_rfl, by kernel_rfl, by kernel_rfl⟩
def ty7 : TyI := ⟨4, 24, .agg #[.int .i64 0, .int .i64 0, .bool false, .int .u8 0], .strct [(0, 1, some false), (1, 1, some false), (2, 1, some false), (3, 1, some false)]⟩
theorem tyOk7 : TyOk Try.prog 7 ty7 := ⟨by kernel_rfl, by kernel_rfl, by kernel_rfl⟩
def ty8 : TyI := ⟨4, 24, .agg #[.int .i64 0, .int .i64 0, .bool false, .int .u8 0], .strct [(0, 1, some false), (1, 1, some false), (2, 1, some false), (3, 1, some false)]⟩
theorem tyOk8 : TyOk Try.prog 8 ty8 := ⟨by kernel_rfl, by kernel_rfl, by kernel_rfl⟩
def ty9 : TyI := ⟨1, 16, .string ByteArray.empty, .str⟩
theorem tyOk9 : TyOk Try.prog 9 ty9 := ⟨by kernel_rfl, by kernel_rfl, by kernel_rfl⟩
def ty10 : TyI := ⟨1, 16, .string ByteArray.empty, .str⟩
theorem tyOk10 : TyOk Try.prog 10 ty10 := ⟨by kernel_rfl, by kernel_rfl, by kernel_rfl⟩
def ty11 : TyI := ⟨1, 16, .string ByteArray.empty, .str⟩
theorem tyOk11 : TyOk Try.prog 11 ty11 := ⟨by kernel_rfl, by kernel_rfl, by kernel_rfl⟩
def ty12 : TyI := ⟨1, 8, .int .u64 0, .int .u64⟩
theorem tyOk12 : TyOk Try.prog 12 ty12 := ⟨by kernel_rfl, by kernel_rfl, by kernel_rfl⟩
def ty13 : TyI := ⟨2, 24, .agg #[.string ByteArray.empty, .int .u64 0], .strct [(0, 1, some false), (1, 1, some false)]⟩
theorem tyOk13 : TyOk Try.prog 13 ty13 := ⟨by kernel_rfl, by kernel_rfl, by kernel_rfl⟩
def ty14 : TyI := ⟨2, 24, .agg #[.string ByteArray.empty, .int .u64 0], .strct [(0, 1, some false), (1, 1, some false)]⟩
theorem tyOk14 : TyOk Try.prog 14 ty14 := ⟨by kernel_rfl, by kernel_rfl, by kernel_rfl⟩
def ty15 : TyI := ⟨1, 8, .pointer none, .other⟩
theorem tyOk15 : TyOk Try.prog 15 ty15 := ⟨by kernel_rfl, by kernel_rfl, by kernel_rfl⟩
def ty16 : TyI := ⟨1, 8, .pointer none, .other⟩
theorem tyOk16 : TyOk Try.prog 16 ty16 := ⟨by kernel_rfl, by kernel_rfl, by kernel_rfl⟩
def ty17 : TyI := ⟨1, 8, .pointer none, .other⟩
theorem tyOk17 : TyOk Try.prog 17 ty17 := ⟨by kernel_rfl, by kernel_rfl, by kernel_rfl⟩
def ty18 : TyI := ⟨1, 8, .agg #[.pointer none], .strct [(0, 1, some false)]⟩
theorem tyOk18 : TyOk Try.prog 18 ty18 := ⟨by kernel_rfl, by kernel_rfl, by kernel_rfl⟩
def ty19 : TyI := ⟨1, 8, .agg #[.pointer none], .strct [(0, 1, some false)]⟩
theorem tyOk19 : TyOk Try.prog 19 ty19 := ⟨by kernel_rfl, by kernel_rfl, by kernel_rfl⟩
def ty21 : TyI := ⟨1, 4, .int .i32 0, .int .i32⟩
theorem tyOk21 : TyOk Try.prog 21 ty21 := ⟨by kernel_rfl, by kernel_rfl, by kernel_rfl⟩
def ty22 : TyI := ⟨1, 24, .slice none 0 0, .slc 41 5 56⟩
theorem tyOk22 : TyOk Try.prog 22 ty22 := ⟨by kernel_rfl, by kernel_rfl, by kernel_rfl⟩
def ty23 : TyI := ⟨1, 24, .slice none 0 0, .slc 3 1 8⟩
theorem tyOk23 : TyOk Try.prog 23 ty23 := ⟨by kernel_rfl, by kernel_rfl, by kernel_rfl⟩
def ty24 : TyI := ⟨1, 8, .nilFunc, .other⟩
theorem tyOk24 : TyOk Try.prog 24 ty24 := ⟨by kernel_rfl, by kernel_rfl, by kernel_rfl⟩
def ty25 : TyI := ⟨1, 8, .nilFunc, .other⟩
theorem tyOk25 : TyOk Try.prog 25 ty25 := ⟨by kernel_rfl, by kernel_rfl, by kernel_rfl⟩
def ty26 : TyI := ⟨1, 24, .slice none 0 0, .slc 39 3 32⟩
theorem tyOk26 : TyOk Try.prog 26 ty26 := ⟨by kernel_rfl, by kernel_rfl, by kernel_rfl⟩
def ty27 : TyI := ⟨1, 24, .slice none 0 0, .slc 22 1 24⟩
theorem tyOk27 : TyOk Try.prog 27 ty27 := ⟨by kernel_rfl, by kernel_rfl, by kernel_rfl⟩
def ty28 : TyI := ⟨1, 8, .int .i64 0, .int .i64⟩
theorem tyOk28 : TyOk Try.prog 28 ty28 := ⟨by kernel_rfl, by kernel_rfl, by kernel_rfl⟩
def ty30 : TyI := ⟨1, 8, .nilFunc, .other⟩
theorem tyOk30 : TyOk Try.prog 30 ty30 := ⟨by kernel_rfl, by kernel_rfl, by kernel_rfl⟩
def ty32 : TyI := ⟨1, 8, .nilFunc, .other⟩
theorem tyOk32 : TyOk Try.prog 32 ty32 := ⟨by kernel_rfl, by kernel_rfl, by kernel_rfl⟩
def ty33 : TyI := ⟨1, 8, .nilFunc, .other⟩
theorem tyOk33 : TyOk Try.prog 33 ty33 := ⟨by kernel_rfl, by kernel_rfl, by kernel_rfl⟩
def ty34 : TyI := ⟨1, 8, .nilFunc, .other⟩
theorem tyOk34 : TyOk Try.prog 34 ty34 := ⟨by kernel_rfl, by kernel_rfl, by kernel_rfl⟩
def ty35 : TyI := ⟨1, 8, .nilFunc, .other⟩
theorem tyOk35 : TyOk Try.prog 35 ty35 := ⟨by kernel_rfl, by kernel_rfl, by kernel_rfl⟩
def ty36 : TyI := ⟨1, 8, .nilFunc, .other⟩
theorem tyOk36 : TyOk Try.prog 36 ty36 := ⟨by kernel_rfl, by kernel_rfl, by kernel_rfl⟩
def ty37 : TyI := ⟨1, 8, .nilFunc, .other⟩
theorem tyOk37 : TyOk Try.prog 37 ty37 := ⟨by kernel_rfl, by kernel_rfl, by kernel_rfl⟩
def ty38 : TyI := ⟨3, 32, .agg #[.int .i64 0, .int .i64 0, .string ByteArray.empty], .strct [(0, 1, some false), (1, 1, some false), (2, 1, some false)]⟩
theorem tyOk38 : TyOk Try.prog 38 ty38 := ⟨by kernel_rfl, by kernel_rfl, by kernel_rfl⟩
def ty39 : TyI := ⟨3, 32, .agg #[.int .i64 0, .int .i64 0, .string ByteArray.empty], .strct [(0, 1, some false), (1, 1, some false), (2, 1, some false)]⟩
theorem tyOk39 : TyOk Try.prog 39 ty39 := ⟨by kernel_rfl, by kernel_rfl, by kernel_rfl⟩
def ty40 : TyI := ⟨5, 56, .agg #[.int .i64 0, .int .i64 0, .int .i64 0, .int .i64 0, .slice none 0 0], .strct [(0, 1, some false), (1, 1, some false), (2, 1, some false), (3, 1, some false), (4, 1, some false)]⟩
theorem tyOk40 : TyOk Try.prog 40 ty40 := ⟨by kernel_rfl, by kernel_rfl, by kernel_rfl⟩
def ty41 : TyI := ⟨5, 56, .agg #[.int .i64 0, .int .i64 0, .int .i64 0, .int .i64 0, .slice none 0 0], .strct [(0, 1, some false), (1, 1, some false), (2, 1, some false), (3, 1, some false), (4, 1, some false)]⟩
theorem tyOk41 : TyOk Try.prog 41 ty41 := ⟨by kernel_rfl, by kernel_rfl, by kernel_rfl⟩
def ty43 : TyI := ⟨1, 8, .nilFunc, .other⟩
theorem tyOk43 : TyOk Try.prog 43 ty43 := ⟨by kernel_rfl, by kernel_rfl, by kernel_rfl⟩
def ty44 : TyI := ⟨1, 8, .nilFunc, .other⟩
theorem tyOk44 : TyOk Try.prog 44 ty44 := ⟨by kernel_rfl, by kernel_rfl, by kernel_rfl⟩
def ty45 : TyI := ⟨1, 8, .nilFunc, .other⟩
theorem tyOk45 : TyOk Try.prog 45 ty45 := ⟨by kernel_rfl, by kernel_rfl, by kernel_rfl⟩
def ty46 : TyI := ⟨1, 8, .nilFunc, .other⟩
theorem tyOk46 : TyOk Try.prog 46 ty46 := ⟨by kernel_rfl, by kernel_rfl, by kernel_rfl⟩
def ty48 : TyI := ⟨1, 8, .nilFunc, .other⟩
theorem tyOk48 : TyOk Try.prog 48 ty48 := ⟨by kernel_rfl, by kernel_rfl, by kernel_rfl⟩
def ty49 : TyI := ⟨1, 8, .nilFunc, .other⟩
theorem tyOk49 : TyOk Try.prog 49 ty49 := ⟨by kernel_rfl, by kernel_rfl, by kernel_rfl⟩
def ty50 : TyI := ⟨1, 8, .nilFunc, .other⟩
theorem tyOk50 : TyOk Try.prog 50 ty50 := ⟨by kernel_rfl, by kernel_rfl, by kernel_rfl⟩
def ty51 : TyI := ⟨1, 8, .nilFunc, .other⟩
theorem tyOk51 : TyOk Try.prog 51 ty51 := ⟨by kernel_rfl, by kernel_rfl, by kernel_rfl⟩
def ty52 : TyI := ⟨1, 8, .nilFunc, .other⟩
theorem tyOk52 : TyOk Try.prog 52 ty52 := ⟨by kernel_rfl, by kernel_rfl, by kernel_rfl⟩
def ty53 : TyI := ⟨1, 8, .nilFunc, .other⟩
theorem tyOk53 : TyOk Try.prog 53 ty53 := ⟨by kernel_rfl, by kernel_rfl, by kernel_rfl⟩
def ty55 : TyI := ⟨1, 8, .nilFunc, .other⟩
theorem tyOk55 : TyOk Try.prog 55 ty55 := ⟨by kernel_rfl, by kernel_rfl, by kernel_rfl⟩
def ty57 : TyI := ⟨1, 8, .nilFunc, .other⟩
theorem tyOk57 : TyOk Try.prog 57 ty57 := ⟨by kernel_rfl, by kernel_rfl, by kernel_rfl⟩
def ty58 : TyI := ⟨3, 24, .agg #[.int .i64 0, .int .i64 0, .int .i64 0], .strct [(0, 1, some false), (1, 1, some false), (2, 1, some false)]⟩
theorem tyOk58 : TyOk Try.prog 58 ty58 := ⟨by kernel_rfl, by kernel_rfl, by kernel_rfl⟩
def ty59 : TyI := ⟨3, 24, .agg #[.int .i64 0, .int .i64 0, .int .i64 0], .strct [(0, 1, some false), (1, 1, some false), (2, 1, some false)]⟩
theorem tyOk59 : TyOk Try.prog 59 ty59 := ⟨by kernel_rfl, by kernel_rfl, by kernel_rfl⟩
def ty60 : TyI := ⟨1, 8, .nilFunc, .other⟩
theorem tyOk60 : TyOk Try.prog 60 ty60 := ⟨by kernel_rfl, by kernel_rfl, by kernel_rfl⟩
def ty61 : TyI := ⟨1, 8, .map none, .map 39 22⟩
theorem tyOk61 : TyOk Try.prog 61 ty61 := ⟨by kernel_rfl, by kernel_rfl, by kernel_rfl⟩
def ty63 : TyI := ⟨1, 8, .nilFunc, .other⟩
theorem tyOk63 : TyOk Try.prog 63 ty63 := ⟨by kernel_rfl, by kernel_rfl, by kernel_rfl⟩
def ty64 : TyI := ⟨1, 8, .nilFunc, .other⟩
theorem tyOk64 : TyOk Try.prog 64 ty64 := ⟨by kernel_rfl, by kernel_rfl, by kernel_rfl⟩
def ty65 : TyI := ⟨1, 8, .nilFunc, .other⟩
theorem tyOk65 : TyOk Try.prog 65 ty65 := ⟨by kernel_rfl, by kernel_rfl, by kernel_rfl⟩
def ty66 : TyI := ⟨1, 8, .nilFunc, .other⟩
theorem tyOk66 : TyOk Try.prog 66 ty66 := ⟨by kernel_rfl, by kernel_rfl, by kernel_rfl⟩
def ty67 : TyI := ⟨1, 8, .nilFunc, .other⟩
theorem tyOk67 : TyOk Try.prog 67 ty67 := ⟨by kernel_rfl, by kernel_rfl, by kernel_rfl⟩
def ty68 : TyI := ⟨1, 8, .nilFunc, .other⟩
theorem tyOk68 : TyOk Try.prog 68 ty68 := ⟨by kernel_rfl, by kernel_rfl, by kernel_rfl⟩
def ty69 : TyI := ⟨1, 8, .nilFunc, .other⟩
theorem tyOk69 : TyOk Try.prog 69 ty69 := ⟨by kernel_rfl, by kernel_rfl, by kernel_rfl⟩
def ty70 : TyI := ⟨1, 8, .nilFunc, .other⟩
theorem tyOk70 : TyOk Try.prog 70 ty70 := ⟨by kernel_rfl, by kernel_rfl, by kernel_rfl⟩
def ty71 : TyI := ⟨1, 8, .nilFunc, .other⟩
theorem tyOk71 : TyOk Try.prog 71 ty71 := ⟨by kernel_rfl, by kernel_rfl, by kernel_rfl⟩
def ty73 : TyI := ⟨1, 8, .nilFunc, .other⟩
theorem tyOk73 : TyOk Try.prog 73 ty73 := ⟨by kernel_rfl, by kernel_rfl, by kernel_rfl⟩
def ty74 : TyI := ⟨1, 8, .nilFunc, .other⟩
theorem tyOk74 : TyOk Try.prog 74 ty74 := ⟨by kernel_rfl, by kernel_rfl, by kernel_rfl⟩
def ty76 : TyI := ⟨1, 8, .nilFunc, .other⟩
theorem tyOk76 : TyOk Try.prog 76 ty76 := ⟨by kernel_rfl, by kernel_rfl, by kernel_rfl⟩
def ty77 : TyI := ⟨1, 8, .nilFunc, .other⟩
theorem tyOk77 : TyOk Try.prog 77 ty77 := ⟨by kernel_rfl, by kernel_rfl, by kernel_rfl⟩
def ty78 : TyI := ⟨1, 8, .map none, .map 80 4⟩
theorem tyOk78 : TyOk Try.prog 78 ty78 := ⟨by kernel_rfl, by kernel_rfl, by kernel_rfl⟩
def ty79 : TyI := ⟨2, 16, .agg #[.int .i64 0, .int .i64 0], .strct [(0, 1, some false), (1, 1, some false)]⟩
theorem tyOk79 : TyOk Try.prog 79 ty79 := ⟨by kernel_rfl, by kernel_rfl, by kernel_rfl⟩
def ty80 : TyI := ⟨2, 16, .agg #[.int .i64 0, .int .i64 0], .strct [(0, 1, some false), (1, 1, some false)]⟩
theorem tyOk80 : TyOk Try.prog 80 ty80 := ⟨by kernel_rfl, by kernel_rfl, by kernel_rfl⟩
def ty81 : TyI := ⟨1, 8, .nilFunc, .other⟩
theorem tyOk81 : TyOk Try.prog 81 ty81 := ⟨by kernel_rfl, by kernel_rfl, by kernel_rfl⟩
def ty82 : TyI := ⟨1, 8, .nilFunc, .other⟩
theorem tyOk82 : TyOk Try.prog 82 ty82 := ⟨by kernel_rfl, by kernel_rfl, by kernel_rfl⟩
def ty83 : TyI := ⟨1, 8, .nilFunc, .other⟩
theorem tyOk83 : TyOk Try.prog 83 ty83 := ⟨by kernel_rfl, by kernel_rfl, by kernel_rfl⟩
def ty84 : TyI := ⟨1, 8, .nilFunc, .other⟩
theorem tyOk84 : TyOk Try.prog 84 ty84 := ⟨by kernel_rfl, by kernel_rfl, by kernel_rfl⟩
def ty85 : TyI := ⟨1, 8, .int .u64 0, .int .u64⟩
theorem tyOk85 : TyOk Try.prog 85 ty85 := ⟨by kernel_rfl, by kernel_rfl, by kernel_rfl⟩
def ty86 : TyI := ⟨1, 24, .slice none 0 0, .slc 37 1 8⟩
theorem tyOk86 : TyOk Try.prog 86 ty86 := ⟨by kernel_rfl, by kernel_rfl, by kernel_rfl⟩
def ty87 : TyI := ⟨1, 8, .nilFunc, .other⟩
theorem tyOk87 : TyOk Try.prog 87 ty87 := ⟨by kernel_rfl, by kernel_rfl, by kernel_rfl⟩
def ty88 : TyI := ⟨1, 8, .nilFunc, .other⟩
theorem tyOk88 : TyOk Try.prog 88 ty88 := ⟨by kernel_rfl, by kernel_rfl, by kernel_rfl⟩
def ty89 : TyI := ⟨1, 8, .map none, .map 80 41⟩
theorem tyOk89 : TyOk Try.prog 89 ty89 := ⟨by kernel_rfl, by kernel_rfl, by kernel_rfl⟩
def ty91 : TyI := ⟨1, 8, .nilFunc, .other⟩
theorem tyOk91 : TyOk Try.prog 91 ty91 := ⟨by kernel_rfl, by kernel_rfl, by kernel_rfl⟩
def ty92 : TyI := ⟨1, 8, .nilFunc, .other⟩
theorem tyOk92 : TyOk Try.prog 92 ty92 := ⟨by kernel_rfl, by kernel_rfl, by kernel_rfl⟩
def ty93 : TyI := ⟨1, 8, .nilFunc, .other⟩
theorem tyOk93 : TyOk Try.prog 93 ty93 := ⟨by kernel_rfl, by kernel_rfl, by kernel_rfl⟩
def ty94 : TyI := ⟨1, 8, .nilFunc, .other⟩
theorem tyOk94 : TyOk Try.prog 94 ty94 := ⟨by kernel_rfl, by kernel_rfl, by kernel_rfl⟩
def ty95 : TyI := ⟨1, 8, .int .i64 0, .int .i64⟩
theorem tyOk95 : TyOk Try.prog 95 ty95 := ⟨by kernel_rfl, by kernel_rfl, by kernel_rfl⟩
def ty97 : TyI := ⟨1, 8, .nilFunc, .other⟩
theorem tyOk97 : TyOk Try.prog 97 ty97 := ⟨by kernel_rfl, by kernel_rfl, by kernel_rfl⟩
def ty98 : TyI := ⟨1, 8, .nilFunc, .other⟩
theorem tyOk98 : TyOk Try.prog 98 ty98 := ⟨by kernel_rfl, by kernel_rfl, by kernel_rfl⟩
def ty99 : TyI := ⟨1, 8, .nilFunc, .other⟩
theorem tyOk99 : TyOk Try.prog 99 ty99 := ⟨by kernel_rfl, by kernel_rfl, by kernel_rfl⟩
def ty100 : TyI := ⟨1, 8, .nilFunc, .other⟩
theorem tyOk100 : TyOk Try.prog 100 ty100 := ⟨by kernel_rfl, by kernel_rfl, by kernel_rfl⟩
def ty101 : TyI := ⟨1, 8, .nilFunc, .other⟩
theorem tyOk101 : TyOk Try.prog 101 ty101 := ⟨by kernel_rfl, by kernel_rfl, by kernel_rfl⟩
def ty102 : TyI := ⟨1, 4, .int .u32 0, .int .u32⟩
theorem tyOk102 : TyOk Try.prog 102 ty102 := ⟨by kernel_rfl, by kernel_rfl, by kernel_rfl⟩
def ty103 : TyI := ⟨1, 8, .nilFunc, .other⟩
theorem tyOk103 : TyOk Try.prog 103 ty103 := ⟨by kernel_rfl, by kernel_rfl, by kernel_rfl⟩
def ty104 : TyI := ⟨1, 8, .int .u64 0, .int .u64⟩
theorem tyOk104 : TyOk Try.prog 104 ty104 := ⟨by kernel_rfl, by kernel_rfl, by kernel_rfl⟩
def ty105 : TyI := ⟨1, 8, .nilFunc, .other⟩
theorem tyOk105 : TyOk Try.prog 105 ty105 := ⟨by kernel_rfl, by kernel_rfl, by kernel_rfl⟩
def ty106 : TyI := ⟨1, 8, .nilFunc, .other⟩
theorem tyOk106 : TyOk Try.prog 106 ty106 := ⟨by kernel_rfl, by kernel_rfl, by kernel_rfl⟩
def ty107 : TyI := ⟨1, 8, .nilFunc, .other⟩
theorem tyOk107 : TyOk Try.prog 107 ty107 := ⟨by kernel_rfl, by kernel_rfl, by kernel_rfl⟩
def ty108 : TyI := ⟨1, 8, .int .u64 0, .int .u64⟩
theorem tyOk108 : TyOk Try.prog 108 ty108 := ⟨by kernel_rfl, by kernel_rfl, by kernel_rfl⟩
def ty109 : TyI := ⟨1, 8, .nilFunc, .other⟩
theorem tyOk109 : TyOk Try.prog 109 ty109 := ⟨by kernel_rfl, by kernel_rfl, by kernel_rfl⟩
def ty110 : TyI := ⟨1, 8, .nilFunc, .other⟩
theorem tyOk110 : TyOk Try.prog 110 ty110 := ⟨by kernel_rfl, by kernel_rfl, by kernel_rfl⟩
def ty111 : TyI := ⟨1, 8, .nilFunc, .other⟩
theorem tyOk111 : TyOk Try.prog 111 ty111 := ⟨by kernel_rfl, by kernel_rfl, by kernel_rfl⟩
def ty112 : TyI := ⟨1, 8, .pointer none, .other⟩
theorem tyOk112 : TyOk Try.prog 112 ty112 := ⟨by kernel_rfl, by kernel_rfl, by kernel_rfl⟩
def ty113 : TyI := ⟨1, 8, .nilFunc, .other⟩
theorem tyOk113 : TyOk Try.prog 113 ty113 := ⟨by kernel_rfl, by kernel_rfl, by kernel_rfl⟩
def ty114 : TyI := ⟨1, 8, .nilFunc, .other⟩
theorem tyOk114 : TyOk Try.prog 114 ty114 := ⟨by kernel_rfl, by kernel_rfl, by kernel_rfl⟩
def ty115 : TyI := ⟨1, 8, .nilFunc, .other⟩
theorem tyOk115 : TyOk Try.prog 115 ty115 := ⟨by kernel_rfl, by kernel_rfl, by kernel_rfl⟩
def ty116 : TyI := ⟨1, 8, .nilFunc, .other⟩
theorem tyOk116 : TyOk Try.prog 116 ty116 := ⟨by kernel_rfl, by kernel_rfl, by kernel_rfl⟩
def ty117 : TyI := ⟨1, 8, .nilFunc, .other⟩
theorem tyOk117 : TyOk Try.prog 117 ty117 := ⟨by kernel_rfl, by kernel_rfl, by kernel_rfl⟩
def ty118 : TyI := ⟨1, 8, .nilFunc, .other⟩
theorem tyOk118 : TyOk Try.prog 118 ty118 := ⟨by kernel_rfl, by kernel_rfl, by kernel_rfl⟩
def ty119 : TyI := ⟨1, 8, .pointer none, .other⟩
theorem tyOk119 : TyOk Try.prog 119 ty119 := ⟨by kernel_rfl, by kernel_rfl, by kernel_rfl⟩
def ty121 : TyI := ⟨1, 8, .nilFunc, .other⟩
theorem tyOk121 : TyOk Try.prog 121 ty121 := ⟨by kernel_rfl, by kernel_rfl, by kernel_rfl⟩
def ty122 : TyI := ⟨1, 8, .nilFunc, .other⟩
theorem tyOk122 : TyOk Try.prog 122 ty122 := ⟨by kernel_rfl, by kernel_rfl, by kernel_rfl⟩
def ty123 : TyI := ⟨1, 8, .nilFunc, .other⟩
theorem tyOk123 : TyOk Try.prog 123 ty123 := ⟨by kernel_rfl, by kernel_rfl, by kernel_rfl⟩
def ty124 : TyI := ⟨1, 8, .nilFunc, .other⟩
theorem tyOk124 : TyOk Try.prog 124 ty124 := ⟨by kernel_rfl, by kernel_rfl, by kernel_rfl⟩
def ty125 : TyI := ⟨1, 8, .nilFunc, .other⟩
theorem tyOk125 : TyOk Try.prog 125 ty125 := ⟨by kernel_rfl, by kernel_rfl, by kernel_rfl⟩
def ty126 : TyI := ⟨4, 40, .agg #[.pointer none, .pointer none, .pointer none, .string ByteArray.empty], .strct [(0, 1, some false), (1, 1, some false), (2, 1, some false), (3, 1, some false)]⟩
theorem tyOk126 : TyOk Try.prog 126 ty126 := ⟨by kernel_rfl, by kernel_rfl, by kernel_rfl⟩
def ty127 : TyI := ⟨4, 40, .agg #[.pointer none, .pointer none, .pointer none, .string ByteArray.empty], .strct [(0, 1, some false), (1, 1, some false), (2, 1, some false), (3, 1, some false)]⟩
theorem tyOk127 : TyOk Try.prog 127 ty127 := ⟨by kernel_rfl, by kernel_rfl, by kernel_rfl⟩
def ty131 : TyI := ⟨1, 8, .nilFunc, .other⟩
theorem tyOk131 : TyOk Try.prog 131 ty131 := ⟨by kernel_rfl, by kernel_rfl, by kernel_rfl⟩
def ty132 : TyI := ⟨1, 1, .int .u8 0, .int .u8⟩
theorem tyOk132 : TyOk Try.prog 132 ty132 := ⟨by kernel_rfl, by kernel_rfl, by kernel_rfl⟩
def ty133 : TyI := ⟨1, 1, .int .u8 0, .int .u8⟩
theorem tyOk133 : TyOk Try.prog 133 ty133 := ⟨by kernel_rfl, by kernel_rfl, by kernel_rfl⟩
def ty134 : TyI := ⟨1, 8, .nilFunc, .other⟩
theorem tyOk134 : TyOk Try.prog 134 ty134 := ⟨by kernel_rfl, by kernel_rfl, by kernel_rfl⟩
def ty135 : TyI := ⟨1, 8, .pointer none, .other⟩
theorem tyOk135 : TyOk Try.prog 135 ty135 := ⟨by kernel_rfl, by kernel_rfl, by kernel_rfl⟩
def ty136 : TyI := ⟨1, 4, .int .i32 0, .int .i32⟩
theorem tyOk136 : TyOk Try.prog 136 ty136 := ⟨by kernel_rfl, by kernel_rfl, by kernel_rfl⟩
def ty137 : TyI := ⟨1, 4, .int .i32 0, .int .i32⟩
theorem tyOk137 : TyOk Try.prog 137 ty137 := ⟨by kernel_rfl, by kernel_rfl, by kernel_rfl⟩
def ty138 : TyI := ⟨11, 48, .agg #[.int .u64 0, .int .u64 0, .int .u32 0, .int .u8 0, .int .u8 0, .int .u8 0, .int .u8 0, .nilFunc, .pointer none, .int .i32 0, .int .i32 0], .strct [(0, 1, some false), (1, 1, some false), (2, 1, some false), (3, 1, some false), (4, 1, some false), (5, 1, some false), (6, 1, some false), (7, 1, some false), (8, 1, some false), (9, 1, some false), (10, 1, some false)]⟩
theorem tyOk138 : TyOk Try.prog 138 ty138 := ⟨by kernel_rfl, by kernel_rfl, by kernel_rfl⟩
def ty139 : TyI := ⟨11, 48, .agg #[.int .u64 0, .int .u64 0, .int .u32 0, .int .u8 0, .int .u8 0, .int .u8 0, .int .u8 0, .nilFunc, .pointer none, .int .i32 0, .int .i32 0], .strct [(0, 1, some false), (1, 1, some false), (2, 1, some false), (3, 1, some false), (4, 1, some false), (5, 1, some false), (6, 1, some false), (7, 1, some false), (8, 1, some false), (9, 1, some false), (10, 1, some false)]⟩
theorem tyOk139 : TyOk Try.prog 139 ty139 := ⟨by kernel_rfl, by kernel_rfl, by kernel_rfl⟩
def tab : List (Nat × TyI) := [(1, ty1), (2, ty2), (3, ty3), (4, ty4), (5, ty5), (6, ty6), (7, ty7), (8, ty8), (9, ty9), (10, ty10), (11, ty11), (12, ty12), (13, ty13), (14, ty14), (15, ty15), (16, ty16), (17, ty17), (18, ty18), (19, ty19), (21, ty21), (22, ty22), (23, ty23), (24, ty24), (25, ty25), (26, ty26), (27, ty27), (28, ty28), (30, ty30), (32, ty32), (33, ty33), (34, ty34), (35, ty35), (36, ty36), (37, ty37), (38, ty38), (39, ty39), (40, ty40), (41, ty41), (43, ty43), (44, ty44), (45, ty45), (46, ty46), (48, ty48), (49, ty49), (50, ty50), (51, ty51), (52, ty52), (53, ty53), (55, ty55), (57, ty57), (58, ty58), (59, ty59), (60, ty60), (61, ty61), (63, ty63), (64, ty64), (65, ty65), (66, ty66), (67, ty67), (68, ty68), (69, ty69), (70, ty70), (71, ty71), (73, ty73), (74, ty74), (76, ty76), (77, ty77), (78, ty78), (79, ty79), (80, ty80), (81, ty81), (82, ty82), (83, ty83), (84, ty84), (85, ty85), (86, ty86), (87, ty87), (88, ty88), (89, ty89), (91, ty91), (92, ty92), (93, ty93), (94, ty94), (95, ty95), (97, ty97), (98, ty98), (99, ty99), (100, ty100), (101, ty101), (102, ty102), (103, ty103), (104, ty104), (105, ty105), (106, ty106), (107, ty107), (108, ty108), (109, ty109), (110, ty110), (111, ty111), (112, ty112), (113, ty113), (114, ty114), (115, ty115), (116, ty116), (117, ty117), (118, ty118), (119, ty119), (121, ty121), (122, ty122), (123, ty123), (124, ty124), (125, ty125), (126, ty126), (127, ty127), (131, ty131), (132, ty132), (133, ty133), (134, ty134), (135, ty135), (136, ty136), (137, ty137), (138, ty138), (139, ty139)]
def AllOk (P : Program) : List (Nat × TyI) → Prop
  | [] => True
  | (t, i) :: r => TyOk P t i ∧ AllOk P r
theorem AllOk.get {P : Program} : ∀ {l : List (Nat × TyI)}, AllOk P l → ∀ T i, lkT l T = some i → TyOk P T i
  | [], _, T, i, h => by simp [lkT] at h
  | (t, j) :: r, hl, T, i, h => by
    simp only [lkT] at h
    split at h
    · rename_i hb
      have := Nat.eq_of_beq_eq_true hb
      subst this
      injection h with h
      subst h
      exact hl.1
    · exact hl.2.get T i h
theorem tabOk : AllOk Try.prog tab := ⟨tyOk1, ⟨tyOk2, ⟨tyOk3, ⟨tyOk4, ⟨tyOk5, ⟨tyOk6, ⟨tyOk7, ⟨tyOk8, ⟨tyOk9, ⟨tyOk10, ⟨tyOk11, ⟨tyOk12, ⟨tyOk13, ⟨tyOk14, ⟨tyOk15, ⟨tyOk16, ⟨tyOk17, ⟨tyOk18, ⟨tyOk19, ⟨tyOk21, ⟨tyOk22, ⟨tyOk23, ⟨tyOk24, ⟨tyOk25, ⟨tyOk26, ⟨tyOk27, ⟨tyOk28, ⟨tyOk30, ⟨tyOk32, ⟨tyOk33, ⟨tyOk34, ⟨tyOk35, ⟨tyOk36, ⟨tyOk37, ⟨tyOk38, ⟨tyOk39, ⟨tyOk40, ⟨tyOk41, ⟨tyOk43, ⟨tyOk44, ⟨tyOk45, ⟨tyOk46, ⟨tyOk48, ⟨tyOk49, ⟨tyOk50, ⟨tyOk51, ⟨tyOk52, ⟨tyOk53, ⟨tyOk55, ⟨tyOk57, ⟨tyOk58, ⟨tyOk59, ⟨tyOk60, ⟨tyOk61, ⟨tyOk63, ⟨tyOk64, ⟨tyOk65, ⟨tyOk66, ⟨tyOk67, ⟨tyOk68, ⟨tyOk69, ⟨tyOk70, ⟨tyOk71, ⟨tyOk73, ⟨tyOk74, ⟨tyOk76, ⟨tyOk77, ⟨tyOk78, ⟨tyOk79, ⟨tyOk80, ⟨tyOk81, ⟨tyOk82, ⟨tyOk83, ⟨tyOk84, ⟨tyOk85, ⟨tyOk86, ⟨tyOk87, ⟨tyOk88, ⟨tyOk89, ⟨tyOk91, ⟨tyOk92, ⟨tyOk93, ⟨tyOk94, ⟨tyOk95, ⟨tyOk97, ⟨tyOk98, ⟨tyOk99, ⟨tyOk100, ⟨tyOk101, ⟨tyOk102, ⟨tyOk103, ⟨tyOk104, ⟨tyOk105, ⟨tyOk106, ⟨tyOk107, ⟨tyOk108, ⟨tyOk109, ⟨tyOk110, ⟨tyOk111, ⟨tyOk112, ⟨tyOk113, ⟨tyOk114, ⟨tyOk115, ⟨tyOk116, ⟨tyOk117, ⟨tyOk118, ⟨tyOk119, ⟨tyOk121, ⟨tyOk122, ⟨tyOk123, ⟨tyOk124, ⟨tyOk125, ⟨tyOk126, ⟨tyOk127, ⟨tyOk131, ⟨tyOk132, ⟨tyOk133, ⟨tyOk134, ⟨tyOk135, ⟨tyOk136, ⟨tyOk137, ⟨tyOk138, ⟨tyOk139, trivial⟩⟩⟩⟩⟩⟩⟩⟩⟩⟩⟩⟩⟩⟩⟩⟩⟩⟩⟩⟩⟩⟩⟩⟩⟩⟩⟩⟩⟩⟩⟩⟩⟩⟩⟩⟩⟩⟩⟩⟩⟩⟩⟩⟩⟩⟩⟩⟩⟩⟩⟩⟩⟩⟩⟩⟩⟩⟩⟩⟩⟩⟩⟩⟩⟩⟩⟩⟩⟩⟩⟩⟩⟩⟩⟩⟩⟩⟩⟩⟩⟩⟩⟩⟩⟩⟩⟩⟩⟩⟩⟩⟩⟩⟩⟩⟩⟩⟩⟩⟩⟩⟩⟩⟩⟩⟩⟩⟩⟩⟩⟩⟩⟩⟩⟩⟩⟩⟩⟩⟩⟩⟩⟩
noncomputable def E0 : Env := ⟨Try.prog, tab, fun T i h => tabOk.get T i h, by kernel_rfl, false, false, none, 0⟩
noncomputable def E0d : Env := ⟨Try.prog, tab, fun T i h => tabOk.get T i h, by kernel_rfl, true, false, none, 0⟩
theorem enters_of {f : FuncId} {fn : Func} (hf : E0.P.funcs[f]? = some fn) (hn : (fn.name == "runtime.NumGoroutine") = false) (hb : fn.body.isNone = false) : Enters E0 f := fun args w => by
  unfold callFunc
  simp only [Sem.run_bind, run_program, Result.andThen_ok, hf, hn, hb, Bool.false_eq_true, if_false, Sem.run_pure]
end Go.Proofs.Ytkbopbgcjfcjjaa
namespace Go.Proofs.Ytkbopbgcjfcjjaa
open Go.RowKit

def aI (n : Int) : AV := .int .i64 n

theorem wrap_in (n : Int) (h : -9223372036854775808 ≤ n ∧ n ≤ 9223372036854775807) : IntKind.i64.wrap n = n := IntWalk.i64_in _ h
theorem getD2 {vs : Array Value} (h : vs.size = 2) : vs = #[vs.getD 0 undef, vs.getD 1 undef] := by
  obtain ⟨l⟩ := vs
  match l, h with
  | [a, b], _ => rfl
theorem getD1 {vs : Array Value} (h : vs.size = 1) : vs = #[vs.getD 0 undef] := by
  obtain ⟨l⟩ := vs
  match l, h with
  | [a], _ => rfl
section
variable {fr : Bool} {f : FuncId} {a b c res : AV}
theorem belE0 {w w' : World} (h : Below w.heap.size w w') : BelE E0 w w' := ⟨h, fun h => Bool.noConfusion (show false = true from h)⟩
end
end Go.Proofs.Ytkbopbgcjfcjjaa
namespace Go.Proofs.Ytkbopbgcjfcjjaa
open Go.ChangeShapes Go.WideShapes Go.ChangeAt Go.RowKit

theorem own_knob : ownKnob Try.prog.godebug = none := by kernel_rfl
theorem laid_out : laidOutB Try.prog = true := by kernel_rfl

section
variable {H : Type} {enc : TypeId × Value → H}
theorem trodAll_stays {W W' : World} {sp' : Nat → Bool} (hb : Below W.heap.size W W') (ts : List TypeId) : ∀ (vs : List Value) (ds : List (DataW H)) (p : List MemPlace), ts.all (fun t => Try.prog.readableRec t && decide (t < Try.prog.types.size)) = true →
    DataW.TrodAll enc Try.prog W 0 (fun _ => true) true ts vs ds p → (∀ x ∈ p, x.block < W.heap.size) → (∀ x ∈ p, sp' x.block = true) → DataW.TrodAll enc Try.prog W' 0 sp' true ts vs ds p := by
  induction ts with
  | nil =>
    intro vs ds p _ h _ _
    match vs, ds, h with
    | [], [], h => exact h
    | _ :: _, _, h => exact h.elim
    | [], _ :: _, h => exact h.elim
  | cons t ts ih =>
    intro vs ds p hr h hlt hs
    match vs, ds, h with
    | v :: vs, d :: ds, h =>
      obtain ⟨q, r, h1, h2, rfl⟩ := h
      have hr1 : Try.prog.readableRec t = true ∧ t < Try.prog.types.size := by
        have := List.all_eq_true.mp hr t (List.mem_cons_self ..)
        rw [Bool.and_eq_true, decide_eq_true_eq] at this; exact this
      have hr2 : ts.all (fun t => Try.prog.readableRec t && decide (t < Try.prog.types.size)) = true :=
        List.all_eq_true.mpr fun x hx => List.all_eq_true.mp hr x (List.mem_cons_of_mem _ hx)
      exact ⟨q, r, WideElems.Trod_stays laid_out hr1.1 hr1.2 h1 (fun x hx => hb.same (hlt x (List.mem_append_left _ hx))) (fun x hx => hs x (List.mem_append_left _ hx)),
        ih vs ds r hr2 h2 (fun x hx => hlt x (List.mem_append_right _ hx)) (fun x hx => hs x (List.mem_append_right _ hx)), rfl⟩
    | [], _, h => exact h.elim
    | _ :: _, [], h => exact h.elim

theorem trodAll_len {W : World} {b : Nat} {sp : Nat → Bool} (ts : List TypeId) : ∀ (vs : List Value) (ds : List (DataW H)) (p : List MemPlace), DataW.TrodAll enc Try.prog W b sp true ts vs ds p → ds.length = ts.length := by
  induction ts with
  | nil =>
    intro vs ds p h
    match vs, ds, h with
    | [], [], h => rfl
    | _ :: _, _, h => exact h.elim
    | [], _ :: _, h => exact h.elim
  | cons t ts ih =>
    intro vs ds p h
    match vs, ds, h with
    | v :: vs, d :: ds, h =>
      obtain ⟨q, r, h1, h2, rfl⟩ := h
      simp only [List.length_cons]
      rw [ih vs ds r h2]
    | [], _, h => exact h.elim
    | _ :: _, [], h => exact h.elim

set_option maxRecDepth 100000 in
theorem law_lifted (os : Os) (started : os.Started) {f : FuncId} {fn : Func} {s : ChangeSpec} {fr : Bool} (hf : Try.prog.funcs[f]? = some fn) (hni : Try.prog.inits.idxOf? f = none)
    (hw : ∃ (w : World) (tape : Tape) (i : Input), w.os = os ∧ (w.forCall tape i).Shaped Try.checked.prog ∧ i.vars = [] ∧ Input.okWide Try.checked.prog (w.forCall tape i) .any w.heap.size f i ∧
      s.pre6 enc Try.checked.prog fn [] false (w.forCall tape i).memory i.args ∧ Assume.holds {} Try.checked.prog (lone (Frame.enter Try.checked.prog f i.args .normal) [] (w.forCall tape i)))
    (hvars : s.vars = []) (hres : fn.resultTypes = #[4]) (hread : fn.params.toList.all (fun t => Try.prog.readableRec t && decide (t < Try.prog.types.size)) = true)
    (hspec : ∀ ds : List (DataW H), ds.length = fn.params.size → s.fn H ds = { results := [.lit (.bool true)], args := ds })
    (hopen : ∀ (W : World) (base : Nat) (args : Array Value) (ds : List (DataW H)) (p : List MemPlace), (∀ (j : Nat) t v, fn.params[j]? = some t → args[j]? = some v → Value.okWide Try.prog W .any base t v) →
      DataW.TrodAll enc Try.prog W 0 (fun _ => true) true fn.params.toList args.toList ds p → ∃ avs, Args W (fun _ => True) avs args ∧ Con E0 fr f avs (.bool true)) :
    ReturnsInHanded {} Try.checked os f .any (s.pre6 enc Try.prog fn [] false) (s.post enc Try.prog fn false true false false) := by
  refine returnsInHanded_of_change (C := Try.checked) own_knob started hni hf hw ?_
  intro W base args ds gs before hval hW hcnd _
  have hW' := hW
  obtain ⟨p, q, hA, hV, rfl, hfz, hnd⟩ := hW
  have hlt : ∀ x ∈ p ++ q, x.block < W.heap.size := fun x hx => DataW.Whole.lt hW' x hx
  rw [hvars] at hV
  obtain ⟨rfl, rfl⟩ := trodVars_none hV
  obtain ⟨avs, hargs, hcon⟩ := hopen W base args ds p hval hA
  refine (hcon.2 (fun _ => True) W args hargs).mono fun e W' ⟨v, he, ⟨hb, _⟩, hv⟩ => ?_
  have hv := hv.bool_inv
  subst hv
  subst he
  have hdl : ds.length = fn.params.size := (trodAll_len _ _ _ _ hA).trans (by simp)
  have hsp : s.fn H (ds ++ []) = { results := [.lit (.bool true)], args := ds } := by rw [List.append_nil]; exact hspec ds hdl
  have hltp : ∀ x ∈ p, x.block < W.heap.size := fun x hx => hlt x (by simp [hx])
  have k0 := trodAll_stays (sp' := fun b => decide (b < W.heap.size)) hb _ _ _ _ hread hA hltp (fun x hx => by simpa using hltp x hx)
  have k1 := trodAll_stays (sp' := fun _ => true) hb _ _ _ _ hread hA hltp (fun x hx => rfl)
  have hrl : (Value.bool true).resultList fn.resultTypes.size = [.bool true] := by rw [hres]; rfl
  have hrt : fn.resultTypes.toList = [4] := by rw [hres]
  refine ⟨_, rfl, ds, [], _, [], p, [], hW', ?_, ?_, ?_, World.keptBut_mono (fun x hx => ⟨hx, ?_⟩) (hb.frame (· ∈ p ++ [])), fun h => ?_⟩
  · rw [hsp, hrt, hrl]; exact trodAll_mk1 (shut_bool Try.underlying4 true)
  · rw [hsp]; exact k0
  · rw [hsp, hvars]; exact rfl
  · exact Or.inr (Or.inl (by simpa using hx))
  · rw [hrt, hrl, hvars]
    refine ⟨?_, [.lit (.bool true)] ++ ds, [], p, ⟨p, [], ?_, rfl, by simp, ?_, fun h => by simp at h⟩, ?_⟩
    · rw [hres]; intro j t r ht hr
      match j with
      | 0 =>
        obtain rfl : 4 = t := Option.some.inj ht
        obtain rfl : Value.bool true = r := Option.some.inj hr
        exact okWide_bool_mk Try.underlying4 true
      | j + 1 => exact absurd hr (by simp)
    · exact trodAll_append k1 (trodAll_mk1 (shut_bool Try.underlying4 true))
    · intro b off hp
      have hin : MemPlace.cell b off ∈ p ++ [] := by simpa using hp
      rw [hb.frozen (hlt _ hin)]
      exact hfz b off hin
    · intro x hx _
      simpa using hx
end
end Go.Proofs.Ytkbopbgcjfcjjaa
namespace Go.Proofs.Ytkbopbgcjfcjjaa
open Go.ChangeShapes Go.WideShapes Go.ChangeAt Go.RowKit Go.Joins Go.Deep

section
variable {H : Type} {enc : TypeId × Value → H} {W : World} {base : Nat} {v : Value} {d : DataW H} {p : List MemPlace}
theorem spot_none {a : Addr} {u : Value} (h : W.cell? a = some u) : a.spot = none ∧ a.block < W.heap.size := by
  unfold World.cell? at h
  split at h
  · rename_i c _ _ hg
    split at h
    · cases h
    · rename_i hs
      refine ⟨by cases hh : a.spot with | none => rfl | some _ => simp [hh] at hs, ?_⟩
      rcases Nat.lt_or_ge a.block W.heap.size with hlt | hge
      · exact hlt
      · rw [Array.getElem?_eq_none hge] at hg; cases hg
  · cases h
theorem add_eq (b off k : Nat) : (⟨b, off, none⟩ : Addr).add k = ⟨b, off + k, none⟩ := by
  by_cases h : k = 0 <;> simp [Addr.add, h]
theorem trod_struct5 {P : Program} {w : World} {spare : Nat → Bool} {held : Bool} {t : TypeId} {f0 f1 f2 f3 f4 : Field} {fuel : Nat} {cs : List Value} {x : DataW H × List MemPlace} (ht : P.underlying t = some (.struct #[f0, f1, f2, f3, f4])) (h : DataW.trod enc P w base spare held fuel t cs = some x) :
    ∃ y0 y1 y2 y3 y4 n, cs.length = P.cellsOf t ∧ DataW.trod enc P w base spare held n f0.type ((cs.drop f0.offset).take (P.cellsOf f0.type)) = some y0 ∧
      DataW.trod enc P w base spare held n f1.type ((cs.drop f1.offset).take (P.cellsOf f1.type)) = some y1 ∧ DataW.trod enc P w base spare held n f2.type ((cs.drop f2.offset).take (P.cellsOf f2.type)) = some y2 ∧
      DataW.trod enc P w base spare held n f3.type ((cs.drop f3.offset).take (P.cellsOf f3.type)) = some y3 ∧ DataW.trod enc P w base spare held n f4.type ((cs.drop f4.offset).take (P.cellsOf f4.type)) = some y4 := by
  obtain ⟨xs, n, _, rfl, hl, hlen, hf⟩ := DataW.trod_struct ht h
  match xs, hlen with
  | [y0, y1, y2, y3, y4], _ => exact ⟨y0, y1, y2, y3, y4, n, hl, by simpa using hf 0 f0 rfl, by simpa using hf 1 f1 rfl, by simpa using hf 2 f2 rfl, by simpa using hf 3 f3 rfl, by simpa using hf 4 f4 rfl⟩
theorem mapM_some {α β : Type} {f : α → Option β} : ∀ {l : List α} {r : List β}, l.mapM f = some r → r.length = l.length ∧ ∀ k (hk : k < l.length) (hr : k < r.length), f l[k] = some r[k]
  | [], r, h => by simp at h; subst h; exact ⟨rfl, fun k hk => absurd hk (by simp)⟩
  | a :: l, r, h => by
    simp only [List.mapM_cons] at h
    cases ha : f a with
    | none => rw [ha] at h; simp at h
    | some b =>
      rw [ha] at h
      cases hl : l.mapM f with
      | none => rw [hl] at h; simp at h
      | some s =>
        rw [hl] at h
        simp at h
        subst h
        obtain ⟨i1, i2⟩ := mapM_some hl
        refine ⟨by simp [i1], fun k hk hr => ?_⟩
        cases k with
        | zero => exact ha
        | succ k => exact i2 k (by simpa using hk) (by simpa using hr)
theorem cells_each {a : Addr} {n : Nat} {cs : List Value} (h : W.cells? 0 a n = some cs) : cs.length = n ∧ ∀ j, j < n → W.cell? (a.add j) = some (cs.getD j undef) := by
  unfold World.cells? at h
  rw [if_pos (Nat.zero_le _)] at h
  obtain ⟨i1, i2⟩ := mapM_some h
  have hl : cs.length = n := by simpa using i1
  refine ⟨hl, fun j hj => ?_⟩
  have := i2 j (by simpa using hj) (by omega)
  rw [List.getElem_range] at this
  rw [this]
  simp [List.getElem?_eq_getElem (show j < cs.length by omega)]
set_option maxRecDepth 100000
def CellsOf {α : Type} (W : World) (a : α → AV) (m : α) (cs : List Value) : Prop :=
  cs.length = (a m).cells.length ∧ ∀ j (hj : j < (a m).cells.length), Rep W (fun _ => True) G0 ((a m).cells[j]) (cs.getD j undef) ∧ (cs.getD j undef).oneCell' = true
theorem sl_open {α : Type} {a : α → AV} {t e : TypeId} {sz : Nat} (ht : Try.prog.underlying t = some (.slice e)) (hsz : Try.prog.cellsOf e = sz) (h0 : 0 < sz) (i0 : Inhabited α) (hlen : ∀ m, (a m).cells.length = sz)
    (each : ∀ (n : Nat) (cs : List Value) (x : DataW H × List MemPlace), cs.length = sz → DataW.trod enc Try.prog W 0 (fun _ => true) true n e cs = some x → ∃ m : α, CellsOf W a m cs)
    {n : Nat} {u : Value} {x : DataW H × List MemPlace} (h : DataW.trod enc Try.prog W 0 (fun _ => true) true n t [u] = some x) : ∃ l : List α, Rep W (fun _ => True) G0 (.sl sz (l.map a)) u := by
  rcases open_slice ht h with ⟨h1, _⟩ | ⟨A, len, cap, m, n', D, Pl, h1, _, hlc, hm, hmm, _, hc⟩
  · simp only [List.cons.injEq, and_true] at h1
    subst h1
    exact ⟨[], .sl none 0 (fun _ _ => .bool true) (by simp) (fun k hk => absurd hk (by simp)) (fun h => absurd h (by simp)) (fun k hk => absurd hk (by simp)) (fun _ _ => rfl)⟩
  · simp only [List.cons.injEq, and_true] at h1
    subst h1
    simp only [if_true] at hmm
    subst hmm
    rw [hsz] at hc
    have every : ∀ i, ∃ q : α × List Value, i < len → W.cells? 0 (A.add (i * sz)) sz = some q.2 ∧ CellsOf W a q.1 q.2 := fun i => by
      by_cases hi : i < len
      · obtain ⟨cs, c1, c2⟩ := hc i (by omega)
        obtain ⟨k, hk⟩ := each n' cs _ (cells_each c1).1 c2
        exact ⟨(k, cs), fun _ => ⟨c1, hk⟩⟩
      · exact ⟨(i0.default, []), fun h => absurd h hi⟩
    obtain ⟨f, hf⟩ := Classical.axiomOfChoice every
    have hl : ((List.range len).map fun i => (f i).1).length = len := by simp
    refine ⟨(List.range len).map fun i => (f i).1, ?_⟩
    have e : len = (((List.range len).map fun i => (f i).1).map a).length := by simp
    have hcell : ∀ k j, k < len → j < sz → W.cell? ((A.add (k * sz)).add j) = some ((f k).2.getD j undef) := fun k j hk hj => (cells_each (hf k hk).1).2 j hj
    have : Rep W (fun _ => True) G0 (.sl sz (((List.range len).map fun i => (f i).1).map a)) (.slice (some A) (((List.range len).map fun i => (f i).1).map a).length m) := by
      refine .sl (some A) m (fun k j => if k < len ∧ j < sz then (f k).2.getD j undef else .bool true) (by simpa using hlc) (fun k hk => ?_) (fun h0' => ?_) (fun k hk j hj => ?_) (fun k j => ?_)
      · simp only [List.getElem_map]; exact hlen _
      · have hlp : 0 < len := by simpa using h0'
        have c0 := spot_none (hcell 0 0 hlp h0)
        obtain ⟨b, off, sp⟩ := A
        have e1 : sp = none := by simpa [Addr.add] using c0.1
        subst e1
        rw [add_eq, add_eq] at c0
        refine ⟨b, off, rfl, trivial, c0.2, fun k j hk hj => ?_⟩
        have hk' : k < len := by simpa using hk
        have := hcell k j hk' hj
        rw [add_eq, add_eq] at this
        rw [if_pos ⟨hk', hj⟩, ← this]
        congr 2
        omega
      · have hk' : k < len := by simpa using hk
        simp only [List.getElem_map, List.getElem_range] at hj ⊢
        have hj' : j < sz := by rw [hlen] at hj; exact hj
        rw [if_pos ⟨hk', hj'⟩]
        exact ((hf k hk').2.2 j hj).1
      · by_cases hkj : k < len ∧ j < sz
        · rw [if_pos hkj]
          exact ((hf k hkj.1).2.2 j (by rw [hlen]; exact hkj.2)).2
        · rw [if_neg hkj]; rfl
    rw [← e] at this
    exact this
theorem Rep.one_sl {sz : Nat} {xs : List AV} {u : Value} (h : Rep W (fun _ => True) G0 (.sl sz xs) u) : u.oneCell' = true := by
  cases h; rfl
theorem list3 {l : List Value} (h : l.length = 3) : ∃ a b c, l = [a, b, c] := by
  match l, h with
  | [a, b, c], _ => exact ⟨a, b, c, rfl⟩
theorem icell_open {n : Nat} {c : Value} {x : DataW H × List MemPlace} (h : DataW.trod enc Try.prog W 0 (fun _ => true) true n 3 [c] = some x) : ∃ z : Int, c = .int .i64 z := by
  obtain ⟨z, e, _⟩ := DataW.trod_int (k := .i64) Try.underlying3 h
  exact ⟨z, by simpa using e⟩
theorem slArg_open {α : Type} {a : α → AV} {t e : TypeId} {sz : Nat} (ht : Try.prog.underlying t = some (.slice e)) (hsz : Try.prog.cellsOf e = sz) (h0 : 0 < sz) (i0 : Inhabited α) (hlen : ∀ m, (a m).cells.length = sz)
    (each : ∀ (n : Nat) (cs : List Value) (x : DataW H × List MemPlace), cs.length = sz → DataW.trod enc Try.prog W 0 (fun _ => true) true n e cs = some x → ∃ m : α, CellsOf W a m cs)
    (hv : Value.okWide Try.prog W .any base t v) (h : DataW.Trod enc Try.prog W 0 (fun _ => true) true t v d p) : ∃ l : List α, Rep W (fun _ => True) G0 (.sl sz (l.map a)) v := by
  obtain ⟨A, len, cap, rfl⟩ := okWide_slice ht hv
  obtain ⟨fuel, hf⟩ := h
  exact sl_open ht hsz h0 i0 hlen each hf
theorem int_each (n : Nat) (cs : List Value) (x : DataW H × List MemPlace) (hl : cs.length = 1) (h : DataW.trod enc Try.prog W 0 (fun _ => true) true n 3 cs = some x) : ∃ m : Int, CellsOf W aI m cs := by
  match cs, hl with
  | [c], _ =>
    obtain ⟨z, rfl⟩ := icell_open h
    refine ⟨z, rfl, fun j hj => ?_⟩
    have hj' : j < 1 := hj
    rcases j with _ | j
    · exact ⟨.int _ _, rfl⟩
    · omega
end
end Go.Proofs.Ytkbopbgcjfcjjaa
namespace Go.Proofs.Ytkbopbgcjfcjjaa
open Go.RowKit

section
variable {E : Env} {nt : Nat} {R : Exit → AS → Prop}
theorem AW.weaken {c : Code} {K : List KItem} {σ τ : AS} (hl : LeX E nt σ τ) (h : AW E nt R (.code c :: K) .normal τ) : AW E nt R (.code c :: K) .normal σ := ⟨fun cx hE hn => WP.weaken (hl cx hE hn) (h.out cx hE hn)⟩
end
end Go.Proofs.Ytkbopbgcjfcjjaa
namespace Go.Proofs.Ytkbopbgcjfcjjaa
open Go.RowKit

def Ent.frz (r sz : Nat) (xs : List AV) : Ent → Ent
  | .box ty cs => .box ty (AV.frzL r sz xs cs)
  | e => e
def AS.frzAll (σ : AS) (r sz : Nat) (xs : List AV) : AS := ⟨σ.tm.map fun p => (p.1, p.2.frz r sz xs), (r, .dead) :: σ.me.map fun p => (p.1, p.2.frz r sz xs)⟩
theorem lkV_map (g : AV → AV) (h : g .any = .any) (l : List (Nat × AV)) (t : Nat) : lkV (l.map fun p => (p.1, g p.2)) t = g (lkV l t) := by
  induction l with
  | nil => simp [lkV, h]
  | cons p l ih =>
    obtain ⟨u, x⟩ := p
    simp only [List.map_cons, lkV]
    cases Nat.beq u t <;> simp [ih]
theorem lkE_map (g : Ent → Ent) (l : List (Nat × Ent)) (t : Nat) : lkE (l.map fun p => (p.1, g p.2)) t = (lkE l t).map g := by
  induction l with
  | nil => simp [lkE]
  | cons p l ih =>
    obtain ⟨u, x⟩ := p
    simp only [List.map_cons, lkE]
    cases Nat.beq u t <;> simp [ih]
theorem LeX.frzAll {E : Env} {nt : Nat} {σ : AS} (r ty sz : Nat) (xs : List AV) (hr : σ.find r = some (.row ty sz xs)) : LeX E nt σ (σ.frzAll r sz xs) := fun cx hE hn a w ⟨γ, h⟩ => by
  have hme := h.me r
  rw [hr] at hme
  obtain ⟨d, hd, he⟩ := hme
  have hown : ∀ b, own (γ.set r none) b → own γ b ∧ ∀ s, γ r ≠ some (some (some b, s)) := fun b ⟨i, s, hi, hm⟩ => by
    by_cases hir : i = r
    · subst hir; rw [Gam.set_self] at hi; injection hi with hi; subst hi; simp [blks] at hm
    · rw [Gam.set_ne _ _ _ hir] at hi
      exact ⟨⟨i, s, hi, hm⟩, fun s' hs' => hir (h.inj _ _ _ _ _ hi hs' hm blks_one)⟩
  have hS : ∀ b, Sg cx.S0 cx.w0.heap.size γ b → Sg cx.S0 cx.w0.heap.size (γ.set r none) b := fun b hb => hb.elim Or.inl (fun ⟨h1, h2⟩ => Or.inr ⟨h1, fun ho => h2 (hown b ho).1⟩)
  have hg : ∀ i x, γ i = some x → γ.set r none i = some x ∨ γ.set r none i = some none ∨ Turn (γ.set r none) i x := fun i x hx => by
    by_cases hir : i = r
    · subst hir; exact Or.inr (Or.inl (Gam.set_self _ _ _))
    · exact Or.inl (by rw [Gam.set_ne _ _ _ hir]; exact hx)
  obtain ⟨s, hs, hrr⟩ := row_sl (S' := Sg cx.S0 cx.w0.heap.size (γ.set r none)) he (fun b hb _ => hS b hb) (fun s g hg => Or.inr ⟨(h.ge g (own.mk (id := r) (s := s) (by rw [hd, hg]))).1, fun ho => (hown g ho).2 s (by rw [hd, hg])⟩) (γ.set r none)
  have mv : ∀ {av v}, Rep w (Sg cx.S0 cx.w0.heap.size γ) γ av v → Rep w (Sg cx.S0 cx.w0.heap.size (γ.set r none)) (γ.set r none) (av.frz r sz xs) v := fun hv =>
    (hv.mono (Nat.le_refl _) (fun b hb _ => ⟨rfl, hS b hb⟩)).frz (fun i x hi hx => by rw [Gam.set_ne _ _ _ hi]; exact hx) hd (Gam.set_self _ _ _) (fun v hv => by rw [hv _ _ hs hrr.sl_tup]; exact hrr)
  refine ⟨γ.set r none, fun u => ?_, fun i => ?_, fun i j b s s' hi hj mi mj => ?_, fun b hb => h.ge b (hown b hb).1, h.below, h.size, h.defers.gam (fun b hb => (hown b hb).1), h.gh, fun b hb => by obtain ⟨f2, f3, f4⟩ := h.fr b hb; exact ⟨fun ho => f2 (hown b ho).1, f3, f4⟩, h.dr⟩
  · have e : (σ.frzAll r sz xs).get u = (σ.get u).frz r sz xs := lkV_map _ rfl _ _
    rw [e]
    exact mv (h.tm u)
  · by_cases hi : r = i
    · subst hi
      have e : (σ.frzAll r sz xs).find r = some .dead := by simp [AS.frzAll, AS.find, lkE]
      rw [e]
      exact ⟨none, Gam.set_self _ _ _, rfl⟩
    · have e : (σ.frzAll r sz xs).find i = (σ.find i).map (Ent.frz r sz xs) := by
        unfold AS.frzAll AS.find
        simp only [lkE]
        cases hb : Nat.beq r i with
        | true => exact absurd (Nat.eq_of_beq_eq_true hb) hi
        | false => exact lkE_map _ _ _
      rw [e, Gam.set_ne _ _ _ (Ne.symm hi)]
      have := h.me i
      cases hf : σ.find i with
      | none => rw [hf] at this; exact this
      | some en =>
        rw [hf] at this
        obtain ⟨x, hx, he⟩ := this
        cases en with
        | box ty cs =>
          obtain ⟨g, vs, h1, h2, h3, h4, h5⟩ := he
          exact ⟨x, hx, g, vs, h1, h2, by rw [h3, AV.frzL_length], fun i hi => by
            have hi2 := hi
            rw [AV.frzL_length] at hi2
            rw [AV.frzL_at r sz xs _ i hi2]
            exact mv (h4 i hi2), h5⟩
        | _ => exact ⟨x, hx, he.move (Nat.le_refl _) (fun b hb _ => ⟨rfl, hS b hb⟩) hg (fun _ _ => rfl)⟩
  · have hir : i ≠ r := fun e => by subst e; rw [Gam.set_self] at hi; injection hi with hi; subst hi; simp [blks] at mi
    have hjr : j ≠ r := fun e => by subst e; rw [Gam.set_self] at hj; injection hj with hj; subst hj; simp [blks] at mj
    rw [Gam.set_ne _ _ _ hir] at hi
    rw [Gam.set_ne _ _ _ hjr] at hj
    exact h.inj _ _ _ _ _ hi hj mi mj

def closeT0 (σ : AS) (i : Nat) : AV → AV
  | .row j => match Nat.beq j i with
    | true => .row j
    | false => match σ.find j with | some (.row _ sz xs) => .sl sz xs | _ => .any
  | x => match x.closed with | true => x | false => .any
def closeT1 (σ : AS) (i : Nat) : AV → AV
  | .agg cs => .agg (cs.map (closeT0 σ i))
  | x => closeT0 σ i x
def closeT (σ : AS) (i : Nat) : AV → AV
  | .tup cs => .tup (cs.map (closeT1 σ i))
  | x => closeT1 σ i x
section
variable {cx : Cx} {σ : AS} {γ γ' : Gam} {a : Act} {w : World} {S' : Nat → Prop} {i : Nat} {x : Option (Option Nat × Value)}
theorem closeT0_rep (hst : StG cx γ σ a w) (hi : γ i = some x) (hi' : γ' i = some x) (hS : ∀ b, Sg cx.S0 cx.w0.heap.size γ b → S' b) (ho : ∀ j b s, j ≠ i → γ j = some (some (some b, s)) → S' b) {av : AV} {v : Value} (h : Rep w (Sg cx.S0 cx.w0.heap.size γ) γ av v) : Rep w S' γ' (closeT0 σ i av) v := by
  have cl : ∀ av v, Rep w (Sg cx.S0 cx.w0.heap.size γ) γ av v → Rep w S' γ' (match av.closed with | true => av | false => .any) v := fun av v h => by
    cases hc : av.closed with
    | true => exact (h.close hc).mono (Nat.le_refl _) (fun b hb _ => ⟨rfl, hS b hb⟩)
    | false => exact .any _
  cases av with
  | row j =>
    simp only [closeT0]
    cases hb : Nat.beq j i with
    | true =>
      have := Nat.eq_of_beq_eq_true hb
      subst this
      cases h with
      | row h hv => rw [hi] at h; injection h with h; subst h; exact .row hi' hv
    | false =>
      have hji := Nat.ne_of_beq_eq_false hb
      simp only
      have hme := hst.me j
      cases hf : σ.find j with
      | none => exact .any _
      | some e =>
        cases e with
        | row ty sz xs =>
          rw [hf] at hme
          obtain ⟨d, hd, he⟩ := hme
          obtain ⟨s, hs, hrr⟩ := row_sl (S' := S') he (fun b hb _ => hS b hb) (fun s g hg => ho j g s hji (by rw [hd, hg])) γ'
          subst hs
          rw [h.row_inv hd]
          exact hrr
        | _ => exact .any _
  | _ => exact cl _ _ h
theorem closeT1_rep (hst : StG cx γ σ a w) (hi : γ i = some x) (hi' : γ' i = some x) (hS : ∀ b, Sg cx.S0 cx.w0.heap.size γ b → S' b) (ho : ∀ j b s, j ≠ i → γ j = some (some (some b, s)) → S' b) {av : AV} {v : Value} (h : Rep w (Sg cx.S0 cx.w0.heap.size γ) γ av v) : Rep w S' γ' (closeT1 σ i av) v := by
  cases av with
  | agg cs =>
    obtain ⟨vs, rfl, hl, hr, h1⟩ := h.agg_inv
    simp only [closeT1]
    refine .agg vs (by simpa using hl) (fun k hk => ?_) h1
    have hk' : k < cs.length := by simpa using hk
    simp only [List.getElem_map]
    exact closeT0_rep hst hi hi' hS ho (hr k hk')
  | _ => exact closeT0_rep hst hi hi' hS ho h
theorem closeT_rep (hst : StG cx γ σ a w) (hi : γ i = some x) (hi' : γ' i = some x) (hS : ∀ b, Sg cx.S0 cx.w0.heap.size γ b → S' b) (ho : ∀ j b s, j ≠ i → γ j = some (some (some b, s)) → S' b) {av : AV} {v : Value} (h : Rep w (Sg cx.S0 cx.w0.heap.size γ) γ av v) : Rep w S' γ' (closeT σ i av) v := by
  cases av with
  | tup cs =>
    obtain ⟨vs, rfl, hl, hr⟩ := h.tup_inv
    simp only [closeT]
    refine .tup vs (by simpa using hl) (fun k hk => ?_)
    have hk' : k < cs.length := by simpa using hk
    simp only [List.getElem_map]
    exact closeT1_rep hst hi hi' hS ho (hr k hk')
  | _ => exact closeT1_rep hst hi hi' hS ho h
end
inductive TX (E : Env) (nt : Nat) (fn : Func) (σ : AS) (ty sz : Nat) (xs : List AV) (res : AV) : Prop
  | mk (τ : AS) (i : Nat) (hl : LeX E nt σ τ) (avs : List AV) (h1 : retA E.tab τ fn.results.toList = some avs) (h2 : τ.find i = some (.row ty sz xs)) (h3 : Sub (closeT τ i (packA avs)) (res.ren fun _ => i))
def EndT (E : Env) (nt : Nat) (fn : Func) (ty sz : Nat) (xs : List AV) (res : AV) : Exit → AS → Prop
  | .normal, σ => TX E nt fn σ ty sz xs res
  | .ret, σ => TX E nt fn σ ty sz xs res
  | _, _ => False
theorem ConT.walk {E : Env} {f : FuncId} {fn : Func} {args xs : List AV} {ty sz : Nat} {res : AV} (c : Code) (hf : E.P.funcs[f]? = some fn) (hb : fn.body = some c) (he : Enters E f) (hn : Nat.ble args.length fn.ntmps = true) (hres : res.inM [0] = true)
    (h : AW E fn.ntmps (EndT E fn.ntmps fn ty sz xs res) [.code c] .normal (start args)) (hrg : E.rg = false := by rfl) (hyl : E.yl = none := by rfl) (hnp : E.np = 0 := by rfl) : ConT E f args ty sz xs res := by
  refine ⟨he, hres, fun S w vs ha => callsIn_wide.1 (callsIn_of_wp (F := Fence.wide) (n := 0) hf hb trivial ?_)⟩
  have h0 : WP (Cx.call E S w fn.ntmps) c (EndT E fn.ntmps fn ty sz xs res) (start args) := WP.mono (h.out (Cx.call E S w fn.ntmps) rfl rfl) fun e σ hk => by cases e <;> exact hk
  refine wpIn_mono (h0 _ _ (start_st hyl hnp ha (Nat.le_of_ble_eq_true hn))) (fun e a w' ⟨σ, hq, hst0⟩ => ?_)
  have key : TX E fn.ntmps fn σ ty sz xs res → bodyPost E.P fn (fun e w' => ∃ u v us, e = .returned u ∧ Below w.heap.size w w' ∧ w'.ownsRow w.heap.size ty sz v xs.length us ∧
    (∀ k (hk : k < xs.length), (xs[k]).cells.length = sz) ∧ (∀ k (hk : k < xs.length) j (hj : j < (xs[k]).cells.length), Rep w' (fun b => (S b ∨ w.heap.size ≤ b) ∧ v.ownBlock ≠ some b) G0 ((xs[k]).cells[j]) (us.getD (k * sz + j) undef)) ∧ (∀ u ∈ us, u.oneCell' = true) ∧
    ∀ γ' : Gam, γ' 0 = some (some (v.ownBlock, v)) → Rep w' (fun b => (S b ∨ w.heap.size ≤ b) ∧ v.ownBlock ≠ some b) γ' res u) .ret a w' := by
    rintro ⟨τ, i, hl, avs, h1, h2, h3⟩
    obtain ⟨γ, hst⟩ := hl (Cx.call E S w fn.ntmps) rfl rfl a w' hst0
    obtain ⟨u, hu, hr⟩ := results_run hst h1
    have hme := hst.me i
    rw [h2] at hme
    obtain ⟨d, hd, s, us, hde, hone, hown, hlen, hrr, hone2⟩ := hme
    subst hde
    have hS : ∀ b, Sg (fun b => S b ∧ b < w.heap.size) w.heap.size γ b → (S b ∨ w.heap.size ≤ b) ∧ s.ownBlock ≠ some b := fun b hb => by
      refine ⟨?_, fun e => ?_⟩
      · rcases hb with ⟨hb, _⟩ | ⟨hb, _⟩
        · exact Or.inl hb.1
        · exact Or.inr hb.1
      · have ho : own γ b := own.mk (id := i) (s := s) (by rw [hd, e])
        rcases hb with ⟨_, hb⟩ | ⟨_, hb⟩
        · have := (hst.ge b ho).1.1; exact absurd hb (by show ¬ b < w.heap.size; exact Nat.not_lt.2 this)
        · exact hb ho
    refine ⟨hst.defers.d0 hrg, u, hu, u, s, us, rfl, hst.below, hown, hlen, fun k hk j hj => (hrr k hk j hj).mono (Nat.le_refl _) (fun b hb _ => ⟨rfl, hS b hb⟩), hone2, fun γ' hγ' => ?_⟩
    have hc := closeT_rep (S' := fun b => (S b ∨ w.heap.size ≤ b) ∧ s.ownBlock ≠ some b) (γ' := fun j => if j = i then γ i else none) hst hd (by simp [hd]) hS (fun j b s' hj hb => ⟨Or.inr (hst.ge b (own.mk hb)).1.1, fun e => hj (hst.inj _ _ _ _ _ hb hd blks_one (by rw [e]; exact blks_one))⟩) hr
    exact (hc.sub h3).ren (ids := [0]) (ρ := fun _ => i) (fun id hid => by
      have : id = 0 := by simpa using hid
      subst this
      rw [hγ']
      simp [hd]) res rfl hres
  cases e with
  | normal => exact key hq
  | ret => exact key hq
  | _ => exact hq.elim
end Go.Proofs.Ytkbopbgcjfcjjaa
namespace Go.Proofs.Ytkbopbgcjfcjjaa
open Go.RowKit

section
variable {α β γ δ : Type}
def cnd (b : Bool) (x y : Option β) : Option β := match b with | true => x | false => y
def idx (l : List α) (n : Int) (k : α → Option β) : Option β := if 0 ≤ n then (match l[n.toNat]? with | some x => k x | none => none) else none
def nat (n : Int) (len : Nat) (k : Nat → Option β) : Option β := if 0 ≤ n ∧ n.toNat < len then k n.toNat else none
def ltx (m len : Nat) (x : Option β) : Option β := if m < len then x else none
def elt (l : List α) (m : Nat) (k : α → Option β) : Option β := match l[m]? with | some x => k x | none => none
def slc (len : Nat) (lo hi : Int) (k : Nat → Nat → Option β) : Option β := if 0 ≤ lo ∧ lo ≤ hi ∧ hi ≤ (len : Int) then k lo.toNat hi.toNat else none
def sls (l : List α) (lo hi : Int) (k : List α → Option β) : Option β := if 0 ≤ lo ∧ lo ≤ hi ∧ hi ≤ (l.length : Int) then k ((l.take hi.toNat).drop lo.toNat) else none
def app (l m : List α) (bytes : Nat) (k : List α → Option β) : Option β := if l.length + m.length ≤ 1099511627776 ∧ (l.length + m.length) * bytes ≤ 140737488355328 then k (l ++ m) else none
def mak (n : Int) (bytes : Nat) (z : α) (k : List α → Option β) : Option β := if 0 ≤ n ∧ n.toNat ≤ 1099511627776 ∧ bytes * n.toNat ≤ 281474976710656 then k (List.replicate n.toNat z) else none
def stx (l : List α) (m : Nat) (f : α → α) (k : List α → Option β) : Option β := match l[m]? with | some x => k (l.set m (f x)) | none => none
def mlk {κ ν : Type} [DecidableEq κ] : List (κ × ν) → κ → Option ν
  | [], _ => none
  | (a, v) :: r, k => if k = a then some v else mlk r k
def mput {κ ν : Type} [DecidableEq κ] : List (κ × ν) → κ → ν → List (κ × ν)
  | [], k, v => [(k, v)]
  | (a, x) :: r, k, v => if k = a then (k, v) :: r else (a, x) :: mput r k v
def mgt {κ ν : Type} [DecidableEq κ] (l : List (κ × ν)) (k : κ) (z : ν) (c : ν → Bool → Option β) : Option β := c ((mlk l k).getD z) (mlk l k).isSome
def mst {κ ν : Type} [DecidableEq κ] (l : List (κ × ν)) (k : κ) (v : ν) (c : List (κ × ν) → Option β) : Option β := c (mput l k v)
def nzx (b : Int) (x : Option β) : Option β := if b = 0 then none else x
def psx (b : Int) (x : Option β) : Option β := if 0 < b then x else none
def shx (b : Int) (x : Option β) : Option β := if 0 ≤ b then x else none
def bnd (o : Option α) (k : α → Option β) : Option β := match o with | some a => k a | none => none
def bndC (o : Option α) (k : α → Option β) : Option β := match o with | some a => k a | none => none
def bndR (o : Option α) (k : α → Option β) : Option β := match o with | some a => k a | none => none
def frz (id : Nat) (x : Option β) : Option β := x
def reg (x : Option β) : Option β := x
theorem CondX.o {b : Bool} {p q : Prop} {x y : Option β} {r : β} (h : cnd b x y = some r) (h1 : x = some r → p) (h2 : y = some r → q) : CondX b p q := ⟨fun e => h1 (by subst e; exact h), fun e => h2 (by subst e; exact h)⟩
theorem IdxX.o {l : List α} (enc : α → AV) {n : Int} {K : AV → Prop} {k : α → Option β} {r : β} (h : idx l n k = some r) (hk : ∀ x, k x = some r → K (enc x)) : IdxX (l.map enc) n K := by
  unfold idx at h
  split at h
  · rename_i hn
    split at h
    · rename_i x hx
      exact .mk n.toNat (enc x) (by omega) (by rw [List.getElem?_map, hx]; rfl) (hk x h)
    · cases h
  · cases h
theorem IdxX.o2 {u v : AV} {n : Int} {K : AV → Prop} {x y : Option β} {r : β} (h : cnd (decide (n = 0)) x (cnd (decide (n = 1)) y none) = some r) (h0 : x = some r → K u) (h1 : y = some r → K v) : IdxX [u, v] n K := by
  unfold cnd at h
  split at h
  · rename_i e; exact .mk 0 u (of_decide_eq_true e) rfl (h0 h)
  · split at h
    · rename_i e; exact .mk 1 v (of_decide_eq_true e) rfl (h1 h)
    · cases h
theorem bytes_dec (a b : ByteArray) : (a.toList == b.toList) = decide (a = b) := by
  rw [← bytes_eqb, Bool.eq_iff_iff, MapKept.bytes_beq]; simp
theorem NatX.o {n : Int} {len : Nat} {K : Nat → Prop} {k : Nat → Option β} {r : β} (h : nat n len k = some r) (hk : ∀ m, k m = some r → K m) : NatX n len K := by
  unfold nat at h
  split at h
  · rename_i hn
    exact .mk n.toNat (by omega) hn.2 (hk _ h)
  · cases h
theorem NatX.o2 {n : Int} {K : Nat → Prop} {x y : Option β} {r : β} (h : cnd (decide (n = 0)) x (cnd (decide (n = 1)) y none) = some r) (h0 : x = some r → K 0) (h1 : y = some r → K 1) : NatX n 2 K := by
  unfold cnd at h
  split at h
  · rename_i e; exact .mk 0 (of_decide_eq_true e) (by omega) (h0 h)
  · split at h
    · rename_i e; exact .mk 1 (of_decide_eq_true e) (by omega) (h1 h)
    · cases h
theorem LtX.o {m len : Nat} {K : Prop} {x : Option β} {r : β} (h : ltx m len x = some r) (hk : x = some r → K) : LtX m len K := by
  unfold ltx at h
  split at h
  · rename_i hm; exact .mk hm (hk h)
  · cases h
theorem EltX.o {l : List α} (enc : α → AV) {m : Nat} {K : AV → Prop} {k : α → Option β} {r : β} (h : elt l m k = some r) (hk : ∀ x, k x = some r → K (enc x)) : EltX (l.map enc) m K := by
  unfold elt at h
  split at h
  · rename_i x hx; exact .mk (enc x) (by rw [List.getElem?_map, hx]; rfl) (hk x h)
  · cases h
theorem SlcX.o {len : Nat} {lo hi : Int} {K : Nat → Nat → Prop} {k : Nat → Nat → Option β} {r : β} (h : slc len lo hi k = some r) (hk : ∀ l h, k l h = some r → K l h) : SlcX len lo hi K := by
  unfold slc at h
  split at h
  · rename_i hn; exact .mk lo.toNat hi.toNat (by omega) (by omega) (by omega) (by omega) (hk _ _ h)
  · cases h
theorem SlsX.o {l : List α} (enc : α → AV) {lo hi : Int} {K : List AV → Prop} {k : List α → Option β} {r : β} (h : sls l lo hi k = some r) (hk : ∀ l', k l' = some r → K (l'.map enc)) : SlsX (l.map enc) lo hi K := by
  unfold sls at h
  split at h
  · rename_i hn; exact .mk lo.toNat hi.toNat (by omega) (by omega) (by omega) (by rw [List.length_map]; omega) _ (by rw [List.map_drop, List.map_take]) (hk _ h)
  · cases h
theorem AppX.o {l m : List α} (enc : α → AV) {ys : List AV} {bytes : Nat} {K : List AV → Prop} {k : List α → Option β} {r : β} (h : app l m bytes k = some r) (hs : SubR ys (m.map enc)) (hk : ∀ l', k l' = some r → K (l'.map enc)) : AppX ((l.map enc).length + ys.length) bytes (l.map enc ++ ys) K := by
  have hl := hs.len
  unfold app at h
  split at h
  · rename_i hn
    exact .sub ((l ++ m).map enc) (by rw [List.map_append]; exact .append (.refl _) hs) (by rw [List.length_map, hl, List.length_map]; exact hn.1) (by rw [List.length_map, hl, List.length_map]; exact hn.2) (hk _ h)
  · cases h
theorem MakX.o {z : α} (enc : α → AV) {n : Int} {bytes : Nat} {y : AV} {K : List AV → Prop} {k : List α → Option β} {r : β} (h : mak n bytes z k = some r) (hs : SubL y.cells (enc z).cells) (hk : ∀ l', k l' = some r → K (l'.map enc)) : MakX n bytes y K := by
  unfold mak at h
  split at h
  · rename_i hn; exact .mk n.toNat (by omega) hn.2.1 hn.2.2 _ (by rw [List.map_replicate]; exact .replicate hs _) (hk _ h)
  · cases h
theorem SetX.o {l : List α} (enc : α → AV) {f : α → α} {m j n : Nat} {av : AV} {ok : AV → Bool} {put : AV → AV} {K : List AV → Prop} {k : List α → Option β} {r : β} (h : stx l m f k = some r) (hok : ∀ x, ok (enc x) = true) (hput : ∀ x, SubL (put (enc x)).cells (enc (f x)).cells) (hk : ∀ l', k l' = some r → K (l'.map enc)) : SetX (l.map enc) m j n av ok put K := by
  unfold stx at h
  split at h
  · rename_i x hx; exact .mk (enc x) (by rw [List.getElem?_map, hx]; rfl) (hok x) _ (by rw [List.map_set]; exact .set (hput x) _ _) (hk _ h)
  · cases h
theorem ShX.o {b : Int} {K : Prop} {x : Option β} {r : β} (h : shx b x = some r) (hk : x = some r → K) : ShX b K := by
  unfold shx at h
  split at h
  · rename_i hb; exact .mk hb (hk h)
  · cases h
def encM {κ ν : Type} (encK : κ → AV) (encV : ν → AV) (p : κ × ν) : AV × AV := (encK p.1, encV p.2)
theorem findK_enc {κ ν : Type} [DecidableEq κ] (encK : κ → AV) (encV : ν → AV) (he : ∀ a b, eqK (encK a) (encK b) = some (decide (a = b))) (k : κ) : ∀ (l : List (κ × ν)) (i : Nat),
    ∃ r, findK (encK k) ((l.map (encM encK encV)).map (·.1)) i = some r ∧ r.isSome = (mlk l k).isSome ∧ (∀ j, r = some j → i ≤ j ∧ ∃ v, mlk l k = some v ∧ ((l.map (encM encK encV)).getD (j - i) default).2 = encV v) ∧
      ∀ (v : ν) (x : AV), Sub x (encV v) → SubM (putK (r.map (· - i)) (encK k) x (l.map (encM encK encV))) ((mput l k v).map (encM encK encV))
  | [], i => ⟨none, rfl, rfl, fun j h => (by cases h), fun v x hs => .cons _ hs .nil⟩
  | (a, v) :: r, i => by
    simp only [List.map_cons, encM, findK, he, mlk, mput]
    by_cases hk : k = a
    · subst hk
      simp only [decide_true]
      refine ⟨some i, rfl, by simp, fun j hj => ?_, fun v' x hs => ?_⟩
      · injection hj with hj; subst hj; exact ⟨Nat.le_refl _, v, by simp, by simp⟩
      · simp only [if_true, Option.map_some, Nat.sub_self, putK, List.set_cons_zero, List.map_cons]
        exact .cons _ hs (.refl _)
    · rw [decide_eq_false hk]
      obtain ⟨q, h1, h2, h3, h4⟩ := findK_enc encK encV he k r (i + 1)
      refine ⟨q, h1, by rw [h2, if_neg hk], fun j hj => ?_, fun v' x hs => ?_⟩
      · obtain ⟨g1, v', g2, g3⟩ := h3 j hj
        refine ⟨by omega, v', by rw [if_neg hk]; exact g2, ?_⟩
        rw [show j - i = (j - (i + 1)) + 1 by omega, List.getD_cons_succ]
        exact g3
      · have := h4 v' x hs
        rw [if_neg hk]
        cases q with
        | none => exact .cons _ (.refl _) this
        | some j =>
          obtain ⟨g1, _⟩ := h3 j rfl
          simp only [Option.map_some, putK] at this ⊢
          rw [show j - i = (j - (i + 1)) + 1 by omega, List.set_cons_succ]
          exact .cons _ (.refl _) this
theorem LkX.o {κ ν : Type} [DecidableEq κ] {l : List (κ × ν)} {k : κ} {z : ν} {P : Program} {kt : Nat} {zA : AV} {K : AV → Bool → Prop} {c : ν → Bool → Option β} {r : β} (encK : κ → AV) (encV : ν → AV) (h : mgt l k z c = some r) (hk : keyFl P kt (encK k) = true) (he : ∀ a b, eqK (encK a) (encK b) = some (decide (a = b))) (hz : Sub zA (encV z))
    (hc : ∀ v b, c v b = some r → K (encV v) b) : LkX P kt (encK k) (l.map (encM encK encV)) zA K := by
  obtain ⟨q, h1, h2, h3, _⟩ := findK_enc encK encV he k l 0
  refine .mk q (encV ((mlk l k).getD z)) (mlk l k).isSome hk h1 h2 ?_ (hc _ _ h)
  cases q with
  | none =>
    have : mlk l k = none := by cases hm : mlk l k with
      | none => rfl
      | some v => rw [hm] at h2; cases h2
    rw [this]
    exact hz
  | some j =>
    obtain ⟨_, v, g2, g3⟩ := h3 j rfl
    rw [g2, Option.getD_some, ← g3]
    exact .refl _
theorem UpX.o {κ ν : Type} [DecidableEq κ] {l : List (κ × ν)} {k : κ} {v : ν} {P : Program} {kt : Nat} {x : AV} {K : List (AV × AV) → Prop} {c : List (κ × ν) → Option β} {r : β} (encK : κ → AV) (encV : ν → AV) (h : mst l k v c = some r) (hk : keyFl P kt (encK k) = true) (he : ∀ a b, eqK (encK a) (encK b) = some (decide (a = b))) (hx : Sub x (encV v))
    (hc : ∀ l', c l' = some r → K (l'.map (encM encK encV))) : UpX P kt (encK k) x (l.map (encM encK encV)) K := by
  obtain ⟨q, h1, _, _, h4⟩ := findK_enc encK encV he k l 0
  refine .mk q _ hk h1 ?_ (hc _ h)
  have := h4 v x hx
  cases q with
  | none => exact this
  | some j => exact this
theorem PosX.o {b : Int} {K : Prop} {x : Option β} {r : β} (h : psx b x = some r) (hk : x = some r → K) : PosX b K := by
  unfold psx at h
  split at h
  · rename_i hb; exact .mk hb (hk h)
  · cases h
theorem NzX.o {b : Int} {K : Prop} {x : Option β} {r : β} (h : nzx b x = some r) (hk : x = some r → K) : NzX b K := by
  unfold nzx at h
  split at h
  · cases h
  · rename_i hb; exact .mk hb (hk h)
section
variable {E : Env} {nt : Nat} {f : FuncId} {avs : List AV}
theorem CallX.o {o : Option α} {k : α → Option β} {r : β} {fr : Bool} {K : AV → Prop} {R : Nat → Nat → List AV → AV → Prop} {find : Nat → Option Ent} {KR : AV → List Nat → List (Nat × Ent) → Prop} (h : bnd o k = some r) (enc : α → AV) (hc : ∀ a, o = some a → Con E fr f avs (enc a)) (hk : ∀ a, k a = some r → K (enc a)) : CallX E f avs K R find KR := by
  unfold bnd at h
  split at h
  · exact .mk fr _ (hc _ rfl) (hk _ h)
  · cases h
theorem CallX.oR {o : Option α} {k : α → Option β} {r : β} {K : AV → Prop} {R : Nat → Nat → List AV → AV → Prop} {find : Nat → Option Ent} {KR : AV → List Nat → List (Nat × Ent) → Prop} {ty sz : Nat} (h : bndR o k = some r) (rl : α → List γ) (encE : γ → AV) (res : α → AV) (hdr0 : E.dr = false) (hc : ∀ a, o = some a → ConT E f avs ty sz ((rl a).map encE) (res a)) (hk : ∀ a, k a = some r → R ty sz ((rl a).map encE) (res a)) : CallX E f avs K R find KR := by
  unfold bndR at h
  split at h
  · exact .rowT ty sz _ _ hdr0 (hc _ rfl) (hk _ h)
  · cases h
theorem CallC.o {o : Option α} {k : α → Option β} {r : β} {fr : Bool} {K : AV → Prop} {raw : List AV} {find : Nat → Option Ent} {dst : Option Nat} {KR : AV → List Nat → List (Nat × Ent) → Prop} (h : bnd o k = some r) (enc : α → AV) (hc : ∀ a, o = some a → Con E fr f avs (enc a)) (hf : ∀ a, fr = true ∨ (enc a).flat = true) (hk : ∀ a, k a = some r → K (enc a)) : CallC E f avs K raw find dst KR := by
  unfold bnd at h
  split at h
  · exact .mk fr _ (hc _ rfl) (hf _) (hk _ h)
  · cases h
theorem CallC.oI {o : Option α} {k : α → Option β} {r : β} {K : AV → Prop} {raw : List AV} {find : Nat → Option Ent} {dst : Option Nat} {KR : AV → List Nat → List (Nat × Ent) → Prop} {ty sz : Nat} {xs cargs : List AV} (h : bndC o k = some r) (id : Nat) (rl : α → List γ) (encE : γ → AV) (res : α → AV) (hdr0 : E.dr = false) (hc : ∀ a, o = some a → ConC true E f cargs ty sz xs ty sz ((rl a).map encE) (res a))
    (hr : AV.renL (fun _ => id) cargs = raw) (hin : AV.inML [0] cargs = true) (hl : find id = some (.row ty sz xs)) (hk : ∀ a, k a = some r → KR ((res a).ren fun _ => id) [id] [(id, .row ty sz ((rl a).map encE))]) : CallC E f avs K raw find dst KR := by
  unfold bndC at h
  split at h
  · exact .turn id ty sz xs _ _ cargs hdr0 (hc _ rfl) hr hin hl (hk _ h)
  · cases h
theorem LoopX.o {V : Type} {L : Nat → V → Option β} {S : V → AS} {σ : AS} {F : (AS → Prop) → AS → Prop} {r : β} {n : Nat} {v0 : V} (h : L n v0 = some r) (hz : ∀ v, L 0 v = none) (hl : LeX E nt σ (S v0)) (round : ∀ m v, L (m + 1) v = some r → F (fun σ' => ∃ v', L m v' = some r ∧ LeX E nt σ' (S v')) (S v))
    (mono : ∀ (P Q : AS → Prop) σ, (∀ σ, P σ → Q σ) → F P σ → F Q σ) : LoopX E nt F σ := by
  refine .mk (fun m σ => ∃ v, L m v = some r ∧ σ = S v) n (S v0) hl ⟨v0, h, rfl⟩ ?_
  rintro m σ ⟨v, hv, rfl⟩
  cases m with
  | zero => rw [hz] at hv; cases hv
  | succ m =>
    refine mono _ _ _ (fun σ' ⟨v', h1, h2⟩ => ?_) (round m v hv)
    exact ⟨m, S v', h2, Nat.lt_succ_self _, v', h1, rfl⟩
end
theorem RetX.o {v : AV} {a r : β} {enc : β → AV} (h : some a = some r) (hs : Sub v (enc a)) : RetX v (enc r) := by injection h with h; subst h; exact .sub hs
theorem TX.o {E : Env} {nt : Nat} {fn : Func} {σ : AS} {ty sz : Nat} {a r : β} {rl : β → List AV} {res : β → AV} (h : some a = some r) (hk : TX E nt fn σ ty sz (rl a) (res a)) : TX E nt fn σ ty sz (rl r) (res r) := by injection h with h; subst h; exact hk
end
section
variable {E : Env} {nt : Nat}
theorem AW.mono1 {c : Code} {K : Exit → AS → Prop} {P Q : AS → Prop} {σ : AS} (h : ∀ σ, P σ → Q σ) (k : AW E nt (thenA P K) [.code c] .normal σ) : AW E nt (thenA Q K) [.code c] .normal σ := ⟨fun cx hE hn => WP.mono (k.out cx hE hn) (fun e σ' hq => by cases e <;> first | exact h _ hq | exact hq)⟩
end
section
variable {β V : Type} {E : Env} {nt : Nat} {R : Exit → AS → Prop} {K : List KItem}
theorem LoopA.o {L : Nat → V → Option β} {S : V → AS} {σ : AS} {c : Code} {r : β} {n : Nat} {v0 : V} (h : L n v0 = some r) (hz : ∀ v, L 0 v = none) (hl : LeX E nt σ (S v0))
    (round : ∀ m v, L (m + 1) v = some r → AW E nt (thenA (fun σ' => ∃ v', L m v' = some r ∧ LeX E nt σ' (S v')) (AW E nt R K)) [.code c] .normal (S v)) : LoopX E nt (fun next σ' => AW E nt (thenA next (AW E nt R K)) [.code c] .normal σ') σ :=
  LoopX.o h hz hl round (fun P Q σ hpq hF => AW.mono1 hpq hF)
theorem AW.frzO {id ty sz : Nat} {xs : List AV} {c : Code} {σ : AS} {x : Option β} {y : β} (h : frz id x = some y) (r : Nat) (hr : σ.find r = some (.row ty sz xs)) (k : x = some y → AW E nt R (.code c :: K) .normal (σ.frzAll r sz xs)) : AW E nt R (.code c :: K) .normal σ := AW.weaken (LeX.frzAll r ty sz xs hr) (k h)
theorem AW.regO {id : Nat} {os : Array Oper} {d : Bool} {σ : AS} {x : Option β} {y : β} (h : reg x = some y) (k : x = some y → AW E nt R (.ops d os os.toList [] [] :: K) .normal σ) : AW E nt R (.code (.region id os d) :: K) .normal σ := AW.into (k h)
end
def AS.putS (σ : AS) (t : Nat) (v : AV) : AS := ⟨(t, v) :: σ.tm, σ.me⟩
theorem LeX.put {E : Env} {nt : Nat} {σ : AS} (t : Nat) (v : AV) (hs : Sub (σ.get t) v) : LeX E nt σ (σ.putS t v) := fun cx hE hn a w ⟨γ, h⟩ => by
  refine ⟨γ, fun u => ?_, fun i => h.me i, h.inj, h.ge, h.below, h.size, h.defers, h.gh, h.fr, h.dr⟩
  by_cases hu : t = u
  · subst hu
    have e : (σ.putS t v).get t = v := by simp [AS.putS, AS.get, lkV]
    rw [e]
    exact (h.tm t).sub hs
  · have e : (σ.putS t v).get u = σ.get u := by
      unfold AS.putS AS.get
      simp only [lkV]
      cases hb : Nat.beq t u with
      | true => exact absurd (Nat.eq_of_beq_eq_true hb) hu
      | false => rfl
    rw [e]
    exact h.tm u
attribute [irreducible] cnd idx nat ltx elt slc sls app mak stx nzx shx bnd bndC bndR frz reg mgt mst psx
end Go.Proofs.Ytkbopbgcjfcjjaa
namespace Go.Proofs.Ytkbopbgcjfcjjaa
open Go.RowKit
open Go.Sort (SWO PermIn SortedIn HoldsK flatK putRowK putRow putCells grow mapBlock onCells size_flatK get_flatK heap_grow_old)

section
variable {T : Type}
def sortF (cmp : T → T → Int) (l : List T) : List T := l.mergeSort (fun x y => !ltOf cmp y x)
def F_sort [DecidableEq T] (cmp : T → T → Int) (n : Nat) (l : List T) : Option (List T) :=
  if l.length ≤ 1000000000 ∧ ∀ x ∈ l, ∀ y ∈ l, ltOf cmp x y = false → ltOf cmp y x = false → x = y then some (sortF cmp l) else none
theorem sortF_perm (cmp : T → T → Int) (l : List T) : (sortF cmp l).Perm l := List.mergeSort_perm _ _
theorem sortF_sorted {cmp : T → T → Int} (hO : SWO (ltOf cmp)) (l : List T) : (sortF cmp l).Pairwise (fun x y => ltOf cmp y x = false) := by
  have h := List.pairwise_mergeSort (le := fun x y => !ltOf cmp y x) (fun a b c h1 h2 => by
    simp only [Bool.not_eq_true'] at h1 h2 ⊢
    exact hO.ntrans _ _ _ h2 h1) (fun a b => by
    cases h1 : ltOf cmp b a with
    | false => rfl
    | true =>
      cases h2 : ltOf cmp a b with
      | false => simp
      | true => have := hO.trans _ _ _ h1 h2; rw [hO.irrefl] at this; cases this) l
  exact h.imp (fun h => by simpa using h)
theorem sort_uniq {cmp : T → T → Int} (hO : SWO (ltOf cmp)) {l l' : List T} (ht : ∀ x ∈ l, ∀ y ∈ l, ltOf cmp x y = false → ltOf cmp y x = false → x = y) (hp : l'.Perm l) (hs : l'.Pairwise (fun x y => ltOf cmp y x = false)) : l' = sortF cmp l :=
  List.Perm.eq_of_pairwise (le := fun x y => ltOf cmp y x = false) (fun a b ha hb h1 h2 => ht a (hp.mem_iff.1 ha) b ((sortF_perm cmp l).mem_iff.1 hb) h2 h1) hs (sortF_sorted hO l) (hp.trans (sortF_perm cmp l).symm)
end

theorem grow_of_below {w w' : World} (h : Below w.heap.size w w') (hd : w.drawn ≤ w'.drawn) : ∃ q os, w' = grow (w.drewN q) os := by
  refine ⟨w'.drawn - w.drawn, w'.heap.extract w.heap.size w'.heap.size, ?_⟩
  obtain ⟨heap', tape', drawn', os', output'⟩ := w'
  have e1 : os' = w.os := h.os
  have e2 : tape' = w.tape := h.tape
  have e3 : output' = w.output := h.output
  have hs : w.heap.size ≤ heap'.size := h.size
  have hb : ∀ k, k < w.heap.size → heap'[k]? = w.heap[k]? := h.block
  have hd : w.drawn ≤ drawn' := hd
  subst e1 e2 e3
  have eh : heap' = w.heap ++ heap'.extract w.heap.size heap'.size := by
    apply Array.ext_getElem?
    intro k
    by_cases hk : k < w.heap.size
    · rw [Array.getElem?_append_left hk]; exact hb k hk
    · rw [Array.getElem?_append_right (by omega), Array.getElem?_extract]
      by_cases hk2 : k < heap'.size
      · rw [if_pos (by omega)]; congr 1; omega
      · rw [if_neg (by omega), Array.getElem?_eq_none (by omega)]
  have ed : drawn' = w.drawn + (drawn' - w.drawn) := by omega
  simp only [grow, World.drewN]
  congr 1

theorem take_put (F cur : Array Value) (h : F.size ≤ cur.size) : (putCells id 0 F cur).toList.take F.size = F.toList := by
  apply List.ext_getElem?
  intro j
  by_cases hj : j < F.size
  · rw [List.getElem?_take_of_lt hj, Array.getElem?_toList]
    simp [putCells, hj, show j < cur.size by omega]
  · rw [List.getElem?_take_eq_none (by omega), List.getElem?_eq_none (by simp; omega)]

abbrev SEl (w : World) (S : Nat → Prop) (sz : Nat) {T : Type} (encT : T → AV) : Type := { p : List Value × T // p.1.length = sz ∧ (∀ v ∈ p.1, v.oneCell' = true) ∧ Rep w S G0 (encT p.2) (.agg p.1.toArray) }
theorem flat_get {α : Type} [Inhabited α] (enc : α → List Value) (sz : Nat) (hk : ∀ x, (enc x).length = sz) (d : Array α) (k j : Nat) (hkd : k < d.size) (hj : j < sz) : (flatK enc sz d).toList.getD (k * sz + j) undef = (enc d[k]!).getD j undef := by
  have hlt : k * sz + j < d.size * sz := by
    have : (k + 1) * sz ≤ d.size * sz := Nat.mul_le_mul_right _ hkd
    rw [Nat.succ_mul] at this
    omega
  have h1 := get_flatK enc sz d (k * sz + j) hlt
  have e1 : (k * sz + j) / sz = k := by rw [Nat.mul_comm, Nat.mul_add_div (by omega), Nat.div_eq_of_lt hj, Nat.add_zero]
  have e2 : (k * sz + j) % sz = j := by rw [Nat.mul_comm, Nat.mul_add_mod, Nat.mod_eq_of_lt hj]
  rw [e1, e2] at h1
  have h2 : k * sz + j < (flatK enc sz d).size := by rw [size_flatK]; exact hlt
  rw [List.getD_eq_getElem?_getD, Array.getElem?_toList, Array.getElem?_eq_getElem h2, Option.getD_some, ← getElem!_pos (flatK enc sz d) _ h2, h1]
  have h3 : j < (enc d[k]!).length := by rw [hk]; exact hj
  rw [getElem!_pos (enc d[k]!) j h3, List.getD_eq_getElem?_getD, List.getElem?_eq_getElem h3, Option.getD_some]

theorem sort_gen {E Ed : Env} {f g ty sz : Nat} {T : Type} [DecidableEq T] {encT : T → AV} {cmp : T → T → Int} {n : Nat} {l l' : List T} (hP : Ed.P = E.P) (hEd : Ed.dr = true) (he : Enters E f) (heg : Enters E g) (hsz : 0 < sz)
    (hagg : ∀ x, ∃ cs, encT x = .agg cs ∧ cs.length = sz)
    (hsort : ∀ (α : Type) [Inhabited α] (enc : α → List Value) (hk : ∀ x, (enc x).length = sz) (h1 : ∀ x, ∀ v ∈ enc x, v.oneCell' = true) (cf : α → α → Int) (hO : SWO (ltOf cf)) (blk off cap : Nat) (d : Array α) (w : World)
      (hcmp : CmpLays E.P g #[] enc sz cf blk off d.size w) (hH : HoldsK enc sz w blk off d) (hblk : blk < w.heap.size) (hsz : d.size < 4611686018427387904),
      Calls E.P f #[.slice (some ⟨blk, off, none⟩) d.size cap, .func (.func g) #[] #[]] w fun e w' => e = .returned (.tuple #[]) ∧ ∃ d' n os, PermIn 0 d.size d d' ∧ SortedIn (ltOf cf) 0 d.size d' ∧ w' = sortWorldK enc sz w blk off n d' os)
    (hnone : ∀ (p : Option Addr) (cap : Nat) (fv : Value) (w : World), Calls E.P f #[.slice p 0 cap, fv] w fun e w' => e = .returned (.tuple #[]) ∧ w' = w)
    (hc : ∀ x y, Con Ed true g [encT x, encT y] (.int .i64 (cmp x y))) (hO : SWO (ltOf cmp)) (hF : F_sort cmp n l = some l') :
    ConC true E f [.row 0, .fn g []] ty sz (l.map encT) ty sz (l'.map encT) (.tup []) := by
  unfold F_sort at hF
  split at hF
  rotate_left
  · cases hF
  rename_i hcond
  obtain ⟨hll, hties⟩ := hcond
  injection hF with hF
  refine ⟨he, rfl, fun S w0 w vs v us hbw hown hlen hre hone hnS hvs hargs => ?_⟩
  -- the arguments
  have ha := hargs (fun i => if i = 0 then some (some (v.ownBlock, v)) else none) rfl
  have h0 := (ha 0 (by simp)).row_inv (g := v.ownBlock) (s := v) rfl (isTup_one (slice_one hown))
  obtain ⟨cs, h1, hcs, _⟩ := (ha 1 (by simp)).fn_inv
  have hcs0 : cs = #[] := Array.eq_empty_of_size_eq_zero hcs
  subst hcs0
  have evs : vs = #[v, .func (.func g) #[] #[]] := by
    have := getD2 hvs
    rw [h0, h1] at this
    exact this
  rw [evs]
  clear ha h0 h1 evs
  have hlm : (l.map encT).length = l.length := List.length_map _
  have hl'len : l'.length = l.length := by rw [← hF]; exact (sortF_perm cmp l).length_eq
  -- no element
  have empty : l = [] → Calls E.P f #[v, .func (.func g) #[] #[]] w fun e w' => ∃ u v' us', e = .returned u ∧ w.grownBy w' v.ownBlock ∧ w'.ownsRow w0.heap.size ty sz v' (l'.map encT).length us' ∧ (true = true → v' = v) ∧ (∀ b, v'.ownBlock = some b → v.ownBlock = some b ∨ w.heap.size ≤ b) ∧ (∀ k (hk : k < (l'.map encT).length), ((l'.map encT)[k]).cells.length = sz) ∧
      (∀ k (hk : k < (l'.map encT).length) j (hj : j < ((l'.map encT)[k]).cells.length), Rep w' (fun b => (S b ∨ w.heap.size ≤ b) ∧ v'.ownBlock ≠ some b) G0 (((l'.map encT)[k]).cells[j]) (us'.getD (k * sz + j) undef)) ∧ (∀ u ∈ us', u.oneCell' = true) ∧
      ∀ γ' : Gam, γ' 0 = some (some (v'.ownBlock, v')) → Rep w' (fun b => (S b ∨ w.heap.size ≤ b) ∧ v'.ownBlock ≠ some b) γ' (.tup []) u := fun h0 => by
    have hl0 : l' = [] := by rw [← hF, h0]; simp [sortF]
    subst hl0
    subst h0
    have hv : ∃ p cap, v = .slice p 0 cap := by
      rcases hown.2 with ⟨hv, _⟩ | ⟨b, cap, cur, hv, _⟩
      · exact ⟨none, 0, hv⟩
      · exact ⟨_, cap, hv⟩
    obtain ⟨p, cap, hv⟩ := hv
    have hcall := hnone p cap (.func (.func g) #[] #[]) w
    rw [← hv] at hcall
    refine hcall.mono ?_
    rintro e w' ⟨rfl, rfl⟩
    exact ⟨_, v, us, rfl, World.grownBy.refl _ _, hown, fun _ => rfl, fun b hb => Or.inl hb, fun k hk => absurd hk (by simp), fun k hk => absurd hk (by simp), hone, fun γ' _ => .tup #[] rfl (fun i hi => absurd hi (by simp))⟩
  by_cases hl0 : l = []
  · exact empty hl0
  have hlp : 0 < l.length := List.length_pos_iff.2 hl0
  rcases hown.2 with ⟨_, h0⟩ | ⟨blk, cap, cur, hv, hbb, hh, hn, hm, hs, ht⟩
  · omega
  have hblk : blk < w.heap.size := (Array.getElem?_eq_some_iff.1 hh).1
  have hob : v.ownBlock = some blk := by rw [hv]; rfl
  have husl : us.length = l.length * sz := by rw [hown.1, hlm]
  have hin : ∀ k j, k < l.length → j < sz → k * sz + j < l.length * sz := fun k j hk hj => by
    have : (k + 1) * sz ≤ l.length * sz := Nat.mul_le_mul_right _ hk
    rw [Nat.succ_mul] at this
    omega
  -- the elements
  have hel : ∀ i (hi : i < l.length), ((us.drop (i * sz)).take sz).length = sz ∧ (∀ v ∈ (us.drop (i * sz)).take sz, v.oneCell' = true) ∧ Rep w S G0 (encT l[i]) (.agg ((us.drop (i * sz)).take sz).toArray) := fun i hi => by
    have hlen1 : ((us.drop (i * sz)).take sz).length = sz := by
      rw [List.length_take, List.length_drop]
      have : (i + 1) * sz ≤ l.length * sz := Nat.mul_le_mul_right _ hi
      rw [Nat.succ_mul] at this
      omega
    have hone1 : ∀ v ∈ (us.drop (i * sz)).take sz, v.oneCell' = true := fun v hv => hone v (List.mem_of_mem_drop (List.mem_of_mem_take hv))
    refine ⟨hlen1, hone1, ?_⟩
    obtain ⟨cs, hcs, hcl⟩ := hagg l[i]
    rw [hcs]
    have hget : ∀ j, j < sz → ((us.drop (i * sz)).take sz).toArray.getD j undef = us.getD (i * sz + j) undef := fun j hj => by
      rw [Array.getD_eq_getD_getElem?, List.getElem?_toArray, List.getElem?_take_of_lt hj, List.getElem?_drop, List.getD_eq_getElem?_getD]
    refine .agg _ (by simpa [hcl] using hlen1) (fun j hj => ?_) (fun j hj => ?_)
    · rw [hget j (by omega)]
      have hil : i < (l.map encT).length := by rw [hlm]; exact hi
      have e : (l.map encT)[i] = .agg cs := by rw [List.getElem_map]; exact hcs
      have := hre i hil j (by rw [e]; exact hj)
      simp only [e, AV.cells] at this
      exact this
    · have hj' : j < ((us.drop (i * sz)).take sz).length := by simpa using hj
      rw [Array.getD_eq_getD_getElem?, List.getElem?_toArray, List.getElem?_eq_getElem hj', Option.getD_some]
      exact hone1 _ (List.getElem_mem hj')
  let A := SEl w S sz encT
  let enc : A → List Value := fun p => p.1.1
  let d : Array A := (List.ofFn fun i : Fin l.length => (⟨((us.drop (i.1 * sz)).take sz, l[i.1]), hel i.1 i.2⟩ : A)).toArray
  haveI : Inhabited A := ⟨⟨((us.drop (0 * sz)).take sz, l[0]), hel 0 hlp⟩⟩
  have hds : d.size = l.length := by simp [d]
  have hdi : ∀ i (hi : i < l.length), d[i]! = ⟨((us.drop (i * sz)).take sz, l[i]), hel i hi⟩ := fun i hi => by
    rw [getElem!_pos d i (by rw [hds]; exact hi)]
    simp [d]
  have hk : ∀ x : A, (enc x).length = sz := fun x => x.2.1
  have hcmp : CmpLays E.P g #[] enc sz (fun x y : A => cmp x.1.2 y.1.2) blk 0 d.size w := fun m os dk hdk x y => by
    have hcon := (hc x.1.2 y.1.2).2 S (sortWorldK enc sz w blk 0 m dk os) #[.agg (enc x).toArray, .agg (enc y).toArray] ⟨rfl, fun i hi => ?_⟩
    · rw [hP] at hcon
      refine hcon.mono ?_
      rintro e w' ⟨u, rfl, ⟨hb, hdr⟩, hu⟩
      exact ⟨by rw [hu.int_inv], grow_of_below hb (hdr hEd)⟩
    · have key : ∀ z : A, Rep (sortWorldK enc sz w blk 0 m dk os) S G0 (encT z.1.2) (.agg (enc z).toArray) := fun z => by
        refine z.2.2.2.mono ?_ (fun b hS hb => ⟨?_, hS⟩)
        · simp [sortWorldK, grow, putRowK, putRow, mapBlock, Go.Sort.ahead]
        · have hne : blk ≠ b := fun e => hnS blk hob (e ▸ hS)
          unfold sortWorldK
          rw [heap_grow_old _ _ (by simpa [putRowK, Go.Sort.ahead] using hb)]
          simp [putRowK, putRow, mapBlock, Go.Sort.ahead, Array.getElem?_modify, hne]
      have hi' : i < 2 := hi
      rcases i with _ | _ | i
      · exact key x
      · exact key y
      · omega
  have hH : HoldsK enc sz w blk 0 d := fun j hj => by
    have hj' : j < l.length * sz := by rw [size_flatK, hds] at hj; exact hj
    have hq : j / sz < l.length := Nat.div_lt_of_lt_mul (by rwa [Nat.mul_comm] at hj')
    have hm := Nat.mod_lt j hsz
    have e := flat_get enc sz hk d (j / sz) (j % sz) (by rw [hds]; exact hq) hm
    have ej : j / sz * sz + j % sz = j := by rw [Nat.mul_comm]; exact Nat.div_add_mod j sz
    rw [ej] at e
    have ef : (flatK enc sz d)[j]! = us.getD j undef := by
      rw [getElem!_pos (flatK enc sz d) j hj]
      have h1 : (flatK enc sz d).toList.getD j undef = (flatK enc sz d)[j] := by
        rw [List.getD_eq_getElem?_getD, Array.getElem?_toList, Array.getElem?_eq_getElem hj]; rfl
      rw [← h1, e, hdi _ hq]
      show ((us.drop (j / sz * sz)).take sz).getD (j % sz) undef = us.getD j undef
      rw [List.getD_eq_getElem?_getD, List.getElem?_take_of_lt hm, List.getElem?_drop, ej, ← List.getD_eq_getElem?_getD]
    rw [ef, Nat.zero_add]
    refine ⟨row_cells hown hob j (by rw [hlm]; exact hj'), ?_⟩
    simp [World.frozen?, hh]
  have hOA : SWO (ltOf fun x y : A => cmp x.1.2 y.1.2) := ⟨fun x => hO.irrefl _, fun x y z => hO.trans _ _ _, fun x y z => hO.ntrans _ _ _⟩
  have hcall := hsort A enc hk (fun x => x.2.2.1) (fun x y => cmp x.1.2 y.1.2) hOA blk 0 cap d w hcmp hH hblk (by rw [hds]; omega)
  have ev : v = .slice (some ⟨blk, 0, none⟩) d.size cap := by rw [hv, hlm, hds]
  rw [← ev] at hcall
  refine hcall.mono ?_
  rintro e w' ⟨rfl, d', m, os, ⟨hps, _, hpp⟩, hso, hw'⟩
  have hd's : d'.size = l.length := hps.trans hds
  -- what lies there now
  have e1 : d'.extract 0 d.size = d' := by rw [← hps]; exact Array.extract_size
  rw [e1, Array.extract_size] at hpp
  have hdl : d.toList.map (fun p => p.1.2) = l := by
    simp only [d, List.map_ofFn]
    apply List.ext_getElem
    · simp
    · intro i h1 h2; simp
  have hperm : (d'.toList.map (fun p => p.1.2)).Perm l := by
    have := hpp.map (fun p : A => p.1.2)
    rwa [hdl] at this
  have hsorted : (d'.toList.map (fun p => p.1.2)).Pairwise (fun x y => ltOf cmp y x = false) := by
    rw [List.pairwise_iff_getElem]
    intro i j hi hj hij
    have hi' : i < d'.size := by simpa using hi
    have hj' : j < d'.size := by simpa using hj
    have := hso i j (Nat.zero_le _) hij (by rw [hds, ← hd's]; exact hj')
    rw [getElem!_pos d' i hi', getElem!_pos d' j hj'] at this
    simpa [ltOf] using this
  have hfin : d'.toList.map (fun p => p.1.2) = l' := by rw [← hF]; exact sort_uniq hO hties hperm hsorted
  have hl'k : ∀ k (hk' : k < l'.length), ∃ h : k < d'.size, l'[k] = d'[k].1.2 := fun k hk' => by
    have h : k < d'.size := by omega
    refine ⟨h, ?_⟩
    have : l'[k] = (d'.toList.map (fun p => p.1.2))[k]'(by simpa using h) := by simp only [hfin]
    rw [this]
    simp
  have hgb : w.grownBy w' v.ownBlock := by
    rw [hob, hw']
    refine ⟨rfl, rfl, rfl, by simp [sortWorldK, grow, putRowK, putRow, mapBlock, Go.Sort.ahead], fun k hk hne => ?_⟩
    unfold sortWorldK
    rw [heap_grow_old _ _ (by simpa [putRowK, Go.Sort.ahead] using hk)]
    have : blk ≠ k := fun e => hne (by rw [e])
    simp [putRowK, putRow, mapBlock, Go.Sort.ahead, Array.getElem?_modify, this]
  have hFs : (flatK enc sz d').size = l.length * sz := by rw [size_flatK, hd's]
  have hcap : l.length * sz ≤ cur.size := by
    rw [hs]; rw [hlm] at hn; exact Nat.mul_le_mul_right _ hn
  have hheap : w'.heap[blk]? = some (.cells (putCells id 0 (flatK enc sz d') cur) ty (0, 0)) := by
    rw [hw']
    unfold sortWorldK
    rw [heap_grow_old _ _ (by simpa [putRowK, Go.Sort.ahead] using hblk)]
    simp [putRowK, putRow, mapBlock, Go.Sort.ahead, Array.getElem?_modify, hh, onCells]
  have hrow : ∀ k j, k < l.length → j < sz → (flatK enc sz d').toList.getD (k * sz + j) undef = (enc d'[k]!).getD j undef := fun k j hk' hj => flat_get enc sz hk d' k j (by rw [hd's]; exact hk') hj
  refine ⟨_, v, (flatK enc sz d').toList, rfl, hgb, ⟨by rw [Array.length_toList, hFs, List.length_map, hl'len], Or.inr ⟨blk, cap, _, ?_, hbb, hheap, ?_, hm, ?_, ?_⟩⟩, fun _ => rfl, fun b hb => Or.inl hb, fun k hk' => ?_, fun k hk' j hj => ?_, fun u hu => ?_, fun γ' _ => .tup #[] rfl (fun i hi => absurd hi (by simp))⟩
  · rw [List.length_map, hl'len, hv, hlm]
  · rw [List.length_map, hl'len]; rw [hlm] at hn; exact hn
  · simp [putCells, hs]
  · rw [List.length_map, hl'len, ← hFs]
    exact take_put _ _ (by rw [hFs]; exact hcap)
  · rw [List.getElem_map]
    obtain ⟨cs, hcs, hcl⟩ := hagg (l'[k]'(by simpa using hk'))
    rw [hcs]; exact hcl
  · have hk2 : k < l'.length := by simpa using hk'
    obtain ⟨hkd, hlk⟩ := hl'k k hk2
    have e : (l'.map encT)[k] = encT d'[k].1.2 := by rw [List.getElem_map, hlk]
    simp only [e] at hj ⊢
    obtain ⟨cs, hcs, hcl⟩ := hagg d'[k].1.2
    have hj2 : j < sz := by rw [hcs] at hj; simp only [AV.cells] at hj; omega
    rw [hrow k j (by omega) hj2, getElem!_pos d' k hkd]
    have hrep := d'[k].2.2.2
    rw [hcs] at hrep
    obtain ⟨vs', hvs', hvl, hvr, _⟩ := hrep.agg_inv
    injection hvs' with hvs'
    subst hvs'
    have := hvr j (by omega)
    simp only [hcs, AV.cells]
    rw [Array.getD_eq_getD_getElem?, List.getElem?_toArray, ← List.getD_eq_getElem?_getD] at this
    refine this.mono hgb.size (fun b hS hb => ⟨hgb.block b hb (fun e => hnS b e.symm hS), Or.inl hS, fun e => hnS b e hS⟩)
  · obtain ⟨q, hq, rfl⟩ := List.mem_iff_getElem.1 hu
    have hq' : q < l.length * sz := by rw [Array.length_toList, hFs] at hq; exact hq
    have hqd : q / sz < l.length := Nat.div_lt_of_lt_mul (by rwa [Nat.mul_comm] at hq')
    have hm := Nat.mod_lt q hsz
    have := hrow (q / sz) (q % sz) hqd hm
    have ej : q / sz * sz + q % sz = q := by rw [Nat.mul_comm]; exact Nat.div_add_mod q sz
    rw [ej, List.getD_eq_getElem?_getD, List.getElem?_eq_getElem hq, Option.getD_some] at this
    rw [this]
    have hl2 := hk d'[q / sz]!
    rw [List.getD_eq_getElem?_getD, List.getElem?_eq_getElem (by omega), Option.getD_some]
    exact (d'[q / sz]!).2.2.1 _ (List.getElem_mem _)
end Go.Proofs.Ytkbopbgcjfcjjaa
namespace Go.Proofs.Ytkbopbgcjfcjjaa
open Go.RowKit

abbrev Cel (n : Nat) := { l : List Value // l.length = n ∧ ∀ u ∈ l, u.oneCell' = true }
def encC {n : Nat} (x : Cel n) : List Value := x.1
theorem eokC {P : Program} {T e sz eb : Nat} {i ie : TyI} (hT : TyOk P T i) (hs : i.shape = .slc e sz eb) (he : TyOk P e ie) (hz : 0 < sz) (hzs : ie.zero.cells.size = sz) : EOk P T e sz ie.bytes (encC (n := sz)) := by
  obtain ⟨hu, hce, _⟩ := und_slc hT hs
  obtain ⟨x, h1, h2, h3, h4⟩ := he.both
  exact ⟨hu, ⟨x, ie.zero, h1, h4, by rw [h2, ← he.cells, hce], h3, hzs⟩, hz, fun x => x.2.1, fun x => x.2.2⟩
def F_clone {α : Type} (n : Nat) (l : List α) : Option (List α) := if l.length ≤ 1000000000 then some l else none
theorem clone_gen {f : FuncId} {e sz : Nat} {P : Program} {E : Env} (hP : E.P = P) (hE : Enters E f) (any : ∀ (l : List (Cel sz)) (S : Nat → Prop) (v : Value) (w : World), Sl w S sz encC v l → l.length ≤ 1000000000 → Calls P f #[v] w (RetOwn e sz encC l w)) {α : Type} {enc : α → AV} {n : Nat} {a r : List α} (hF : F_clone n a = some r) :
    ConT E f [.sl sz (List.map enc a)] e sz (List.map enc r) (.row 0) := by
  unfold F_clone at hF
  split at hF
  · rename_i hl
    injection hF with hF
    subst hF
    refine .ofRow ⟨hE, fun S w vs ⟨hn, hr⟩ => ?_⟩
    have e1 := getD1 hn
    have h0 : Rep w S G0 (.sl sz (List.map enc a)) (vs.getD 0 undef) := hr 0 (by simp)
    rw [e1, hP]
    obtain ⟨A, c, hv, hc, hlen, cell, hb, hrr, h1⟩ := h0.sl_inv
    let l : List (Cel sz) := (List.range (List.map enc a).length).map fun k => ⟨(List.range sz).map fun j => cell k j, by simp, fun u hu => by
      obtain ⟨j, _, rfl⟩ := List.mem_map.1 hu
      exact h1 k j⟩
    have hll : l.length = (List.map enc a).length := by simp [l]
    have hlk : ∀ k (hk : k < l.length), (encC l[k]) = (List.range sz).map fun j => cell k j := fun k hk => by simp [l, encC]
    have hsl : Sl w S sz encC (vs.getD 0 undef) l := by
      refine ⟨A, c, by rw [hv, hll], by rw [hll]; exact hc, fun h0 => ?_⟩
      obtain ⟨b, off, hA, hS, hlt, hcell⟩ := hb (by rw [← hll]; exact h0)
      refine ⟨b, off, hA, hS, hlt, fun k hk j u hu => ?_⟩
      rw [hlk k hk] at hu
      have hj : j < sz := by have := (List.getElem?_eq_some_iff.1 hu).1; simpa using this
      rw [List.getElem?_map, List.getElem?_range hj] at hu
      simp only [Option.map_some, Option.some.injEq] at hu
      subst hu
      exact hcell k j (by rw [← hll]; exact hk) hj
    refine (any l S _ w hsl (by rw [hll, List.length_map]; exact hl)).mono fun ed w' ⟨A', c', q1, q2, q3⟩ => ?_
    refine ⟨_, l.flatMap encC, q1, q3, ?_, hlen, fun k hk j hj => ?_, fun u hu => ?_⟩
    · have : w'.ownsRow w.heap.size e sz (.slice A' l.length c') l.length (l.flatMap encC) := q2
      rw [hll] at this
      rw [hll]
      exact this
    · have hj' : j < sz := by rw [hlen k hk] at hj; exact hj
      have hk' : k < l.length := by rw [hll]; exact hk
      have hat := flatMap_at (enc := encC (n := sz)) (fun x _ => x.2.1) k hk' j hj' (cell k j) (by rw [hlk k hk', List.getElem?_map, List.getElem?_range hj']; rfl)
      rw [List.getD_eq_getElem?_getD, hat]
      refine (hrr k hk j hj).mono q3.size (fun b hb hlt => ⟨q3.block b hlt, Or.inl hb, fun e => ?_⟩)
      have h2 : w'.ownsRow w.heap.size _ sz (.slice A' l.length c') l.length (l.flatMap encC) := q2
      rcases h2.2 with ⟨h, _⟩ | ⟨g, cap, cur, h, hg, _⟩
      · rw [h] at e; simp [Value.ownBlock] at e
      · rw [h] at e; simp only [Value.ownBlock, Option.some.injEq] at e; subst e; omega
    · obtain ⟨x, _, hx⟩ := List.mem_flatMap.1 hu
      exact x.2.2 u hx
  · cases hF
theorem ConT.close {E : Env} {f : FuncId} {args xs : List AV} {ty sz : Nat} (h : ConT E f args ty sz xs (.row 0)) (hE : E.dr = false) : Con E false f args (.sl sz xs) :=
  ⟨h.1, fun S w vs ha => (h.2.2 S w vs ha).mono fun e w' ⟨u, v, us, h1, h2, h3, h4, h5, h6, h7⟩ => by
    have hr := h7 (fun _ => some (some (v.ownBlock, v))) rfl
    have huv : u = v := hr.row_inv rfl (isTup_one (slice_one h3))
    subst huv
    refine ⟨u, h1, ⟨h2, fun h => absurd (hE.symm.trans h) (by simp)⟩, ?_⟩
    have hrep : EntRep w' (fun b => (S b ∨ w.heap.size ≤ b) ∧ u.ownBlock ≠ some b) G0 w.heap.size (some (u.ownBlock, u)) (.row ty sz xs) := ⟨u, us, rfl, slice_one h3, h3, h4, h5, h6⟩
    obtain ⟨s, hs, hrr⟩ := row_sl (S' := fun b => (false = false ∧ S b) ∨ w.heap.size ≤ b) hrep (fun b hb _ => hb.1.elim (fun h => Or.inl ⟨rfl, h⟩) Or.inr) (fun s g hg => by
      injection hg with hg
      injection hg with hg _
      rcases h3.2 with ⟨h, _⟩ | ⟨g', cap, cur, h, hb, _⟩
      · rw [h] at hg; simp [Value.ownBlock] at hg
      · rw [h] at hg; simp only [Value.ownBlock, Option.some.injEq] at hg; subst hg; exact Or.inr hb) G0
    injection hs with hs
    injection hs with _ hs
    rw [hs]
    exact hrr⟩
theorem ConT.sub {E : Env} {f : FuncId} {avs bvs xs : List AV} {ty sz : Nat} {res : AV} (h : SubL avs bvs) (hc : ConT E f bvs ty sz xs res) : ConT E f avs ty sz xs res :=
  ⟨hc.1, hc.2.1, fun S w vs ⟨hl, hr⟩ => hc.2.2 S w vs ⟨by rw [hl, h.len], fun i hi => (hr i (by rw [h.len]; exact hi)).sub (h.at i _ hi)⟩⟩
def Xk (w : World) (g off : Nat) (X : List Value) : Prop := ∃ cur ty fr, w.heap[g]? = some (.cells cur ty fr) ∧ 0 < cur.size ∧ ∀ j u, X[j]? = some u → cur[off + j]? = some u
section
variable {w w' : World} {g off : Nat} {X : List Value}
theorem Xk.lt (h : Xk w g off X) : g < w.heap.size := by
  obtain ⟨cur, ty, fr, h, _⟩ := h
  exact (Array.getElem?_eq_some_iff.1 h).1
theorem Xk.cell (h : Xk w g off X) {j : Nat} {u : Value} (hu : X[j]? = some u) : w.cell? ⟨g, off + j, none⟩ = some u := by
  obtain ⟨cur, ty, fr, h, _, h2⟩ := h
  simp [World.cell?, h, h2 j u hu]
theorem Xk.grown {row : Option Nat} (h : Xk w g off X) (hb : w.grownBy w' row) (hg : some g ≠ row) : Xk w' g off X := by
  have hl := h.lt
  obtain ⟨cur, ty, fr, h, h2⟩ := h
  exact ⟨cur, ty, fr, (hb.block g hl hg).trans h, h2⟩
theorem Xk.alloc (h : Xk w g off X) (o : Obj) : Xk (w.alloc o) g off X := by
  have hl := h.lt
  obtain ⟨cur, ty, fr, h, h2⟩ := h
  exact ⟨cur, ty, fr, (Below.heap_alloc w o g hl).trans h, h2⟩
theorem Xk.shape (h : Xk w g off X) : ∃ t k, k ≠ 0 ∧ w.shape? g = some (t, k) := by
  obtain ⟨cur, ty, fr, h, h1, _⟩ := h
  exact ⟨ty, cur.size, by omega, by simp [World.shape?, h]⟩
end
end Go.Proofs.Ytkbopbgcjfcjjaa
