/- the facts on types and functions that the walks name, by program -/
import Derived.Test.YtkdbjhlkahkobaaProg
import Derived.Test.YtkdbjhlkahkobaaCore
import Derived.Test.YtkdbjhlkahkobaaByt
import Derived.KernelRfl
namespace Go.Proofs.Ytkdbjhlkahkobaa
open Jal
theorem mo : Try.prog.follows .mixedOrders = true := by kernel_rfl
theorem ar23 : ArrT Try.prog 23 6 1 := ⟨_, Try.underlying23, Try.sizeOf22⟩
theorem ar24 : ArrT Try.prog 24 6 1 := ⟨_, Try.underlying24, Try.sizeOf22⟩
theorem ar34 : ArrT Try.prog 34 16 1 := ⟨_, Try.underlying34, Try.sizeOf5⟩
theorem ar41 : ArrT Try.prog 41 6 1 := ⟨_, Try.underlying41, Try.sizeOf4⟩
theorem ar57 : ArrT Try.prog 57 6 1 := ⟨_, Try.underlying57, Try.sizeOf56⟩
theorem ar156 : ArrT Try.prog 156 6 1 := ⟨_, Try.underlying156, Try.sizeOf3⟩
theorem bz24 : ∀ w, (Go.Instr.build 24 #[]).run Try.prog w = .ok (.agg ([.int .u64 0, .int .u64 0, .int .u64 0, .int .u64 0, .int .u64 0, .int .u64 0]).toArray) w := fun w => by kernel_rfl
theorem bz32 : ∀ w, (Go.Instr.build 32 #[]).run Try.prog w = .ok (.agg ([.int .u8 0, .int .u8 0, .int .u8 0, .int .u8 0, .int .u8 0, .int .u8 0, .int .u8 0, .int .u8 0, .int .u8 0, .int .u8 0, .int .u8 0, .int .u8 0, .int .u8 0, .int .u8 0, .int .u8 0, .int .u8 0, .int .u8 0, .int .u8 0, .int .u8 0, .int .u8 0, .int .u8 0, .int .u8 0, .int .u8 0, .int .u8 0, .int .u8 0, .int .u8 0, .int .u8 0, .int .u8 0, .int .u8 0, .int .u8 0, .int .u8 0, .int .u8 0]).toArray) w := fun w => by kernel_rfl
theorem bz34 : ∀ w, (Go.Instr.build 34 #[]).run Try.prog w = .ok (.agg ([.int .u8 0, .int .u8 0, .int .u8 0, .int .u8 0, .int .u8 0, .int .u8 0, .int .u8 0, .int .u8 0, .int .u8 0, .int .u8 0, .int .u8 0, .int .u8 0, .int .u8 0, .int .u8 0, .int .u8 0, .int .u8 0]).toArray) w := fun w => by kernel_rfl
theorem bz43 : ∀ w, (Go.Instr.build 43 #[]).run Try.prog w = .ok (.agg ([.int .i64 0, .int .i64 0, .bool false, .bool false, .bool false, .bool false, .bool false, .bool false, .bool false, .bool false, .bool false, .bool false, .bool false, .bool false, .int .u64 0, .int .u64 0, .int .u64 0, .int .u64 0, .int .u64 0, .int .u64 0, .int .i64 0]).toArray) w := fun w => by kernel_rfl
theorem bz77 : ∀ w, (Go.Instr.build 77 #[]).run Try.prog w = .ok (.agg ([.int .i64 0, .string ByteArray.empty, .slice none 0 0, .string ByteArray.empty]).toArray) w := fun w => by kernel_rfl
theorem bz79 : ∀ w, (Go.Instr.build 79 #[]).run Try.prog w = .ok (.agg ([.int .i64 0, .int .u64 0, .int .u8 0, .int .u8 0, .int .u8 0, .int .u8 0, .int .u8 0, .int .u8 0, .int .u8 0, .int .u8 0, .int .u8 0, .int .u8 0, .int .u8 0, .int .u8 0, .int .u8 0, .int .u8 0, .int .u8 0, .int .u8 0, .int .u8 0, .int .u8 0, .int .u8 0, .int .u8 0, .int .u8 0, .int .u8 0, .int .u8 0, .int .u8 0, .int .u8 0, .int .u8 0, .int .u8 0, .int .u8 0, .int .u8 0, .int .u8 0, .int .u8 0, .int .u8 0, .int .i64 0, .bool false, .int .u64 0, .int .u8 0, .int .u8 0, .int .u8 0, .int .u8 0, .int .u8 0, .int .u8 0, .int .u8 0, .int .u8 0, .int .u8 0, .int .u8 0, .int .u8 0, .int .u8 0, .int .u8 0, .int .u8 0, .int .u8 0, .int .u8 0, .slice none 0 0, .int .u64 0, .int .u64 0, .int .u64 0, .int .u64 0, .int .u64 0, .int .u64 0, .int .u8 0, .int .u8 0, .int .u8 0, .int .u8 0, .int .u8 0, .int .u8 0, .int .u8 0, .int .u8 0, .int .u8 0, .int .u8 0, .int .u8 0, .int .u8 0, .int .u8 0, .int .u8 0, .int .u8 0, .int .u8 0, .int .u8 0, .int .u8 0, .int .u8 0, .int .u8 0, .int .u8 0, .int .u8 0, .int .u8 0, .int .u8 0, .int .u8 0, .int .u8 0, .int .u8 0, .int .u8 0, .int .u8 0, .int .u8 0, .int .u8 0, .int .u8 0, .int .i64 0, .int .u8 0, .int .u8 0, .int .u8 0, .int .u8 0, .int .u8 0, .int .u8 0, .int .u8 0, .int .u8 0, .int .u8 0, .int .u8 0, .int .u8 0, .int .u8 0, .int .u8 0, .int .u8 0, .int .u8 0, .int .u8 0, .int .u8 0, .int .u8 0, .int .u8 0, .int .u8 0, .int .u8 0, .int .u8 0, .int .u8 0, .int .u8 0, .int .u8 0, .int .u8 0, .int .u8 0, .int .u8 0, .int .u8 0, .int .u8 0, .int .u8 0, .int .u8 0, .bool false, .int .i64 0, .string ByteArray.empty, .slice none 0 0, .string ByteArray.empty]).toArray) w := fun w => by kernel_rfl
theorem bz83 : ∀ w, (Go.Instr.build 83 #[]).run Try.prog w = .ok (.agg ([.int .u8 0, .int .u8 0, .int .u8 0, .int .u8 0, .int .u8 0, .int .u8 0, .int .u8 0, .int .u8 0, .int .u8 0, .int .u8 0, .int .u8 0, .int .u8 0, .int .u8 0, .int .u8 0, .int .u8 0, .int .u8 0, .int .i64 0, .int .u64 0, .int .u8 0, .int .u8 0, .int .u8 0, .int .u8 0, .int .u8 0, .int .u8 0, .int .u8 0, .int .u8 0, .int .u8 0, .int .u8 0, .int .u8 0, .int .u8 0, .int .u8 0, .int .u8 0, .int .u8 0, .int .u8 0, .int .u8 0, .int .u8 0, .int .u8 0, .int .u8 0, .int .u8 0, .int .u8 0, .int .u8 0, .int .u8 0, .int .u8 0, .int .u8 0, .int .u8 0, .int .u8 0, .int .u8 0, .int .u8 0, .int .u8 0, .int .u8 0, .int .i64 0, .bool false, .int .u64 0, .int .u8 0, .int .u8 0, .int .u8 0, .int .u8 0, .int .u8 0, .int .u8 0, .int .u8 0, .int .u8 0, .int .u8 0, .int .u8 0, .int .u8 0, .int .u8 0, .int .u8 0, .int .u8 0, .int .u8 0, .int .u8 0, .slice none 0 0, .int .u64 0, .int .u64 0, .int .u64 0, .int .u64 0, .int .u64 0, .int .u64 0, .int .u8 0, .int .u8 0, .int .u8 0, .int .u8 0, .int .u8 0, .int .u8 0, .int .u8 0, .int .u8 0, .int .u8 0, .int .u8 0, .int .u8 0, .int .u8 0, .int .u8 0, .int .u8 0, .int .u8 0, .int .u8 0, .int .u8 0, .int .u8 0, .int .u8 0, .int .u8 0, .int .u8 0, .int .u8 0, .int .u8 0, .int .u8 0, .int .u8 0, .int .u8 0, .int .u8 0, .int .u8 0, .int .u8 0, .int .u8 0, .int .u8 0, .int .u8 0, .int .i64 0, .int .u8 0, .int .u8 0, .int .u8 0, .int .u8 0, .int .u8 0, .int .u8 0, .int .u8 0, .int .u8 0, .int .u8 0, .int .u8 0, .int .u8 0, .int .u8 0, .int .u8 0, .int .u8 0, .int .u8 0, .int .u8 0, .int .u8 0, .int .u8 0, .int .u8 0, .int .u8 0, .int .u8 0, .int .u8 0, .int .u8 0, .int .u8 0, .int .u8 0, .int .u8 0, .int .u8 0, .int .u8 0, .int .u8 0, .int .u8 0, .int .u8 0, .int .u8 0, .bool false, .bool false, .string ByteArray.empty, .slice none 0 0, .string ByteArray.empty]).toArray) w := fun w => by kernel_rfl
theorem ex124 : ExternAt Try.prog 124 Extern.BytealgCompare.compare := ⟨Try.f124, Try.func124, by kernel_rfl, by kernel_rfl, by kernel_rfl, by kernel_rfl⟩
theorem fa37_0 : FieldAt Try.prog 37 0 0 := ⟨_, _, _, Try.underlying37, rfl, rfl, Try.sizeOf3⟩
theorem fa37_1 : FieldAt Try.prog 37 1 1 := ⟨_, _, _, Try.underlying37, rfl, rfl, Try.sizeOf22⟩
theorem fa37_2 : FieldAt Try.prog 37 2 2 := ⟨_, _, _, Try.underlying37, rfl, rfl, Try.sizeOf32⟩
theorem fa37_3 : FieldAt Try.prog 37 3 34 := ⟨_, _, _, Try.underlying37, rfl, rfl, Try.sizeOf3⟩
theorem fa37_4 : FieldAt Try.prog 37 4 35 := ⟨_, _, _, Try.underlying37, rfl, rfl, Try.sizeOf4⟩
theorem fa37_5 : FieldAt Try.prog 37 5 36 := ⟨_, _, _, Try.underlying37, rfl, rfl, Try.sizeOf22⟩
theorem fa37_6 : FieldAt Try.prog 37 6 37 := ⟨_, _, _, Try.underlying37, rfl, rfl, Try.sizeOf34⟩
theorem fa37_7 : FieldAt Try.prog 37 7 53 := ⟨_, _, _, Try.underlying37, rfl, rfl, Try.sizeOf35⟩
theorem fa37_8 : FieldAt Try.prog 37 8 54 := ⟨_, _, _, Try.underlying37, rfl, rfl, Try.sizeOf23⟩
theorem fa37_9 : FieldAt Try.prog 37 9 60 := ⟨_, _, _, Try.underlying37, rfl, rfl, Try.sizeOf32⟩
theorem fa37_10 : FieldAt Try.prog 37 10 92 := ⟨_, _, _, Try.underlying37, rfl, rfl, Try.sizeOf3⟩
theorem fa37_11 : FieldAt Try.prog 37 11 93 := ⟨_, _, _, Try.underlying37, rfl, rfl, Try.sizeOf32⟩
theorem fa43_0 : FieldAt Try.prog 43 0 0 := ⟨_, _, _, Try.underlying43, rfl, rfl, Try.sizeOf3⟩
theorem fa43_1 : FieldAt Try.prog 43 1 1 := ⟨_, _, _, Try.underlying43, rfl, rfl, Try.sizeOf3⟩
theorem fa43_2 : FieldAt Try.prog 43 2 2 := ⟨_, _, _, Try.underlying43, rfl, rfl, Try.sizeOf41⟩
theorem fa43_3 : FieldAt Try.prog 43 3 8 := ⟨_, _, _, Try.underlying43, rfl, rfl, Try.sizeOf41⟩
theorem fa43_4 : FieldAt Try.prog 43 4 14 := ⟨_, _, _, Try.underlying43, rfl, rfl, Try.sizeOf23⟩
theorem fa43_5 : FieldAt Try.prog 43 5 20 := ⟨_, _, _, Try.underlying43, rfl, rfl, Try.sizeOf3⟩
theorem fa45_0 : FieldAt Try.prog 45 0 0 := ⟨_, _, _, Try.underlying45, rfl, rfl, Try.sizeOf3⟩
theorem fa45_1 : FieldAt Try.prog 45 1 1 := ⟨_, _, _, Try.underlying45, rfl, rfl, Try.sizeOf3⟩
theorem fa45_2 : FieldAt Try.prog 45 2 2 := ⟨_, _, _, Try.underlying45, rfl, rfl, Try.sizeOf3⟩
theorem fa45_3 : FieldAt Try.prog 45 3 3 := ⟨_, _, _, Try.underlying45, rfl, rfl, Try.sizeOf22⟩
theorem fa59_0 : FieldAt Try.prog 59 0 0 := ⟨_, _, _, Try.underlying59, rfl, rfl, Try.sizeOf3⟩
theorem fa59_1 : FieldAt Try.prog 59 1 1 := ⟨_, _, _, Try.underlying59, rfl, rfl, Try.sizeOf3⟩
theorem fa59_2 : FieldAt Try.prog 59 2 2 := ⟨_, _, _, Try.underlying59, rfl, rfl, Try.sizeOf22⟩
theorem fa59_3 : FieldAt Try.prog 59 3 3 := ⟨_, _, _, Try.underlying59, rfl, rfl, Try.sizeOf57⟩
theorem fa59_4 : FieldAt Try.prog 59 4 9 := ⟨_, _, _, Try.underlying59, rfl, rfl, Try.sizeOf56⟩
theorem fa77_0 : FieldAt Try.prog 77 0 0 := ⟨_, _, _, Try.underlying77, rfl, rfl, Try.sizeOf3⟩
theorem fa77_1 : FieldAt Try.prog 77 1 1 := ⟨_, _, _, Try.underlying77, rfl, rfl, Try.sizeOf9⟩
theorem fa77_2 : FieldAt Try.prog 77 2 2 := ⟨_, _, _, Try.underlying77, rfl, rfl, Try.sizeOf75⟩
theorem fa77_3 : FieldAt Try.prog 77 3 3 := ⟨_, _, _, Try.underlying77, rfl, rfl, Try.sizeOf9⟩
theorem fa79_0 : FieldAt Try.prog 79 0 0 := ⟨_, _, _, Try.underlying79, rfl, rfl, Try.sizeOf37⟩
theorem fa79_1 : FieldAt Try.prog 79 1 125 := ⟨_, _, _, Try.underlying79, rfl, rfl, Try.sizeOf4⟩
theorem fa79_2 : FieldAt Try.prog 79 2 126 := ⟨_, _, _, Try.underlying79, rfl, rfl, Try.sizeOf77⟩
theorem fa83_1 : FieldAt Try.prog 83 1 16 := ⟨_, _, _, Try.underlying83, rfl, rfl, Try.sizeOf37⟩
theorem fa83_2 : FieldAt Try.prog 83 2 141 := ⟨_, _, _, Try.underlying83, rfl, rfl, Try.sizeOf4⟩
theorem fa83_3 : FieldAt Try.prog 83 3 142 := ⟨_, _, _, Try.underlying83, rfl, rfl, Try.sizeOf4⟩
theorem fa83_4 : FieldAt Try.prog 83 4 143 := ⟨_, _, _, Try.underlying83, rfl, rfl, Try.sizeOf9⟩
theorem fa83_5 : FieldAt Try.prog 83 5 144 := ⟨_, _, _, Try.underlying83, rfl, rfl, Try.sizeOf75⟩
theorem fa83_6 : FieldAt Try.prog 83 6 145 := ⟨_, _, _, Try.underlying83, rfl, rfl, Try.sizeOf9⟩
theorem hb14 : HasBody Try.prog 14 := ⟨Try.f14, Try.func14, by kernel_rfl, by kernel_rfl⟩
theorem hb21 : HasBody Try.prog 21 := ⟨Try.f21, Try.func21, by kernel_rfl, by kernel_rfl⟩
theorem hb22 : HasBody Try.prog 22 := ⟨Try.f22, Try.func22, by kernel_rfl, by kernel_rfl⟩
theorem hb23 : HasBody Try.prog 23 := ⟨Try.f23, Try.func23, by kernel_rfl, by kernel_rfl⟩
theorem hb24 : HasBody Try.prog 24 := ⟨Try.f24, Try.func24, by kernel_rfl, by kernel_rfl⟩
theorem hb25 : HasBody Try.prog 25 := ⟨Try.f25, Try.func25, by kernel_rfl, by kernel_rfl⟩
theorem hb26 : HasBody Try.prog 26 := ⟨Try.f26, Try.func26, by kernel_rfl, by kernel_rfl⟩
theorem hb27 : HasBody Try.prog 27 := ⟨Try.f27, Try.func27, by kernel_rfl, by kernel_rfl⟩
theorem hb28 : HasBody Try.prog 28 := ⟨Try.f28, Try.func28, by kernel_rfl, by kernel_rfl⟩
theorem hb29 : HasBody Try.prog 29 := ⟨Try.f29, Try.func29, by kernel_rfl, by kernel_rfl⟩
theorem hb30 : HasBody Try.prog 30 := ⟨Try.f30, Try.func30, by kernel_rfl, by kernel_rfl⟩
theorem hb31 : HasBody Try.prog 31 := ⟨Try.f31, Try.func31, by kernel_rfl, by kernel_rfl⟩
theorem hb32 : HasBody Try.prog 32 := ⟨Try.f32, Try.func32, by kernel_rfl, by kernel_rfl⟩
theorem hb33 : HasBody Try.prog 33 := ⟨Try.f33, Try.func33, by kernel_rfl, by kernel_rfl⟩
theorem hb34 : HasBody Try.prog 34 := ⟨Try.f34, Try.func34, by kernel_rfl, by kernel_rfl⟩
theorem hb35 : HasBody Try.prog 35 := ⟨Try.f35, Try.func35, by kernel_rfl, by kernel_rfl⟩
theorem hb36 : HasBody Try.prog 36 := ⟨Try.f36, Try.func36, by kernel_rfl, by kernel_rfl⟩
theorem hb37 : HasBody Try.prog 37 := ⟨Try.f37, Try.func37, by kernel_rfl, by kernel_rfl⟩
theorem hb38 : HasBody Try.prog 38 := ⟨Try.f38, Try.func38, by kernel_rfl, by kernel_rfl⟩
theorem hb39 : HasBody Try.prog 39 := ⟨Try.f39, Try.func39, by kernel_rfl, by kernel_rfl⟩
theorem hb40 : HasBody Try.prog 40 := ⟨Try.f40, Try.func40, by kernel_rfl, by kernel_rfl⟩
theorem hb41 : HasBody Try.prog 41 := ⟨Try.f41, Try.func41, by kernel_rfl, by kernel_rfl⟩
theorem hb42 : HasBody Try.prog 42 := ⟨Try.f42, Try.func42, by kernel_rfl, by kernel_rfl⟩
theorem hb43 : HasBody Try.prog 43 := ⟨Try.f43, Try.func43, by kernel_rfl, by kernel_rfl⟩
theorem hb44 : HasBody Try.prog 44 := ⟨Try.f44, Try.func44, by kernel_rfl, by kernel_rfl⟩
theorem hb45 : HasBody Try.prog 45 := ⟨Try.f45, Try.func45, by kernel_rfl, by kernel_rfl⟩
theorem hb46 : HasBody Try.prog 46 := ⟨Try.f46, Try.func46, by kernel_rfl, by kernel_rfl⟩
theorem hb47 : HasBody Try.prog 47 := ⟨Try.f47, Try.func47, by kernel_rfl, by kernel_rfl⟩
theorem hb48 : HasBody Try.prog 48 := ⟨Try.f48, Try.func48, by kernel_rfl, by kernel_rfl⟩
theorem hb49 : HasBody Try.prog 49 := ⟨Try.f49, Try.func49, by kernel_rfl, by kernel_rfl⟩
theorem hb50 : HasBody Try.prog 50 := ⟨Try.f50, Try.func50, by kernel_rfl, by kernel_rfl⟩
theorem hb54 : HasBody Try.prog 54 := ⟨Try.f54, Try.func54, by kernel_rfl, by kernel_rfl⟩
theorem hb65 : HasBody Try.prog 65 := ⟨Try.f65, Try.func65, by kernel_rfl, by kernel_rfl⟩
theorem hb66 : HasBody Try.prog 66 := ⟨Try.f66, Try.func66, by kernel_rfl, by kernel_rfl⟩
theorem hb67 : HasBody Try.prog 67 := ⟨Try.f67, Try.func67, by kernel_rfl, by kernel_rfl⟩
theorem hb68 : HasBody Try.prog 68 := ⟨Try.f68, Try.func68, by kernel_rfl, by kernel_rfl⟩
theorem hb69 : HasBody Try.prog 69 := ⟨Try.f69, Try.func69, by kernel_rfl, by kernel_rfl⟩
theorem hb70 : HasBody Try.prog 70 := ⟨Try.f70, Try.func70, by kernel_rfl, by kernel_rfl⟩
theorem hb71 : HasBody Try.prog 71 := ⟨Try.f71, Try.func71, by kernel_rfl, by kernel_rfl⟩
theorem hb72 : HasBody Try.prog 72 := ⟨Try.f72, Try.func72, by kernel_rfl, by kernel_rfl⟩
theorem hb73 : HasBody Try.prog 73 := ⟨Try.f73, Try.func73, by kernel_rfl, by kernel_rfl⟩
theorem hb74 : HasBody Try.prog 74 := ⟨Try.f74, Try.func74, by kernel_rfl, by kernel_rfl⟩
theorem hb75 : HasBody Try.prog 75 := ⟨Try.f75, Try.func75, by kernel_rfl, by kernel_rfl⟩
theorem hb76 : HasBody Try.prog 76 := ⟨Try.f76, Try.func76, by kernel_rfl, by kernel_rfl⟩
theorem hb77 : HasBody Try.prog 77 := ⟨Try.f77, Try.func77, by kernel_rfl, by kernel_rfl⟩
theorem hb78 : HasBody Try.prog 78 := ⟨Try.f78, Try.func78, by kernel_rfl, by kernel_rfl⟩
theorem hb79 : HasBody Try.prog 79 := ⟨Try.f79, Try.func79, by kernel_rfl, by kernel_rfl⟩
theorem hb80 : HasBody Try.prog 80 := ⟨Try.f80, Try.func80, by kernel_rfl, by kernel_rfl⟩
theorem hb81 : HasBody Try.prog 81 := ⟨Try.f81, Try.func81, by kernel_rfl, by kernel_rfl⟩
theorem hb82 : HasBody Try.prog 82 := ⟨Try.f82, Try.func82, by kernel_rfl, by kernel_rfl⟩
theorem hb83 : HasBody Try.prog 83 := ⟨Try.f83, Try.func83, by kernel_rfl, by kernel_rfl⟩
theorem hb84 : HasBody Try.prog 84 := ⟨Try.f84, Try.func84, by kernel_rfl, by kernel_rfl⟩
theorem hb85 : HasBody Try.prog 85 := ⟨Try.f85, Try.func85, by kernel_rfl, by kernel_rfl⟩
theorem hb86 : HasBody Try.prog 86 := ⟨Try.f86, Try.func86, by kernel_rfl, by kernel_rfl⟩
theorem hb87 : HasBody Try.prog 87 := ⟨Try.f87, Try.func87, by kernel_rfl, by kernel_rfl⟩
theorem hb89 : HasBody Try.prog 89 := ⟨Try.f89, Try.func89, by kernel_rfl, by kernel_rfl⟩
theorem hb90 : HasBody Try.prog 90 := ⟨Try.f90, Try.func90, by kernel_rfl, by kernel_rfl⟩
theorem hb94 : HasBody Try.prog 94 := ⟨Try.f94, Try.func94, by kernel_rfl, by kernel_rfl⟩
theorem hb98 : HasBody Try.prog 98 := ⟨Try.f98, Try.func98, by kernel_rfl, by kernel_rfl⟩
theorem hb104 : HasBody Try.prog 104 := ⟨Try.f104, Try.func104, by kernel_rfl, by kernel_rfl⟩
theorem hb105 : HasBody Try.prog 105 := ⟨Try.f105, Try.func105, by kernel_rfl, by kernel_rfl⟩
theorem hb106 : HasBody Try.prog 106 := ⟨Try.f106, Try.func106, by kernel_rfl, by kernel_rfl⟩
theorem hb107 : HasBody Try.prog 107 := ⟨Try.f107, Try.func107, by kernel_rfl, by kernel_rfl⟩
theorem hb108 : HasBody Try.prog 108 := ⟨Try.f108, Try.func108, by kernel_rfl, by kernel_rfl⟩
theorem hb109 : HasBody Try.prog 109 := ⟨Try.f109, Try.func109, by kernel_rfl, by kernel_rfl⟩
theorem hb110 : HasBody Try.prog 110 := ⟨Try.f110, Try.func110, by kernel_rfl, by kernel_rfl⟩
theorem hb111 : HasBody Try.prog 111 := ⟨Try.f111, Try.func111, by kernel_rfl, by kernel_rfl⟩
theorem hb112 : HasBody Try.prog 112 := ⟨Try.f112, Try.func112, by kernel_rfl, by kernel_rfl⟩
theorem hb113 : HasBody Try.prog 113 := ⟨Try.f113, Try.func113, by kernel_rfl, by kernel_rfl⟩
theorem hb114 : HasBody Try.prog 114 := ⟨Try.f114, Try.func114, by kernel_rfl, by kernel_rfl⟩
theorem hb115 : HasBody Try.prog 115 := ⟨Try.f115, Try.func115, by kernel_rfl, by kernel_rfl⟩
theorem hb116 : HasBody Try.prog 116 := ⟨Try.f116, Try.func116, by kernel_rfl, by kernel_rfl⟩
theorem hb117 : HasBody Try.prog 117 := ⟨Try.f117, Try.func117, by kernel_rfl, by kernel_rfl⟩
theorem hb118 : HasBody Try.prog 118 := ⟨Try.f118, Try.func118, by kernel_rfl, by kernel_rfl⟩
theorem hb120 : HasBody Try.prog 120 := ⟨Try.f120, Try.func120, by kernel_rfl, by kernel_rfl⟩
theorem hb121 : HasBody Try.prog 121 := ⟨Try.f121, Try.func121, by kernel_rfl, by kernel_rfl⟩
theorem hb128 : HasBody Try.prog 128 := ⟨Try.f128, Try.func128, by kernel_rfl, by kernel_rfl⟩
theorem hb129 : HasBody Try.prog 129 := ⟨Try.f129, Try.func129, by kernel_rfl, by kernel_rfl⟩
theorem hb130 : HasBody Try.prog 130 := ⟨Try.f130, Try.func130, by kernel_rfl, by kernel_rfl⟩
theorem hb131 : HasBody Try.prog 131 := ⟨Try.f131, Try.func131, by kernel_rfl, by kernel_rfl⟩
theorem hb132 : HasBody Try.prog 132 := ⟨Try.f132, Try.func132, by kernel_rfl, by kernel_rfl⟩
theorem hb133 : HasBody Try.prog 133 := ⟨Try.f133, Try.func133, by kernel_rfl, by kernel_rfl⟩
theorem hb134 : HasBody Try.prog 134 := ⟨Try.f134, Try.func134, by kernel_rfl, by kernel_rfl⟩
theorem hb135 : HasBody Try.prog 135 := ⟨Try.f135, Try.func135, by kernel_rfl, by kernel_rfl⟩
theorem hb136 : HasBody Try.prog 136 := ⟨Try.f136, Try.func136, by kernel_rfl, by kernel_rfl⟩
theorem hb148 : HasBody Try.prog 148 := ⟨Try.f148, Try.func148, by kernel_rfl, by kernel_rfl⟩
theorem sl35 : SliT Try.prog 35 16 := ⟨_, Try.underlying35, Try.sizeOf34⟩
theorem sl40 : SliT Try.prog 40 4 := ⟨_, Try.underlying40, Try.sizeOf45⟩
theorem sl54 : SliT Try.prog 54 125 := ⟨_, Try.underlying54, Try.sizeOf37⟩
theorem sl55 : SliT Try.prog 55 10 := ⟨_, Try.underlying55, Try.sizeOf59⟩
theorem sl56 : SliT Try.prog 56 1 := ⟨_, Try.underlying56, Try.sizeOf5⟩
theorem sl74 : SliT Try.prog 74 130 := ⟨_, Try.underlying74, Try.sizeOf79⟩
theorem sl75 : SliT Try.prog 75 1 := ⟨_, Try.underlying75, Try.sizeOf9⟩
theorem sl151 : SliT Try.prog 151 1 := ⟨_, Try.underlying151, Try.sizeOf3⟩

end Go.Proofs.Ytkdbjhlkahkobaa
