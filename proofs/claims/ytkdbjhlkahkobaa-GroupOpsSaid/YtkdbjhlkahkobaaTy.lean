/- the facts on types and functions that the walks name, by program -/
import Derived.Test.YtkdbjhlkahkobaaProg
import Derived.Test.YtkdbjhlkahkobaaCore
import Derived.KernelRfl
namespace Go.Proofs.Ytkdbjhlkahkobaa
open Jal
theorem mo : Try.prog.follows .mixedOrders = true := by kernel_rfl
theorem ar23 : ArrT Try.prog 23 6 1 := ⟨_, Try.underlying23, Try.sizeOf22⟩
theorem ar41 : ArrT Try.prog 41 6 1 := ⟨_, Try.underlying41, Try.sizeOf4⟩
theorem bz43 : ∀ w, (Go.Instr.build 43 #[]).run Try.prog w = .ok (.agg ([.int .i64 0, .int .i64 0, .bool false, .bool false, .bool false, .bool false, .bool false, .bool false, .bool false, .bool false, .bool false, .bool false, .bool false, .bool false, .int .u64 0, .int .u64 0, .int .u64 0, .int .u64 0, .int .u64 0, .int .u64 0, .int .i64 0]).toArray) w := fun w => by kernel_rfl
theorem fa43_0 : FieldAt Try.prog 43 0 0 := ⟨_, _, _, Try.underlying43, rfl, rfl, Try.sizeOf3⟩
theorem fa43_1 : FieldAt Try.prog 43 1 1 := ⟨_, _, _, Try.underlying43, rfl, rfl, Try.sizeOf3⟩
theorem fa43_2 : FieldAt Try.prog 43 2 2 := ⟨_, _, _, Try.underlying43, rfl, rfl, Try.sizeOf41⟩
theorem fa43_3 : FieldAt Try.prog 43 3 8 := ⟨_, _, _, Try.underlying43, rfl, rfl, Try.sizeOf41⟩
theorem fa43_4 : FieldAt Try.prog 43 4 14 := ⟨_, _, _, Try.underlying43, rfl, rfl, Try.sizeOf23⟩
theorem fa43_5 : FieldAt Try.prog 43 5 20 := ⟨_, _, _, Try.underlying43, rfl, rfl, Try.sizeOf3⟩
theorem fa45_0 : FieldAt Try.prog 45 0 0 := ⟨_, _, _, Try.underlying45, rfl, rfl, Try.sizeOf3⟩
theorem fa45_1 : FieldAt Try.prog 45 1 1 := ⟨_, _, _, Try.underlying45, rfl, rfl, Try.sizeOf3⟩
theorem fa45_2 : FieldAt Try.prog 45 2 2 := ⟨_, _, _, Try.underlying45, rfl, rfl, Try.sizeOf3⟩
theorem fa45_3 : FieldAt Try.prog 45 3 3 := ⟨_, _, _, Try.underlying45, rfl, rfl, Try.sizeOf22⟩
theorem hb31 : HasBody Try.prog 31 := ⟨Try.f31, Try.func31, by kernel_rfl, by kernel_rfl⟩
theorem hb32 : HasBody Try.prog 32 := ⟨Try.f32, Try.func32, by kernel_rfl, by kernel_rfl⟩
theorem hb33 : HasBody Try.prog 33 := ⟨Try.f33, Try.func33, by kernel_rfl, by kernel_rfl⟩
theorem hb34 : HasBody Try.prog 34 := ⟨Try.f34, Try.func34, by kernel_rfl, by kernel_rfl⟩
theorem hb35 : HasBody Try.prog 35 := ⟨Try.f35, Try.func35, by kernel_rfl, by kernel_rfl⟩
theorem hb36 : HasBody Try.prog 36 := ⟨Try.f36, Try.func36, by kernel_rfl, by kernel_rfl⟩
theorem hb37 : HasBody Try.prog 37 := ⟨Try.f37, Try.func37, by kernel_rfl, by kernel_rfl⟩
theorem hb70 : HasBody Try.prog 70 := ⟨Try.f70, Try.func70, by kernel_rfl, by kernel_rfl⟩
theorem hb71 : HasBody Try.prog 71 := ⟨Try.f71, Try.func71, by kernel_rfl, by kernel_rfl⟩
theorem hb72 : HasBody Try.prog 72 := ⟨Try.f72, Try.func72, by kernel_rfl, by kernel_rfl⟩
theorem hb73 : HasBody Try.prog 73 := ⟨Try.f73, Try.func73, by kernel_rfl, by kernel_rfl⟩
theorem hb74 : HasBody Try.prog 74 := ⟨Try.f74, Try.func74, by kernel_rfl, by kernel_rfl⟩
theorem hb75 : HasBody Try.prog 75 := ⟨Try.f75, Try.func75, by kernel_rfl, by kernel_rfl⟩
theorem sl40 : SliT Try.prog 40 4 := ⟨_, Try.underlying40, Try.sizeOf45⟩

end Go.Proofs.Ytkdbjhlkahkobaa
