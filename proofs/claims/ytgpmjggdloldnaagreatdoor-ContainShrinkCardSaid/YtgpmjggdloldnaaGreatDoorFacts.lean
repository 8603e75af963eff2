/-
  Contracts and plain lemmas, joined: Ty
-/
import Derived.Test.YtgpmjggdloldnaaGreatDoorChecked
import Derived.Test.YtgpmjggdloldnaaGreatDoorLogicB
import Derived.KernelRfl
namespace Go.Proofs.YtgpmjggdloldnaaGreatDoor
open Go Go.Sx
set_option maxRecDepth 100000
theorem ty3 : TyOK Tryz.prog 3 false 1 (.int .i64 0) := ⟨fun _ => by kernel_rfl, fun _ => by kernel_rfl, fun _ => by kernel_rfl⟩
theorem ty4 : TyOK Tryz.prog 4 false 1 (.bool false) := ⟨fun _ => by kernel_rfl, fun _ => by kernel_rfl, fun _ => by kernel_rfl⟩
theorem ty5 : TyOK Tryz.prog 5 false 1 (.int .u8 0) := ⟨fun _ => by kernel_rfl, fun _ => by kernel_rfl, fun _ => by kernel_rfl⟩
theorem ty9 : TyOK Tryz.prog 9 false 1 (.string ⟨#[]⟩) := ⟨fun _ => by kernel_rfl, fun _ => by kernel_rfl, fun _ => by kernel_rfl⟩
theorem ty22 : TyOK Tryz.prog 22 false 1 (.slice none 0 0) := ⟨fun _ => by kernel_rfl, fun _ => by kernel_rfl, fun _ => by kernel_rfl⟩
theorem sl22 : SlOK Tryz.prog 22 37 6 72 (.agg #[(.int .i64 0), (.string ⟨#[]⟩), (.string ⟨#[]⟩), (.string ⟨#[]⟩), (.int .i64 0), (.int .i64 0)]) := ⟨Tryz.underlying22, ⟨_, rfl, by kernel_rfl, by kernel_rfl, by kernel_rfl⟩, by kernel_rfl, by decide⟩
theorem ty24 : TyOK Tryz.prog 24 true 1 (.agg #[(.slice none 0 0)]) := ⟨fun _ => by kernel_rfl, fun _ => by kernel_rfl, fun _ => by kernel_rfl⟩
theorem fd24_0 : FieldOK Tryz.prog 24 0 0 := FieldOK.mk (k := 1) Tryz.underlying24 rfl (fun _ => by kernel_rfl) rfl rfl
theorem bd24 : BuildOK Tryz.prog 24 [(0, 1)] [(.slice none 0 0)] := BuildOK.struct Tryz.underlying24 ty24.zero rfl (fun _ => by kernel_rfl) rfl
theorem ty25 : TyOK Tryz.prog 25 false 1 (.slice none 0 0) := ⟨fun _ => by kernel_rfl, fun _ => by kernel_rfl, fun _ => by kernel_rfl⟩
theorem sl25 : SlOK Tryz.prog 25 9 1 16 (.string ⟨#[]⟩) := ⟨Tryz.underlying25, ⟨_, rfl, by kernel_rfl, by kernel_rfl, by kernel_rfl⟩, by kernel_rfl, by decide⟩
theorem ty27 : TyOK Tryz.prog 27 false 1 .nilFunc := ⟨fun _ => by kernel_rfl, fun _ => by kernel_rfl, fun _ => by kernel_rfl⟩
theorem ty28 : TyOK Tryz.prog 28 false 1 (.int .i64 0) := ⟨fun _ => by kernel_rfl, fun _ => by kernel_rfl, fun _ => by kernel_rfl⟩
theorem ty37 : TyOK Tryz.prog 37 true 6 (.agg #[(.int .i64 0), (.string ⟨#[]⟩), (.string ⟨#[]⟩), (.string ⟨#[]⟩), (.int .i64 0), (.int .i64 0)]) := ⟨fun _ => by kernel_rfl, fun _ => by kernel_rfl, fun _ => by kernel_rfl⟩
theorem fd37_0 : FieldOK Tryz.prog 37 0 0 := FieldOK.mk (k := 1) Tryz.underlying37 rfl (fun _ => by kernel_rfl) rfl rfl
theorem fd37_1 : FieldOK Tryz.prog 37 1 1 := FieldOK.mk (k := 1) Tryz.underlying37 rfl (fun _ => by kernel_rfl) rfl rfl
theorem fd37_2 : FieldOK Tryz.prog 37 2 2 := FieldOK.mk (k := 1) Tryz.underlying37 rfl (fun _ => by kernel_rfl) rfl rfl
theorem fd37_3 : FieldOK Tryz.prog 37 3 3 := FieldOK.mk (k := 1) Tryz.underlying37 rfl (fun _ => by kernel_rfl) rfl rfl
theorem fd37_4 : FieldOK Tryz.prog 37 4 4 := FieldOK.mk (k := 1) Tryz.underlying37 rfl (fun _ => by kernel_rfl) rfl rfl
theorem fd37_5 : FieldOK Tryz.prog 37 5 5 := FieldOK.mk (k := 1) Tryz.underlying37 rfl (fun _ => by kernel_rfl) rfl rfl
theorem bd37 : BuildOK Tryz.prog 37 [(0, 1), (1, 1), (2, 1), (3, 1), (4, 1), (5, 1)] [(.int .i64 0), (.string ⟨#[]⟩), (.string ⟨#[]⟩), (.string ⟨#[]⟩), (.int .i64 0), (.int .i64 0)] := BuildOK.struct Tryz.underlying37 ty37.zero rfl (fun _ => by kernel_rfl) rfl
theorem ty39 : TyOK Tryz.prog 39 false 1 (.slice none 0 0) := ⟨fun _ => by kernel_rfl, fun _ => by kernel_rfl, fun _ => by kernel_rfl⟩
theorem sl39 : SlOK Tryz.prog 39 24 1 24 (.agg #[(.slice none 0 0)]) := ⟨Tryz.underlying39, ⟨_, rfl, by kernel_rfl, by kernel_rfl, by kernel_rfl⟩, by kernel_rfl, by decide⟩
theorem ty41 : TyOK Tryz.prog 41 true 2 (.agg #[(.slice none 0 0), (.slice none 0 0)]) := ⟨fun _ => by kernel_rfl, fun _ => by kernel_rfl, fun _ => by kernel_rfl⟩
theorem fd41_0 : FieldOK Tryz.prog 41 0 0 := FieldOK.mk (k := 1) Tryz.underlying41 rfl (fun _ => by kernel_rfl) rfl rfl
theorem fd41_1 : FieldOK Tryz.prog 41 1 1 := FieldOK.mk (k := 1) Tryz.underlying41 rfl (fun _ => by kernel_rfl) rfl rfl
theorem bd41 : BuildOK Tryz.prog 41 [(0, 1), (1, 1)] [(.slice none 0 0), (.slice none 0 0)] := BuildOK.struct Tryz.underlying41 ty41.zero rfl (fun _ => by kernel_rfl) rfl
theorem ty56 : TyOK Tryz.prog 56 false 1 .nilFunc := ⟨fun _ => by kernel_rfl, fun _ => by kernel_rfl, fun _ => by kernel_rfl⟩
theorem ty61 : TyOK Tryz.prog 61 false 1 .nilFunc := ⟨fun _ => by kernel_rfl, fun _ => by kernel_rfl, fun _ => by kernel_rfl⟩
theorem ty64 : TyOK Tryz.prog 64 false 1 (.slice none 0 0) := ⟨fun _ => by kernel_rfl, fun _ => by kernel_rfl, fun _ => by kernel_rfl⟩
theorem sl64 : SlOK Tryz.prog 64 90 2 32 (.agg #[(.string ⟨#[]⟩), (.string ⟨#[]⟩)]) := ⟨Tryz.underlying64, ⟨_, rfl, by kernel_rfl, by kernel_rfl, by kernel_rfl⟩, by kernel_rfl, by decide⟩
theorem ty65 : TyOK Tryz.prog 65 false 1 (.map none) := ⟨fun _ => by kernel_rfl, fun _ => by kernel_rfl, fun _ => by kernel_rfl⟩
theorem ty67 : TyOK Tryz.prog 67 true 3 (.agg #[(.slice none 0 0), (.slice none 0 0), (.map none)]) := ⟨fun _ => by kernel_rfl, fun _ => by kernel_rfl, fun _ => by kernel_rfl⟩
theorem fd67_0 : FieldOK Tryz.prog 67 0 0 := FieldOK.mk (k := 1) Tryz.underlying67 rfl (fun _ => by kernel_rfl) rfl rfl
theorem fd67_1 : FieldOK Tryz.prog 67 1 1 := FieldOK.mk (k := 1) Tryz.underlying67 rfl (fun _ => by kernel_rfl) rfl rfl
theorem fd67_2 : FieldOK Tryz.prog 67 2 2 := FieldOK.mk (k := 1) Tryz.underlying67 rfl (fun _ => by kernel_rfl) rfl rfl
theorem bd67 : BuildOK Tryz.prog 67 [(0, 1), (1, 1), (2, 1)] [(.slice none 0 0), (.slice none 0 0), (.map none)] := BuildOK.struct Tryz.underlying67 ty67.zero rfl (fun _ => by kernel_rfl) rfl
theorem ty69 : TyOK Tryz.prog 69 false 1 (.map none) := ⟨fun _ => by kernel_rfl, fun _ => by kernel_rfl, fun _ => by kernel_rfl⟩
theorem ty70 : TyOK Tryz.prog 70 false 1 .nilFunc := ⟨fun _ => by kernel_rfl, fun _ => by kernel_rfl, fun _ => by kernel_rfl⟩
theorem ty72 : TyOK Tryz.prog 72 false 1 .nilFunc := ⟨fun _ => by kernel_rfl, fun _ => by kernel_rfl, fun _ => by kernel_rfl⟩
theorem ty74 : TyOK Tryz.prog 74 false 1 .nilFunc := ⟨fun _ => by kernel_rfl, fun _ => by kernel_rfl, fun _ => by kernel_rfl⟩
theorem ty75 : TyOK Tryz.prog 75 false 1 (.slice none 0 0) := ⟨fun _ => by kernel_rfl, fun _ => by kernel_rfl, fun _ => by kernel_rfl⟩
theorem sl75 : SlOK Tryz.prog 75 78 2 32 (.agg #[(.string ⟨#[]⟩), (.string ⟨#[]⟩)]) := ⟨Tryz.underlying75, ⟨_, rfl, by kernel_rfl, by kernel_rfl, by kernel_rfl⟩, by kernel_rfl, by decide⟩
theorem ty78 : TyOK Tryz.prog 78 true 2 (.agg #[(.string ⟨#[]⟩), (.string ⟨#[]⟩)]) := ⟨fun _ => by kernel_rfl, fun _ => by kernel_rfl, fun _ => by kernel_rfl⟩
theorem bd78 : BuildOK Tryz.prog 78 ((List.range 2).map fun i => (i * 1, 1)) [(.string ⟨#[]⟩), (.string ⟨#[]⟩)] := BuildOK.array Tryz.underlying78 ty78.zero rfl (fun _ => by kernel_rfl) rfl rfl
theorem ar78 : ArrOK Tryz.prog 78 2 9 false 1 := ⟨Tryz.underlying78, fun _ => by kernel_rfl, fun _ => by kernel_rfl⟩
theorem ty80 : TyOK Tryz.prog 80 false 1 .nilFunc := ⟨fun _ => by kernel_rfl, fun _ => by kernel_rfl, fun _ => by kernel_rfl⟩
theorem ty82 : TyOK Tryz.prog 82 false 1 .nilFunc := ⟨fun _ => by kernel_rfl, fun _ => by kernel_rfl, fun _ => by kernel_rfl⟩
theorem ty83 : TyOK Tryz.prog 83 false 1 (.slice none 0 0) := ⟨fun _ => by kernel_rfl, fun _ => by kernel_rfl, fun _ => by kernel_rfl⟩
theorem sl83 : SlOK Tryz.prog 83 114 16 216 (.agg #[(.int .i64 0), (.bool false), (.int .i64 0), (.string ⟨#[]⟩), (.int .i64 0), (.int .i64 0), (.slice none 0 0), (.int .i64 0), (.string ⟨#[]⟩), (.int .i64 0), (.int .i64 0), (.slice none 0 0), (.slice none 0 0), (.string ⟨#[]⟩), (.string ⟨#[]⟩), (.string ⟨#[]⟩)]) := ⟨Tryz.underlying83, ⟨_, rfl, by kernel_rfl, by kernel_rfl, by kernel_rfl⟩, by kernel_rfl, by decide⟩
theorem ty90 : TyOK Tryz.prog 90 true 2 (.agg #[(.string ⟨#[]⟩), (.string ⟨#[]⟩)]) := ⟨fun _ => by kernel_rfl, fun _ => by kernel_rfl, fun _ => by kernel_rfl⟩
theorem fd90_0 : FieldOK Tryz.prog 90 0 0 := FieldOK.mk (k := 1) Tryz.underlying90 rfl (fun _ => by kernel_rfl) rfl rfl
theorem fd90_1 : FieldOK Tryz.prog 90 1 1 := FieldOK.mk (k := 1) Tryz.underlying90 rfl (fun _ => by kernel_rfl) rfl rfl
theorem bd90 : BuildOK Tryz.prog 90 [(0, 1), (1, 1)] [(.string ⟨#[]⟩), (.string ⟨#[]⟩)] := BuildOK.struct Tryz.underlying90 ty90.zero rfl (fun _ => by kernel_rfl) rfl
theorem ty92 : TyOK Tryz.prog 92 true 2 (.agg #[(.int .i64 0), (.int .i64 0)]) := ⟨fun _ => by kernel_rfl, fun _ => by kernel_rfl, fun _ => by kernel_rfl⟩
theorem fd92_0 : FieldOK Tryz.prog 92 0 0 := FieldOK.mk (k := 1) Tryz.underlying92 rfl (fun _ => by kernel_rfl) rfl rfl
theorem fd92_1 : FieldOK Tryz.prog 92 1 1 := FieldOK.mk (k := 1) Tryz.underlying92 rfl (fun _ => by kernel_rfl) rfl rfl
theorem bd92 : BuildOK Tryz.prog 92 [(0, 1), (1, 1)] [(.int .i64 0), (.int .i64 0)] := BuildOK.struct Tryz.underlying92 ty92.zero rfl (fun _ => by kernel_rfl) rfl
theorem ty99 : TyOK Tryz.prog 99 false 1 (.int .u64 0) := ⟨fun _ => by kernel_rfl, fun _ => by kernel_rfl, fun _ => by kernel_rfl⟩
theorem ty105 : TyOK Tryz.prog 105 true 2 (.agg #[(.bool false), (.bool false)]) := ⟨fun _ => by kernel_rfl, fun _ => by kernel_rfl, fun _ => by kernel_rfl⟩
theorem fd105_0 : FieldOK Tryz.prog 105 0 0 := FieldOK.mk (k := 1) Tryz.underlying105 rfl (fun _ => by kernel_rfl) rfl rfl
theorem fd105_1 : FieldOK Tryz.prog 105 1 1 := FieldOK.mk (k := 1) Tryz.underlying105 rfl (fun _ => by kernel_rfl) rfl rfl
theorem bd105 : BuildOK Tryz.prog 105 [(0, 1), (1, 1)] [(.bool false), (.bool false)] := BuildOK.struct Tryz.underlying105 ty105.zero rfl (fun _ => by kernel_rfl) rfl
theorem ty106 : TyOK Tryz.prog 106 true 8 (.agg #[(.bool false), (.bool false), (.bool false), (.bool false), (.bool false), (.bool false), (.bool false), (.bool false)]) := ⟨fun _ => by kernel_rfl, fun _ => by kernel_rfl, fun _ => by kernel_rfl⟩
theorem bd106 : BuildOK Tryz.prog 106 ((List.range 4).map fun i => (i * 2, 2)) [(.bool false), (.bool false), (.bool false), (.bool false), (.bool false), (.bool false), (.bool false), (.bool false)] := BuildOK.array Tryz.underlying106 ty106.zero rfl (fun _ => by kernel_rfl) rfl rfl
theorem ar106 : ArrOK Tryz.prog 106 4 105 true 2 := ⟨Tryz.underlying106, fun _ => by kernel_rfl, fun _ => by kernel_rfl⟩
theorem ty110 : TyOK Tryz.prog 110 false 1 (.slice none 0 0) := ⟨fun _ => by kernel_rfl, fun _ => by kernel_rfl, fun _ => by kernel_rfl⟩
theorem sl110 : SlOK Tryz.prog 110 112 5 64 (.agg #[(.int .i64 0), (.string ⟨#[]⟩), (.int .i64 0), (.int .i64 0), (.slice none 0 0)]) := ⟨Tryz.underlying110, ⟨_, rfl, by kernel_rfl, by kernel_rfl, by kernel_rfl⟩, by kernel_rfl, by decide⟩
theorem ty112 : TyOK Tryz.prog 112 true 5 (.agg #[(.int .i64 0), (.string ⟨#[]⟩), (.int .i64 0), (.int .i64 0), (.slice none 0 0)]) := ⟨fun _ => by kernel_rfl, fun _ => by kernel_rfl, fun _ => by kernel_rfl⟩
theorem fd112_0 : FieldOK Tryz.prog 112 0 0 := FieldOK.mk (k := 1) Tryz.underlying112 rfl (fun _ => by kernel_rfl) rfl rfl
theorem fd112_1 : FieldOK Tryz.prog 112 1 1 := FieldOK.mk (k := 1) Tryz.underlying112 rfl (fun _ => by kernel_rfl) rfl rfl
theorem fd112_2 : FieldOK Tryz.prog 112 2 2 := FieldOK.mk (k := 1) Tryz.underlying112 rfl (fun _ => by kernel_rfl) rfl rfl
theorem fd112_3 : FieldOK Tryz.prog 112 3 3 := FieldOK.mk (k := 1) Tryz.underlying112 rfl (fun _ => by kernel_rfl) rfl rfl
theorem fd112_4 : FieldOK Tryz.prog 112 4 4 := FieldOK.mk (k := 1) Tryz.underlying112 rfl (fun _ => by kernel_rfl) rfl rfl
theorem bd112 : BuildOK Tryz.prog 112 [(0, 1), (1, 1), (2, 1), (3, 1), (4, 1)] [(.int .i64 0), (.string ⟨#[]⟩), (.int .i64 0), (.int .i64 0), (.slice none 0 0)] := BuildOK.struct Tryz.underlying112 ty112.zero rfl (fun _ => by kernel_rfl) rfl
theorem ty114 : TyOK Tryz.prog 114 true 16 (.agg #[(.int .i64 0), (.bool false), (.int .i64 0), (.string ⟨#[]⟩), (.int .i64 0), (.int .i64 0), (.slice none 0 0), (.int .i64 0), (.string ⟨#[]⟩), (.int .i64 0), (.int .i64 0), (.slice none 0 0), (.slice none 0 0), (.string ⟨#[]⟩), (.string ⟨#[]⟩), (.string ⟨#[]⟩)]) := ⟨fun _ => by kernel_rfl, fun _ => by kernel_rfl, fun _ => by kernel_rfl⟩
theorem fd114_0 : FieldOK Tryz.prog 114 0 0 := FieldOK.mk (k := 1) Tryz.underlying114 rfl (fun _ => by kernel_rfl) rfl rfl
theorem fd114_1 : FieldOK Tryz.prog 114 1 1 := FieldOK.mk (k := 1) Tryz.underlying114 rfl (fun _ => by kernel_rfl) rfl rfl
theorem fd114_2 : FieldOK Tryz.prog 114 2 2 := FieldOK.mk (k := 5) Tryz.underlying114 rfl (fun _ => by kernel_rfl) rfl rfl
theorem fd114_3 : FieldOK Tryz.prog 114 3 7 := FieldOK.mk (k := 5) Tryz.underlying114 rfl (fun _ => by kernel_rfl) rfl rfl
theorem fd114_4 : FieldOK Tryz.prog 114 4 12 := FieldOK.mk (k := 1) Tryz.underlying114 rfl (fun _ => by kernel_rfl) rfl rfl
theorem fd114_5 : FieldOK Tryz.prog 114 5 13 := FieldOK.mk (k := 1) Tryz.underlying114 rfl (fun _ => by kernel_rfl) rfl rfl
theorem fd114_6 : FieldOK Tryz.prog 114 6 14 := FieldOK.mk (k := 1) Tryz.underlying114 rfl (fun _ => by kernel_rfl) rfl rfl
theorem fd114_7 : FieldOK Tryz.prog 114 7 15 := FieldOK.mk (k := 1) Tryz.underlying114 rfl (fun _ => by kernel_rfl) rfl rfl
theorem bd114 : BuildOK Tryz.prog 114 [(0, 1), (1, 1), (2, 5), (7, 5), (12, 1), (13, 1), (14, 1), (15, 1)] [(.int .i64 0), (.bool false), (.int .i64 0), (.string ⟨#[]⟩), (.int .i64 0), (.int .i64 0), (.slice none 0 0), (.int .i64 0), (.string ⟨#[]⟩), (.int .i64 0), (.int .i64 0), (.slice none 0 0), (.slice none 0 0), (.string ⟨#[]⟩), (.string ⟨#[]⟩), (.string ⟨#[]⟩)] := BuildOK.struct Tryz.underlying114 ty114.zero rfl (fun _ => by kernel_rfl) rfl
theorem ty128 : TyOK Tryz.prog 128 false 1 (.int .u32 0) := ⟨fun _ => by kernel_rfl, fun _ => by kernel_rfl, fun _ => by kernel_rfl⟩
theorem ty130 : TyOK Tryz.prog 130 false 1 (.int .u64 0) := ⟨fun _ => by kernel_rfl, fun _ => by kernel_rfl, fun _ => by kernel_rfl⟩
theorem ty131 : TyOK Tryz.prog 131 false 1 (.slice none 0 0) := ⟨fun _ => by kernel_rfl, fun _ => by kernel_rfl, fun _ => by kernel_rfl⟩
theorem sl131 : SlOK Tryz.prog 131 3 1 8 (.int .i64 0) := ⟨Tryz.underlying131, ⟨_, rfl, by kernel_rfl, by kernel_rfl, by kernel_rfl⟩, by kernel_rfl, by decide⟩
theorem ty138 : TyOK Tryz.prog 138 true 7 (.agg #[(.bool false), (.bool false), (.bool false), (.bool false), (.bool false), (.int .i64 0), (.int .i64 0)]) := ⟨fun _ => by kernel_rfl, fun _ => by kernel_rfl, fun _ => by kernel_rfl⟩
theorem fd138_0 : FieldOK Tryz.prog 138 0 0 := FieldOK.mk (k := 1) Tryz.underlying138 rfl (fun _ => by kernel_rfl) rfl rfl
theorem fd138_1 : FieldOK Tryz.prog 138 1 1 := FieldOK.mk (k := 1) Tryz.underlying138 rfl (fun _ => by kernel_rfl) rfl rfl
theorem fd138_2 : FieldOK Tryz.prog 138 2 2 := FieldOK.mk (k := 1) Tryz.underlying138 rfl (fun _ => by kernel_rfl) rfl rfl
theorem fd138_3 : FieldOK Tryz.prog 138 3 3 := FieldOK.mk (k := 1) Tryz.underlying138 rfl (fun _ => by kernel_rfl) rfl rfl
theorem fd138_4 : FieldOK Tryz.prog 138 4 4 := FieldOK.mk (k := 1) Tryz.underlying138 rfl (fun _ => by kernel_rfl) rfl rfl
theorem fd138_5 : FieldOK Tryz.prog 138 5 5 := FieldOK.mk (k := 1) Tryz.underlying138 rfl (fun _ => by kernel_rfl) rfl rfl
theorem fd138_6 : FieldOK Tryz.prog 138 6 6 := FieldOK.mk (k := 1) Tryz.underlying138 rfl (fun _ => by kernel_rfl) rfl rfl
theorem bd138 : BuildOK Tryz.prog 138 [(0, 1), (1, 1), (2, 1), (3, 1), (4, 1), (5, 1), (6, 1)] [(.bool false), (.bool false), (.bool false), (.bool false), (.bool false), (.int .i64 0), (.int .i64 0)] := BuildOK.struct Tryz.underlying138 ty138.zero rfl (fun _ => by kernel_rfl) rfl
theorem ar139 : ArrOK Tryz.prog 139 10 138 true 7 := ⟨Tryz.underlying139, fun _ => by kernel_rfl, fun _ => by kernel_rfl⟩
theorem ty142 : TyOK Tryz.prog 142 false 1 .nilFunc := ⟨fun _ => by kernel_rfl, fun _ => by kernel_rfl, fun _ => by kernel_rfl⟩
theorem ty144 : TyOK Tryz.prog 144 false 1 (.map none) := ⟨fun _ => by kernel_rfl, fun _ => by kernel_rfl, fun _ => by kernel_rfl⟩
theorem ty145 : TyOK Tryz.prog 145 false 1 (.map none) := ⟨fun _ => by kernel_rfl, fun _ => by kernel_rfl, fun _ => by kernel_rfl⟩
theorem ty147 : TyOK Tryz.prog 147 false 1 (.int .u64 0) := ⟨fun _ => by kernel_rfl, fun _ => by kernel_rfl, fun _ => by kernel_rfl⟩
theorem ty151 : TyOK Tryz.prog 151 false 1 (.pointer none) := ⟨fun _ => by kernel_rfl, fun _ => by kernel_rfl, fun _ => by kernel_rfl⟩
theorem ty173 : TyOK Tryz.prog 173 true 4 (.agg #[(.int .i64 0), (.int .i64 0), (.int .i64 0), (.bool false)]) := ⟨fun _ => by kernel_rfl, fun _ => by kernel_rfl, fun _ => by kernel_rfl⟩
theorem fd173_0 : FieldOK Tryz.prog 173 0 0 := FieldOK.mk (k := 1) Tryz.underlying173 rfl (fun _ => by kernel_rfl) rfl rfl
theorem fd173_1 : FieldOK Tryz.prog 173 1 1 := FieldOK.mk (k := 1) Tryz.underlying173 rfl (fun _ => by kernel_rfl) rfl rfl
theorem fd173_2 : FieldOK Tryz.prog 173 2 2 := FieldOK.mk (k := 1) Tryz.underlying173 rfl (fun _ => by kernel_rfl) rfl rfl
theorem fd173_3 : FieldOK Tryz.prog 173 3 3 := FieldOK.mk (k := 1) Tryz.underlying173 rfl (fun _ => by kernel_rfl) rfl rfl
theorem bd173 : BuildOK Tryz.prog 173 [(0, 1), (1, 1), (2, 1), (3, 1)] [(.int .i64 0), (.int .i64 0), (.int .i64 0), (.bool false)] := BuildOK.struct Tryz.underlying173 ty173.zero rfl (fun _ => by kernel_rfl) rfl
theorem ty174 : TyOK Tryz.prog 174 true 32 (.agg #[(.int .i64 0), (.int .i64 0), (.int .i64 0), (.bool false), (.int .i64 0), (.int .i64 0), (.int .i64 0), (.bool false), (.int .i64 0), (.int .i64 0), (.int .i64 0), (.bool false), (.int .i64 0), (.int .i64 0), (.int .i64 0), (.bool false), (.int .i64 0), (.int .i64 0), (.int .i64 0), (.bool false), (.int .i64 0), (.int .i64 0), (.int .i64 0), (.bool false), (.int .i64 0), (.int .i64 0), (.int .i64 0), (.bool false), (.int .i64 0), (.int .i64 0), (.int .i64 0), (.bool false)]) := ⟨fun _ => by kernel_rfl, fun _ => by kernel_rfl, fun _ => by kernel_rfl⟩
theorem bd174 : BuildOK Tryz.prog 174 ((List.range 8).map fun i => (i * 4, 4)) [(.int .i64 0), (.int .i64 0), (.int .i64 0), (.bool false), (.int .i64 0), (.int .i64 0), (.int .i64 0), (.bool false), (.int .i64 0), (.int .i64 0), (.int .i64 0), (.bool false), (.int .i64 0), (.int .i64 0), (.int .i64 0), (.bool false), (.int .i64 0), (.int .i64 0), (.int .i64 0), (.bool false), (.int .i64 0), (.int .i64 0), (.int .i64 0), (.bool false), (.int .i64 0), (.int .i64 0), (.int .i64 0), (.bool false), (.int .i64 0), (.int .i64 0), (.int .i64 0), (.bool false)] := BuildOK.array Tryz.underlying174 ty174.zero rfl (fun _ => by kernel_rfl) rfl rfl
theorem ar174 : ArrOK Tryz.prog 174 8 173 true 4 := ⟨Tryz.underlying174, fun _ => by kernel_rfl, fun _ => by kernel_rfl⟩
theorem ty176 : TyOK Tryz.prog 176 false 1 (.slice none 0 0) := ⟨fun _ => by kernel_rfl, fun _ => by kernel_rfl, fun _ => by kernel_rfl⟩
theorem sl176 : SlOK Tryz.prog 176 5 1 1 (.int .u8 0) := ⟨Tryz.underlying176, ⟨_, rfl, by kernel_rfl, by kernel_rfl, by kernel_rfl⟩, by kernel_rfl, by decide⟩
theorem follows : Tryz.prog.follows .mixedOrders = true := by kernel_rfl
theorem cl2 : Callable Tryz.prog 2 := ⟨_, Tryz.func2, by kernel_rfl, by kernel_rfl⟩
theorem cl3 : Callable Tryz.prog 3 := ⟨_, Tryz.func3, by kernel_rfl, by kernel_rfl⟩
theorem cl4 : Callable Tryz.prog 4 := ⟨_, Tryz.func4, by kernel_rfl, by kernel_rfl⟩
theorem cl5 : Callable Tryz.prog 5 := ⟨_, Tryz.func5, by kernel_rfl, by kernel_rfl⟩
theorem cl6 : Callable Tryz.prog 6 := ⟨_, Tryz.func6, by kernel_rfl, by kernel_rfl⟩
theorem cl7 : Callable Tryz.prog 7 := ⟨_, Tryz.func7, by kernel_rfl, by kernel_rfl⟩
theorem cl8 : Callable Tryz.prog 8 := ⟨_, Tryz.func8, by kernel_rfl, by kernel_rfl⟩
theorem cl9 : Callable Tryz.prog 9 := ⟨_, Tryz.func9, by kernel_rfl, by kernel_rfl⟩
theorem cl10 : Callable Tryz.prog 10 := ⟨_, Tryz.func10, by kernel_rfl, by kernel_rfl⟩
theorem cl11 : Callable Tryz.prog 11 := ⟨_, Tryz.func11, by kernel_rfl, by kernel_rfl⟩
theorem cl12 : Callable Tryz.prog 12 := ⟨_, Tryz.func12, by kernel_rfl, by kernel_rfl⟩
theorem cl13 : Callable Tryz.prog 13 := ⟨_, Tryz.func13, by kernel_rfl, by kernel_rfl⟩
theorem cl14 : Callable Tryz.prog 14 := ⟨_, Tryz.func14, by kernel_rfl, by kernel_rfl⟩
theorem cl15 : Callable Tryz.prog 15 := ⟨_, Tryz.func15, by kernel_rfl, by kernel_rfl⟩
theorem cl16 : Callable Tryz.prog 16 := ⟨_, Tryz.func16, by kernel_rfl, by kernel_rfl⟩
theorem cl17 : Callable Tryz.prog 17 := ⟨_, Tryz.func17, by kernel_rfl, by kernel_rfl⟩
theorem cl18 : Callable Tryz.prog 18 := ⟨_, Tryz.func18, by kernel_rfl, by kernel_rfl⟩
theorem cl19 : Callable Tryz.prog 19 := ⟨_, Tryz.func19, by kernel_rfl, by kernel_rfl⟩
theorem cl20 : Callable Tryz.prog 20 := ⟨_, Tryz.func20, by kernel_rfl, by kernel_rfl⟩
theorem cl21 : Callable Tryz.prog 21 := ⟨_, Tryz.func21, by kernel_rfl, by kernel_rfl⟩
theorem cl22 : Callable Tryz.prog 22 := ⟨_, Tryz.func22, by kernel_rfl, by kernel_rfl⟩
theorem cl23 : Callable Tryz.prog 23 := ⟨_, Tryz.func23, by kernel_rfl, by kernel_rfl⟩
theorem cl24 : Callable Tryz.prog 24 := ⟨_, Tryz.func24, by kernel_rfl, by kernel_rfl⟩
theorem cl25 : Callable Tryz.prog 25 := ⟨_, Tryz.func25, by kernel_rfl, by kernel_rfl⟩
theorem cl26 : Callable Tryz.prog 26 := ⟨_, Tryz.func26, by kernel_rfl, by kernel_rfl⟩
theorem cl27 : Callable Tryz.prog 27 := ⟨_, Tryz.func27, by kernel_rfl, by kernel_rfl⟩
theorem cl28 : Callable Tryz.prog 28 := ⟨_, Tryz.func28, by kernel_rfl, by kernel_rfl⟩
theorem cl29 : Callable Tryz.prog 29 := ⟨_, Tryz.func29, by kernel_rfl, by kernel_rfl⟩
theorem cl30 : Callable Tryz.prog 30 := ⟨_, Tryz.func30, by kernel_rfl, by kernel_rfl⟩
theorem cl31 : Callable Tryz.prog 31 := ⟨_, Tryz.func31, by kernel_rfl, by kernel_rfl⟩
theorem cl32 : Callable Tryz.prog 32 := ⟨_, Tryz.func32, by kernel_rfl, by kernel_rfl⟩
theorem cl33 : Callable Tryz.prog 33 := ⟨_, Tryz.func33, by kernel_rfl, by kernel_rfl⟩
theorem cl34 : Callable Tryz.prog 34 := ⟨_, Tryz.func34, by kernel_rfl, by kernel_rfl⟩
theorem cl35 : Callable Tryz.prog 35 := ⟨_, Tryz.func35, by kernel_rfl, by kernel_rfl⟩
theorem cl36 : Callable Tryz.prog 36 := ⟨_, Tryz.func36, by kernel_rfl, by kernel_rfl⟩
theorem cl37 : Callable Tryz.prog 37 := ⟨_, Tryz.func37, by kernel_rfl, by kernel_rfl⟩
theorem cl38 : Callable Tryz.prog 38 := ⟨_, Tryz.func38, by kernel_rfl, by kernel_rfl⟩
theorem cl39 : Callable Tryz.prog 39 := ⟨_, Tryz.func39, by kernel_rfl, by kernel_rfl⟩
theorem cl40 : Callable Tryz.prog 40 := ⟨_, Tryz.func40, by kernel_rfl, by kernel_rfl⟩
theorem cl41 : Callable Tryz.prog 41 := ⟨_, Tryz.func41, by kernel_rfl, by kernel_rfl⟩
theorem cl42 : Callable Tryz.prog 42 := ⟨_, Tryz.func42, by kernel_rfl, by kernel_rfl⟩
theorem cl43 : Callable Tryz.prog 43 := ⟨_, Tryz.func43, by kernel_rfl, by kernel_rfl⟩
theorem cl44 : Callable Tryz.prog 44 := ⟨_, Tryz.func44, by kernel_rfl, by kernel_rfl⟩
theorem cl45 : Callable Tryz.prog 45 := ⟨_, Tryz.func45, by kernel_rfl, by kernel_rfl⟩
theorem cl46 : Callable Tryz.prog 46 := ⟨_, Tryz.func46, by kernel_rfl, by kernel_rfl⟩
theorem cl47 : Callable Tryz.prog 47 := ⟨_, Tryz.func47, by kernel_rfl, by kernel_rfl⟩
theorem cl48 : Callable Tryz.prog 48 := ⟨_, Tryz.func48, by kernel_rfl, by kernel_rfl⟩
theorem cl49 : Callable Tryz.prog 49 := ⟨_, Tryz.func49, by kernel_rfl, by kernel_rfl⟩
theorem cl50 : Callable Tryz.prog 50 := ⟨_, Tryz.func50, by kernel_rfl, by kernel_rfl⟩
theorem cl51 : Callable Tryz.prog 51 := ⟨_, Tryz.func51, by kernel_rfl, by kernel_rfl⟩
theorem cl52 : Callable Tryz.prog 52 := ⟨_, Tryz.func52, by kernel_rfl, by kernel_rfl⟩
theorem cl53 : Callable Tryz.prog 53 := ⟨_, Tryz.func53, by kernel_rfl, by kernel_rfl⟩
theorem cl54 : Callable Tryz.prog 54 := ⟨_, Tryz.func54, by kernel_rfl, by kernel_rfl⟩
theorem cl55 : Callable Tryz.prog 55 := ⟨_, Tryz.func55, by kernel_rfl, by kernel_rfl⟩
theorem cl56 : Callable Tryz.prog 56 := ⟨_, Tryz.func56, by kernel_rfl, by kernel_rfl⟩
theorem cl57 : Callable Tryz.prog 57 := ⟨_, Tryz.func57, by kernel_rfl, by kernel_rfl⟩
theorem cl58 : Callable Tryz.prog 58 := ⟨_, Tryz.func58, by kernel_rfl, by kernel_rfl⟩
theorem cl59 : Callable Tryz.prog 59 := ⟨_, Tryz.func59, by kernel_rfl, by kernel_rfl⟩
theorem cl60 : Callable Tryz.prog 60 := ⟨_, Tryz.func60, by kernel_rfl, by kernel_rfl⟩
theorem cl61 : Callable Tryz.prog 61 := ⟨_, Tryz.func61, by kernel_rfl, by kernel_rfl⟩
theorem cl62 : Callable Tryz.prog 62 := ⟨_, Tryz.func62, by kernel_rfl, by kernel_rfl⟩
theorem cl63 : Callable Tryz.prog 63 := ⟨_, Tryz.func63, by kernel_rfl, by kernel_rfl⟩
theorem cl64 : Callable Tryz.prog 64 := ⟨_, Tryz.func64, by kernel_rfl, by kernel_rfl⟩
theorem cl65 : Callable Tryz.prog 65 := ⟨_, Tryz.func65, by kernel_rfl, by kernel_rfl⟩
theorem cl66 : Callable Tryz.prog 66 := ⟨_, Tryz.func66, by kernel_rfl, by kernel_rfl⟩
theorem cl67 : Callable Tryz.prog 67 := ⟨_, Tryz.func67, by kernel_rfl, by kernel_rfl⟩
theorem cl68 : Callable Tryz.prog 68 := ⟨_, Tryz.func68, by kernel_rfl, by kernel_rfl⟩
theorem cl69 : Callable Tryz.prog 69 := ⟨_, Tryz.func69, by kernel_rfl, by kernel_rfl⟩
theorem cl70 : Callable Tryz.prog 70 := ⟨_, Tryz.func70, by kernel_rfl, by kernel_rfl⟩
theorem cl71 : Callable Tryz.prog 71 := ⟨_, Tryz.func71, by kernel_rfl, by kernel_rfl⟩
theorem cl72 : Callable Tryz.prog 72 := ⟨_, Tryz.func72, by kernel_rfl, by kernel_rfl⟩
theorem cl73 : Callable Tryz.prog 73 := ⟨_, Tryz.func73, by kernel_rfl, by kernel_rfl⟩
theorem cl74 : Callable Tryz.prog 74 := ⟨_, Tryz.func74, by kernel_rfl, by kernel_rfl⟩
theorem cl75 : Callable Tryz.prog 75 := ⟨_, Tryz.func75, by kernel_rfl, by kernel_rfl⟩
theorem cl76 : Callable Tryz.prog 76 := ⟨_, Tryz.func76, by kernel_rfl, by kernel_rfl⟩
theorem cl77 : Callable Tryz.prog 77 := ⟨_, Tryz.func77, by kernel_rfl, by kernel_rfl⟩
theorem cl78 : Callable Tryz.prog 78 := ⟨_, Tryz.func78, by kernel_rfl, by kernel_rfl⟩
theorem cl79 : Callable Tryz.prog 79 := ⟨_, Tryz.func79, by kernel_rfl, by kernel_rfl⟩
theorem cl80 : Callable Tryz.prog 80 := ⟨_, Tryz.func80, by kernel_rfl, by kernel_rfl⟩
theorem cl81 : Callable Tryz.prog 81 := ⟨_, Tryz.func81, by kernel_rfl, by kernel_rfl⟩
theorem cl82 : Callable Tryz.prog 82 := ⟨_, Tryz.func82, by kernel_rfl, by kernel_rfl⟩
theorem cl83 : Callable Tryz.prog 83 := ⟨_, Tryz.func83, by kernel_rfl, by kernel_rfl⟩
theorem cl84 : Callable Tryz.prog 84 := ⟨_, Tryz.func84, by kernel_rfl, by kernel_rfl⟩
theorem cl85 : Callable Tryz.prog 85 := ⟨_, Tryz.func85, by kernel_rfl, by kernel_rfl⟩
theorem cl86 : Callable Tryz.prog 86 := ⟨_, Tryz.func86, by kernel_rfl, by kernel_rfl⟩
theorem cl87 : Callable Tryz.prog 87 := ⟨_, Tryz.func87, by kernel_rfl, by kernel_rfl⟩
theorem cl88 : Callable Tryz.prog 88 := ⟨_, Tryz.func88, by kernel_rfl, by kernel_rfl⟩
theorem cl89 : Callable Tryz.prog 89 := ⟨_, Tryz.func89, by kernel_rfl, by kernel_rfl⟩
theorem cl90 : Callable Tryz.prog 90 := ⟨_, Tryz.func90, by kernel_rfl, by kernel_rfl⟩
theorem cl91 : Callable Tryz.prog 91 := ⟨_, Tryz.func91, by kernel_rfl, by kernel_rfl⟩
theorem cl92 : Callable Tryz.prog 92 := ⟨_, Tryz.func92, by kernel_rfl, by kernel_rfl⟩
theorem cl93 : Callable Tryz.prog 93 := ⟨_, Tryz.func93, by kernel_rfl, by kernel_rfl⟩
theorem cl94 : Callable Tryz.prog 94 := ⟨_, Tryz.func94, by kernel_rfl, by kernel_rfl⟩
theorem cl95 : Callable Tryz.prog 95 := ⟨_, Tryz.func95, by kernel_rfl, by kernel_rfl⟩
theorem cl96 : Callable Tryz.prog 96 := ⟨_, Tryz.func96, by kernel_rfl, by kernel_rfl⟩
theorem cl97 : Callable Tryz.prog 97 := ⟨_, Tryz.func97, by kernel_rfl, by kernel_rfl⟩
theorem cl98 : Callable Tryz.prog 98 := ⟨_, Tryz.func98, by kernel_rfl, by kernel_rfl⟩
theorem cl99 : Callable Tryz.prog 99 := ⟨_, Tryz.func99, by kernel_rfl, by kernel_rfl⟩
theorem cl100 : Callable Tryz.prog 100 := ⟨_, Tryz.func100, by kernel_rfl, by kernel_rfl⟩
theorem cl101 : Callable Tryz.prog 101 := ⟨_, Tryz.func101, by kernel_rfl, by kernel_rfl⟩
theorem cl102 : Callable Tryz.prog 102 := ⟨_, Tryz.func102, by kernel_rfl, by kernel_rfl⟩
theorem cl103 : Callable Tryz.prog 103 := ⟨_, Tryz.func103, by kernel_rfl, by kernel_rfl⟩
theorem cl104 : Callable Tryz.prog 104 := ⟨_, Tryz.func104, by kernel_rfl, by kernel_rfl⟩
theorem cl105 : Callable Tryz.prog 105 := ⟨_, Tryz.func105, by kernel_rfl, by kernel_rfl⟩
theorem cl106 : Callable Tryz.prog 106 := ⟨_, Tryz.func106, by kernel_rfl, by kernel_rfl⟩
theorem cl107 : Callable Tryz.prog 107 := ⟨_, Tryz.func107, by kernel_rfl, by kernel_rfl⟩
theorem cl108 : Callable Tryz.prog 108 := ⟨_, Tryz.func108, by kernel_rfl, by kernel_rfl⟩
theorem cl109 : Callable Tryz.prog 109 := ⟨_, Tryz.func109, by kernel_rfl, by kernel_rfl⟩
theorem cl110 : Callable Tryz.prog 110 := ⟨_, Tryz.func110, by kernel_rfl, by kernel_rfl⟩
theorem cl111 : Callable Tryz.prog 111 := ⟨_, Tryz.func111, by kernel_rfl, by kernel_rfl⟩
theorem cl112 : Callable Tryz.prog 112 := ⟨_, Tryz.func112, by kernel_rfl, by kernel_rfl⟩
theorem cl113 : Callable Tryz.prog 113 := ⟨_, Tryz.func113, by kernel_rfl, by kernel_rfl⟩
theorem cl114 : Callable Tryz.prog 114 := ⟨_, Tryz.func114, by kernel_rfl, by kernel_rfl⟩
theorem cl115 : Callable Tryz.prog 115 := ⟨_, Tryz.func115, by kernel_rfl, by kernel_rfl⟩
theorem cl116 : Callable Tryz.prog 116 := ⟨_, Tryz.func116, by kernel_rfl, by kernel_rfl⟩
theorem cl117 : Callable Tryz.prog 117 := ⟨_, Tryz.func117, by kernel_rfl, by kernel_rfl⟩
theorem cl118 : Callable Tryz.prog 118 := ⟨_, Tryz.func118, by kernel_rfl, by kernel_rfl⟩
theorem cl119 : Callable Tryz.prog 119 := ⟨_, Tryz.func119, by kernel_rfl, by kernel_rfl⟩
theorem cl120 : Callable Tryz.prog 120 := ⟨_, Tryz.func120, by kernel_rfl, by kernel_rfl⟩
theorem cl121 : Callable Tryz.prog 121 := ⟨_, Tryz.func121, by kernel_rfl, by kernel_rfl⟩
theorem cl122 : Callable Tryz.prog 122 := ⟨_, Tryz.func122, by kernel_rfl, by kernel_rfl⟩
theorem cl123 : Callable Tryz.prog 123 := ⟨_, Tryz.func123, by kernel_rfl, by kernel_rfl⟩
theorem cl124 : Callable Tryz.prog 124 := ⟨_, Tryz.func124, by kernel_rfl, by kernel_rfl⟩
theorem cl125 : Callable Tryz.prog 125 := ⟨_, Tryz.func125, by kernel_rfl, by kernel_rfl⟩
theorem cl126 : Callable Tryz.prog 126 := ⟨_, Tryz.func126, by kernel_rfl, by kernel_rfl⟩
theorem cl127 : Callable Tryz.prog 127 := ⟨_, Tryz.func127, by kernel_rfl, by kernel_rfl⟩
theorem cl128 : Callable Tryz.prog 128 := ⟨_, Tryz.func128, by kernel_rfl, by kernel_rfl⟩
theorem cl129 : Callable Tryz.prog 129 := ⟨_, Tryz.func129, by kernel_rfl, by kernel_rfl⟩
theorem cl130 : Callable Tryz.prog 130 := ⟨_, Tryz.func130, by kernel_rfl, by kernel_rfl⟩
theorem cl131 : Callable Tryz.prog 131 := ⟨_, Tryz.func131, by kernel_rfl, by kernel_rfl⟩
theorem cl132 : Callable Tryz.prog 132 := ⟨_, Tryz.func132, by kernel_rfl, by kernel_rfl⟩
theorem cl133 : Callable Tryz.prog 133 := ⟨_, Tryz.func133, by kernel_rfl, by kernel_rfl⟩
theorem cl134 : Callable Tryz.prog 134 := ⟨_, Tryz.func134, by kernel_rfl, by kernel_rfl⟩
theorem cl135 : Callable Tryz.prog 135 := ⟨_, Tryz.func135, by kernel_rfl, by kernel_rfl⟩
theorem cl136 : Callable Tryz.prog 136 := ⟨_, Tryz.func136, by kernel_rfl, by kernel_rfl⟩
theorem cl137 : Callable Tryz.prog 137 := ⟨_, Tryz.func137, by kernel_rfl, by kernel_rfl⟩
theorem cl139 : Callable Tryz.prog 139 := ⟨_, Tryz.func139, by kernel_rfl, by kernel_rfl⟩
theorem cl140 : Callable Tryz.prog 140 := ⟨_, Tryz.func140, by kernel_rfl, by kernel_rfl⟩
theorem cl142 : Callable Tryz.prog 142 := ⟨_, Tryz.func142, by kernel_rfl, by kernel_rfl⟩
theorem cl163 : Callable Tryz.prog 163 := ⟨_, Tryz.func163, by kernel_rfl, by kernel_rfl⟩
end Go.Proofs.YtgpmjggdloldnaaGreatDoor
