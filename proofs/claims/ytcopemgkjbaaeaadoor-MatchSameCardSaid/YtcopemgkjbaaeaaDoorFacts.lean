/- MADE BY PROGRAM (facts.py): types and bodies. -/
import Derived.Test.YtcopemgkjbaaeaaDoorRng
namespace Go.Proofs.YtcopemgkjbaaeaaDoor
open Go.RowKit
theorem nagg_1 : NAgg Tryd.prog 1 := fun _ => by kernel_rfl
theorem size_1 (w : World) : (sizeOf 1).run Tryd.prog w = .ok 1 w := by kernel_rfl
theorem zero_1 (w : World) : (zeroValue 1).run Tryd.prog w = .ok (.nilFunc) w := by kernel_rfl
theorem nagg_2 : NAgg Tryd.prog 2 := fun _ => by kernel_rfl
theorem size_2 (w : World) : (sizeOf 2).run Tryd.prog w = .ok 1 w := by kernel_rfl
theorem zero_2 (w : World) : (zeroValue 2).run Tryd.prog w = .ok (.int .i64 0) w := by kernel_rfl
theorem nagg_3 : NAgg Tryd.prog 3 := fun _ => by kernel_rfl
theorem size_3 (w : World) : (sizeOf 3).run Tryd.prog w = .ok 1 w := by kernel_rfl
theorem zero_3 (w : World) : (zeroValue 3).run Tryd.prog w = .ok (.int .i64 0) w := by kernel_rfl
theorem nagg_4 : NAgg Tryd.prog 4 := fun _ => by kernel_rfl
theorem size_4 (w : World) : (sizeOf 4).run Tryd.prog w = .ok 1 w := by kernel_rfl
theorem zero_4 (w : World) : (zeroValue 4).run Tryd.prog w = .ok (.bool false) w := by kernel_rfl
theorem nagg_5 : NAgg Tryd.prog 5 := fun _ => by kernel_rfl
theorem size_5 (w : World) : (sizeOf 5).run Tryd.prog w = .ok 1 w := by kernel_rfl
theorem zero_5 (w : World) : (zeroValue 5).run Tryd.prog w = .ok (.int .u8 0) w := by kernel_rfl
theorem nagg_6 : NAgg Tryd.prog 6 := fun _ => by kernel_rfl
theorem size_6 (w : World) : (sizeOf 6).run Tryd.prog w = .ok 1 w := by kernel_rfl
theorem zero_6 (w : World) : (zeroValue 6).run Tryd.prog w = .ok (.int .u8 0) w := by kernel_rfl
theorem agg_7 : Agg Tryd.prog 7 4 := ⟨fun _ => by kernel_rfl, fun _ => by kernel_rfl⟩
theorem size_7 (w : World) : (sizeOf 7).run Tryd.prog w = .ok 4 w := by kernel_rfl
theorem zero_7 (w : World) : (zeroValue 7).run Tryd.prog w = .ok (.agg #[.int .i64 0, .int .i64 0, .bool false, .int .u8 0]) w := by kernel_rfl
theorem agg_8 : Agg Tryd.prog 8 4 := ⟨fun _ => by kernel_rfl, fun _ => by kernel_rfl⟩
theorem size_8 (w : World) : (sizeOf 8).run Tryd.prog w = .ok 4 w := by kernel_rfl
theorem zero_8 (w : World) : (zeroValue 8).run Tryd.prog w = .ok (.agg #[.int .i64 0, .int .i64 0, .bool false, .int .u8 0]) w := by kernel_rfl
theorem nagg_9 : NAgg Tryd.prog 9 := fun _ => by kernel_rfl
theorem size_9 (w : World) : (sizeOf 9).run Tryd.prog w = .ok 1 w := by kernel_rfl
theorem zero_9 (w : World) : (zeroValue 9).run Tryd.prog w = .ok (.string (⟨#[]⟩ : ByteArray)) w := by kernel_rfl
theorem nagg_10 : NAgg Tryd.prog 10 := fun _ => by kernel_rfl
theorem size_10 (w : World) : (sizeOf 10).run Tryd.prog w = .ok 1 w := by kernel_rfl
theorem zero_10 (w : World) : (zeroValue 10).run Tryd.prog w = .ok (.string (⟨#[]⟩ : ByteArray)) w := by kernel_rfl
theorem nagg_11 : NAgg Tryd.prog 11 := fun _ => by kernel_rfl
theorem size_11 (w : World) : (sizeOf 11).run Tryd.prog w = .ok 1 w := by kernel_rfl
theorem zero_11 (w : World) : (zeroValue 11).run Tryd.prog w = .ok (.string (⟨#[]⟩ : ByteArray)) w := by kernel_rfl
theorem nagg_12 : NAgg Tryd.prog 12 := fun _ => by kernel_rfl
theorem size_12 (w : World) : (sizeOf 12).run Tryd.prog w = .ok 1 w := by kernel_rfl
theorem zero_12 (w : World) : (zeroValue 12).run Tryd.prog w = .ok (.int .u64 0) w := by kernel_rfl
theorem agg_13 : Agg Tryd.prog 13 2 := ⟨fun _ => by kernel_rfl, fun _ => by kernel_rfl⟩
theorem size_13 (w : World) : (sizeOf 13).run Tryd.prog w = .ok 2 w := by kernel_rfl
theorem zero_13 (w : World) : (zeroValue 13).run Tryd.prog w = .ok (.agg #[.string (⟨#[]⟩ : ByteArray), .int .u64 0]) w := by kernel_rfl
theorem agg_14 : Agg Tryd.prog 14 2 := ⟨fun _ => by kernel_rfl, fun _ => by kernel_rfl⟩
theorem size_14 (w : World) : (sizeOf 14).run Tryd.prog w = .ok 2 w := by kernel_rfl
theorem zero_14 (w : World) : (zeroValue 14).run Tryd.prog w = .ok (.agg #[.string (⟨#[]⟩ : ByteArray), .int .u64 0]) w := by kernel_rfl
theorem nagg_15 : NAgg Tryd.prog 15 := fun _ => by kernel_rfl
theorem size_15 (w : World) : (sizeOf 15).run Tryd.prog w = .ok 1 w := by kernel_rfl
theorem zero_15 (w : World) : (zeroValue 15).run Tryd.prog w = .ok (.pointer none) w := by kernel_rfl
theorem nagg_16 : NAgg Tryd.prog 16 := fun _ => by kernel_rfl
theorem size_16 (w : World) : (sizeOf 16).run Tryd.prog w = .ok 1 w := by kernel_rfl
theorem zero_16 (w : World) : (zeroValue 16).run Tryd.prog w = .ok (.pointer none) w := by kernel_rfl
theorem nagg_17 : NAgg Tryd.prog 17 := fun _ => by kernel_rfl
theorem size_17 (w : World) : (sizeOf 17).run Tryd.prog w = .ok 1 w := by kernel_rfl
theorem zero_17 (w : World) : (zeroValue 17).run Tryd.prog w = .ok (.pointer none) w := by kernel_rfl
theorem agg_18 : Agg Tryd.prog 18 1 := ⟨fun _ => by kernel_rfl, fun _ => by kernel_rfl⟩
theorem size_18 (w : World) : (sizeOf 18).run Tryd.prog w = .ok 1 w := by kernel_rfl
theorem zero_18 (w : World) : (zeroValue 18).run Tryd.prog w = .ok (.agg #[.pointer none]) w := by kernel_rfl
theorem agg_19 : Agg Tryd.prog 19 1 := ⟨fun _ => by kernel_rfl, fun _ => by kernel_rfl⟩
theorem size_19 (w : World) : (sizeOf 19).run Tryd.prog w = .ok 1 w := by kernel_rfl
theorem zero_19 (w : World) : (zeroValue 19).run Tryd.prog w = .ok (.agg #[.pointer none]) w := by kernel_rfl
theorem nagg_21 : NAgg Tryd.prog 21 := fun _ => by kernel_rfl
theorem size_21 (w : World) : (sizeOf 21).run Tryd.prog w = .ok 1 w := by kernel_rfl
theorem zero_21 (w : World) : (zeroValue 21).run Tryd.prog w = .ok (.int .i32 0) w := by kernel_rfl
theorem nagg_22 : NAgg Tryd.prog 22 := fun _ => by kernel_rfl
theorem size_22 (w : World) : (sizeOf 22).run Tryd.prog w = .ok 1 w := by kernel_rfl
theorem zero_22 (w : World) : (zeroValue 22).run Tryd.prog w = .ok (.slice none 0 0) w := by kernel_rfl
theorem agg_23 : Agg Tryd.prog 23 3 := ⟨fun _ => by kernel_rfl, fun _ => by kernel_rfl⟩
theorem size_23 (w : World) : (sizeOf 23).run Tryd.prog w = .ok 3 w := by kernel_rfl
theorem zero_23 (w : World) : (zeroValue 23).run Tryd.prog w = .ok (.agg #[.string (⟨#[]⟩ : ByteArray), .string (⟨#[]⟩ : ByteArray), .bool false]) w := by kernel_rfl
theorem agg_24 : Agg Tryd.prog 24 3 := ⟨fun _ => by kernel_rfl, fun _ => by kernel_rfl⟩
theorem size_24 (w : World) : (sizeOf 24).run Tryd.prog w = .ok 3 w := by kernel_rfl
theorem zero_24 (w : World) : (zeroValue 24).run Tryd.prog w = .ok (.agg #[.string (⟨#[]⟩ : ByteArray), .string (⟨#[]⟩ : ByteArray), .bool false]) w := by kernel_rfl
theorem nagg_25 : NAgg Tryd.prog 25 := fun _ => by kernel_rfl
theorem size_25 (w : World) : (sizeOf 25).run Tryd.prog w = .ok 1 w := by kernel_rfl
theorem zero_25 (w : World) : (zeroValue 25).run Tryd.prog w = .ok (.nilFunc) w := by kernel_rfl
theorem nagg_26 : NAgg Tryd.prog 26 := fun _ => by kernel_rfl
theorem size_26 (w : World) : (sizeOf 26).run Tryd.prog w = .ok 1 w := by kernel_rfl
theorem zero_26 (w : World) : (zeroValue 26).run Tryd.prog w = .ok (.slice none 0 0) w := by kernel_rfl
theorem nagg_27 : NAgg Tryd.prog 27 := fun _ => by kernel_rfl
theorem size_27 (w : World) : (sizeOf 27).run Tryd.prog w = .ok 1 w := by kernel_rfl
theorem zero_27 (w : World) : (zeroValue 27).run Tryd.prog w = .ok (.nilFunc) w := by kernel_rfl
theorem nagg_28 : NAgg Tryd.prog 28 := fun _ => by kernel_rfl
theorem size_28 (w : World) : (sizeOf 28).run Tryd.prog w = .ok 1 w := by kernel_rfl
theorem zero_28 (w : World) : (zeroValue 28).run Tryd.prog w = .ok (.int .u64 0) w := by kernel_rfl
theorem agg_29 : Agg Tryd.prog 29 2 := ⟨fun _ => by kernel_rfl, fun _ => by kernel_rfl⟩
theorem size_29 (w : World) : (sizeOf 29).run Tryd.prog w = .ok 2 w := by kernel_rfl
theorem zero_29 (w : World) : (zeroValue 29).run Tryd.prog w = .ok (.agg #[.int .u64 0, .int .u64 0]) w := by kernel_rfl
theorem agg_30 : Agg Tryd.prog 30 2 := ⟨fun _ => by kernel_rfl, fun _ => by kernel_rfl⟩
theorem size_30 (w : World) : (sizeOf 30).run Tryd.prog w = .ok 2 w := by kernel_rfl
theorem zero_30 (w : World) : (zeroValue 30).run Tryd.prog w = .ok (.agg #[.int .u64 0, .int .u64 0]) w := by kernel_rfl
theorem agg_31 : Agg Tryd.prog 31 3 := ⟨fun _ => by kernel_rfl, fun _ => by kernel_rfl⟩
theorem size_31 (w : World) : (sizeOf 31).run Tryd.prog w = .ok 3 w := by kernel_rfl
theorem zero_31 (w : World) : (zeroValue 31).run Tryd.prog w = .ok (.agg #[.int .i64 0, .int .u64 0, .int .u64 0]) w := by kernel_rfl
theorem agg_32 : Agg Tryd.prog 32 3 := ⟨fun _ => by kernel_rfl, fun _ => by kernel_rfl⟩
theorem size_32 (w : World) : (sizeOf 32).run Tryd.prog w = .ok 3 w := by kernel_rfl
theorem zero_32 (w : World) : (zeroValue 32).run Tryd.prog w = .ok (.agg #[.int .i64 0, .int .u64 0, .int .u64 0]) w := by kernel_rfl
theorem agg_33 : Agg Tryd.prog 33 8 := ⟨fun _ => by kernel_rfl, fun _ => by kernel_rfl⟩
theorem size_33 (w : World) : (sizeOf 33).run Tryd.prog w = .ok 8 w := by kernel_rfl
theorem zero_33 (w : World) : (zeroValue 33).run Tryd.prog w = .ok (.agg #[.int .i64 0, .string (⟨#[]⟩ : ByteArray), .string (⟨#[]⟩ : ByteArray), .bool false, .int .i64 0, .int .u64 0, .int .u64 0, .slice none 0 0]) w := by kernel_rfl
theorem agg_34 : Agg Tryd.prog 34 8 := ⟨fun _ => by kernel_rfl, fun _ => by kernel_rfl⟩
theorem size_34 (w : World) : (sizeOf 34).run Tryd.prog w = .ok 8 w := by kernel_rfl
theorem zero_34 (w : World) : (zeroValue 34).run Tryd.prog w = .ok (.agg #[.int .i64 0, .string (⟨#[]⟩ : ByteArray), .string (⟨#[]⟩ : ByteArray), .bool false, .int .i64 0, .int .u64 0, .int .u64 0, .slice none 0 0]) w := by kernel_rfl
theorem nagg_35 : NAgg Tryd.prog 35 := fun _ => by kernel_rfl
theorem size_35 (w : World) : (sizeOf 35).run Tryd.prog w = .ok 1 w := by kernel_rfl
theorem zero_35 (w : World) : (zeroValue 35).run Tryd.prog w = .ok (.nilFunc) w := by kernel_rfl
theorem nagg_36 : NAgg Tryd.prog 36 := fun _ => by kernel_rfl
theorem size_36 (w : World) : (sizeOf 36).run Tryd.prog w = .ok 1 w := by kernel_rfl
theorem zero_36 (w : World) : (zeroValue 36).run Tryd.prog w = .ok (.pointer none) w := by kernel_rfl
theorem nagg_37 : NAgg Tryd.prog 37 := fun _ => by kernel_rfl
theorem size_37 (w : World) : (sizeOf 37).run Tryd.prog w = .ok 1 w := by kernel_rfl
theorem zero_37 (w : World) : (zeroValue 37).run Tryd.prog w = .ok (.pointer none) w := by kernel_rfl
theorem agg_38 : Agg Tryd.prog 38 2 := ⟨fun _ => by kernel_rfl, fun _ => by kernel_rfl⟩
theorem size_38 (w : World) : (sizeOf 38).run Tryd.prog w = .ok 2 w := by kernel_rfl
theorem zero_38 (w : World) : (zeroValue 38).run Tryd.prog w = .ok (.agg #[.pointer none, .pointer none]) w := by kernel_rfl
theorem agg_39 : Agg Tryd.prog 39 2 := ⟨fun _ => by kernel_rfl, fun _ => by kernel_rfl⟩
theorem size_39 (w : World) : (sizeOf 39).run Tryd.prog w = .ok 2 w := by kernel_rfl
theorem zero_39 (w : World) : (zeroValue 39).run Tryd.prog w = .ok (.agg #[.pointer none, .pointer none]) w := by kernel_rfl
theorem nagg_41 : NAgg Tryd.prog 41 := fun _ => by kernel_rfl
theorem size_41 (w : World) : (sizeOf 41).run Tryd.prog w = .ok 1 w := by kernel_rfl
theorem zero_41 (w : World) : (zeroValue 41).run Tryd.prog w = .ok (.nilFunc) w := by kernel_rfl
theorem nagg_42 : NAgg Tryd.prog 42 := fun _ => by kernel_rfl
theorem size_42 (w : World) : (sizeOf 42).run Tryd.prog w = .ok 1 w := by kernel_rfl
theorem zero_42 (w : World) : (zeroValue 42).run Tryd.prog w = .ok (.int .i64 0) w := by kernel_rfl
theorem nagg_44 : NAgg Tryd.prog 44 := fun _ => by kernel_rfl
theorem size_44 (w : World) : (sizeOf 44).run Tryd.prog w = .ok 1 w := by kernel_rfl
theorem zero_44 (w : World) : (zeroValue 44).run Tryd.prog w = .ok (.nilFunc) w := by kernel_rfl
theorem nagg_45 : NAgg Tryd.prog 45 := fun _ => by kernel_rfl
theorem size_45 (w : World) : (sizeOf 45).run Tryd.prog w = .ok 1 w := by kernel_rfl
theorem zero_45 (w : World) : (zeroValue 45).run Tryd.prog w = .ok (.nilFunc) w := by kernel_rfl
theorem nagg_47 : NAgg Tryd.prog 47 := fun _ => by kernel_rfl
theorem size_47 (w : World) : (sizeOf 47).run Tryd.prog w = .ok 1 w := by kernel_rfl
theorem zero_47 (w : World) : (zeroValue 47).run Tryd.prog w = .ok (.nilFunc) w := by kernel_rfl
theorem nagg_48 : NAgg Tryd.prog 48 := fun _ => by kernel_rfl
theorem size_48 (w : World) : (sizeOf 48).run Tryd.prog w = .ok 1 w := by kernel_rfl
theorem zero_48 (w : World) : (zeroValue 48).run Tryd.prog w = .ok (.nilFunc) w := by kernel_rfl
theorem nagg_50 : NAgg Tryd.prog 50 := fun _ => by kernel_rfl
theorem size_50 (w : World) : (sizeOf 50).run Tryd.prog w = .ok 1 w := by kernel_rfl
theorem zero_50 (w : World) : (zeroValue 50).run Tryd.prog w = .ok (.nilFunc) w := by kernel_rfl
theorem agg_51 : Agg Tryd.prog 51 2 := ⟨fun _ => by kernel_rfl, fun _ => by kernel_rfl⟩
theorem size_51 (w : World) : (sizeOf 51).run Tryd.prog w = .ok 2 w := by kernel_rfl
theorem zero_51 (w : World) : (zeroValue 51).run Tryd.prog w = .ok (.agg #[.int .i64 0, .int .i64 0]) w := by kernel_rfl
theorem agg_52 : Agg Tryd.prog 52 2 := ⟨fun _ => by kernel_rfl, fun _ => by kernel_rfl⟩
theorem size_52 (w : World) : (sizeOf 52).run Tryd.prog w = .ok 2 w := by kernel_rfl
theorem zero_52 (w : World) : (zeroValue 52).run Tryd.prog w = .ok (.agg #[.int .i64 0, .int .i64 0]) w := by kernel_rfl
theorem nagg_54 : NAgg Tryd.prog 54 := fun _ => by kernel_rfl
theorem size_54 (w : World) : (sizeOf 54).run Tryd.prog w = .ok 1 w := by kernel_rfl
theorem zero_54 (w : World) : (zeroValue 54).run Tryd.prog w = .ok (.nilFunc) w := by kernel_rfl
theorem nagg_55 : NAgg Tryd.prog 55 := fun _ => by kernel_rfl
theorem size_55 (w : World) : (sizeOf 55).run Tryd.prog w = .ok 1 w := by kernel_rfl
theorem zero_55 (w : World) : (zeroValue 55).run Tryd.prog w = .ok (.nilFunc) w := by kernel_rfl
theorem nagg_56 : NAgg Tryd.prog 56 := fun _ => by kernel_rfl
theorem size_56 (w : World) : (sizeOf 56).run Tryd.prog w = .ok 1 w := by kernel_rfl
theorem zero_56 (w : World) : (zeroValue 56).run Tryd.prog w = .ok (.nilFunc) w := by kernel_rfl
theorem nagg_57 : NAgg Tryd.prog 57 := fun _ => by kernel_rfl
theorem size_57 (w : World) : (sizeOf 57).run Tryd.prog w = .ok 1 w := by kernel_rfl
theorem zero_57 (w : World) : (zeroValue 57).run Tryd.prog w = .ok (.nilFunc) w := by kernel_rfl
theorem agg_58 : Agg Tryd.prog 58 2 := ⟨fun _ => by kernel_rfl, fun _ => by kernel_rfl⟩
theorem size_58 (w : World) : (sizeOf 58).run Tryd.prog w = .ok 2 w := by kernel_rfl
theorem zero_58 (w : World) : (zeroValue 58).run Tryd.prog w = .ok (.agg #[.int .i64 0, .int .i64 0]) w := by kernel_rfl
theorem agg_59 : Agg Tryd.prog 59 2 := ⟨fun _ => by kernel_rfl, fun _ => by kernel_rfl⟩
theorem size_59 (w : World) : (sizeOf 59).run Tryd.prog w = .ok 2 w := by kernel_rfl
theorem zero_59 (w : World) : (zeroValue 59).run Tryd.prog w = .ok (.agg #[.int .i64 0, .int .i64 0]) w := by kernel_rfl
theorem agg_60 : Agg Tryd.prog 60 5 := ⟨fun _ => by kernel_rfl, fun _ => by kernel_rfl⟩
theorem size_60 (w : World) : (sizeOf 60).run Tryd.prog w = .ok 5 w := by kernel_rfl
theorem zero_60 (w : World) : (zeroValue 60).run Tryd.prog w = .ok (.agg #[.string (⟨#[]⟩ : ByteArray), .int .i64 0, .int .i64 0, .string (⟨#[]⟩ : ByteArray), .bool false]) w := by kernel_rfl
theorem agg_61 : Agg Tryd.prog 61 5 := ⟨fun _ => by kernel_rfl, fun _ => by kernel_rfl⟩
theorem size_61 (w : World) : (sizeOf 61).run Tryd.prog w = .ok 5 w := by kernel_rfl
theorem zero_61 (w : World) : (zeroValue 61).run Tryd.prog w = .ok (.agg #[.string (⟨#[]⟩ : ByteArray), .int .i64 0, .int .i64 0, .string (⟨#[]⟩ : ByteArray), .bool false]) w := by kernel_rfl
theorem nagg_62 : NAgg Tryd.prog 62 := fun _ => by kernel_rfl
theorem size_62 (w : World) : (sizeOf 62).run Tryd.prog w = .ok 1 w := by kernel_rfl
theorem zero_62 (w : World) : (zeroValue 62).run Tryd.prog w = .ok (.nilFunc) w := by kernel_rfl
theorem nagg_63 : NAgg Tryd.prog 63 := fun _ => by kernel_rfl
theorem size_63 (w : World) : (sizeOf 63).run Tryd.prog w = .ok 1 w := by kernel_rfl
theorem zero_63 (w : World) : (zeroValue 63).run Tryd.prog w = .ok (.nilFunc) w := by kernel_rfl
theorem nagg_65 : NAgg Tryd.prog 65 := fun _ => by kernel_rfl
theorem size_65 (w : World) : (sizeOf 65).run Tryd.prog w = .ok 1 w := by kernel_rfl
theorem zero_65 (w : World) : (zeroValue 65).run Tryd.prog w = .ok (.nilFunc) w := by kernel_rfl
theorem nagg_67 : NAgg Tryd.prog 67 := fun _ => by kernel_rfl
theorem size_67 (w : World) : (sizeOf 67).run Tryd.prog w = .ok 1 w := by kernel_rfl
theorem zero_67 (w : World) : (zeroValue 67).run Tryd.prog w = .ok (.nilFunc) w := by kernel_rfl
theorem nagg_69 : NAgg Tryd.prog 69 := fun _ => by kernel_rfl
theorem size_69 (w : World) : (sizeOf 69).run Tryd.prog w = .ok 1 w := by kernel_rfl
theorem zero_69 (w : World) : (zeroValue 69).run Tryd.prog w = .ok (.nilFunc) w := by kernel_rfl
theorem nagg_70 : NAgg Tryd.prog 70 := fun _ => by kernel_rfl
theorem size_70 (w : World) : (sizeOf 70).run Tryd.prog w = .ok 1 w := by kernel_rfl
theorem zero_70 (w : World) : (zeroValue 70).run Tryd.prog w = .ok (.nilFunc) w := by kernel_rfl
theorem nagg_71 : NAgg Tryd.prog 71 := fun _ => by kernel_rfl
theorem size_71 (w : World) : (sizeOf 71).run Tryd.prog w = .ok 1 w := by kernel_rfl
theorem zero_71 (w : World) : (zeroValue 71).run Tryd.prog w = .ok (.nilFunc) w := by kernel_rfl
theorem nagg_73 : NAgg Tryd.prog 73 := fun _ => by kernel_rfl
theorem size_73 (w : World) : (sizeOf 73).run Tryd.prog w = .ok 1 w := by kernel_rfl
theorem zero_73 (w : World) : (zeroValue 73).run Tryd.prog w = .ok (.nilFunc) w := by kernel_rfl
theorem nagg_74 : NAgg Tryd.prog 74 := fun _ => by kernel_rfl
theorem size_74 (w : World) : (sizeOf 74).run Tryd.prog w = .ok 1 w := by kernel_rfl
theorem zero_74 (w : World) : (zeroValue 74).run Tryd.prog w = .ok (.slice none 0 0) w := by kernel_rfl
theorem nagg_76 : NAgg Tryd.prog 76 := fun _ => by kernel_rfl
theorem size_76 (w : World) : (sizeOf 76).run Tryd.prog w = .ok 1 w := by kernel_rfl
theorem zero_76 (w : World) : (zeroValue 76).run Tryd.prog w = .ok (.nilFunc) w := by kernel_rfl
theorem nagg_77 : NAgg Tryd.prog 77 := fun _ => by kernel_rfl
theorem size_77 (w : World) : (sizeOf 77).run Tryd.prog w = .ok 1 w := by kernel_rfl
theorem zero_77 (w : World) : (zeroValue 77).run Tryd.prog w = .ok (.nilFunc) w := by kernel_rfl
theorem nagg_78 : NAgg Tryd.prog 78 := fun _ => by kernel_rfl
theorem size_78 (w : World) : (sizeOf 78).run Tryd.prog w = .ok 1 w := by kernel_rfl
theorem zero_78 (w : World) : (zeroValue 78).run Tryd.prog w = .ok (.nilFunc) w := by kernel_rfl
theorem nagg_79 : NAgg Tryd.prog 79 := fun _ => by kernel_rfl
theorem size_79 (w : World) : (sizeOf 79).run Tryd.prog w = .ok 1 w := by kernel_rfl
theorem zero_79 (w : World) : (zeroValue 79).run Tryd.prog w = .ok (.nilFunc) w := by kernel_rfl
theorem nagg_80 : NAgg Tryd.prog 80 := fun _ => by kernel_rfl
theorem size_80 (w : World) : (sizeOf 80).run Tryd.prog w = .ok 1 w := by kernel_rfl
theorem zero_80 (w : World) : (zeroValue 80).run Tryd.prog w = .ok (.nilFunc) w := by kernel_rfl
theorem nagg_81 : NAgg Tryd.prog 81 := fun _ => by kernel_rfl
theorem size_81 (w : World) : (sizeOf 81).run Tryd.prog w = .ok 1 w := by kernel_rfl
theorem zero_81 (w : World) : (zeroValue 81).run Tryd.prog w = .ok (.nilFunc) w := by kernel_rfl
theorem nagg_82 : NAgg Tryd.prog 82 := fun _ => by kernel_rfl
theorem size_82 (w : World) : (sizeOf 82).run Tryd.prog w = .ok 1 w := by kernel_rfl
theorem zero_82 (w : World) : (zeroValue 82).run Tryd.prog w = .ok (.slice none 0 0) w := by kernel_rfl
theorem nagg_83 : NAgg Tryd.prog 83 := fun _ => by kernel_rfl
theorem size_83 (w : World) : (sizeOf 83).run Tryd.prog w = .ok 1 w := by kernel_rfl
theorem zero_83 (w : World) : (zeroValue 83).run Tryd.prog w = .ok (.nilFunc) w := by kernel_rfl
theorem nagg_84 : NAgg Tryd.prog 84 := fun _ => by kernel_rfl
theorem size_84 (w : World) : (sizeOf 84).run Tryd.prog w = .ok 1 w := by kernel_rfl
theorem zero_84 (w : World) : (zeroValue 84).run Tryd.prog w = .ok (.slice none 0 0) w := by kernel_rfl
theorem nagg_86 : NAgg Tryd.prog 86 := fun _ => by kernel_rfl
theorem size_86 (w : World) : (sizeOf 86).run Tryd.prog w = .ok 1 w := by kernel_rfl
theorem zero_86 (w : World) : (zeroValue 86).run Tryd.prog w = .ok (.nilFunc) w := by kernel_rfl
theorem nagg_87 : NAgg Tryd.prog 87 := fun _ => by kernel_rfl
theorem size_87 (w : World) : (sizeOf 87).run Tryd.prog w = .ok 1 w := by kernel_rfl
theorem zero_87 (w : World) : (zeroValue 87).run Tryd.prog w = .ok (.nilFunc) w := by kernel_rfl
theorem nagg_88 : NAgg Tryd.prog 88 := fun _ => by kernel_rfl
theorem size_88 (w : World) : (sizeOf 88).run Tryd.prog w = .ok 1 w := by kernel_rfl
theorem zero_88 (w : World) : (zeroValue 88).run Tryd.prog w = .ok (.nilFunc) w := by kernel_rfl
theorem nagg_89 : NAgg Tryd.prog 89 := fun _ => by kernel_rfl
theorem size_89 (w : World) : (sizeOf 89).run Tryd.prog w = .ok 1 w := by kernel_rfl
theorem zero_89 (w : World) : (zeroValue 89).run Tryd.prog w = .ok (.nilFunc) w := by kernel_rfl
theorem nagg_90 : NAgg Tryd.prog 90 := fun _ => by kernel_rfl
theorem size_90 (w : World) : (sizeOf 90).run Tryd.prog w = .ok 1 w := by kernel_rfl
theorem zero_90 (w : World) : (zeroValue 90).run Tryd.prog w = .ok (.slice none 0 0) w := by kernel_rfl
theorem nagg_91 : NAgg Tryd.prog 91 := fun _ => by kernel_rfl
theorem size_91 (w : World) : (sizeOf 91).run Tryd.prog w = .ok 1 w := by kernel_rfl
theorem zero_91 (w : World) : (zeroValue 91).run Tryd.prog w = .ok (.slice none 0 0) w := by kernel_rfl
theorem agg_92 : Agg Tryd.prog 92 11 := ⟨fun _ => by kernel_rfl, fun _ => by kernel_rfl⟩
theorem size_92 (w : World) : (sizeOf 92).run Tryd.prog w = .ok 11 w := by kernel_rfl
theorem zero_92 (w : World) : (zeroValue 92).run Tryd.prog w = .ok (.agg #[.int .i64 0, .string (⟨#[]⟩ : ByteArray), .string (⟨#[]⟩ : ByteArray), .string (⟨#[]⟩ : ByteArray), .int .i64 0, .int .i64 0, .string (⟨#[]⟩ : ByteArray), .bool false, .string (⟨#[]⟩ : ByteArray), .string (⟨#[]⟩ : ByteArray), .bool false]) w := by kernel_rfl
theorem agg_93 : Agg Tryd.prog 93 11 := ⟨fun _ => by kernel_rfl, fun _ => by kernel_rfl⟩
theorem size_93 (w : World) : (sizeOf 93).run Tryd.prog w = .ok 11 w := by kernel_rfl
theorem zero_93 (w : World) : (zeroValue 93).run Tryd.prog w = .ok (.agg #[.int .i64 0, .string (⟨#[]⟩ : ByteArray), .string (⟨#[]⟩ : ByteArray), .string (⟨#[]⟩ : ByteArray), .int .i64 0, .int .i64 0, .string (⟨#[]⟩ : ByteArray), .bool false, .string (⟨#[]⟩ : ByteArray), .string (⟨#[]⟩ : ByteArray), .bool false]) w := by kernel_rfl
theorem nagg_94 : NAgg Tryd.prog 94 := fun _ => by kernel_rfl
theorem size_94 (w : World) : (sizeOf 94).run Tryd.prog w = .ok 1 w := by kernel_rfl
theorem zero_94 (w : World) : (zeroValue 94).run Tryd.prog w = .ok (.nilFunc) w := by kernel_rfl
theorem nagg_96 : NAgg Tryd.prog 96 := fun _ => by kernel_rfl
theorem size_96 (w : World) : (sizeOf 96).run Tryd.prog w = .ok 1 w := by kernel_rfl
theorem zero_96 (w : World) : (zeroValue 96).run Tryd.prog w = .ok (.nilFunc) w := by kernel_rfl
theorem nagg_97 : NAgg Tryd.prog 97 := fun _ => by kernel_rfl
theorem size_97 (w : World) : (sizeOf 97).run Tryd.prog w = .ok 1 w := by kernel_rfl
theorem zero_97 (w : World) : (zeroValue 97).run Tryd.prog w = .ok (.nilFunc) w := by kernel_rfl
theorem nagg_98 : NAgg Tryd.prog 98 := fun _ => by kernel_rfl
theorem size_98 (w : World) : (sizeOf 98).run Tryd.prog w = .ok 1 w := by kernel_rfl
theorem zero_98 (w : World) : (zeroValue 98).run Tryd.prog w = .ok (.nilFunc) w := by kernel_rfl
theorem nagg_99 : NAgg Tryd.prog 99 := fun _ => by kernel_rfl
theorem size_99 (w : World) : (sizeOf 99).run Tryd.prog w = .ok 1 w := by kernel_rfl
theorem zero_99 (w : World) : (zeroValue 99).run Tryd.prog w = .ok (.slice none 0 0) w := by kernel_rfl
theorem nagg_100 : NAgg Tryd.prog 100 := fun _ => by kernel_rfl
theorem size_100 (w : World) : (sizeOf 100).run Tryd.prog w = .ok 1 w := by kernel_rfl
theorem zero_100 (w : World) : (zeroValue 100).run Tryd.prog w = .ok (.nilFunc) w := by kernel_rfl
theorem nagg_102 : NAgg Tryd.prog 102 := fun _ => by kernel_rfl
theorem size_102 (w : World) : (sizeOf 102).run Tryd.prog w = .ok 1 w := by kernel_rfl
theorem zero_102 (w : World) : (zeroValue 102).run Tryd.prog w = .ok (.nilFunc) w := by kernel_rfl
theorem nagg_103 : NAgg Tryd.prog 103 := fun _ => by kernel_rfl
theorem size_103 (w : World) : (sizeOf 103).run Tryd.prog w = .ok 1 w := by kernel_rfl
theorem zero_103 (w : World) : (zeroValue 103).run Tryd.prog w = .ok (.nilFunc) w := by kernel_rfl
theorem nagg_104 : NAgg Tryd.prog 104 := fun _ => by kernel_rfl
theorem size_104 (w : World) : (sizeOf 104).run Tryd.prog w = .ok 1 w := by kernel_rfl
theorem zero_104 (w : World) : (zeroValue 104).run Tryd.prog w = .ok (.nilFunc) w := by kernel_rfl
theorem nagg_105 : NAgg Tryd.prog 105 := fun _ => by kernel_rfl
theorem size_105 (w : World) : (sizeOf 105).run Tryd.prog w = .ok 1 w := by kernel_rfl
theorem zero_105 (w : World) : (zeroValue 105).run Tryd.prog w = .ok (.nilFunc) w := by kernel_rfl
theorem nagg_106 : NAgg Tryd.prog 106 := fun _ => by kernel_rfl
theorem size_106 (w : World) : (sizeOf 106).run Tryd.prog w = .ok 1 w := by kernel_rfl
theorem zero_106 (w : World) : (zeroValue 106).run Tryd.prog w = .ok (.nilFunc) w := by kernel_rfl
theorem nagg_107 : NAgg Tryd.prog 107 := fun _ => by kernel_rfl
theorem size_107 (w : World) : (sizeOf 107).run Tryd.prog w = .ok 1 w := by kernel_rfl
theorem zero_107 (w : World) : (zeroValue 107).run Tryd.prog w = .ok (.nilFunc) w := by kernel_rfl
theorem nagg_108 : NAgg Tryd.prog 108 := fun _ => by kernel_rfl
theorem size_108 (w : World) : (sizeOf 108).run Tryd.prog w = .ok 1 w := by kernel_rfl
theorem zero_108 (w : World) : (zeroValue 108).run Tryd.prog w = .ok (.nilFunc) w := by kernel_rfl
theorem nagg_110 : NAgg Tryd.prog 110 := fun _ => by kernel_rfl
theorem size_110 (w : World) : (sizeOf 110).run Tryd.prog w = .ok 1 w := by kernel_rfl
theorem zero_110 (w : World) : (zeroValue 110).run Tryd.prog w = .ok (.nilFunc) w := by kernel_rfl
theorem nagg_111 : NAgg Tryd.prog 111 := fun _ => by kernel_rfl
theorem size_111 (w : World) : (sizeOf 111).run Tryd.prog w = .ok 1 w := by kernel_rfl
theorem zero_111 (w : World) : (zeroValue 111).run Tryd.prog w = .ok (.nilFunc) w := by kernel_rfl
theorem nagg_112 : NAgg Tryd.prog 112 := fun _ => by kernel_rfl
theorem size_112 (w : World) : (sizeOf 112).run Tryd.prog w = .ok 1 w := by kernel_rfl
theorem zero_112 (w : World) : (zeroValue 112).run Tryd.prog w = .ok (.slice none 0 0) w := by kernel_rfl
theorem nagg_113 : NAgg Tryd.prog 113 := fun _ => by kernel_rfl
theorem size_113 (w : World) : (sizeOf 113).run Tryd.prog w = .ok 1 w := by kernel_rfl
theorem zero_113 (w : World) : (zeroValue 113).run Tryd.prog w = .ok (.nilFunc) w := by kernel_rfl
theorem nagg_114 : NAgg Tryd.prog 114 := fun _ => by kernel_rfl
theorem size_114 (w : World) : (sizeOf 114).run Tryd.prog w = .ok 1 w := by kernel_rfl
theorem zero_114 (w : World) : (zeroValue 114).run Tryd.prog w = .ok (.nilFunc) w := by kernel_rfl
theorem agg_115 : Agg Tryd.prog 115 10 := ⟨fun _ => by kernel_rfl, fun _ => by kernel_rfl⟩
theorem size_115 (w : World) : (sizeOf 115).run Tryd.prog w = .ok 10 w := by kernel_rfl
theorem zero_115 (w : World) : (zeroValue 115).run Tryd.prog w = .ok (.agg #[.string (⟨#[]⟩ : ByteArray), .int .i64 0, .int .i64 0, .string (⟨#[]⟩ : ByteArray), .bool false, .string (⟨#[]⟩ : ByteArray), .int .i64 0, .int .i64 0, .string (⟨#[]⟩ : ByteArray), .bool false]) w := by kernel_rfl
theorem agg_116 : Agg Tryd.prog 116 10 := ⟨fun _ => by kernel_rfl, fun _ => by kernel_rfl⟩
theorem size_116 (w : World) : (sizeOf 116).run Tryd.prog w = .ok 10 w := by kernel_rfl
theorem zero_116 (w : World) : (zeroValue 116).run Tryd.prog w = .ok (.agg #[.string (⟨#[]⟩ : ByteArray), .int .i64 0, .int .i64 0, .string (⟨#[]⟩ : ByteArray), .bool false, .string (⟨#[]⟩ : ByteArray), .int .i64 0, .int .i64 0, .string (⟨#[]⟩ : ByteArray), .bool false]) w := by kernel_rfl
theorem nagg_117 : NAgg Tryd.prog 117 := fun _ => by kernel_rfl
theorem size_117 (w : World) : (sizeOf 117).run Tryd.prog w = .ok 1 w := by kernel_rfl
theorem zero_117 (w : World) : (zeroValue 117).run Tryd.prog w = .ok (.nilFunc) w := by kernel_rfl
theorem nagg_118 : NAgg Tryd.prog 118 := fun _ => by kernel_rfl
theorem size_118 (w : World) : (sizeOf 118).run Tryd.prog w = .ok 1 w := by kernel_rfl
theorem zero_118 (w : World) : (zeroValue 118).run Tryd.prog w = .ok (.nilFunc) w := by kernel_rfl
theorem nagg_119 : NAgg Tryd.prog 119 := fun _ => by kernel_rfl
theorem size_119 (w : World) : (sizeOf 119).run Tryd.prog w = .ok 1 w := by kernel_rfl
theorem zero_119 (w : World) : (zeroValue 119).run Tryd.prog w = .ok (.nilFunc) w := by kernel_rfl
theorem nagg_121 : NAgg Tryd.prog 121 := fun _ => by kernel_rfl
theorem size_121 (w : World) : (sizeOf 121).run Tryd.prog w = .ok 1 w := by kernel_rfl
theorem zero_121 (w : World) : (zeroValue 121).run Tryd.prog w = .ok (.nilFunc) w := by kernel_rfl
theorem nagg_122 : NAgg Tryd.prog 122 := fun _ => by kernel_rfl
theorem size_122 (w : World) : (sizeOf 122).run Tryd.prog w = .ok 1 w := by kernel_rfl
theorem zero_122 (w : World) : (zeroValue 122).run Tryd.prog w = .ok (.nilFunc) w := by kernel_rfl
theorem nagg_123 : NAgg Tryd.prog 123 := fun _ => by kernel_rfl
theorem size_123 (w : World) : (sizeOf 123).run Tryd.prog w = .ok 1 w := by kernel_rfl
theorem zero_123 (w : World) : (zeroValue 123).run Tryd.prog w = .ok (.nilFunc) w := by kernel_rfl
theorem nagg_124 : NAgg Tryd.prog 124 := fun _ => by kernel_rfl
theorem size_124 (w : World) : (sizeOf 124).run Tryd.prog w = .ok 1 w := by kernel_rfl
theorem zero_124 (w : World) : (zeroValue 124).run Tryd.prog w = .ok (.nilFunc) w := by kernel_rfl
theorem nagg_126 : NAgg Tryd.prog 126 := fun _ => by kernel_rfl
theorem size_126 (w : World) : (sizeOf 126).run Tryd.prog w = .ok 1 w := by kernel_rfl
theorem zero_126 (w : World) : (zeroValue 126).run Tryd.prog w = .ok (.pointer none) w := by kernel_rfl
theorem nagg_127 : NAgg Tryd.prog 127 := fun _ => by kernel_rfl
theorem size_127 (w : World) : (sizeOf 127).run Tryd.prog w = .ok 1 w := by kernel_rfl
theorem zero_127 (w : World) : (zeroValue 127).run Tryd.prog w = .ok (.pointer none) w := by kernel_rfl
theorem agg_128 : Agg Tryd.prog 128 4 := ⟨fun _ => by kernel_rfl, fun _ => by kernel_rfl⟩
theorem size_128 (w : World) : (sizeOf 128).run Tryd.prog w = .ok 4 w := by kernel_rfl
theorem zero_128 (w : World) : (zeroValue 128).run Tryd.prog w = .ok (.agg #[.int .i64 0, .int .i64 0, .pointer none, .pointer none]) w := by kernel_rfl
theorem agg_129 : Agg Tryd.prog 129 4 := ⟨fun _ => by kernel_rfl, fun _ => by kernel_rfl⟩
theorem size_129 (w : World) : (sizeOf 129).run Tryd.prog w = .ok 4 w := by kernel_rfl
theorem zero_129 (w : World) : (zeroValue 129).run Tryd.prog w = .ok (.agg #[.int .i64 0, .int .i64 0, .pointer none, .pointer none]) w := by kernel_rfl
theorem nagg_130 : NAgg Tryd.prog 130 := fun _ => by kernel_rfl
theorem size_130 (w : World) : (sizeOf 130).run Tryd.prog w = .ok 1 w := by kernel_rfl
theorem zero_130 (w : World) : (zeroValue 130).run Tryd.prog w = .ok (.nilFunc) w := by kernel_rfl
theorem nagg_131 : NAgg Tryd.prog 131 := fun _ => by kernel_rfl
theorem size_131 (w : World) : (sizeOf 131).run Tryd.prog w = .ok 1 w := by kernel_rfl
theorem zero_131 (w : World) : (zeroValue 131).run Tryd.prog w = .ok (.nilFunc) w := by kernel_rfl
theorem nagg_132 : NAgg Tryd.prog 132 := fun _ => by kernel_rfl
theorem size_132 (w : World) : (sizeOf 132).run Tryd.prog w = .ok 1 w := by kernel_rfl
theorem zero_132 (w : World) : (zeroValue 132).run Tryd.prog w = .ok (.nilFunc) w := by kernel_rfl
theorem nagg_134 : NAgg Tryd.prog 134 := fun _ => by kernel_rfl
theorem size_134 (w : World) : (sizeOf 134).run Tryd.prog w = .ok 1 w := by kernel_rfl
theorem zero_134 (w : World) : (zeroValue 134).run Tryd.prog w = .ok (.nilFunc) w := by kernel_rfl
theorem nagg_135 : NAgg Tryd.prog 135 := fun _ => by kernel_rfl
theorem size_135 (w : World) : (sizeOf 135).run Tryd.prog w = .ok 1 w := by kernel_rfl
theorem zero_135 (w : World) : (zeroValue 135).run Tryd.prog w = .ok (.nilFunc) w := by kernel_rfl
theorem nagg_136 : NAgg Tryd.prog 136 := fun _ => by kernel_rfl
theorem size_136 (w : World) : (sizeOf 136).run Tryd.prog w = .ok 1 w := by kernel_rfl
theorem zero_136 (w : World) : (zeroValue 136).run Tryd.prog w = .ok (.nilFunc) w := by kernel_rfl
theorem nagg_137 : NAgg Tryd.prog 137 := fun _ => by kernel_rfl
theorem size_137 (w : World) : (sizeOf 137).run Tryd.prog w = .ok 1 w := by kernel_rfl
theorem zero_137 (w : World) : (zeroValue 137).run Tryd.prog w = .ok (.nilFunc) w := by kernel_rfl
theorem nagg_138 : NAgg Tryd.prog 138 := fun _ => by kernel_rfl
theorem size_138 (w : World) : (sizeOf 138).run Tryd.prog w = .ok 1 w := by kernel_rfl
theorem zero_138 (w : World) : (zeroValue 138).run Tryd.prog w = .ok (.slice none 0 0) w := by kernel_rfl
theorem nagg_139 : NAgg Tryd.prog 139 := fun _ => by kernel_rfl
theorem size_139 (w : World) : (sizeOf 139).run Tryd.prog w = .ok 1 w := by kernel_rfl
theorem zero_139 (w : World) : (zeroValue 139).run Tryd.prog w = .ok (.nilFunc) w := by kernel_rfl
theorem nagg_140 : NAgg Tryd.prog 140 := fun _ => by kernel_rfl
theorem size_140 (w : World) : (sizeOf 140).run Tryd.prog w = .ok 1 w := by kernel_rfl
theorem zero_140 (w : World) : (zeroValue 140).run Tryd.prog w = .ok (.nilFunc) w := by kernel_rfl
theorem nagg_141 : NAgg Tryd.prog 141 := fun _ => by kernel_rfl
theorem size_141 (w : World) : (sizeOf 141).run Tryd.prog w = .ok 1 w := by kernel_rfl
theorem zero_141 (w : World) : (zeroValue 141).run Tryd.prog w = .ok (.nilFunc) w := by kernel_rfl
theorem nagg_142 : NAgg Tryd.prog 142 := fun _ => by kernel_rfl
theorem size_142 (w : World) : (sizeOf 142).run Tryd.prog w = .ok 1 w := by kernel_rfl
theorem zero_142 (w : World) : (zeroValue 142).run Tryd.prog w = .ok (.nilFunc) w := by kernel_rfl
theorem nagg_143 : NAgg Tryd.prog 143 := fun _ => by kernel_rfl
theorem size_143 (w : World) : (sizeOf 143).run Tryd.prog w = .ok 1 w := by kernel_rfl
theorem zero_143 (w : World) : (zeroValue 143).run Tryd.prog w = .ok (.nilFunc) w := by kernel_rfl
theorem nagg_144 : NAgg Tryd.prog 144 := fun _ => by kernel_rfl
theorem size_144 (w : World) : (sizeOf 144).run Tryd.prog w = .ok 1 w := by kernel_rfl
theorem zero_144 (w : World) : (zeroValue 144).run Tryd.prog w = .ok (.nilFunc) w := by kernel_rfl
theorem nagg_145 : NAgg Tryd.prog 145 := fun _ => by kernel_rfl
theorem size_145 (w : World) : (sizeOf 145).run Tryd.prog w = .ok 1 w := by kernel_rfl
theorem zero_145 (w : World) : (zeroValue 145).run Tryd.prog w = .ok (.nilFunc) w := by kernel_rfl
theorem nagg_146 : NAgg Tryd.prog 146 := fun _ => by kernel_rfl
theorem size_146 (w : World) : (sizeOf 146).run Tryd.prog w = .ok 1 w := by kernel_rfl
theorem zero_146 (w : World) : (zeroValue 146).run Tryd.prog w = .ok (.pointer none) w := by kernel_rfl
theorem nagg_147 : NAgg Tryd.prog 147 := fun _ => by kernel_rfl
theorem size_147 (w : World) : (sizeOf 147).run Tryd.prog w = .ok 1 w := by kernel_rfl
theorem zero_147 (w : World) : (zeroValue 147).run Tryd.prog w = .ok (.nilFunc) w := by kernel_rfl
theorem nagg_148 : NAgg Tryd.prog 148 := fun _ => by kernel_rfl
theorem size_148 (w : World) : (sizeOf 148).run Tryd.prog w = .ok 1 w := by kernel_rfl
theorem zero_148 (w : World) : (zeroValue 148).run Tryd.prog w = .ok (.nilFunc) w := by kernel_rfl
theorem nagg_149 : NAgg Tryd.prog 149 := fun _ => by kernel_rfl
theorem size_149 (w : World) : (sizeOf 149).run Tryd.prog w = .ok 1 w := by kernel_rfl
theorem zero_149 (w : World) : (zeroValue 149).run Tryd.prog w = .ok (.nilFunc) w := by kernel_rfl
theorem nagg_150 : NAgg Tryd.prog 150 := fun _ => by kernel_rfl
theorem size_150 (w : World) : (sizeOf 150).run Tryd.prog w = .ok 1 w := by kernel_rfl
theorem zero_150 (w : World) : (zeroValue 150).run Tryd.prog w = .ok (.nilFunc) w := by kernel_rfl
theorem nagg_151 : NAgg Tryd.prog 151 := fun _ => by kernel_rfl
theorem size_151 (w : World) : (sizeOf 151).run Tryd.prog w = .ok 1 w := by kernel_rfl
theorem zero_151 (w : World) : (zeroValue 151).run Tryd.prog w = .ok (.nilFunc) w := by kernel_rfl
theorem nagg_152 : NAgg Tryd.prog 152 := fun _ => by kernel_rfl
theorem size_152 (w : World) : (sizeOf 152).run Tryd.prog w = .ok 1 w := by kernel_rfl
theorem zero_152 (w : World) : (zeroValue 152).run Tryd.prog w = .ok (.nilFunc) w := by kernel_rfl
theorem nagg_153 : NAgg Tryd.prog 153 := fun _ => by kernel_rfl
theorem size_153 (w : World) : (sizeOf 153).run Tryd.prog w = .ok 1 w := by kernel_rfl
theorem zero_153 (w : World) : (zeroValue 153).run Tryd.prog w = .ok (.nilFunc) w := by kernel_rfl
theorem nagg_154 : NAgg Tryd.prog 154 := fun _ => by kernel_rfl
theorem size_154 (w : World) : (sizeOf 154).run Tryd.prog w = .ok 1 w := by kernel_rfl
theorem zero_154 (w : World) : (zeroValue 154).run Tryd.prog w = .ok (.nilFunc) w := by kernel_rfl
theorem agg_155 : Agg Tryd.prog 155 0 := ⟨fun _ => by kernel_rfl, fun _ => by kernel_rfl⟩
theorem size_155 (w : World) : (sizeOf 155).run Tryd.prog w = .ok 0 w := by kernel_rfl
theorem zero_155 (w : World) : (zeroValue 155).run Tryd.prog w = .ok (.agg #[]) w := by kernel_rfl
theorem agg_156 : Agg Tryd.prog 156 0 := ⟨fun _ => by kernel_rfl, fun _ => by kernel_rfl⟩
theorem size_156 (w : World) : (sizeOf 156).run Tryd.prog w = .ok 0 w := by kernel_rfl
theorem zero_156 (w : World) : (zeroValue 156).run Tryd.prog w = .ok (.agg #[]) w := by kernel_rfl
theorem nagg_158 : NAgg Tryd.prog 158 := fun _ => by kernel_rfl
theorem size_158 (w : World) : (sizeOf 158).run Tryd.prog w = .ok 1 w := by kernel_rfl
theorem zero_158 (w : World) : (zeroValue 158).run Tryd.prog w = .ok (.pointer none) w := by kernel_rfl
theorem nagg_159 : NAgg Tryd.prog 159 := fun _ => by kernel_rfl
theorem size_159 (w : World) : (sizeOf 159).run Tryd.prog w = .ok 1 w := by kernel_rfl
theorem zero_159 (w : World) : (zeroValue 159).run Tryd.prog w = .ok (.nilFunc) w := by kernel_rfl
theorem nagg_160 : NAgg Tryd.prog 160 := fun _ => by kernel_rfl
theorem size_160 (w : World) : (sizeOf 160).run Tryd.prog w = .ok 1 w := by kernel_rfl
theorem zero_160 (w : World) : (zeroValue 160).run Tryd.prog w = .ok (.nilFunc) w := by kernel_rfl
theorem nagg_161 : NAgg Tryd.prog 161 := fun _ => by kernel_rfl
theorem size_161 (w : World) : (sizeOf 161).run Tryd.prog w = .ok 1 w := by kernel_rfl
theorem zero_161 (w : World) : (zeroValue 161).run Tryd.prog w = .ok (.nilFunc) w := by kernel_rfl
theorem nagg_162 : NAgg Tryd.prog 162 := fun _ => by kernel_rfl
theorem size_162 (w : World) : (sizeOf 162).run Tryd.prog w = .ok 1 w := by kernel_rfl
theorem zero_162 (w : World) : (zeroValue 162).run Tryd.prog w = .ok (.nilFunc) w := by kernel_rfl
theorem nagg_163 : NAgg Tryd.prog 163 := fun _ => by kernel_rfl
theorem size_163 (w : World) : (sizeOf 163).run Tryd.prog w = .ok 1 w := by kernel_rfl
theorem zero_163 (w : World) : (zeroValue 163).run Tryd.prog w = .ok (.nilFunc) w := by kernel_rfl
theorem nagg_164 : NAgg Tryd.prog 164 := fun _ => by kernel_rfl
theorem size_164 (w : World) : (sizeOf 164).run Tryd.prog w = .ok 1 w := by kernel_rfl
theorem zero_164 (w : World) : (zeroValue 164).run Tryd.prog w = .ok (.nilFunc) w := by kernel_rfl
theorem nagg_165 : NAgg Tryd.prog 165 := fun _ => by kernel_rfl
theorem size_165 (w : World) : (sizeOf 165).run Tryd.prog w = .ok 1 w := by kernel_rfl
theorem zero_165 (w : World) : (zeroValue 165).run Tryd.prog w = .ok (.nilFunc) w := by kernel_rfl
theorem agg_166 : Agg Tryd.prog 166 3 := ⟨fun _ => by kernel_rfl, fun _ => by kernel_rfl⟩
theorem size_166 (w : World) : (sizeOf 166).run Tryd.prog w = .ok 3 w := by kernel_rfl
theorem zero_166 (w : World) : (zeroValue 166).run Tryd.prog w = .ok (.agg #[.int .i64 0, .int .i64 0, .slice none 0 0]) w := by kernel_rfl
theorem agg_167 : Agg Tryd.prog 167 3 := ⟨fun _ => by kernel_rfl, fun _ => by kernel_rfl⟩
theorem size_167 (w : World) : (sizeOf 167).run Tryd.prog w = .ok 3 w := by kernel_rfl
theorem zero_167 (w : World) : (zeroValue 167).run Tryd.prog w = .ok (.agg #[.int .i64 0, .int .i64 0, .slice none 0 0]) w := by kernel_rfl
theorem nagg_168 : NAgg Tryd.prog 168 := fun _ => by kernel_rfl
theorem size_168 (w : World) : (sizeOf 168).run Tryd.prog w = .ok 1 w := by kernel_rfl
theorem zero_168 (w : World) : (zeroValue 168).run Tryd.prog w = .ok (.nilFunc) w := by kernel_rfl
theorem nagg_169 : NAgg Tryd.prog 169 := fun _ => by kernel_rfl
theorem size_169 (w : World) : (sizeOf 169).run Tryd.prog w = .ok 1 w := by kernel_rfl
theorem zero_169 (w : World) : (zeroValue 169).run Tryd.prog w = .ok (.nilFunc) w := by kernel_rfl
theorem nagg_170 : NAgg Tryd.prog 170 := fun _ => by kernel_rfl
theorem size_170 (w : World) : (sizeOf 170).run Tryd.prog w = .ok 1 w := by kernel_rfl
theorem zero_170 (w : World) : (zeroValue 170).run Tryd.prog w = .ok (.nilFunc) w := by kernel_rfl
theorem nagg_171 : NAgg Tryd.prog 171 := fun _ => by kernel_rfl
theorem size_171 (w : World) : (sizeOf 171).run Tryd.prog w = .ok 1 w := by kernel_rfl
theorem zero_171 (w : World) : (zeroValue 171).run Tryd.prog w = .ok (.nilFunc) w := by kernel_rfl
theorem nagg_172 : NAgg Tryd.prog 172 := fun _ => by kernel_rfl
theorem size_172 (w : World) : (sizeOf 172).run Tryd.prog w = .ok 1 w := by kernel_rfl
theorem zero_172 (w : World) : (zeroValue 172).run Tryd.prog w = .ok (.nilFunc) w := by kernel_rfl
theorem nagg_173 : NAgg Tryd.prog 173 := fun _ => by kernel_rfl
theorem size_173 (w : World) : (sizeOf 173).run Tryd.prog w = .ok 1 w := by kernel_rfl
theorem zero_173 (w : World) : (zeroValue 173).run Tryd.prog w = .ok (.nilFunc) w := by kernel_rfl
theorem nagg_174 : NAgg Tryd.prog 174 := fun _ => by kernel_rfl
theorem size_174 (w : World) : (sizeOf 174).run Tryd.prog w = .ok 1 w := by kernel_rfl
theorem zero_174 (w : World) : (zeroValue 174).run Tryd.prog w = .ok (.nilFunc) w := by kernel_rfl
theorem nagg_175 : NAgg Tryd.prog 175 := fun _ => by kernel_rfl
theorem size_175 (w : World) : (sizeOf 175).run Tryd.prog w = .ok 1 w := by kernel_rfl
theorem zero_175 (w : World) : (zeroValue 175).run Tryd.prog w = .ok (.nilFunc) w := by kernel_rfl
theorem nagg_176 : NAgg Tryd.prog 176 := fun _ => by kernel_rfl
theorem size_176 (w : World) : (sizeOf 176).run Tryd.prog w = .ok 1 w := by kernel_rfl
theorem zero_176 (w : World) : (zeroValue 176).run Tryd.prog w = .ok (.nilFunc) w := by kernel_rfl
theorem nagg_177 : NAgg Tryd.prog 177 := fun _ => by kernel_rfl
theorem size_177 (w : World) : (sizeOf 177).run Tryd.prog w = .ok 1 w := by kernel_rfl
theorem zero_177 (w : World) : (zeroValue 177).run Tryd.prog w = .ok (.pointer none) w := by kernel_rfl
theorem agg_178 : Agg Tryd.prog 178 5 := ⟨fun _ => by kernel_rfl, fun _ => by kernel_rfl⟩
theorem size_178 (w : World) : (sizeOf 178).run Tryd.prog w = .ok 5 w := by kernel_rfl
theorem zero_178 (w : World) : (zeroValue 178).run Tryd.prog w = .ok (.agg #[.int .i64 0, .int .u64 0, .int .u64 0, .nilFunc, .pointer none]) w := by kernel_rfl
theorem agg_179 : Agg Tryd.prog 179 5 := ⟨fun _ => by kernel_rfl, fun _ => by kernel_rfl⟩
theorem size_179 (w : World) : (sizeOf 179).run Tryd.prog w = .ok 5 w := by kernel_rfl
theorem zero_179 (w : World) : (zeroValue 179).run Tryd.prog w = .ok (.agg #[.int .i64 0, .int .u64 0, .int .u64 0, .nilFunc, .pointer none]) w := by kernel_rfl
theorem agg_180 : Agg Tryd.prog 180 16 := ⟨fun _ => by kernel_rfl, fun _ => by kernel_rfl⟩
theorem size_180 (w : World) : (sizeOf 180).run Tryd.prog w = .ok 16 w := by kernel_rfl
theorem zero_180 (w : World) : (zeroValue 180).run Tryd.prog w = .ok (.agg #[.string (⟨#[]⟩ : ByteArray), .string (⟨#[]⟩ : ByteArray), .int .i64 0, .int .i64 0, .string (⟨#[]⟩ : ByteArray), .bool false, .int .i64 0, .int .u64 0, .int .u64 0, .int .i64 0, .int .u64 0, .int .u64 0, .pointer none, .pointer none, .int .i64 0, .int .i64 0]) w := by kernel_rfl
theorem agg_181 : Agg Tryd.prog 181 16 := ⟨fun _ => by kernel_rfl, fun _ => by kernel_rfl⟩
theorem size_181 (w : World) : (sizeOf 181).run Tryd.prog w = .ok 16 w := by kernel_rfl
theorem zero_181 (w : World) : (zeroValue 181).run Tryd.prog w = .ok (.agg #[.string (⟨#[]⟩ : ByteArray), .string (⟨#[]⟩ : ByteArray), .int .i64 0, .int .i64 0, .string (⟨#[]⟩ : ByteArray), .bool false, .int .i64 0, .int .u64 0, .int .u64 0, .int .i64 0, .int .u64 0, .int .u64 0, .pointer none, .pointer none, .int .i64 0, .int .i64 0]) w := by kernel_rfl
theorem nagg_182 : NAgg Tryd.prog 182 := fun _ => by kernel_rfl
theorem size_182 (w : World) : (sizeOf 182).run Tryd.prog w = .ok 1 w := by kernel_rfl
theorem zero_182 (w : World) : (zeroValue 182).run Tryd.prog w = .ok (.slice none 0 0) w := by kernel_rfl
theorem nagg_183 : NAgg Tryd.prog 183 := fun _ => by kernel_rfl
theorem size_183 (w : World) : (sizeOf 183).run Tryd.prog w = .ok 1 w := by kernel_rfl
theorem zero_183 (w : World) : (zeroValue 183).run Tryd.prog w = .ok (.nilFunc) w := by kernel_rfl
theorem nagg_184 : NAgg Tryd.prog 184 := fun _ => by kernel_rfl
theorem size_184 (w : World) : (sizeOf 184).run Tryd.prog w = .ok 1 w := by kernel_rfl
theorem zero_184 (w : World) : (zeroValue 184).run Tryd.prog w = .ok (.nilFunc) w := by kernel_rfl
theorem nagg_185 : NAgg Tryd.prog 185 := fun _ => by kernel_rfl
theorem size_185 (w : World) : (sizeOf 185).run Tryd.prog w = .ok 1 w := by kernel_rfl
theorem zero_185 (w : World) : (zeroValue 185).run Tryd.prog w = .ok (.nilFunc) w := by kernel_rfl
theorem nagg_186 : NAgg Tryd.prog 186 := fun _ => by kernel_rfl
theorem size_186 (w : World) : (sizeOf 186).run Tryd.prog w = .ok 1 w := by kernel_rfl
theorem zero_186 (w : World) : (zeroValue 186).run Tryd.prog w = .ok (.nilFunc) w := by kernel_rfl
theorem nagg_187 : NAgg Tryd.prog 187 := fun _ => by kernel_rfl
theorem size_187 (w : World) : (sizeOf 187).run Tryd.prog w = .ok 1 w := by kernel_rfl
theorem zero_187 (w : World) : (zeroValue 187).run Tryd.prog w = .ok (.nilFunc) w := by kernel_rfl
theorem nagg_188 : NAgg Tryd.prog 188 := fun _ => by kernel_rfl
theorem size_188 (w : World) : (sizeOf 188).run Tryd.prog w = .ok 1 w := by kernel_rfl
theorem zero_188 (w : World) : (zeroValue 188).run Tryd.prog w = .ok (.nilFunc) w := by kernel_rfl
theorem nagg_190 : NAgg Tryd.prog 190 := fun _ => by kernel_rfl
theorem size_190 (w : World) : (sizeOf 190).run Tryd.prog w = .ok 1 w := by kernel_rfl
theorem zero_190 (w : World) : (zeroValue 190).run Tryd.prog w = .ok (.nilFunc) w := by kernel_rfl
theorem nagg_191 : NAgg Tryd.prog 191 := fun _ => by kernel_rfl
theorem size_191 (w : World) : (sizeOf 191).run Tryd.prog w = .ok 1 w := by kernel_rfl
theorem zero_191 (w : World) : (zeroValue 191).run Tryd.prog w = .ok (.nilFunc) w := by kernel_rfl
theorem nagg_192 : NAgg Tryd.prog 192 := fun _ => by kernel_rfl
theorem size_192 (w : World) : (sizeOf 192).run Tryd.prog w = .ok 1 w := by kernel_rfl
theorem zero_192 (w : World) : (zeroValue 192).run Tryd.prog w = .ok (.nilFunc) w := by kernel_rfl
theorem nagg_193 : NAgg Tryd.prog 193 := fun _ => by kernel_rfl
theorem size_193 (w : World) : (sizeOf 193).run Tryd.prog w = .ok 1 w := by kernel_rfl
theorem zero_193 (w : World) : (zeroValue 193).run Tryd.prog w = .ok (.nilFunc) w := by kernel_rfl
theorem agg_194 : Agg Tryd.prog 194 1 := ⟨fun _ => by kernel_rfl, fun _ => by kernel_rfl⟩
theorem size_194 (w : World) : (sizeOf 194).run Tryd.prog w = .ok 1 w := by kernel_rfl
theorem zero_194 (w : World) : (zeroValue 194).run Tryd.prog w = .ok (.agg #[.slice none 0 0]) w := by kernel_rfl
theorem agg_195 : Agg Tryd.prog 195 1 := ⟨fun _ => by kernel_rfl, fun _ => by kernel_rfl⟩
theorem size_195 (w : World) : (sizeOf 195).run Tryd.prog w = .ok 1 w := by kernel_rfl
theorem zero_195 (w : World) : (zeroValue 195).run Tryd.prog w = .ok (.agg #[.slice none 0 0]) w := by kernel_rfl
theorem nagg_196 : NAgg Tryd.prog 196 := fun _ => by kernel_rfl
theorem size_196 (w : World) : (sizeOf 196).run Tryd.prog w = .ok 1 w := by kernel_rfl
theorem zero_196 (w : World) : (zeroValue 196).run Tryd.prog w = .ok (.int .u64 0) w := by kernel_rfl
theorem nagg_197 : NAgg Tryd.prog 197 := fun _ => by kernel_rfl
theorem size_197 (w : World) : (sizeOf 197).run Tryd.prog w = .ok 1 w := by kernel_rfl
theorem zero_197 (w : World) : (zeroValue 197).run Tryd.prog w = .ok (.nilFunc) w := by kernel_rfl
theorem agg_198 : Agg Tryd.prog 198 3 := ⟨fun _ => by kernel_rfl, fun _ => by kernel_rfl⟩
theorem size_198 (w : World) : (sizeOf 198).run Tryd.prog w = .ok 3 w := by kernel_rfl
theorem zero_198 (w : World) : (zeroValue 198).run Tryd.prog w = .ok (.agg #[.slice none 0 0, .int .i64 0, .int .i64 0]) w := by kernel_rfl
theorem agg_199 : Agg Tryd.prog 199 3 := ⟨fun _ => by kernel_rfl, fun _ => by kernel_rfl⟩
theorem size_199 (w : World) : (sizeOf 199).run Tryd.prog w = .ok 3 w := by kernel_rfl
theorem zero_199 (w : World) : (zeroValue 199).run Tryd.prog w = .ok (.agg #[.slice none 0 0, .int .i64 0, .int .i64 0]) w := by kernel_rfl
theorem nagg_201 : NAgg Tryd.prog 201 := fun _ => by kernel_rfl
theorem size_201 (w : World) : (sizeOf 201).run Tryd.prog w = .ok 1 w := by kernel_rfl
theorem zero_201 (w : World) : (zeroValue 201).run Tryd.prog w = .ok (.nilFunc) w := by kernel_rfl
theorem nagg_202 : NAgg Tryd.prog 202 := fun _ => by kernel_rfl
theorem size_202 (w : World) : (sizeOf 202).run Tryd.prog w = .ok 1 w := by kernel_rfl
theorem zero_202 (w : World) : (zeroValue 202).run Tryd.prog w = .ok (.nilFunc) w := by kernel_rfl
theorem nagg_203 : NAgg Tryd.prog 203 := fun _ => by kernel_rfl
theorem size_203 (w : World) : (sizeOf 203).run Tryd.prog w = .ok 1 w := by kernel_rfl
theorem zero_203 (w : World) : (zeroValue 203).run Tryd.prog w = .ok (.nilFunc) w := by kernel_rfl
theorem agg_204 : Agg Tryd.prog 204 1 := ⟨fun _ => by kernel_rfl, fun _ => by kernel_rfl⟩
theorem size_204 (w : World) : (sizeOf 204).run Tryd.prog w = .ok 1 w := by kernel_rfl
theorem zero_204 (w : World) : (zeroValue 204).run Tryd.prog w = .ok (.agg #[.int .i64 0]) w := by kernel_rfl
theorem agg_205 : Agg Tryd.prog 205 1 := ⟨fun _ => by kernel_rfl, fun _ => by kernel_rfl⟩
theorem size_205 (w : World) : (sizeOf 205).run Tryd.prog w = .ok 1 w := by kernel_rfl
theorem zero_205 (w : World) : (zeroValue 205).run Tryd.prog w = .ok (.agg #[.int .i64 0]) w := by kernel_rfl
theorem nagg_206 : NAgg Tryd.prog 206 := fun _ => by kernel_rfl
theorem size_206 (w : World) : (sizeOf 206).run Tryd.prog w = .ok 1 w := by kernel_rfl
theorem zero_206 (w : World) : (zeroValue 206).run Tryd.prog w = .ok (.nilFunc) w := by kernel_rfl
theorem nagg_207 : NAgg Tryd.prog 207 := fun _ => by kernel_rfl
theorem size_207 (w : World) : (sizeOf 207).run Tryd.prog w = .ok 1 w := by kernel_rfl
theorem zero_207 (w : World) : (zeroValue 207).run Tryd.prog w = .ok (.nilFunc) w := by kernel_rfl
theorem nagg_208 : NAgg Tryd.prog 208 := fun _ => by kernel_rfl
theorem size_208 (w : World) : (sizeOf 208).run Tryd.prog w = .ok 1 w := by kernel_rfl
theorem zero_208 (w : World) : (zeroValue 208).run Tryd.prog w = .ok (.nilFunc) w := by kernel_rfl
theorem nagg_209 : NAgg Tryd.prog 209 := fun _ => by kernel_rfl
theorem size_209 (w : World) : (sizeOf 209).run Tryd.prog w = .ok 1 w := by kernel_rfl
theorem zero_209 (w : World) : (zeroValue 209).run Tryd.prog w = .ok (.nilFunc) w := by kernel_rfl
theorem nagg_210 : NAgg Tryd.prog 210 := fun _ => by kernel_rfl
theorem size_210 (w : World) : (sizeOf 210).run Tryd.prog w = .ok 1 w := by kernel_rfl
theorem zero_210 (w : World) : (zeroValue 210).run Tryd.prog w = .ok (.nilFunc) w := by kernel_rfl
theorem nagg_211 : NAgg Tryd.prog 211 := fun _ => by kernel_rfl
theorem size_211 (w : World) : (sizeOf 211).run Tryd.prog w = .ok 1 w := by kernel_rfl
theorem zero_211 (w : World) : (zeroValue 211).run Tryd.prog w = .ok (.nilFunc) w := by kernel_rfl
theorem nagg_213 : NAgg Tryd.prog 213 := fun _ => by kernel_rfl
theorem size_213 (w : World) : (sizeOf 213).run Tryd.prog w = .ok 1 w := by kernel_rfl
theorem zero_213 (w : World) : (zeroValue 213).run Tryd.prog w = .ok (.nilFunc) w := by kernel_rfl
theorem agg_214 : Agg Tryd.prog 214 3 := ⟨fun _ => by kernel_rfl, fun _ => by kernel_rfl⟩
theorem size_214 (w : World) : (sizeOf 214).run Tryd.prog w = .ok 3 w := by kernel_rfl
theorem zero_214 (w : World) : (zeroValue 214).run Tryd.prog w = .ok (.agg #[.int .u64 0, .int .u64 0, .int .i64 0]) w := by kernel_rfl
theorem agg_215 : Agg Tryd.prog 215 3 := ⟨fun _ => by kernel_rfl, fun _ => by kernel_rfl⟩
theorem size_215 (w : World) : (sizeOf 215).run Tryd.prog w = .ok 3 w := by kernel_rfl
theorem zero_215 (w : World) : (zeroValue 215).run Tryd.prog w = .ok (.agg #[.int .u64 0, .int .u64 0, .int .i64 0]) w := by kernel_rfl
theorem agg_216 : Agg Tryd.prog 216 6 := ⟨fun _ => by kernel_rfl, fun _ => by kernel_rfl⟩
theorem size_216 (w : World) : (sizeOf 216).run Tryd.prog w = .ok 6 w := by kernel_rfl
theorem zero_216 (w : World) : (zeroValue 216).run Tryd.prog w = .ok (.agg #[.int .u64 0, .int .u64 0, .int .i64 0, .int .u64 0, .int .u64 0, .int .i64 0]) w := by kernel_rfl
theorem nagg_217 : NAgg Tryd.prog 217 := fun _ => by kernel_rfl
theorem size_217 (w : World) : (sizeOf 217).run Tryd.prog w = .ok 1 w := by kernel_rfl
theorem zero_217 (w : World) : (zeroValue 217).run Tryd.prog w = .ok (.nilFunc) w := by kernel_rfl
theorem nagg_218 : NAgg Tryd.prog 218 := fun _ => by kernel_rfl
theorem size_218 (w : World) : (sizeOf 218).run Tryd.prog w = .ok 1 w := by kernel_rfl
theorem zero_218 (w : World) : (zeroValue 218).run Tryd.prog w = .ok (.pointer none) w := by kernel_rfl
theorem nagg_219 : NAgg Tryd.prog 219 := fun _ => by kernel_rfl
theorem size_219 (w : World) : (sizeOf 219).run Tryd.prog w = .ok 1 w := by kernel_rfl
theorem zero_219 (w : World) : (zeroValue 219).run Tryd.prog w = .ok (.nilFunc) w := by kernel_rfl
theorem nagg_220 : NAgg Tryd.prog 220 := fun _ => by kernel_rfl
theorem size_220 (w : World) : (sizeOf 220).run Tryd.prog w = .ok 1 w := by kernel_rfl
theorem zero_220 (w : World) : (zeroValue 220).run Tryd.prog w = .ok (.nilFunc) w := by kernel_rfl
theorem nagg_221 : NAgg Tryd.prog 221 := fun _ => by kernel_rfl
theorem size_221 (w : World) : (sizeOf 221).run Tryd.prog w = .ok 1 w := by kernel_rfl
theorem zero_221 (w : World) : (zeroValue 221).run Tryd.prog w = .ok (.nilFunc) w := by kernel_rfl
theorem nagg_222 : NAgg Tryd.prog 222 := fun _ => by kernel_rfl
theorem size_222 (w : World) : (sizeOf 222).run Tryd.prog w = .ok 1 w := by kernel_rfl
theorem zero_222 (w : World) : (zeroValue 222).run Tryd.prog w = .ok (.slice none 0 0) w := by kernel_rfl
theorem nagg_223 : NAgg Tryd.prog 223 := fun _ => by kernel_rfl
theorem size_223 (w : World) : (sizeOf 223).run Tryd.prog w = .ok 1 w := by kernel_rfl
theorem zero_223 (w : World) : (zeroValue 223).run Tryd.prog w = .ok (.nilFunc) w := by kernel_rfl
theorem nagg_224 : NAgg Tryd.prog 224 := fun _ => by kernel_rfl
theorem size_224 (w : World) : (sizeOf 224).run Tryd.prog w = .ok 1 w := by kernel_rfl
theorem zero_224 (w : World) : (zeroValue 224).run Tryd.prog w = .ok (.nilFunc) w := by kernel_rfl
theorem nagg_225 : NAgg Tryd.prog 225 := fun _ => by kernel_rfl
theorem size_225 (w : World) : (sizeOf 225).run Tryd.prog w = .ok 1 w := by kernel_rfl
theorem zero_225 (w : World) : (zeroValue 225).run Tryd.prog w = .ok (.nilFunc) w := by kernel_rfl
theorem agg_226 : Agg Tryd.prog 226 4 := ⟨fun _ => by kernel_rfl, fun _ => by kernel_rfl⟩
theorem size_226 (w : World) : (sizeOf 226).run Tryd.prog w = .ok 4 w := by kernel_rfl
theorem zero_226 (w : World) : (zeroValue 226).run Tryd.prog w = .ok (.agg #[.pointer none, .pointer none, .pointer none, .string (⟨#[]⟩ : ByteArray)]) w := by kernel_rfl
theorem agg_227 : Agg Tryd.prog 227 4 := ⟨fun _ => by kernel_rfl, fun _ => by kernel_rfl⟩
theorem size_227 (w : World) : (sizeOf 227).run Tryd.prog w = .ok 4 w := by kernel_rfl
theorem zero_227 (w : World) : (zeroValue 227).run Tryd.prog w = .ok (.agg #[.pointer none, .pointer none, .pointer none, .string (⟨#[]⟩ : ByteArray)]) w := by kernel_rfl
theorem agg_228 : Agg Tryd.prog 228 0 := ⟨fun _ => by kernel_rfl, fun _ => by kernel_rfl⟩
theorem size_228 (w : World) : (sizeOf 228).run Tryd.prog w = .ok 0 w := by kernel_rfl
theorem zero_228 (w : World) : (zeroValue 228).run Tryd.prog w = .ok (.agg #[]) w := by kernel_rfl
theorem agg_229 : Agg Tryd.prog 229 0 := ⟨fun _ => by kernel_rfl, fun _ => by kernel_rfl⟩
theorem size_229 (w : World) : (sizeOf 229).run Tryd.prog w = .ok 0 w := by kernel_rfl
theorem zero_229 (w : World) : (zeroValue 229).run Tryd.prog w = .ok (.agg #[]) w := by kernel_rfl
theorem agg_230 : Agg Tryd.prog 230 0 := ⟨fun _ => by kernel_rfl, fun _ => by kernel_rfl⟩
theorem size_230 (w : World) : (sizeOf 230).run Tryd.prog w = .ok 0 w := by kernel_rfl
theorem zero_230 (w : World) : (zeroValue 230).run Tryd.prog w = .ok (.agg #[]) w := by kernel_rfl
theorem nagg_231 : NAgg Tryd.prog 231 := fun _ => by kernel_rfl
theorem size_231 (w : World) : (sizeOf 231).run Tryd.prog w = .ok 1 w := by kernel_rfl
theorem zero_231 (w : World) : (zeroValue 231).run Tryd.prog w = .ok (.int .u32 0) w := by kernel_rfl
theorem nagg_232 : NAgg Tryd.prog 232 := fun _ => by kernel_rfl
theorem size_232 (w : World) : (sizeOf 232).run Tryd.prog w = .ok 1 w := by kernel_rfl
theorem zero_232 (w : World) : (zeroValue 232).run Tryd.prog w = .ok (.int .u8 0) w := by kernel_rfl
theorem nagg_233 : NAgg Tryd.prog 233 := fun _ => by kernel_rfl
theorem size_233 (w : World) : (sizeOf 233).run Tryd.prog w = .ok 1 w := by kernel_rfl
theorem zero_233 (w : World) : (zeroValue 233).run Tryd.prog w = .ok (.int .u8 0) w := by kernel_rfl
theorem nagg_234 : NAgg Tryd.prog 234 := fun _ => by kernel_rfl
theorem size_234 (w : World) : (sizeOf 234).run Tryd.prog w = .ok 1 w := by kernel_rfl
theorem zero_234 (w : World) : (zeroValue 234).run Tryd.prog w = .ok (.nilFunc) w := by kernel_rfl
theorem nagg_235 : NAgg Tryd.prog 235 := fun _ => by kernel_rfl
theorem size_235 (w : World) : (sizeOf 235).run Tryd.prog w = .ok 1 w := by kernel_rfl
theorem zero_235 (w : World) : (zeroValue 235).run Tryd.prog w = .ok (.pointer none) w := by kernel_rfl
theorem nagg_236 : NAgg Tryd.prog 236 := fun _ => by kernel_rfl
theorem size_236 (w : World) : (sizeOf 236).run Tryd.prog w = .ok 1 w := by kernel_rfl
theorem zero_236 (w : World) : (zeroValue 236).run Tryd.prog w = .ok (.int .i32 0) w := by kernel_rfl
theorem nagg_237 : NAgg Tryd.prog 237 := fun _ => by kernel_rfl
theorem size_237 (w : World) : (sizeOf 237).run Tryd.prog w = .ok 1 w := by kernel_rfl
theorem zero_237 (w : World) : (zeroValue 237).run Tryd.prog w = .ok (.int .i32 0) w := by kernel_rfl
theorem agg_238 : Agg Tryd.prog 238 11 := ⟨fun _ => by kernel_rfl, fun _ => by kernel_rfl⟩
theorem size_238 (w : World) : (sizeOf 238).run Tryd.prog w = .ok 11 w := by kernel_rfl
theorem zero_238 (w : World) : (zeroValue 238).run Tryd.prog w = .ok (.agg #[.int .u64 0, .int .u64 0, .int .u32 0, .int .u8 0, .int .u8 0, .int .u8 0, .int .u8 0, .nilFunc, .pointer none, .int .i32 0, .int .i32 0]) w := by kernel_rfl
theorem agg_239 : Agg Tryd.prog 239 11 := ⟨fun _ => by kernel_rfl, fun _ => by kernel_rfl⟩
theorem size_239 (w : World) : (sizeOf 239).run Tryd.prog w = .ok 11 w := by kernel_rfl
theorem zero_239 (w : World) : (zeroValue 239).run Tryd.prog w = .ok (.agg #[.int .u64 0, .int .u64 0, .int .u32 0, .int .u8 0, .int .u8 0, .int .u8 0, .int .u8 0, .nilFunc, .pointer none, .int .i32 0, .int .i32 0]) w := by kernel_rfl
theorem nagg_240 : NAgg Tryd.prog 240 := fun _ => by kernel_rfl
theorem size_240 (w : World) : (sizeOf 240).run Tryd.prog w = .ok 1 w := by kernel_rfl
theorem zero_240 (w : World) : (zeroValue 240).run Tryd.prog w = .ok (.pointer none) w := by kernel_rfl
theorem body_2 : HasBody Tryd.prog 2 := fun _ _ => by kernel_rfl
theorem body_3 : HasBody Tryd.prog 3 := fun _ _ => by kernel_rfl
theorem body_4 : HasBody Tryd.prog 4 := fun _ _ => by kernel_rfl
theorem body_5 : HasBody Tryd.prog 5 := fun _ _ => by kernel_rfl
theorem body_6 : HasBody Tryd.prog 6 := fun _ _ => by kernel_rfl
theorem body_7 : HasBody Tryd.prog 7 := fun _ _ => by kernel_rfl
theorem body_8 : HasBody Tryd.prog 8 := fun _ _ => by kernel_rfl
theorem body_9 : HasBody Tryd.prog 9 := fun _ _ => by kernel_rfl
theorem body_10 : HasBody Tryd.prog 10 := fun _ _ => by kernel_rfl
theorem body_11 : HasBody Tryd.prog 11 := fun _ _ => by kernel_rfl
theorem body_12 : HasBody Tryd.prog 12 := fun _ _ => by kernel_rfl
theorem body_13 : HasBody Tryd.prog 13 := fun _ _ => by kernel_rfl
theorem body_14 : HasBody Tryd.prog 14 := fun _ _ => by kernel_rfl
theorem body_15 : HasBody Tryd.prog 15 := fun _ _ => by kernel_rfl
theorem body_16 : HasBody Tryd.prog 16 := fun _ _ => by kernel_rfl
theorem body_17 : HasBody Tryd.prog 17 := fun _ _ => by kernel_rfl
theorem body_18 : HasBody Tryd.prog 18 := fun _ _ => by kernel_rfl
theorem body_19 : HasBody Tryd.prog 19 := fun _ _ => by kernel_rfl
theorem body_20 : HasBody Tryd.prog 20 := fun _ _ => by kernel_rfl
theorem body_21 : HasBody Tryd.prog 21 := fun _ _ => by kernel_rfl
theorem body_22 : HasBody Tryd.prog 22 := fun _ _ => by kernel_rfl
theorem body_23 : HasBody Tryd.prog 23 := fun _ _ => by kernel_rfl
theorem body_24 : HasBody Tryd.prog 24 := fun _ _ => by kernel_rfl
theorem body_25 : HasBody Tryd.prog 25 := fun _ _ => by kernel_rfl
theorem body_26 : HasBody Tryd.prog 26 := fun _ _ => by kernel_rfl
theorem body_27 : HasBody Tryd.prog 27 := fun _ _ => by kernel_rfl
theorem body_28 : HasBody Tryd.prog 28 := fun _ _ => by kernel_rfl
theorem body_29 : HasBody Tryd.prog 29 := fun _ _ => by kernel_rfl
theorem body_30 : HasBody Tryd.prog 30 := fun _ _ => by kernel_rfl
theorem body_31 : HasBody Tryd.prog 31 := fun _ _ => by kernel_rfl
theorem body_32 : HasBody Tryd.prog 32 := fun _ _ => by kernel_rfl
theorem body_33 : HasBody Tryd.prog 33 := fun _ _ => by kernel_rfl
theorem body_34 : HasBody Tryd.prog 34 := fun _ _ => by kernel_rfl
theorem body_35 : HasBody Tryd.prog 35 := fun _ _ => by kernel_rfl
theorem body_36 : HasBody Tryd.prog 36 := fun _ _ => by kernel_rfl
theorem body_37 : HasBody Tryd.prog 37 := fun _ _ => by kernel_rfl
theorem body_38 : HasBody Tryd.prog 38 := fun _ _ => by kernel_rfl
theorem body_39 : HasBody Tryd.prog 39 := fun _ _ => by kernel_rfl
theorem body_40 : HasBody Tryd.prog 40 := fun _ _ => by kernel_rfl
theorem body_41 : HasBody Tryd.prog 41 := fun _ _ => by kernel_rfl
theorem body_42 : HasBody Tryd.prog 42 := fun _ _ => by kernel_rfl
theorem body_43 : HasBody Tryd.prog 43 := fun _ _ => by kernel_rfl
theorem body_44 : HasBody Tryd.prog 44 := fun _ _ => by kernel_rfl
theorem body_45 : HasBody Tryd.prog 45 := fun _ _ => by kernel_rfl
theorem body_46 : HasBody Tryd.prog 46 := fun _ _ => by kernel_rfl
theorem body_47 : HasBody Tryd.prog 47 := fun _ _ => by kernel_rfl
theorem body_48 : HasBody Tryd.prog 48 := fun _ _ => by kernel_rfl
theorem body_49 : HasBody Tryd.prog 49 := fun _ _ => by kernel_rfl
theorem body_50 : HasBody Tryd.prog 50 := fun _ _ => by kernel_rfl
theorem body_51 : HasBody Tryd.prog 51 := fun _ _ => by kernel_rfl
theorem body_52 : HasBody Tryd.prog 52 := fun _ _ => by kernel_rfl
theorem body_53 : HasBody Tryd.prog 53 := fun _ _ => by kernel_rfl
theorem body_54 : HasBody Tryd.prog 54 := fun _ _ => by kernel_rfl
theorem body_55 : HasBody Tryd.prog 55 := fun _ _ => by kernel_rfl
theorem body_56 : HasBody Tryd.prog 56 := fun _ _ => by kernel_rfl
theorem body_57 : HasBody Tryd.prog 57 := fun _ _ => by kernel_rfl
theorem body_58 : HasBody Tryd.prog 58 := fun _ _ => by kernel_rfl
theorem body_59 : HasBody Tryd.prog 59 := fun _ _ => by kernel_rfl
theorem body_60 : HasBody Tryd.prog 60 := fun _ _ => by kernel_rfl
theorem body_61 : HasBody Tryd.prog 61 := fun _ _ => by kernel_rfl
theorem body_62 : HasBody Tryd.prog 62 := fun _ _ => by kernel_rfl
theorem body_63 : HasBody Tryd.prog 63 := fun _ _ => by kernel_rfl
theorem body_64 : HasBody Tryd.prog 64 := fun _ _ => by kernel_rfl
theorem body_65 : HasBody Tryd.prog 65 := fun _ _ => by kernel_rfl
theorem body_66 : HasBody Tryd.prog 66 := fun _ _ => by kernel_rfl
theorem body_67 : HasBody Tryd.prog 67 := fun _ _ => by kernel_rfl
theorem body_68 : HasBody Tryd.prog 68 := fun _ _ => by kernel_rfl
theorem body_69 : HasBody Tryd.prog 69 := fun _ _ => by kernel_rfl
theorem body_70 : HasBody Tryd.prog 70 := fun _ _ => by kernel_rfl
theorem body_71 : HasBody Tryd.prog 71 := fun _ _ => by kernel_rfl
theorem body_72 : HasBody Tryd.prog 72 := fun _ _ => by kernel_rfl
theorem body_73 : HasBody Tryd.prog 73 := fun _ _ => by kernel_rfl
theorem body_74 : HasBody Tryd.prog 74 := fun _ _ => by kernel_rfl
theorem body_75 : HasBody Tryd.prog 75 := fun _ _ => by kernel_rfl
theorem body_76 : HasBody Tryd.prog 76 := fun _ _ => by kernel_rfl
theorem body_77 : HasBody Tryd.prog 77 := fun _ _ => by kernel_rfl
theorem body_78 : HasBody Tryd.prog 78 := fun _ _ => by kernel_rfl
theorem body_79 : HasBody Tryd.prog 79 := fun _ _ => by kernel_rfl
theorem body_80 : HasBody Tryd.prog 80 := fun _ _ => by kernel_rfl
theorem body_81 : HasBody Tryd.prog 81 := fun _ _ => by kernel_rfl
theorem body_82 : HasBody Tryd.prog 82 := fun _ _ => by kernel_rfl
theorem body_83 : HasBody Tryd.prog 83 := fun _ _ => by kernel_rfl
theorem body_84 : HasBody Tryd.prog 84 := fun _ _ => by kernel_rfl
theorem body_85 : HasBody Tryd.prog 85 := fun _ _ => by kernel_rfl
theorem body_86 : HasBody Tryd.prog 86 := fun _ _ => by kernel_rfl
theorem body_87 : HasBody Tryd.prog 87 := fun _ _ => by kernel_rfl
theorem body_88 : HasBody Tryd.prog 88 := fun _ _ => by kernel_rfl
theorem body_89 : HasBody Tryd.prog 89 := fun _ _ => by kernel_rfl
theorem body_90 : HasBody Tryd.prog 90 := fun _ _ => by kernel_rfl
theorem body_91 : HasBody Tryd.prog 91 := fun _ _ => by kernel_rfl
theorem body_92 : HasBody Tryd.prog 92 := fun _ _ => by kernel_rfl
theorem body_93 : HasBody Tryd.prog 93 := fun _ _ => by kernel_rfl
theorem body_94 : HasBody Tryd.prog 94 := fun _ _ => by kernel_rfl
theorem body_95 : HasBody Tryd.prog 95 := fun _ _ => by kernel_rfl
theorem body_96 : HasBody Tryd.prog 96 := fun _ _ => by kernel_rfl
theorem body_97 : HasBody Tryd.prog 97 := fun _ _ => by kernel_rfl
theorem body_98 : HasBody Tryd.prog 98 := fun _ _ => by kernel_rfl
theorem body_99 : HasBody Tryd.prog 99 := fun _ _ => by kernel_rfl
theorem body_100 : HasBody Tryd.prog 100 := fun _ _ => by kernel_rfl
theorem body_101 : HasBody Tryd.prog 101 := fun _ _ => by kernel_rfl
theorem body_102 : HasBody Tryd.prog 102 := fun _ _ => by kernel_rfl
theorem body_103 : HasBody Tryd.prog 103 := fun _ _ => by kernel_rfl
theorem body_104 : HasBody Tryd.prog 104 := fun _ _ => by kernel_rfl
theorem body_105 : HasBody Tryd.prog 105 := fun _ _ => by kernel_rfl
theorem body_106 : HasBody Tryd.prog 106 := fun _ _ => by kernel_rfl
theorem body_107 : HasBody Tryd.prog 107 := fun _ _ => by kernel_rfl
theorem body_108 : HasBody Tryd.prog 108 := fun _ _ => by kernel_rfl
theorem body_109 : HasBody Tryd.prog 109 := fun _ _ => by kernel_rfl
theorem body_110 : HasBody Tryd.prog 110 := fun _ _ => by kernel_rfl
theorem body_111 : HasBody Tryd.prog 111 := fun _ _ => by kernel_rfl
theorem body_112 : HasBody Tryd.prog 112 := fun _ _ => by kernel_rfl
theorem body_113 : HasBody Tryd.prog 113 := fun _ _ => by kernel_rfl
theorem body_114 : HasBody Tryd.prog 114 := fun _ _ => by kernel_rfl
theorem body_115 : HasBody Tryd.prog 115 := fun _ _ => by kernel_rfl
theorem body_116 : HasBody Tryd.prog 116 := fun _ _ => by kernel_rfl
theorem body_117 : HasBody Tryd.prog 117 := fun _ _ => by kernel_rfl
theorem body_118 : HasBody Tryd.prog 118 := fun _ _ => by kernel_rfl
theorem body_119 : HasBody Tryd.prog 119 := fun _ _ => by kernel_rfl
theorem body_120 : HasBody Tryd.prog 120 := fun _ _ => by kernel_rfl
theorem body_121 : HasBody Tryd.prog 121 := fun _ _ => by kernel_rfl
theorem body_122 : HasBody Tryd.prog 122 := fun _ _ => by kernel_rfl
theorem body_123 : HasBody Tryd.prog 123 := fun _ _ => by kernel_rfl
theorem body_124 : HasBody Tryd.prog 124 := fun _ _ => by kernel_rfl
theorem body_125 : HasBody Tryd.prog 125 := fun _ _ => by kernel_rfl
theorem body_126 : HasBody Tryd.prog 126 := fun _ _ => by kernel_rfl
theorem body_127 : HasBody Tryd.prog 127 := fun _ _ => by kernel_rfl
theorem body_128 : HasBody Tryd.prog 128 := fun _ _ => by kernel_rfl
theorem body_129 : HasBody Tryd.prog 129 := fun _ _ => by kernel_rfl
theorem body_130 : HasBody Tryd.prog 130 := fun _ _ => by kernel_rfl
theorem body_131 : HasBody Tryd.prog 131 := fun _ _ => by kernel_rfl
theorem body_132 : HasBody Tryd.prog 132 := fun _ _ => by kernel_rfl
theorem body_133 : HasBody Tryd.prog 133 := fun _ _ => by kernel_rfl
theorem body_134 : HasBody Tryd.prog 134 := fun _ _ => by kernel_rfl
theorem body_135 : HasBody Tryd.prog 135 := fun _ _ => by kernel_rfl
theorem body_136 : HasBody Tryd.prog 136 := fun _ _ => by kernel_rfl
theorem body_137 : HasBody Tryd.prog 137 := fun _ _ => by kernel_rfl
theorem body_138 : HasBody Tryd.prog 138 := fun _ _ => by kernel_rfl
theorem body_139 : HasBody Tryd.prog 139 := fun _ _ => by kernel_rfl
theorem body_140 : HasBody Tryd.prog 140 := fun _ _ => by kernel_rfl
theorem body_141 : HasBody Tryd.prog 141 := fun _ _ => by kernel_rfl
theorem body_142 : HasBody Tryd.prog 142 := fun _ _ => by kernel_rfl
theorem body_143 : HasBody Tryd.prog 143 := fun _ _ => by kernel_rfl
theorem body_144 : HasBody Tryd.prog 144 := fun _ _ => by kernel_rfl
theorem body_145 : HasBody Tryd.prog 145 := fun _ _ => by kernel_rfl
theorem body_146 : HasBody Tryd.prog 146 := fun _ _ => by kernel_rfl
theorem body_147 : HasBody Tryd.prog 147 := fun _ _ => by kernel_rfl
theorem body_148 : HasBody Tryd.prog 148 := fun _ _ => by kernel_rfl
theorem body_149 : HasBody Tryd.prog 149 := fun _ _ => by kernel_rfl
theorem body_150 : HasBody Tryd.prog 150 := fun _ _ => by kernel_rfl
theorem body_151 : HasBody Tryd.prog 151 := fun _ _ => by kernel_rfl
theorem body_152 : HasBody Tryd.prog 152 := fun _ _ => by kernel_rfl
theorem body_153 : HasBody Tryd.prog 153 := fun _ _ => by kernel_rfl
theorem body_154 : HasBody Tryd.prog 154 := fun _ _ => by kernel_rfl
theorem body_155 : HasBody Tryd.prog 155 := fun _ _ => by kernel_rfl
theorem body_156 : HasBody Tryd.prog 156 := fun _ _ => by kernel_rfl
theorem body_157 : HasBody Tryd.prog 157 := fun _ _ => by kernel_rfl
theorem body_181 : HasBody Tryd.prog 181 := fun _ _ => by kernel_rfl
end Go.Proofs.YtcopemgkjbaaeaaDoor
