/- Part 4 of the proof: the evaluator, contracts of functions and their plain laws (joined by program). No condition. -/
import Derived.Test.YtemnjalaincijaaGreatPart3
import Derived.Test.YtemnjalaincijaaGreatProg
/- Facts of the program's types, each reckoned by the kernel. -/
namespace Go.Proofs.YtemnjalaincijaaGreat.F
open Go Go.Ev Go.Proofs
theorem shp_0 : shp Proofs.Tryz.prog 0 = some (false, 1) := by kernel_rfl
theorem zok_0 : zok Proofs.Tryz.prog 0 = true := by kernel_rfl
theorem hasTy_0 : hasTy Proofs.Tryz.prog 0 = true := by kernel_rfl
theorem shp_1 : shp Proofs.Tryz.prog 1 = some (false, 1) := by kernel_rfl
theorem zok_1 : zok Proofs.Tryz.prog 1 = true := by kernel_rfl
theorem hasTy_1 : hasTy Proofs.Tryz.prog 1 = true := by kernel_rfl
theorem shp_2 : shp Proofs.Tryz.prog 2 = some (false, 1) := by kernel_rfl
theorem zer_2 : zer Proofs.Tryz.prog 2 = some [SV.int IntKind.i64 0] := by kernel_rfl
theorem zok_2 : zok Proofs.Tryz.prog 2 = true := by kernel_rfl
theorem isInt_2 : isInt Proofs.Tryz.prog 2 = some IntKind.i64 := by kernel_rfl
theorem hasTy_2 : hasTy Proofs.Tryz.prog 2 = true := by kernel_rfl
theorem shp_3 : shp Proofs.Tryz.prog 3 = some (false, 1) := by kernel_rfl
theorem zer_3 : zer Proofs.Tryz.prog 3 = some [SV.int IntKind.i64 0] := by kernel_rfl
theorem zok_3 : zok Proofs.Tryz.prog 3 = true := by kernel_rfl
theorem isInt_3 : isInt Proofs.Tryz.prog 3 = some IntKind.i64 := by kernel_rfl
theorem hasTy_3 : hasTy Proofs.Tryz.prog 3 = true := by kernel_rfl
theorem shp_4 : shp Proofs.Tryz.prog 4 = some (false, 1) := by kernel_rfl
theorem zer_4 : zer Proofs.Tryz.prog 4 = some [SV.bool false] := by kernel_rfl
theorem zok_4 : zok Proofs.Tryz.prog 4 = true := by kernel_rfl
theorem isBool_4 : isBool Proofs.Tryz.prog 4 = true := by kernel_rfl
theorem hasTy_4 : hasTy Proofs.Tryz.prog 4 = true := by kernel_rfl
theorem shp_5 : shp Proofs.Tryz.prog 5 = some (false, 1) := by kernel_rfl
theorem zer_5 : zer Proofs.Tryz.prog 5 = some [SV.int IntKind.u8 0] := by kernel_rfl
theorem zok_5 : zok Proofs.Tryz.prog 5 = true := by kernel_rfl
theorem isInt_5 : isInt Proofs.Tryz.prog 5 = some IntKind.u8 := by kernel_rfl
theorem hasTy_5 : hasTy Proofs.Tryz.prog 5 = true := by kernel_rfl
theorem shp_6 : shp Proofs.Tryz.prog 6 = some (false, 1) := by kernel_rfl
theorem zer_6 : zer Proofs.Tryz.prog 6 = some [SV.int IntKind.u8 0] := by kernel_rfl
theorem zok_6 : zok Proofs.Tryz.prog 6 = true := by kernel_rfl
theorem isInt_6 : isInt Proofs.Tryz.prog 6 = some IntKind.u8 := by kernel_rfl
theorem hasTy_6 : hasTy Proofs.Tryz.prog 6 = true := by kernel_rfl
theorem shp_7 : shp Proofs.Tryz.prog 7 = some (true, 4) := by kernel_rfl
theorem zer_7 : zer Proofs.Tryz.prog 7 = some [SV.int IntKind.i64 0, SV.int IntKind.i64 0, SV.bool false, SV.int IntKind.u8 0] := by kernel_rfl
theorem zok_7 : zok Proofs.Tryz.prog 7 = true := by kernel_rfl
theorem plc_7 : plc Proofs.Tryz.prog 7 = some [(0, 1), (1, 1), (2, 1), (3, 1)] := by kernel_rfl
theorem hasTy_7 : hasTy Proofs.Tryz.prog 7 = true := by kernel_rfl
theorem fld_7_0 : fld Proofs.Tryz.prog 7 0 = some (0, 2, 1) := by kernel_rfl
theorem fld_7_1 : fld Proofs.Tryz.prog 7 1 = some (1, 3, 1) := by kernel_rfl
theorem fld_7_2 : fld Proofs.Tryz.prog 7 2 = some (2, 4, 1) := by kernel_rfl
theorem fld_7_3 : fld Proofs.Tryz.prog 7 3 = some (3, 6, 1) := by kernel_rfl
theorem shp_8 : shp Proofs.Tryz.prog 8 = some (true, 4) := by kernel_rfl
theorem zer_8 : zer Proofs.Tryz.prog 8 = some [SV.int IntKind.i64 0, SV.int IntKind.i64 0, SV.bool false, SV.int IntKind.u8 0] := by kernel_rfl
theorem zok_8 : zok Proofs.Tryz.prog 8 = true := by kernel_rfl
theorem plc_8 : plc Proofs.Tryz.prog 8 = some [(0, 1), (1, 1), (2, 1), (3, 1)] := by kernel_rfl
theorem hasTy_8 : hasTy Proofs.Tryz.prog 8 = true := by kernel_rfl
theorem fld_8_0 : fld Proofs.Tryz.prog 8 0 = some (0, 2, 1) := by kernel_rfl
theorem fld_8_1 : fld Proofs.Tryz.prog 8 1 = some (1, 3, 1) := by kernel_rfl
theorem fld_8_2 : fld Proofs.Tryz.prog 8 2 = some (2, 4, 1) := by kernel_rfl
theorem fld_8_3 : fld Proofs.Tryz.prog 8 3 = some (3, 6, 1) := by kernel_rfl
theorem shp_9 : shp Proofs.Tryz.prog 9 = some (false, 1) := by kernel_rfl
theorem zer_9 : zer Proofs.Tryz.prog 9 = some [SV.str { data := { toList := [] } }] := by kernel_rfl
theorem zok_9 : zok Proofs.Tryz.prog 9 = true := by kernel_rfl
theorem isStr_9 : isStr Proofs.Tryz.prog 9 = true := by kernel_rfl
theorem hasTy_9 : hasTy Proofs.Tryz.prog 9 = true := by kernel_rfl
theorem shp_10 : shp Proofs.Tryz.prog 10 = some (false, 1) := by kernel_rfl
theorem zer_10 : zer Proofs.Tryz.prog 10 = some [SV.str { data := { toList := [] } }] := by kernel_rfl
theorem zok_10 : zok Proofs.Tryz.prog 10 = true := by kernel_rfl
theorem isStr_10 : isStr Proofs.Tryz.prog 10 = true := by kernel_rfl
theorem hasTy_10 : hasTy Proofs.Tryz.prog 10 = true := by kernel_rfl
theorem shp_11 : shp Proofs.Tryz.prog 11 = some (false, 1) := by kernel_rfl
theorem zer_11 : zer Proofs.Tryz.prog 11 = some [SV.str { data := { toList := [] } }] := by kernel_rfl
theorem zok_11 : zok Proofs.Tryz.prog 11 = true := by kernel_rfl
theorem isStr_11 : isStr Proofs.Tryz.prog 11 = true := by kernel_rfl
theorem hasTy_11 : hasTy Proofs.Tryz.prog 11 = true := by kernel_rfl
theorem shp_12 : shp Proofs.Tryz.prog 12 = some (false, 1) := by kernel_rfl
theorem zer_12 : zer Proofs.Tryz.prog 12 = some [SV.int IntKind.u64 0] := by kernel_rfl
theorem zok_12 : zok Proofs.Tryz.prog 12 = true := by kernel_rfl
theorem isInt_12 : isInt Proofs.Tryz.prog 12 = some IntKind.u64 := by kernel_rfl
theorem hasTy_12 : hasTy Proofs.Tryz.prog 12 = true := by kernel_rfl
theorem shp_13 : shp Proofs.Tryz.prog 13 = some (true, 2) := by kernel_rfl
theorem zer_13 : zer Proofs.Tryz.prog 13 = some [SV.str { data := { toList := [] } }, SV.int IntKind.u64 0] := by kernel_rfl
theorem zok_13 : zok Proofs.Tryz.prog 13 = true := by kernel_rfl
theorem plc_13 : plc Proofs.Tryz.prog 13 = some [(0, 1), (1, 1)] := by kernel_rfl
theorem hasTy_13 : hasTy Proofs.Tryz.prog 13 = true := by kernel_rfl
theorem fld_13_0 : fld Proofs.Tryz.prog 13 0 = some (0, 9, 1) := by kernel_rfl
theorem fld_13_1 : fld Proofs.Tryz.prog 13 1 = some (1, 12, 1) := by kernel_rfl
theorem shp_14 : shp Proofs.Tryz.prog 14 = some (true, 2) := by kernel_rfl
theorem zer_14 : zer Proofs.Tryz.prog 14 = some [SV.str { data := { toList := [] } }, SV.int IntKind.u64 0] := by kernel_rfl
theorem zok_14 : zok Proofs.Tryz.prog 14 = true := by kernel_rfl
theorem plc_14 : plc Proofs.Tryz.prog 14 = some [(0, 1), (1, 1)] := by kernel_rfl
theorem hasTy_14 : hasTy Proofs.Tryz.prog 14 = true := by kernel_rfl
theorem fld_14_0 : fld Proofs.Tryz.prog 14 0 = some (0, 9, 1) := by kernel_rfl
theorem fld_14_1 : fld Proofs.Tryz.prog 14 1 = some (1, 12, 1) := by kernel_rfl
theorem shp_15 : shp Proofs.Tryz.prog 15 = some (false, 1) := by kernel_rfl
theorem zok_15 : zok Proofs.Tryz.prog 15 = true := by kernel_rfl
theorem hasTy_15 : hasTy Proofs.Tryz.prog 15 = true := by kernel_rfl
theorem shp_16 : shp Proofs.Tryz.prog 16 = some (false, 1) := by kernel_rfl
theorem zok_16 : zok Proofs.Tryz.prog 16 = true := by kernel_rfl
theorem hasTy_16 : hasTy Proofs.Tryz.prog 16 = true := by kernel_rfl
theorem shp_17 : shp Proofs.Tryz.prog 17 = some (false, 1) := by kernel_rfl
theorem zok_17 : zok Proofs.Tryz.prog 17 = true := by kernel_rfl
theorem hasTy_17 : hasTy Proofs.Tryz.prog 17 = true := by kernel_rfl
theorem shp_18 : shp Proofs.Tryz.prog 18 = some (true, 1) := by kernel_rfl
theorem zok_18 : zok Proofs.Tryz.prog 18 = true := by kernel_rfl
theorem plc_18 : plc Proofs.Tryz.prog 18 = some [(0, 1)] := by kernel_rfl
theorem hasTy_18 : hasTy Proofs.Tryz.prog 18 = true := by kernel_rfl
theorem fld_18_0 : fld Proofs.Tryz.prog 18 0 = some (0, 17, 1) := by kernel_rfl
theorem shp_19 : shp Proofs.Tryz.prog 19 = some (true, 1) := by kernel_rfl
theorem zok_19 : zok Proofs.Tryz.prog 19 = true := by kernel_rfl
theorem plc_19 : plc Proofs.Tryz.prog 19 = some [(0, 1)] := by kernel_rfl
theorem hasTy_19 : hasTy Proofs.Tryz.prog 19 = true := by kernel_rfl
theorem fld_19_0 : fld Proofs.Tryz.prog 19 0 = some (0, 17, 1) := by kernel_rfl
theorem shp_20 : shp Proofs.Tryz.prog 20 = some (false, 1) := by kernel_rfl
theorem zok_20 : zok Proofs.Tryz.prog 20 = true := by kernel_rfl
theorem hasTy_20 : hasTy Proofs.Tryz.prog 20 = true := by kernel_rfl
theorem shp_21 : shp Proofs.Tryz.prog 21 = some (false, 1) := by kernel_rfl
theorem zer_21 : zer Proofs.Tryz.prog 21 = some [SV.int IntKind.i32 0] := by kernel_rfl
theorem zok_21 : zok Proofs.Tryz.prog 21 = true := by kernel_rfl
theorem isInt_21 : isInt Proofs.Tryz.prog 21 = some IntKind.i32 := by kernel_rfl
theorem hasTy_21 : hasTy Proofs.Tryz.prog 21 = true := by kernel_rfl
theorem shp_22 : shp Proofs.Tryz.prog 22 = some (false, 1) := by kernel_rfl
theorem elm_22 : elm Proofs.Tryz.prog 22 = some (42, 1, 4) := by kernel_rfl
theorem zer_22 : zer Proofs.Tryz.prog 22 = some [SV.sl 0 []] := by kernel_rfl
theorem zok_22 : zok Proofs.Tryz.prog 22 = true := by kernel_rfl
theorem hasTy_22 : hasTy Proofs.Tryz.prog 22 = true := by kernel_rfl
theorem shp_23 : shp Proofs.Tryz.prog 23 = some (true, 3) := by kernel_rfl
theorem zer_23 : zer Proofs.Tryz.prog 23 = some [SV.bool false, SV.sl 0 [], SV.sl 0 []] := by kernel_rfl
theorem zok_23 : zok Proofs.Tryz.prog 23 = true := by kernel_rfl
theorem plc_23 : plc Proofs.Tryz.prog 23 = some [(0, 1), (1, 1), (2, 1)] := by kernel_rfl
theorem hasTy_23 : hasTy Proofs.Tryz.prog 23 = true := by kernel_rfl
theorem fld_23_0 : fld Proofs.Tryz.prog 23 0 = some (0, 4, 1) := by kernel_rfl
theorem fld_23_1 : fld Proofs.Tryz.prog 23 1 = some (1, 22, 1) := by kernel_rfl
theorem fld_23_2 : fld Proofs.Tryz.prog 23 2 = some (2, 22, 1) := by kernel_rfl
theorem shp_24 : shp Proofs.Tryz.prog 24 = some (true, 3) := by kernel_rfl
theorem zer_24 : zer Proofs.Tryz.prog 24 = some [SV.bool false, SV.sl 0 [], SV.sl 0 []] := by kernel_rfl
theorem zok_24 : zok Proofs.Tryz.prog 24 = true := by kernel_rfl
theorem plc_24 : plc Proofs.Tryz.prog 24 = some [(0, 1), (1, 1), (2, 1)] := by kernel_rfl
theorem hasTy_24 : hasTy Proofs.Tryz.prog 24 = true := by kernel_rfl
theorem fld_24_0 : fld Proofs.Tryz.prog 24 0 = some (0, 4, 1) := by kernel_rfl
theorem fld_24_1 : fld Proofs.Tryz.prog 24 1 = some (1, 22, 1) := by kernel_rfl
theorem fld_24_2 : fld Proofs.Tryz.prog 24 2 = some (2, 22, 1) := by kernel_rfl
theorem shp_25 : shp Proofs.Tryz.prog 25 = some (false, 1) := by kernel_rfl
theorem zok_25 : zok Proofs.Tryz.prog 25 = true := by kernel_rfl
theorem hasTy_25 : hasTy Proofs.Tryz.prog 25 = true := by kernel_rfl
theorem shp_26 : shp Proofs.Tryz.prog 26 = some (true, 6) := by kernel_rfl
theorem zer_26 : zer Proofs.Tryz.prog 26 = some [SV.bool false, SV.sl 0 [], SV.sl 0 [], SV.bool false, SV.sl 0 [], SV.sl 0 []] := by kernel_rfl
theorem zok_26 : zok Proofs.Tryz.prog 26 = true := by kernel_rfl
theorem plc_26 : plc Proofs.Tryz.prog 26 = some [(0, 3), (3, 3)] := by kernel_rfl
theorem hasTy_26 : hasTy Proofs.Tryz.prog 26 = true := by kernel_rfl
theorem fld_26_0 : fld Proofs.Tryz.prog 26 0 = some (0, 24, 3) := by kernel_rfl
theorem fld_26_1 : fld Proofs.Tryz.prog 26 1 = some (3, 24, 3) := by kernel_rfl
theorem shp_27 : shp Proofs.Tryz.prog 27 = some (true, 6) := by kernel_rfl
theorem zer_27 : zer Proofs.Tryz.prog 27 = some [SV.bool false, SV.sl 0 [], SV.sl 0 [], SV.bool false, SV.sl 0 [], SV.sl 0 []] := by kernel_rfl
theorem zok_27 : zok Proofs.Tryz.prog 27 = true := by kernel_rfl
theorem plc_27 : plc Proofs.Tryz.prog 27 = some [(0, 3), (3, 3)] := by kernel_rfl
theorem hasTy_27 : hasTy Proofs.Tryz.prog 27 = true := by kernel_rfl
theorem fld_27_0 : fld Proofs.Tryz.prog 27 0 = some (0, 24, 3) := by kernel_rfl
theorem fld_27_1 : fld Proofs.Tryz.prog 27 1 = some (3, 24, 3) := by kernel_rfl
theorem shp_28 : shp Proofs.Tryz.prog 28 = some (false, 1) := by kernel_rfl
theorem zok_28 : zok Proofs.Tryz.prog 28 = true := by kernel_rfl
theorem hasTy_28 : hasTy Proofs.Tryz.prog 28 = true := by kernel_rfl
theorem shp_29 : shp Proofs.Tryz.prog 29 = some (false, 1) := by kernel_rfl
theorem zok_29 : zok Proofs.Tryz.prog 29 = true := by kernel_rfl
theorem hasTy_29 : hasTy Proofs.Tryz.prog 29 = true := by kernel_rfl
theorem shp_30 : shp Proofs.Tryz.prog 30 = some (false, 1) := by kernel_rfl
theorem zok_30 : zok Proofs.Tryz.prog 30 = true := by kernel_rfl
theorem hasTy_30 : hasTy Proofs.Tryz.prog 30 = true := by kernel_rfl
theorem shp_31 : shp Proofs.Tryz.prog 31 = some (false, 1) := by kernel_rfl
theorem zok_31 : zok Proofs.Tryz.prog 31 = true := by kernel_rfl
theorem hasTy_31 : hasTy Proofs.Tryz.prog 31 = true := by kernel_rfl
theorem shp_32 : shp Proofs.Tryz.prog 32 = some (false, 1) := by kernel_rfl
theorem zok_32 : zok Proofs.Tryz.prog 32 = true := by kernel_rfl
theorem hasTy_32 : hasTy Proofs.Tryz.prog 32 = true := by kernel_rfl
theorem shp_33 : shp Proofs.Tryz.prog 33 = some (false, 1) := by kernel_rfl
theorem zok_33 : zok Proofs.Tryz.prog 33 = true := by kernel_rfl
theorem hasTy_33 : hasTy Proofs.Tryz.prog 33 = true := by kernel_rfl
theorem shp_34 : shp Proofs.Tryz.prog 34 = some (false, 1) := by kernel_rfl
theorem zok_34 : zok Proofs.Tryz.prog 34 = true := by kernel_rfl
theorem hasTy_34 : hasTy Proofs.Tryz.prog 34 = true := by kernel_rfl
theorem shp_35 : shp Proofs.Tryz.prog 35 = some (false, 1) := by kernel_rfl
theorem zok_35 : zok Proofs.Tryz.prog 35 = true := by kernel_rfl
theorem hasTy_35 : hasTy Proofs.Tryz.prog 35 = true := by kernel_rfl
theorem shp_36 : shp Proofs.Tryz.prog 36 = some (false, 1) := by kernel_rfl
theorem zok_36 : zok Proofs.Tryz.prog 36 = true := by kernel_rfl
theorem hasTy_36 : hasTy Proofs.Tryz.prog 36 = true := by kernel_rfl
theorem shp_37 : shp Proofs.Tryz.prog 37 = some (false, 1) := by kernel_rfl
theorem zok_37 : zok Proofs.Tryz.prog 37 = true := by kernel_rfl
theorem hasTy_37 : hasTy Proofs.Tryz.prog 37 = true := by kernel_rfl
theorem shp_38 : shp Proofs.Tryz.prog 38 = some (false, 1) := by kernel_rfl
theorem zok_38 : zok Proofs.Tryz.prog 38 = true := by kernel_rfl
theorem hasTy_38 : hasTy Proofs.Tryz.prog 38 = true := by kernel_rfl
theorem shp_39 : shp Proofs.Tryz.prog 39 = some (false, 1) := by kernel_rfl
theorem zok_39 : zok Proofs.Tryz.prog 39 = true := by kernel_rfl
theorem hasTy_39 : hasTy Proofs.Tryz.prog 39 = true := by kernel_rfl
theorem shp_40 : shp Proofs.Tryz.prog 40 = some (false, 1) := by kernel_rfl
theorem zok_40 : zok Proofs.Tryz.prog 40 = true := by kernel_rfl
theorem hasTy_40 : hasTy Proofs.Tryz.prog 40 = true := by kernel_rfl
theorem shp_41 : shp Proofs.Tryz.prog 41 = some (false, 1) := by kernel_rfl
theorem zok_41 : zok Proofs.Tryz.prog 41 = true := by kernel_rfl
theorem hasTy_41 : hasTy Proofs.Tryz.prog 41 = true := by kernel_rfl
theorem shp_42 : shp Proofs.Tryz.prog 42 = some (false, 1) := by kernel_rfl
theorem zer_42 : zer Proofs.Tryz.prog 42 = some [SV.int IntKind.u32 0] := by kernel_rfl
theorem zok_42 : zok Proofs.Tryz.prog 42 = true := by kernel_rfl
theorem isInt_42 : isInt Proofs.Tryz.prog 42 = some IntKind.u32 := by kernel_rfl
theorem hasTy_42 : hasTy Proofs.Tryz.prog 42 = true := by kernel_rfl
theorem shp_43 : shp Proofs.Tryz.prog 43 = some (false, 1) := by kernel_rfl
theorem zok_43 : zok Proofs.Tryz.prog 43 = true := by kernel_rfl
theorem hasTy_43 : hasTy Proofs.Tryz.prog 43 = true := by kernel_rfl
theorem shp_44 : shp Proofs.Tryz.prog 44 = some (false, 1) := by kernel_rfl
theorem zok_44 : zok Proofs.Tryz.prog 44 = true := by kernel_rfl
theorem hasTy_44 : hasTy Proofs.Tryz.prog 44 = true := by kernel_rfl
theorem shp_45 : shp Proofs.Tryz.prog 45 = some (false, 1) := by kernel_rfl
theorem zok_45 : zok Proofs.Tryz.prog 45 = true := by kernel_rfl
theorem hasTy_45 : hasTy Proofs.Tryz.prog 45 = true := by kernel_rfl
theorem shp_46 : shp Proofs.Tryz.prog 46 = some (false, 1) := by kernel_rfl
theorem zok_46 : zok Proofs.Tryz.prog 46 = true := by kernel_rfl
theorem hasTy_46 : hasTy Proofs.Tryz.prog 46 = true := by kernel_rfl
theorem shp_47 : shp Proofs.Tryz.prog 47 = some (false, 1) := by kernel_rfl
theorem zok_47 : zok Proofs.Tryz.prog 47 = true := by kernel_rfl
theorem hasTy_47 : hasTy Proofs.Tryz.prog 47 = true := by kernel_rfl
theorem shp_48 : shp Proofs.Tryz.prog 48 = some (false, 1) := by kernel_rfl
theorem zok_48 : zok Proofs.Tryz.prog 48 = true := by kernel_rfl
theorem hasTy_48 : hasTy Proofs.Tryz.prog 48 = true := by kernel_rfl
theorem shp_49 : shp Proofs.Tryz.prog 49 = some (false, 1) := by kernel_rfl
theorem zok_49 : zok Proofs.Tryz.prog 49 = true := by kernel_rfl
theorem hasTy_49 : hasTy Proofs.Tryz.prog 49 = true := by kernel_rfl
theorem shp_50 : shp Proofs.Tryz.prog 50 = some (false, 1) := by kernel_rfl
theorem zok_50 : zok Proofs.Tryz.prog 50 = true := by kernel_rfl
theorem hasTy_50 : hasTy Proofs.Tryz.prog 50 = true := by kernel_rfl
theorem shp_51 : shp Proofs.Tryz.prog 51 = some (false, 1) := by kernel_rfl
theorem zer_51 : zer Proofs.Tryz.prog 51 = some [SV.int IntKind.i64 0] := by kernel_rfl
theorem zok_51 : zok Proofs.Tryz.prog 51 = true := by kernel_rfl
theorem isInt_51 : isInt Proofs.Tryz.prog 51 = some IntKind.i64 := by kernel_rfl
theorem hasTy_51 : hasTy Proofs.Tryz.prog 51 = true := by kernel_rfl
theorem shp_52 : shp Proofs.Tryz.prog 52 = some (false, 1) := by kernel_rfl
theorem zok_52 : zok Proofs.Tryz.prog 52 = true := by kernel_rfl
theorem hasTy_52 : hasTy Proofs.Tryz.prog 52 = true := by kernel_rfl
theorem shp_53 : shp Proofs.Tryz.prog 53 = some (false, 1) := by kernel_rfl
theorem zok_53 : zok Proofs.Tryz.prog 53 = true := by kernel_rfl
theorem hasTy_53 : hasTy Proofs.Tryz.prog 53 = true := by kernel_rfl
theorem shp_54 : shp Proofs.Tryz.prog 54 = some (true, 9) := by kernel_rfl
theorem zer_54 : zer Proofs.Tryz.prog 54 = some [SV.int IntKind.i64 0, SV.int IntKind.i64 0, SV.int IntKind.i64 0, SV.bool false, SV.sl 0 [], SV.sl 0 [], SV.bool false, SV.sl 0 [], SV.sl 0 []] := by kernel_rfl
theorem zok_54 : zok Proofs.Tryz.prog 54 = true := by kernel_rfl
theorem plc_54 : plc Proofs.Tryz.prog 54 = some [(0, 1), (1, 1), (2, 1), (3, 3), (6, 3)] := by kernel_rfl
theorem hasTy_54 : hasTy Proofs.Tryz.prog 54 = true := by kernel_rfl
theorem fld_54_0 : fld Proofs.Tryz.prog 54 0 = some (0, 3, 1) := by kernel_rfl
theorem fld_54_1 : fld Proofs.Tryz.prog 54 1 = some (1, 3, 1) := by kernel_rfl
theorem fld_54_2 : fld Proofs.Tryz.prog 54 2 = some (2, 3, 1) := by kernel_rfl
theorem fld_54_3 : fld Proofs.Tryz.prog 54 3 = some (3, 24, 3) := by kernel_rfl
theorem fld_54_4 : fld Proofs.Tryz.prog 54 4 = some (6, 24, 3) := by kernel_rfl
theorem shp_55 : shp Proofs.Tryz.prog 55 = some (true, 9) := by kernel_rfl
theorem zer_55 : zer Proofs.Tryz.prog 55 = some [SV.int IntKind.i64 0, SV.int IntKind.i64 0, SV.int IntKind.i64 0, SV.bool false, SV.sl 0 [], SV.sl 0 [], SV.bool false, SV.sl 0 [], SV.sl 0 []] := by kernel_rfl
theorem zok_55 : zok Proofs.Tryz.prog 55 = true := by kernel_rfl
theorem plc_55 : plc Proofs.Tryz.prog 55 = some [(0, 1), (1, 1), (2, 1), (3, 3), (6, 3)] := by kernel_rfl
theorem hasTy_55 : hasTy Proofs.Tryz.prog 55 = true := by kernel_rfl
theorem fld_55_0 : fld Proofs.Tryz.prog 55 0 = some (0, 3, 1) := by kernel_rfl
theorem fld_55_1 : fld Proofs.Tryz.prog 55 1 = some (1, 3, 1) := by kernel_rfl
theorem fld_55_2 : fld Proofs.Tryz.prog 55 2 = some (2, 3, 1) := by kernel_rfl
theorem fld_55_3 : fld Proofs.Tryz.prog 55 3 = some (3, 24, 3) := by kernel_rfl
theorem fld_55_4 : fld Proofs.Tryz.prog 55 4 = some (6, 24, 3) := by kernel_rfl
theorem shp_56 : shp Proofs.Tryz.prog 56 = some (false, 1) := by kernel_rfl
theorem zok_56 : zok Proofs.Tryz.prog 56 = true := by kernel_rfl
theorem hasTy_56 : hasTy Proofs.Tryz.prog 56 = true := by kernel_rfl
theorem shp_57 : shp Proofs.Tryz.prog 57 = some (false, 1) := by kernel_rfl
theorem zok_57 : zok Proofs.Tryz.prog 57 = true := by kernel_rfl
theorem hasTy_57 : hasTy Proofs.Tryz.prog 57 = true := by kernel_rfl
theorem shp_58 : shp Proofs.Tryz.prog 58 = some (false, 1) := by kernel_rfl
theorem elm_58 : elm Proofs.Tryz.prog 58 = some (24, 3, 56) := by kernel_rfl
theorem zer_58 : zer Proofs.Tryz.prog 58 = some [SV.sl 0 []] := by kernel_rfl
theorem zok_58 : zok Proofs.Tryz.prog 58 = true := by kernel_rfl
theorem hasTy_58 : hasTy Proofs.Tryz.prog 58 = true := by kernel_rfl
theorem shp_59 : shp Proofs.Tryz.prog 59 = some (false, 1) := by kernel_rfl
theorem zok_59 : zok Proofs.Tryz.prog 59 = true := by kernel_rfl
theorem hasTy_59 : hasTy Proofs.Tryz.prog 59 = true := by kernel_rfl
theorem shp_60 : shp Proofs.Tryz.prog 60 = some (true, 2) := by kernel_rfl
theorem zer_60 : zer Proofs.Tryz.prog 60 = some [SV.sl 0 [], SV.sl 0 []] := by kernel_rfl
theorem zok_60 : zok Proofs.Tryz.prog 60 = true := by kernel_rfl
theorem plc_60 : plc Proofs.Tryz.prog 60 = some [(0, 1), (1, 1)] := by kernel_rfl
theorem hasTy_60 : hasTy Proofs.Tryz.prog 60 = true := by kernel_rfl
theorem fld_60_0 : fld Proofs.Tryz.prog 60 0 = some (0, 22, 1) := by kernel_rfl
theorem fld_60_1 : fld Proofs.Tryz.prog 60 1 = some (1, 22, 1) := by kernel_rfl
theorem shp_61 : shp Proofs.Tryz.prog 61 = some (true, 2) := by kernel_rfl
theorem zer_61 : zer Proofs.Tryz.prog 61 = some [SV.sl 0 [], SV.sl 0 []] := by kernel_rfl
theorem zok_61 : zok Proofs.Tryz.prog 61 = true := by kernel_rfl
theorem plc_61 : plc Proofs.Tryz.prog 61 = some [(0, 1), (1, 1)] := by kernel_rfl
theorem hasTy_61 : hasTy Proofs.Tryz.prog 61 = true := by kernel_rfl
theorem fld_61_0 : fld Proofs.Tryz.prog 61 0 = some (0, 22, 1) := by kernel_rfl
theorem fld_61_1 : fld Proofs.Tryz.prog 61 1 = some (1, 22, 1) := by kernel_rfl
theorem shp_62 : shp Proofs.Tryz.prog 62 = some (false, 1) := by kernel_rfl
theorem zok_62 : zok Proofs.Tryz.prog 62 = true := by kernel_rfl
theorem hasTy_62 : hasTy Proofs.Tryz.prog 62 = true := by kernel_rfl
theorem shp_63 : shp Proofs.Tryz.prog 63 = some (false, 1) := by kernel_rfl
theorem zok_63 : zok Proofs.Tryz.prog 63 = true := by kernel_rfl
theorem hasTy_63 : hasTy Proofs.Tryz.prog 63 = true := by kernel_rfl
theorem shp_64 : shp Proofs.Tryz.prog 64 = some (false, 1) := by kernel_rfl
theorem zok_64 : zok Proofs.Tryz.prog 64 = true := by kernel_rfl
theorem hasTy_64 : hasTy Proofs.Tryz.prog 64 = true := by kernel_rfl
theorem shp_65 : shp Proofs.Tryz.prog 65 = some (false, 1) := by kernel_rfl
theorem zok_65 : zok Proofs.Tryz.prog 65 = true := by kernel_rfl
theorem hasTy_65 : hasTy Proofs.Tryz.prog 65 = true := by kernel_rfl
theorem shp_66 : shp Proofs.Tryz.prog 66 = some (false, 1) := by kernel_rfl
theorem zok_66 : zok Proofs.Tryz.prog 66 = true := by kernel_rfl
theorem hasTy_66 : hasTy Proofs.Tryz.prog 66 = true := by kernel_rfl
theorem shp_67 : shp Proofs.Tryz.prog 67 = some (false, 1) := by kernel_rfl
theorem zok_67 : zok Proofs.Tryz.prog 67 = true := by kernel_rfl
theorem hasTy_67 : hasTy Proofs.Tryz.prog 67 = true := by kernel_rfl
theorem shp_68 : shp Proofs.Tryz.prog 68 = some (true, 2) := by kernel_rfl
theorem zer_68 : zer Proofs.Tryz.prog 68 = some [SV.bool false, SV.sl 0 []] := by kernel_rfl
theorem zok_68 : zok Proofs.Tryz.prog 68 = true := by kernel_rfl
theorem plc_68 : plc Proofs.Tryz.prog 68 = some [(0, 1), (1, 1)] := by kernel_rfl
theorem hasTy_68 : hasTy Proofs.Tryz.prog 68 = true := by kernel_rfl
theorem fld_68_0 : fld Proofs.Tryz.prog 68 0 = some (0, 4, 1) := by kernel_rfl
theorem fld_68_1 : fld Proofs.Tryz.prog 68 1 = some (1, 22, 1) := by kernel_rfl
theorem shp_69 : shp Proofs.Tryz.prog 69 = some (true, 2) := by kernel_rfl
theorem zer_69 : zer Proofs.Tryz.prog 69 = some [SV.bool false, SV.sl 0 []] := by kernel_rfl
theorem zok_69 : zok Proofs.Tryz.prog 69 = true := by kernel_rfl
theorem plc_69 : plc Proofs.Tryz.prog 69 = some [(0, 1), (1, 1)] := by kernel_rfl
theorem hasTy_69 : hasTy Proofs.Tryz.prog 69 = true := by kernel_rfl
theorem fld_69_0 : fld Proofs.Tryz.prog 69 0 = some (0, 4, 1) := by kernel_rfl
theorem fld_69_1 : fld Proofs.Tryz.prog 69 1 = some (1, 22, 1) := by kernel_rfl
theorem shp_70 : shp Proofs.Tryz.prog 70 = some (true, 4) := by kernel_rfl
theorem zer_70 : zer Proofs.Tryz.prog 70 = some [SV.bool false, SV.sl 0 [], SV.bool false, SV.sl 0 []] := by kernel_rfl
theorem zok_70 : zok Proofs.Tryz.prog 70 = true := by kernel_rfl
theorem plc_70 : plc Proofs.Tryz.prog 70 = some [(0, 2), (2, 2)] := by kernel_rfl
theorem hasTy_70 : hasTy Proofs.Tryz.prog 70 = true := by kernel_rfl
theorem fld_70_0 : fld Proofs.Tryz.prog 70 0 = some (0, 69, 2) := by kernel_rfl
theorem fld_70_1 : fld Proofs.Tryz.prog 70 1 = some (2, 69, 2) := by kernel_rfl
theorem shp_71 : shp Proofs.Tryz.prog 71 = some (true, 4) := by kernel_rfl
theorem zer_71 : zer Proofs.Tryz.prog 71 = some [SV.bool false, SV.sl 0 [], SV.bool false, SV.sl 0 []] := by kernel_rfl
theorem zok_71 : zok Proofs.Tryz.prog 71 = true := by kernel_rfl
theorem plc_71 : plc Proofs.Tryz.prog 71 = some [(0, 2), (2, 2)] := by kernel_rfl
theorem hasTy_71 : hasTy Proofs.Tryz.prog 71 = true := by kernel_rfl
theorem fld_71_0 : fld Proofs.Tryz.prog 71 0 = some (0, 69, 2) := by kernel_rfl
theorem fld_71_1 : fld Proofs.Tryz.prog 71 1 = some (2, 69, 2) := by kernel_rfl
theorem shp_72 : shp Proofs.Tryz.prog 72 = some (false, 1) := by kernel_rfl
theorem zok_72 : zok Proofs.Tryz.prog 72 = true := by kernel_rfl
theorem hasTy_72 : hasTy Proofs.Tryz.prog 72 = true := by kernel_rfl
theorem shp_73 : shp Proofs.Tryz.prog 73 = some (false, 1) := by kernel_rfl
theorem zer_73 : zer Proofs.Tryz.prog 73 = some [SV.int IntKind.u64 0] := by kernel_rfl
theorem zok_73 : zok Proofs.Tryz.prog 73 = true := by kernel_rfl
theorem isInt_73 : isInt Proofs.Tryz.prog 73 = some IntKind.u64 := by kernel_rfl
theorem hasTy_73 : hasTy Proofs.Tryz.prog 73 = true := by kernel_rfl
theorem shp_74 : shp Proofs.Tryz.prog 74 = some (false, 1) := by kernel_rfl
theorem zok_74 : zok Proofs.Tryz.prog 74 = true := by kernel_rfl
theorem hasTy_74 : hasTy Proofs.Tryz.prog 74 = true := by kernel_rfl
theorem shp_75 : shp Proofs.Tryz.prog 75 = some (false, 1) := by kernel_rfl
theorem zok_75 : zok Proofs.Tryz.prog 75 = true := by kernel_rfl
theorem hasTy_75 : hasTy Proofs.Tryz.prog 75 = true := by kernel_rfl
theorem shp_76 : shp Proofs.Tryz.prog 76 = some (false, 1) := by kernel_rfl
theorem zok_76 : zok Proofs.Tryz.prog 76 = true := by kernel_rfl
theorem hasTy_76 : hasTy Proofs.Tryz.prog 76 = true := by kernel_rfl
theorem shp_77 : shp Proofs.Tryz.prog 77 = some (false, 1) := by kernel_rfl
theorem zok_77 : zok Proofs.Tryz.prog 77 = true := by kernel_rfl
theorem hasTy_77 : hasTy Proofs.Tryz.prog 77 = true := by kernel_rfl
theorem shp_78 : shp Proofs.Tryz.prog 78 = some (false, 1) := by kernel_rfl
theorem zok_78 : zok Proofs.Tryz.prog 78 = true := by kernel_rfl
theorem hasTy_78 : hasTy Proofs.Tryz.prog 78 = true := by kernel_rfl
theorem shp_79 : shp Proofs.Tryz.prog 79 = some (false, 1) := by kernel_rfl
theorem zok_79 : zok Proofs.Tryz.prog 79 = true := by kernel_rfl
theorem hasTy_79 : hasTy Proofs.Tryz.prog 79 = true := by kernel_rfl
theorem shp_80 : shp Proofs.Tryz.prog 80 = some (false, 1) := by kernel_rfl
theorem zok_80 : zok Proofs.Tryz.prog 80 = true := by kernel_rfl
theorem hasTy_80 : hasTy Proofs.Tryz.prog 80 = true := by kernel_rfl
theorem shp_81 : shp Proofs.Tryz.prog 81 = some (false, 1) := by kernel_rfl
theorem zok_81 : zok Proofs.Tryz.prog 81 = true := by kernel_rfl
theorem hasTy_81 : hasTy Proofs.Tryz.prog 81 = true := by kernel_rfl
theorem shp_82 : shp Proofs.Tryz.prog 82 = some (false, 1) := by kernel_rfl
theorem zok_82 : zok Proofs.Tryz.prog 82 = true := by kernel_rfl
theorem hasTy_82 : hasTy Proofs.Tryz.prog 82 = true := by kernel_rfl
theorem shp_83 : shp Proofs.Tryz.prog 83 = some (false, 1) := by kernel_rfl
theorem zok_83 : zok Proofs.Tryz.prog 83 = true := by kernel_rfl
theorem hasTy_83 : hasTy Proofs.Tryz.prog 83 = true := by kernel_rfl
theorem shp_84 : shp Proofs.Tryz.prog 84 = some (false, 1) := by kernel_rfl
theorem zok_84 : zok Proofs.Tryz.prog 84 = true := by kernel_rfl
theorem hasTy_84 : hasTy Proofs.Tryz.prog 84 = true := by kernel_rfl
theorem shp_85 : shp Proofs.Tryz.prog 85 = some (false, 1) := by kernel_rfl
theorem zok_85 : zok Proofs.Tryz.prog 85 = true := by kernel_rfl
theorem hasTy_85 : hasTy Proofs.Tryz.prog 85 = true := by kernel_rfl
theorem shp_86 : shp Proofs.Tryz.prog 86 = some (false, 1) := by kernel_rfl
theorem zok_86 : zok Proofs.Tryz.prog 86 = true := by kernel_rfl
theorem hasTy_86 : hasTy Proofs.Tryz.prog 86 = true := by kernel_rfl
theorem shp_87 : shp Proofs.Tryz.prog 87 = some (false, 1) := by kernel_rfl
theorem zok_87 : zok Proofs.Tryz.prog 87 = true := by kernel_rfl
theorem hasTy_87 : hasTy Proofs.Tryz.prog 87 = true := by kernel_rfl
theorem shp_88 : shp Proofs.Tryz.prog 88 = some (false, 1) := by kernel_rfl
theorem zok_88 : zok Proofs.Tryz.prog 88 = true := by kernel_rfl
theorem hasTy_88 : hasTy Proofs.Tryz.prog 88 = true := by kernel_rfl
theorem shp_89 : shp Proofs.Tryz.prog 89 = some (false, 1) := by kernel_rfl
theorem zok_89 : zok Proofs.Tryz.prog 89 = true := by kernel_rfl
theorem hasTy_89 : hasTy Proofs.Tryz.prog 89 = true := by kernel_rfl
theorem shp_90 : shp Proofs.Tryz.prog 90 = some (false, 1) := by kernel_rfl
theorem zok_90 : zok Proofs.Tryz.prog 90 = true := by kernel_rfl
theorem hasTy_90 : hasTy Proofs.Tryz.prog 90 = true := by kernel_rfl
theorem shp_91 : shp Proofs.Tryz.prog 91 = some (false, 1) := by kernel_rfl
theorem zok_91 : zok Proofs.Tryz.prog 91 = true := by kernel_rfl
theorem hasTy_91 : hasTy Proofs.Tryz.prog 91 = true := by kernel_rfl
theorem shp_92 : shp Proofs.Tryz.prog 92 = some (false, 1) := by kernel_rfl
theorem zok_92 : zok Proofs.Tryz.prog 92 = true := by kernel_rfl
theorem hasTy_92 : hasTy Proofs.Tryz.prog 92 = true := by kernel_rfl
theorem shp_93 : shp Proofs.Tryz.prog 93 = some (false, 1) := by kernel_rfl
theorem zok_93 : zok Proofs.Tryz.prog 93 = true := by kernel_rfl
theorem hasTy_93 : hasTy Proofs.Tryz.prog 93 = true := by kernel_rfl
theorem shp_94 : shp Proofs.Tryz.prog 94 = some (false, 1) := by kernel_rfl
theorem zok_94 : zok Proofs.Tryz.prog 94 = true := by kernel_rfl
theorem hasTy_94 : hasTy Proofs.Tryz.prog 94 = true := by kernel_rfl
theorem shp_95 : shp Proofs.Tryz.prog 95 = some (false, 1) := by kernel_rfl
theorem zok_95 : zok Proofs.Tryz.prog 95 = true := by kernel_rfl
theorem hasTy_95 : hasTy Proofs.Tryz.prog 95 = true := by kernel_rfl
theorem shp_96 : shp Proofs.Tryz.prog 96 = some (false, 1) := by kernel_rfl
theorem zok_96 : zok Proofs.Tryz.prog 96 = true := by kernel_rfl
theorem hasTy_96 : hasTy Proofs.Tryz.prog 96 = true := by kernel_rfl
theorem shp_97 : shp Proofs.Tryz.prog 97 = some (false, 1) := by kernel_rfl
theorem zok_97 : zok Proofs.Tryz.prog 97 = true := by kernel_rfl
theorem hasTy_97 : hasTy Proofs.Tryz.prog 97 = true := by kernel_rfl
theorem shp_98 : shp Proofs.Tryz.prog 98 = some (false, 1) := by kernel_rfl
theorem zok_98 : zok Proofs.Tryz.prog 98 = true := by kernel_rfl
theorem hasTy_98 : hasTy Proofs.Tryz.prog 98 = true := by kernel_rfl
theorem shp_99 : shp Proofs.Tryz.prog 99 = some (false, 1) := by kernel_rfl
theorem zok_99 : zok Proofs.Tryz.prog 99 = true := by kernel_rfl
theorem hasTy_99 : hasTy Proofs.Tryz.prog 99 = true := by kernel_rfl
theorem shp_100 : shp Proofs.Tryz.prog 100 = some (false, 1) := by kernel_rfl
theorem zok_100 : zok Proofs.Tryz.prog 100 = true := by kernel_rfl
theorem hasTy_100 : hasTy Proofs.Tryz.prog 100 = true := by kernel_rfl
theorem shp_101 : shp Proofs.Tryz.prog 101 = some (false, 1) := by kernel_rfl
theorem zok_101 : zok Proofs.Tryz.prog 101 = true := by kernel_rfl
theorem hasTy_101 : hasTy Proofs.Tryz.prog 101 = true := by kernel_rfl
theorem shp_102 : shp Proofs.Tryz.prog 102 = some (false, 1) := by kernel_rfl
theorem zok_102 : zok Proofs.Tryz.prog 102 = true := by kernel_rfl
theorem hasTy_102 : hasTy Proofs.Tryz.prog 102 = true := by kernel_rfl
theorem shp_103 : shp Proofs.Tryz.prog 103 = some (false, 1) := by kernel_rfl
theorem zok_103 : zok Proofs.Tryz.prog 103 = true := by kernel_rfl
theorem hasTy_103 : hasTy Proofs.Tryz.prog 103 = true := by kernel_rfl
theorem shp_104 : shp Proofs.Tryz.prog 104 = some (false, 1) := by kernel_rfl
theorem zok_104 : zok Proofs.Tryz.prog 104 = true := by kernel_rfl
theorem hasTy_104 : hasTy Proofs.Tryz.prog 104 = true := by kernel_rfl
theorem shp_105 : shp Proofs.Tryz.prog 105 = some (false, 1) := by kernel_rfl
theorem zok_105 : zok Proofs.Tryz.prog 105 = true := by kernel_rfl
theorem hasTy_105 : hasTy Proofs.Tryz.prog 105 = true := by kernel_rfl
theorem shp_106 : shp Proofs.Tryz.prog 106 = some (false, 1) := by kernel_rfl
theorem zok_106 : zok Proofs.Tryz.prog 106 = true := by kernel_rfl
theorem hasTy_106 : hasTy Proofs.Tryz.prog 106 = true := by kernel_rfl
theorem shp_107 : shp Proofs.Tryz.prog 107 = some (false, 1) := by kernel_rfl
theorem zok_107 : zok Proofs.Tryz.prog 107 = true := by kernel_rfl
theorem hasTy_107 : hasTy Proofs.Tryz.prog 107 = true := by kernel_rfl
theorem shp_108 : shp Proofs.Tryz.prog 108 = some (false, 1) := by kernel_rfl
theorem zok_108 : zok Proofs.Tryz.prog 108 = true := by kernel_rfl
theorem hasTy_108 : hasTy Proofs.Tryz.prog 108 = true := by kernel_rfl
theorem shp_109 : shp Proofs.Tryz.prog 109 = some (false, 1) := by kernel_rfl
theorem zer_109 : zer Proofs.Tryz.prog 109 = some [SV.int IntKind.u64 0] := by kernel_rfl
theorem zok_109 : zok Proofs.Tryz.prog 109 = true := by kernel_rfl
theorem isInt_109 : isInt Proofs.Tryz.prog 109 = some IntKind.u64 := by kernel_rfl
theorem hasTy_109 : hasTy Proofs.Tryz.prog 109 = true := by kernel_rfl
theorem shp_110 : shp Proofs.Tryz.prog 110 = some (false, 1) := by kernel_rfl
theorem zok_110 : zok Proofs.Tryz.prog 110 = true := by kernel_rfl
theorem hasTy_110 : hasTy Proofs.Tryz.prog 110 = true := by kernel_rfl
theorem shp_111 : shp Proofs.Tryz.prog 111 = some (false, 1) := by kernel_rfl
theorem zok_111 : zok Proofs.Tryz.prog 111 = true := by kernel_rfl
theorem hasTy_111 : hasTy Proofs.Tryz.prog 111 = true := by kernel_rfl
theorem shp_112 : shp Proofs.Tryz.prog 112 = some (false, 1) := by kernel_rfl
theorem zok_112 : zok Proofs.Tryz.prog 112 = true := by kernel_rfl
theorem hasTy_112 : hasTy Proofs.Tryz.prog 112 = true := by kernel_rfl
theorem shp_113 : shp Proofs.Tryz.prog 113 = some (false, 1) := by kernel_rfl
theorem zok_113 : zok Proofs.Tryz.prog 113 = true := by kernel_rfl
theorem hasTy_113 : hasTy Proofs.Tryz.prog 113 = true := by kernel_rfl
theorem shp_114 : shp Proofs.Tryz.prog 114 = some (false, 1) := by kernel_rfl
theorem zok_114 : zok Proofs.Tryz.prog 114 = true := by kernel_rfl
theorem hasTy_114 : hasTy Proofs.Tryz.prog 114 = true := by kernel_rfl
theorem shp_115 : shp Proofs.Tryz.prog 115 = some (false, 1) := by kernel_rfl
theorem zok_115 : zok Proofs.Tryz.prog 115 = true := by kernel_rfl
theorem hasTy_115 : hasTy Proofs.Tryz.prog 115 = true := by kernel_rfl
theorem shp_116 : shp Proofs.Tryz.prog 116 = some (false, 1) := by kernel_rfl
theorem zok_116 : zok Proofs.Tryz.prog 116 = true := by kernel_rfl
theorem hasTy_116 : hasTy Proofs.Tryz.prog 116 = true := by kernel_rfl
theorem shp_117 : shp Proofs.Tryz.prog 117 = some (false, 1) := by kernel_rfl
theorem zok_117 : zok Proofs.Tryz.prog 117 = true := by kernel_rfl
theorem hasTy_117 : hasTy Proofs.Tryz.prog 117 = true := by kernel_rfl
theorem shp_118 : shp Proofs.Tryz.prog 118 = some (false, 1) := by kernel_rfl
theorem zok_118 : zok Proofs.Tryz.prog 118 = true := by kernel_rfl
theorem hasTy_118 : hasTy Proofs.Tryz.prog 118 = true := by kernel_rfl
theorem shp_119 : shp Proofs.Tryz.prog 119 = some (false, 1) := by kernel_rfl
theorem zok_119 : zok Proofs.Tryz.prog 119 = true := by kernel_rfl
theorem hasTy_119 : hasTy Proofs.Tryz.prog 119 = true := by kernel_rfl
theorem shp_120 : shp Proofs.Tryz.prog 120 = some (false, 1) := by kernel_rfl
theorem zok_120 : zok Proofs.Tryz.prog 120 = true := by kernel_rfl
theorem hasTy_120 : hasTy Proofs.Tryz.prog 120 = true := by kernel_rfl
theorem shp_121 : shp Proofs.Tryz.prog 121 = some (false, 1) := by kernel_rfl
theorem zok_121 : zok Proofs.Tryz.prog 121 = true := by kernel_rfl
theorem hasTy_121 : hasTy Proofs.Tryz.prog 121 = true := by kernel_rfl
theorem shp_122 : shp Proofs.Tryz.prog 122 = some (false, 1) := by kernel_rfl
theorem zok_122 : zok Proofs.Tryz.prog 122 = true := by kernel_rfl
theorem hasTy_122 : hasTy Proofs.Tryz.prog 122 = true := by kernel_rfl
theorem shp_123 : shp Proofs.Tryz.prog 123 = some (false, 1) := by kernel_rfl
theorem zok_123 : zok Proofs.Tryz.prog 123 = true := by kernel_rfl
theorem hasTy_123 : hasTy Proofs.Tryz.prog 123 = true := by kernel_rfl
theorem shp_124 : shp Proofs.Tryz.prog 124 = some (false, 1) := by kernel_rfl
theorem zok_124 : zok Proofs.Tryz.prog 124 = true := by kernel_rfl
theorem hasTy_124 : hasTy Proofs.Tryz.prog 124 = true := by kernel_rfl
theorem shp_125 : shp Proofs.Tryz.prog 125 = some (false, 1) := by kernel_rfl
theorem zok_125 : zok Proofs.Tryz.prog 125 = true := by kernel_rfl
theorem hasTy_125 : hasTy Proofs.Tryz.prog 125 = true := by kernel_rfl
theorem shp_126 : shp Proofs.Tryz.prog 126 = some (false, 1) := by kernel_rfl
theorem elm_126 : elm Proofs.Tryz.prog 126 = some (69, 2, 32) := by kernel_rfl
theorem zer_126 : zer Proofs.Tryz.prog 126 = some [SV.sl 0 []] := by kernel_rfl
theorem zok_126 : zok Proofs.Tryz.prog 126 = true := by kernel_rfl
theorem hasTy_126 : hasTy Proofs.Tryz.prog 126 = true := by kernel_rfl
theorem shp_127 : shp Proofs.Tryz.prog 127 = some (false, 1) := by kernel_rfl
theorem zok_127 : zok Proofs.Tryz.prog 127 = true := by kernel_rfl
theorem hasTy_127 : hasTy Proofs.Tryz.prog 127 = true := by kernel_rfl
theorem shp_128 : shp Proofs.Tryz.prog 128 = some (false, 1) := by kernel_rfl
theorem zok_128 : zok Proofs.Tryz.prog 128 = true := by kernel_rfl
theorem hasTy_128 : hasTy Proofs.Tryz.prog 128 = true := by kernel_rfl
theorem shp_129 : shp Proofs.Tryz.prog 129 = some (false, 1) := by kernel_rfl
theorem zok_129 : zok Proofs.Tryz.prog 129 = true := by kernel_rfl
theorem hasTy_129 : hasTy Proofs.Tryz.prog 129 = true := by kernel_rfl
theorem shp_130 : shp Proofs.Tryz.prog 130 = some (false, 1) := by kernel_rfl
theorem zok_130 : zok Proofs.Tryz.prog 130 = true := by kernel_rfl
theorem hasTy_130 : hasTy Proofs.Tryz.prog 130 = true := by kernel_rfl
theorem shp_131 : shp Proofs.Tryz.prog 131 = some (false, 1) := by kernel_rfl
theorem zok_131 : zok Proofs.Tryz.prog 131 = true := by kernel_rfl
theorem hasTy_131 : hasTy Proofs.Tryz.prog 131 = true := by kernel_rfl
theorem shp_132 : shp Proofs.Tryz.prog 132 = some (false, 1) := by kernel_rfl
theorem zok_132 : zok Proofs.Tryz.prog 132 = true := by kernel_rfl
theorem hasTy_132 : hasTy Proofs.Tryz.prog 132 = true := by kernel_rfl
theorem shp_133 : shp Proofs.Tryz.prog 133 = some (false, 1) := by kernel_rfl
theorem zok_133 : zok Proofs.Tryz.prog 133 = true := by kernel_rfl
theorem hasTy_133 : hasTy Proofs.Tryz.prog 133 = true := by kernel_rfl
theorem shp_134 : shp Proofs.Tryz.prog 134 = some (false, 1) := by kernel_rfl
theorem zok_134 : zok Proofs.Tryz.prog 134 = true := by kernel_rfl
theorem hasTy_134 : hasTy Proofs.Tryz.prog 134 = true := by kernel_rfl
theorem shp_135 : shp Proofs.Tryz.prog 135 = some (false, 1) := by kernel_rfl
theorem zok_135 : zok Proofs.Tryz.prog 135 = true := by kernel_rfl
theorem hasTy_135 : hasTy Proofs.Tryz.prog 135 = true := by kernel_rfl
theorem shp_136 : shp Proofs.Tryz.prog 136 = some (false, 1) := by kernel_rfl
theorem zok_136 : zok Proofs.Tryz.prog 136 = true := by kernel_rfl
theorem hasTy_136 : hasTy Proofs.Tryz.prog 136 = true := by kernel_rfl
theorem shp_137 : shp Proofs.Tryz.prog 137 = some (false, 1) := by kernel_rfl
theorem zok_137 : zok Proofs.Tryz.prog 137 = true := by kernel_rfl
theorem hasTy_137 : hasTy Proofs.Tryz.prog 137 = true := by kernel_rfl
theorem shp_138 : shp Proofs.Tryz.prog 138 = some (false, 1) := by kernel_rfl
theorem zok_138 : zok Proofs.Tryz.prog 138 = true := by kernel_rfl
theorem hasTy_138 : hasTy Proofs.Tryz.prog 138 = true := by kernel_rfl
theorem shp_139 : shp Proofs.Tryz.prog 139 = some (false, 1) := by kernel_rfl
theorem zok_139 : zok Proofs.Tryz.prog 139 = true := by kernel_rfl
theorem hasTy_139 : hasTy Proofs.Tryz.prog 139 = true := by kernel_rfl
theorem shp_140 : shp Proofs.Tryz.prog 140 = some (false, 1) := by kernel_rfl
theorem zok_140 : zok Proofs.Tryz.prog 140 = true := by kernel_rfl
theorem hasTy_140 : hasTy Proofs.Tryz.prog 140 = true := by kernel_rfl
theorem shp_141 : shp Proofs.Tryz.prog 141 = some (false, 1) := by kernel_rfl
theorem zok_141 : zok Proofs.Tryz.prog 141 = true := by kernel_rfl
theorem hasTy_141 : hasTy Proofs.Tryz.prog 141 = true := by kernel_rfl
theorem shp_142 : shp Proofs.Tryz.prog 142 = some (false, 1) := by kernel_rfl
theorem elm_142 : elm Proofs.Tryz.prog 142 = some (22, 1, 24) := by kernel_rfl
theorem zer_142 : zer Proofs.Tryz.prog 142 = some [SV.sl 0 []] := by kernel_rfl
theorem zok_142 : zok Proofs.Tryz.prog 142 = true := by kernel_rfl
theorem hasTy_142 : hasTy Proofs.Tryz.prog 142 = true := by kernel_rfl
theorem shp_143 : shp Proofs.Tryz.prog 143 = some (false, 1) := by kernel_rfl
theorem zok_143 : zok Proofs.Tryz.prog 143 = true := by kernel_rfl
theorem hasTy_143 : hasTy Proofs.Tryz.prog 143 = true := by kernel_rfl
theorem shp_144 : shp Proofs.Tryz.prog 144 = some (false, 1) := by kernel_rfl
theorem zok_144 : zok Proofs.Tryz.prog 144 = true := by kernel_rfl
theorem hasTy_144 : hasTy Proofs.Tryz.prog 144 = true := by kernel_rfl
theorem shp_145 : shp Proofs.Tryz.prog 145 = some (false, 1) := by kernel_rfl
theorem zok_145 : zok Proofs.Tryz.prog 145 = true := by kernel_rfl
theorem hasTy_145 : hasTy Proofs.Tryz.prog 145 = true := by kernel_rfl
theorem shp_146 : shp Proofs.Tryz.prog 146 = some (false, 1) := by kernel_rfl
theorem zok_146 : zok Proofs.Tryz.prog 146 = true := by kernel_rfl
theorem hasTy_146 : hasTy Proofs.Tryz.prog 146 = true := by kernel_rfl
theorem shp_147 : shp Proofs.Tryz.prog 147 = some (false, 1) := by kernel_rfl
theorem zok_147 : zok Proofs.Tryz.prog 147 = true := by kernel_rfl
theorem hasTy_147 : hasTy Proofs.Tryz.prog 147 = true := by kernel_rfl
theorem shp_148 : shp Proofs.Tryz.prog 148 = some (false, 1) := by kernel_rfl
theorem zok_148 : zok Proofs.Tryz.prog 148 = true := by kernel_rfl
theorem hasTy_148 : hasTy Proofs.Tryz.prog 148 = true := by kernel_rfl
theorem shp_149 : shp Proofs.Tryz.prog 149 = some (false, 1) := by kernel_rfl
theorem zok_149 : zok Proofs.Tryz.prog 149 = true := by kernel_rfl
theorem hasTy_149 : hasTy Proofs.Tryz.prog 149 = true := by kernel_rfl
theorem shp_150 : shp Proofs.Tryz.prog 150 = some (false, 1) := by kernel_rfl
theorem zok_150 : zok Proofs.Tryz.prog 150 = true := by kernel_rfl
theorem hasTy_150 : hasTy Proofs.Tryz.prog 150 = true := by kernel_rfl
theorem shp_151 : shp Proofs.Tryz.prog 151 = some (false, 1) := by kernel_rfl
theorem zok_151 : zok Proofs.Tryz.prog 151 = true := by kernel_rfl
theorem hasTy_151 : hasTy Proofs.Tryz.prog 151 = true := by kernel_rfl
theorem shp_152 : shp Proofs.Tryz.prog 152 = some (false, 1) := by kernel_rfl
theorem zok_152 : zok Proofs.Tryz.prog 152 = true := by kernel_rfl
theorem hasTy_152 : hasTy Proofs.Tryz.prog 152 = true := by kernel_rfl
theorem shp_153 : shp Proofs.Tryz.prog 153 = some (false, 1) := by kernel_rfl
theorem zok_153 : zok Proofs.Tryz.prog 153 = true := by kernel_rfl
theorem hasTy_153 : hasTy Proofs.Tryz.prog 153 = true := by kernel_rfl
theorem shp_154 : shp Proofs.Tryz.prog 154 = some (false, 1) := by kernel_rfl
theorem zok_154 : zok Proofs.Tryz.prog 154 = true := by kernel_rfl
theorem hasTy_154 : hasTy Proofs.Tryz.prog 154 = true := by kernel_rfl
theorem shp_155 : shp Proofs.Tryz.prog 155 = some (false, 1) := by kernel_rfl
theorem elm_155 : elm Proofs.Tryz.prog 155 = some (61, 2, 48) := by kernel_rfl
theorem zer_155 : zer Proofs.Tryz.prog 155 = some [SV.sl 0 []] := by kernel_rfl
theorem zok_155 : zok Proofs.Tryz.prog 155 = true := by kernel_rfl
theorem hasTy_155 : hasTy Proofs.Tryz.prog 155 = true := by kernel_rfl
theorem shp_156 : shp Proofs.Tryz.prog 156 = some (false, 1) := by kernel_rfl
theorem zok_156 : zok Proofs.Tryz.prog 156 = true := by kernel_rfl
theorem hasTy_156 : hasTy Proofs.Tryz.prog 156 = true := by kernel_rfl
theorem shp_157 : shp Proofs.Tryz.prog 157 = some (false, 1) := by kernel_rfl
theorem zok_157 : zok Proofs.Tryz.prog 157 = true := by kernel_rfl
theorem hasTy_157 : hasTy Proofs.Tryz.prog 157 = true := by kernel_rfl
theorem shp_158 : shp Proofs.Tryz.prog 158 = some (false, 1) := by kernel_rfl
theorem zok_158 : zok Proofs.Tryz.prog 158 = true := by kernel_rfl
theorem hasTy_158 : hasTy Proofs.Tryz.prog 158 = true := by kernel_rfl
theorem shp_159 : shp Proofs.Tryz.prog 159 = some (false, 1) := by kernel_rfl
theorem zok_159 : zok Proofs.Tryz.prog 159 = true := by kernel_rfl
theorem hasTy_159 : hasTy Proofs.Tryz.prog 159 = true := by kernel_rfl
theorem shp_160 : shp Proofs.Tryz.prog 160 = some (false, 1) := by kernel_rfl
theorem zok_160 : zok Proofs.Tryz.prog 160 = true := by kernel_rfl
theorem hasTy_160 : hasTy Proofs.Tryz.prog 160 = true := by kernel_rfl
theorem shp_161 : shp Proofs.Tryz.prog 161 = some (false, 1) := by kernel_rfl
theorem zok_161 : zok Proofs.Tryz.prog 161 = true := by kernel_rfl
theorem hasTy_161 : hasTy Proofs.Tryz.prog 161 = true := by kernel_rfl
theorem shp_162 : shp Proofs.Tryz.prog 162 = some (false, 1) := by kernel_rfl
theorem zok_162 : zok Proofs.Tryz.prog 162 = true := by kernel_rfl
theorem hasTy_162 : hasTy Proofs.Tryz.prog 162 = true := by kernel_rfl
theorem shp_163 : shp Proofs.Tryz.prog 163 = some (false, 1) := by kernel_rfl
theorem zok_163 : zok Proofs.Tryz.prog 163 = true := by kernel_rfl
theorem hasTy_163 : hasTy Proofs.Tryz.prog 163 = true := by kernel_rfl
theorem shp_164 : shp Proofs.Tryz.prog 164 = some (false, 1) := by kernel_rfl
theorem zok_164 : zok Proofs.Tryz.prog 164 = true := by kernel_rfl
theorem hasTy_164 : hasTy Proofs.Tryz.prog 164 = true := by kernel_rfl
theorem shp_165 : shp Proofs.Tryz.prog 165 = some (false, 1) := by kernel_rfl
theorem zok_165 : zok Proofs.Tryz.prog 165 = true := by kernel_rfl
theorem hasTy_165 : hasTy Proofs.Tryz.prog 165 = true := by kernel_rfl
theorem shp_166 : shp Proofs.Tryz.prog 166 = some (false, 1) := by kernel_rfl
theorem zok_166 : zok Proofs.Tryz.prog 166 = true := by kernel_rfl
theorem hasTy_166 : hasTy Proofs.Tryz.prog 166 = true := by kernel_rfl
theorem shp_167 : shp Proofs.Tryz.prog 167 = some (false, 1) := by kernel_rfl
theorem zok_167 : zok Proofs.Tryz.prog 167 = true := by kernel_rfl
theorem hasTy_167 : hasTy Proofs.Tryz.prog 167 = true := by kernel_rfl
theorem shp_168 : shp Proofs.Tryz.prog 168 = some (false, 1) := by kernel_rfl
theorem zok_168 : zok Proofs.Tryz.prog 168 = true := by kernel_rfl
theorem hasTy_168 : hasTy Proofs.Tryz.prog 168 = true := by kernel_rfl
theorem shp_169 : shp Proofs.Tryz.prog 169 = some (true, 4) := by kernel_rfl
theorem zok_169 : zok Proofs.Tryz.prog 169 = true := by kernel_rfl
theorem plc_169 : plc Proofs.Tryz.prog 169 = some [(0, 1), (1, 1), (2, 1), (3, 1)] := by kernel_rfl
theorem hasTy_169 : hasTy Proofs.Tryz.prog 169 = true := by kernel_rfl
theorem fld_169_0 : fld Proofs.Tryz.prog 169 0 = some (0, 17, 1) := by kernel_rfl
theorem fld_169_1 : fld Proofs.Tryz.prog 169 1 = some (1, 17, 1) := by kernel_rfl
theorem fld_169_2 : fld Proofs.Tryz.prog 169 2 = some (2, 17, 1) := by kernel_rfl
theorem fld_169_3 : fld Proofs.Tryz.prog 169 3 = some (3, 9, 1) := by kernel_rfl
theorem shp_170 : shp Proofs.Tryz.prog 170 = some (true, 4) := by kernel_rfl
theorem zok_170 : zok Proofs.Tryz.prog 170 = true := by kernel_rfl
theorem plc_170 : plc Proofs.Tryz.prog 170 = some [(0, 1), (1, 1), (2, 1), (3, 1)] := by kernel_rfl
theorem hasTy_170 : hasTy Proofs.Tryz.prog 170 = true := by kernel_rfl
theorem fld_170_0 : fld Proofs.Tryz.prog 170 0 = some (0, 17, 1) := by kernel_rfl
theorem fld_170_1 : fld Proofs.Tryz.prog 170 1 = some (1, 17, 1) := by kernel_rfl
theorem fld_170_2 : fld Proofs.Tryz.prog 170 2 = some (2, 17, 1) := by kernel_rfl
theorem fld_170_3 : fld Proofs.Tryz.prog 170 3 = some (3, 9, 1) := by kernel_rfl
theorem shp_171 : shp Proofs.Tryz.prog 171 = some (true, 0) := by kernel_rfl
theorem zer_171 : zer Proofs.Tryz.prog 171 = some [] := by kernel_rfl
theorem zok_171 : zok Proofs.Tryz.prog 171 = true := by kernel_rfl
theorem hasTy_171 : hasTy Proofs.Tryz.prog 171 = true := by kernel_rfl
theorem shp_172 : shp Proofs.Tryz.prog 172 = some (true, 0) := by kernel_rfl
theorem zer_172 : zer Proofs.Tryz.prog 172 = some [] := by kernel_rfl
theorem zok_172 : zok Proofs.Tryz.prog 172 = true := by kernel_rfl
theorem plc_172 : plc Proofs.Tryz.prog 172 = some [(0, 0)] := by kernel_rfl
theorem hasTy_172 : hasTy Proofs.Tryz.prog 172 = true := by kernel_rfl
theorem fld_172_0 : fld Proofs.Tryz.prog 172 0 = some (0, 171, 0) := by kernel_rfl
theorem shp_173 : shp Proofs.Tryz.prog 173 = some (true, 0) := by kernel_rfl
theorem zer_173 : zer Proofs.Tryz.prog 173 = some [] := by kernel_rfl
theorem zok_173 : zok Proofs.Tryz.prog 173 = true := by kernel_rfl
theorem plc_173 : plc Proofs.Tryz.prog 173 = some [(0, 0)] := by kernel_rfl
theorem hasTy_173 : hasTy Proofs.Tryz.prog 173 = true := by kernel_rfl
theorem fld_173_0 : fld Proofs.Tryz.prog 173 0 = some (0, 171, 0) := by kernel_rfl
theorem shp_174 : shp Proofs.Tryz.prog 174 = some (false, 1) := by kernel_rfl
theorem zok_174 : zok Proofs.Tryz.prog 174 = true := by kernel_rfl
theorem hasTy_174 : hasTy Proofs.Tryz.prog 174 = true := by kernel_rfl
theorem shp_175 : shp Proofs.Tryz.prog 175 = some (false, 1) := by kernel_rfl
theorem zer_175 : zer Proofs.Tryz.prog 175 = some [SV.int IntKind.u8 0] := by kernel_rfl
theorem zok_175 : zok Proofs.Tryz.prog 175 = true := by kernel_rfl
theorem isInt_175 : isInt Proofs.Tryz.prog 175 = some IntKind.u8 := by kernel_rfl
theorem hasTy_175 : hasTy Proofs.Tryz.prog 175 = true := by kernel_rfl
theorem shp_176 : shp Proofs.Tryz.prog 176 = some (false, 1) := by kernel_rfl
theorem zer_176 : zer Proofs.Tryz.prog 176 = some [SV.int IntKind.u8 0] := by kernel_rfl
theorem zok_176 : zok Proofs.Tryz.prog 176 = true := by kernel_rfl
theorem isInt_176 : isInt Proofs.Tryz.prog 176 = some IntKind.u8 := by kernel_rfl
theorem hasTy_176 : hasTy Proofs.Tryz.prog 176 = true := by kernel_rfl
theorem shp_177 : shp Proofs.Tryz.prog 177 = some (false, 1) := by kernel_rfl
theorem zok_177 : zok Proofs.Tryz.prog 177 = true := by kernel_rfl
theorem hasTy_177 : hasTy Proofs.Tryz.prog 177 = true := by kernel_rfl
theorem shp_178 : shp Proofs.Tryz.prog 178 = some (false, 1) := by kernel_rfl
theorem zok_178 : zok Proofs.Tryz.prog 178 = true := by kernel_rfl
theorem hasTy_178 : hasTy Proofs.Tryz.prog 178 = true := by kernel_rfl
theorem shp_179 : shp Proofs.Tryz.prog 179 = some (false, 1) := by kernel_rfl
theorem zer_179 : zer Proofs.Tryz.prog 179 = some [SV.int IntKind.i32 0] := by kernel_rfl
theorem zok_179 : zok Proofs.Tryz.prog 179 = true := by kernel_rfl
theorem isInt_179 : isInt Proofs.Tryz.prog 179 = some IntKind.i32 := by kernel_rfl
theorem hasTy_179 : hasTy Proofs.Tryz.prog 179 = true := by kernel_rfl
theorem shp_180 : shp Proofs.Tryz.prog 180 = some (false, 1) := by kernel_rfl
theorem zer_180 : zer Proofs.Tryz.prog 180 = some [SV.int IntKind.i32 0] := by kernel_rfl
theorem zok_180 : zok Proofs.Tryz.prog 180 = true := by kernel_rfl
theorem isInt_180 : isInt Proofs.Tryz.prog 180 = some IntKind.i32 := by kernel_rfl
theorem hasTy_180 : hasTy Proofs.Tryz.prog 180 = true := by kernel_rfl
theorem shp_181 : shp Proofs.Tryz.prog 181 = some (true, 11) := by kernel_rfl
theorem zok_181 : zok Proofs.Tryz.prog 181 = true := by kernel_rfl
theorem plc_181 : plc Proofs.Tryz.prog 181 = some [(0, 1), (1, 1), (2, 1), (3, 1), (4, 1), (5, 1), (6, 1), (7, 1), (8, 1), (9, 1), (10, 1)] := by kernel_rfl
theorem hasTy_181 : hasTy Proofs.Tryz.prog 181 = true := by kernel_rfl
theorem fld_181_0 : fld Proofs.Tryz.prog 181 0 = some (0, 12, 1) := by kernel_rfl
theorem fld_181_1 : fld Proofs.Tryz.prog 181 1 = some (1, 12, 1) := by kernel_rfl
theorem fld_181_2 : fld Proofs.Tryz.prog 181 2 = some (2, 42, 1) := by kernel_rfl
theorem fld_181_3 : fld Proofs.Tryz.prog 181 3 = some (3, 175, 1) := by kernel_rfl
theorem fld_181_4 : fld Proofs.Tryz.prog 181 4 = some (4, 5, 1) := by kernel_rfl
theorem fld_181_5 : fld Proofs.Tryz.prog 181 5 = some (5, 5, 1) := by kernel_rfl
theorem fld_181_6 : fld Proofs.Tryz.prog 181 6 = some (6, 176, 1) := by kernel_rfl
theorem fld_181_7 : fld Proofs.Tryz.prog 181 7 = some (7, 177, 1) := by kernel_rfl
theorem fld_181_8 : fld Proofs.Tryz.prog 181 8 = some (8, 178, 1) := by kernel_rfl
theorem fld_181_9 : fld Proofs.Tryz.prog 181 9 = some (9, 179, 1) := by kernel_rfl
theorem fld_181_10 : fld Proofs.Tryz.prog 181 10 = some (10, 180, 1) := by kernel_rfl
theorem shp_182 : shp Proofs.Tryz.prog 182 = some (true, 11) := by kernel_rfl
theorem zok_182 : zok Proofs.Tryz.prog 182 = true := by kernel_rfl
theorem plc_182 : plc Proofs.Tryz.prog 182 = some [(0, 1), (1, 1), (2, 1), (3, 1), (4, 1), (5, 1), (6, 1), (7, 1), (8, 1), (9, 1), (10, 1)] := by kernel_rfl
theorem hasTy_182 : hasTy Proofs.Tryz.prog 182 = true := by kernel_rfl
theorem fld_182_0 : fld Proofs.Tryz.prog 182 0 = some (0, 12, 1) := by kernel_rfl
theorem fld_182_1 : fld Proofs.Tryz.prog 182 1 = some (1, 12, 1) := by kernel_rfl
theorem fld_182_2 : fld Proofs.Tryz.prog 182 2 = some (2, 42, 1) := by kernel_rfl
theorem fld_182_3 : fld Proofs.Tryz.prog 182 3 = some (3, 175, 1) := by kernel_rfl
theorem fld_182_4 : fld Proofs.Tryz.prog 182 4 = some (4, 5, 1) := by kernel_rfl
theorem fld_182_5 : fld Proofs.Tryz.prog 182 5 = some (5, 5, 1) := by kernel_rfl
theorem fld_182_6 : fld Proofs.Tryz.prog 182 6 = some (6, 176, 1) := by kernel_rfl
theorem fld_182_7 : fld Proofs.Tryz.prog 182 7 = some (7, 177, 1) := by kernel_rfl
theorem fld_182_8 : fld Proofs.Tryz.prog 182 8 = some (8, 178, 1) := by kernel_rfl
theorem fld_182_9 : fld Proofs.Tryz.prog 182 9 = some (9, 179, 1) := by kernel_rfl
theorem fld_182_10 : fld Proofs.Tryz.prog 182 10 = some (10, 180, 1) := by kernel_rfl
theorem shp_183 : shp Proofs.Tryz.prog 183 = some (true, 1) := by kernel_rfl
theorem zer_183 : zer Proofs.Tryz.prog 183 = some [SV.str { data := { toList := [] } }] := by kernel_rfl
theorem zok_183 : zok Proofs.Tryz.prog 183 = true := by kernel_rfl
theorem plc_183 : plc Proofs.Tryz.prog 183 = some [(0, 1)] := by kernel_rfl
theorem hasTy_183 : hasTy Proofs.Tryz.prog 183 = true := by kernel_rfl
theorem fld_183_0 : fld Proofs.Tryz.prog 183 0 = some (0, 9, 1) := by kernel_rfl
theorem shp_184 : shp Proofs.Tryz.prog 184 = some (true, 1) := by kernel_rfl
theorem zer_184 : zer Proofs.Tryz.prog 184 = some [SV.str { data := { toList := [] } }] := by kernel_rfl
theorem zok_184 : zok Proofs.Tryz.prog 184 = true := by kernel_rfl
theorem plc_184 : plc Proofs.Tryz.prog 184 = some [(0, 1)] := by kernel_rfl
theorem hasTy_184 : hasTy Proofs.Tryz.prog 184 = true := by kernel_rfl
theorem fld_184_0 : fld Proofs.Tryz.prog 184 0 = some (0, 9, 1) := by kernel_rfl
theorem shp_185 : shp Proofs.Tryz.prog 185 = some (false, 1) := by kernel_rfl
theorem zok_185 : zok Proofs.Tryz.prog 185 = true := by kernel_rfl
theorem hasTy_185 : hasTy Proofs.Tryz.prog 185 = true := by kernel_rfl
attribute [go_sem] shp_0 zok_0 hasTy_0 shp_1 zok_1 hasTy_1 shp_2 zer_2 zok_2 isInt_2 hasTy_2 shp_3 zer_3 zok_3 isInt_3 hasTy_3 shp_4 zer_4 zok_4 isBool_4
attribute [go_sem] hasTy_4 shp_5 zer_5 zok_5 isInt_5 hasTy_5 shp_6 zer_6 zok_6 isInt_6 hasTy_6 shp_7 zer_7 zok_7 plc_7 hasTy_7 fld_7_0 fld_7_1 fld_7_2 fld_7_3
attribute [go_sem] shp_8 zer_8 zok_8 plc_8 hasTy_8 fld_8_0 fld_8_1 fld_8_2 fld_8_3 shp_9 zer_9 zok_9 isStr_9 hasTy_9 shp_10 zer_10 zok_10 isStr_10 hasTy_10 shp_11
attribute [go_sem] zer_11 zok_11 isStr_11 hasTy_11 shp_12 zer_12 zok_12 isInt_12 hasTy_12 shp_13 zer_13 zok_13 plc_13 hasTy_13 fld_13_0 fld_13_1 shp_14 zer_14 zok_14 plc_14
attribute [go_sem] hasTy_14 fld_14_0 fld_14_1 shp_15 zok_15 hasTy_15 shp_16 zok_16 hasTy_16 shp_17 zok_17 hasTy_17 shp_18 zok_18 plc_18 hasTy_18 fld_18_0 shp_19 zok_19 plc_19
attribute [go_sem] hasTy_19 fld_19_0 shp_20 zok_20 hasTy_20 shp_21 zer_21 zok_21 isInt_21 hasTy_21 shp_22 elm_22 zer_22 zok_22 hasTy_22 shp_23 zer_23 zok_23 plc_23 hasTy_23
attribute [go_sem] fld_23_0 fld_23_1 fld_23_2 shp_24 zer_24 zok_24 plc_24 hasTy_24 fld_24_0 fld_24_1 fld_24_2 shp_25 zok_25 hasTy_25 shp_26 zer_26 zok_26 plc_26 hasTy_26 fld_26_0
attribute [go_sem] fld_26_1 shp_27 zer_27 zok_27 plc_27 hasTy_27 fld_27_0 fld_27_1 shp_28 zok_28 hasTy_28 shp_29 zok_29 hasTy_29 shp_30 zok_30 hasTy_30 shp_31 zok_31 hasTy_31
attribute [go_sem] shp_32 zok_32 hasTy_32 shp_33 zok_33 hasTy_33 shp_34 zok_34 hasTy_34 shp_35 zok_35 hasTy_35 shp_36 zok_36 hasTy_36 shp_37 zok_37 hasTy_37 shp_38 zok_38
attribute [go_sem] hasTy_38 shp_39 zok_39 hasTy_39 shp_40 zok_40 hasTy_40 shp_41 zok_41 hasTy_41 shp_42 zer_42 zok_42 isInt_42 hasTy_42 shp_43 zok_43 hasTy_43 shp_44 zok_44
attribute [go_sem] hasTy_44 shp_45 zok_45 hasTy_45 shp_46 zok_46 hasTy_46 shp_47 zok_47 hasTy_47 shp_48 zok_48 hasTy_48 shp_49 zok_49 hasTy_49 shp_50 zok_50 hasTy_50 shp_51
attribute [go_sem] zer_51 zok_51 isInt_51 hasTy_51 shp_52 zok_52 hasTy_52 shp_53 zok_53 hasTy_53 shp_54 zer_54 zok_54 plc_54 hasTy_54 fld_54_0 fld_54_1 fld_54_2 fld_54_3 fld_54_4
attribute [go_sem] shp_55 zer_55 zok_55 plc_55 hasTy_55 fld_55_0 fld_55_1 fld_55_2 fld_55_3 fld_55_4 shp_56 zok_56 hasTy_56 shp_57 zok_57 hasTy_57 shp_58 elm_58 zer_58 zok_58
attribute [go_sem] hasTy_58 shp_59 zok_59 hasTy_59 shp_60 zer_60 zok_60 plc_60 hasTy_60 fld_60_0 fld_60_1 shp_61 zer_61 zok_61 plc_61 hasTy_61 fld_61_0 fld_61_1 shp_62 zok_62
attribute [go_sem] hasTy_62 shp_63 zok_63 hasTy_63 shp_64 zok_64 hasTy_64 shp_65 zok_65 hasTy_65 shp_66 zok_66 hasTy_66 shp_67 zok_67 hasTy_67 shp_68 zer_68 zok_68 plc_68
attribute [go_sem] hasTy_68 fld_68_0 fld_68_1 shp_69 zer_69 zok_69 plc_69 hasTy_69 fld_69_0 fld_69_1 shp_70 zer_70 zok_70 plc_70 hasTy_70 fld_70_0 fld_70_1 shp_71 zer_71 zok_71
attribute [go_sem] plc_71 hasTy_71 fld_71_0 fld_71_1 shp_72 zok_72 hasTy_72 shp_73 zer_73 zok_73 isInt_73 hasTy_73 shp_74 zok_74 hasTy_74 shp_75 zok_75 hasTy_75 shp_76 zok_76
attribute [go_sem] hasTy_76 shp_77 zok_77 hasTy_77 shp_78 zok_78 hasTy_78 shp_79 zok_79 hasTy_79 shp_80 zok_80 hasTy_80 shp_81 zok_81 hasTy_81 shp_82 zok_82 hasTy_82 shp_83
attribute [go_sem] zok_83 hasTy_83 shp_84 zok_84 hasTy_84 shp_85 zok_85 hasTy_85 shp_86 zok_86 hasTy_86 shp_87 zok_87 hasTy_87 shp_88 zok_88 hasTy_88 shp_89 zok_89 hasTy_89
attribute [go_sem] shp_90 zok_90 hasTy_90 shp_91 zok_91 hasTy_91 shp_92 zok_92 hasTy_92 shp_93 zok_93 hasTy_93 shp_94 zok_94 hasTy_94 shp_95 zok_95 hasTy_95 shp_96 zok_96
attribute [go_sem] hasTy_96 shp_97 zok_97 hasTy_97 shp_98 zok_98 hasTy_98 shp_99 zok_99 hasTy_99 shp_100 zok_100 hasTy_100 shp_101 zok_101 hasTy_101 shp_102 zok_102 hasTy_102 shp_103
attribute [go_sem] zok_103 hasTy_103 shp_104 zok_104 hasTy_104 shp_105 zok_105 hasTy_105 shp_106 zok_106 hasTy_106 shp_107 zok_107 hasTy_107 shp_108 zok_108 hasTy_108 shp_109 zer_109 zok_109
attribute [go_sem] isInt_109 hasTy_109 shp_110 zok_110 hasTy_110 shp_111 zok_111 hasTy_111 shp_112 zok_112 hasTy_112 shp_113 zok_113 hasTy_113 shp_114 zok_114 hasTy_114 shp_115 zok_115 hasTy_115
attribute [go_sem] shp_116 zok_116 hasTy_116 shp_117 zok_117 hasTy_117 shp_118 zok_118 hasTy_118 shp_119 zok_119 hasTy_119 shp_120 zok_120 hasTy_120 shp_121 zok_121 hasTy_121 shp_122 zok_122
attribute [go_sem] hasTy_122 shp_123 zok_123 hasTy_123 shp_124 zok_124 hasTy_124 shp_125 zok_125 hasTy_125 shp_126 elm_126 zer_126 zok_126 hasTy_126 shp_127 zok_127 hasTy_127 shp_128 zok_128
attribute [go_sem] hasTy_128 shp_129 zok_129 hasTy_129 shp_130 zok_130 hasTy_130 shp_131 zok_131 hasTy_131 shp_132 zok_132 hasTy_132 shp_133 zok_133 hasTy_133 shp_134 zok_134 hasTy_134 shp_135
attribute [go_sem] zok_135 hasTy_135 shp_136 zok_136 hasTy_136 shp_137 zok_137 hasTy_137 shp_138 zok_138 hasTy_138 shp_139 zok_139 hasTy_139 shp_140 zok_140 hasTy_140 shp_141 zok_141 hasTy_141
attribute [go_sem] shp_142 elm_142 zer_142 zok_142 hasTy_142 shp_143 zok_143 hasTy_143 shp_144 zok_144 hasTy_144 shp_145 zok_145 hasTy_145 shp_146 zok_146 hasTy_146 shp_147 zok_147 hasTy_147
attribute [go_sem] shp_148 zok_148 hasTy_148 shp_149 zok_149 hasTy_149 shp_150 zok_150 hasTy_150 shp_151 zok_151 hasTy_151 shp_152 zok_152 hasTy_152 shp_153 zok_153 hasTy_153 shp_154 zok_154
attribute [go_sem] hasTy_154 shp_155 elm_155 zer_155 zok_155 hasTy_155 shp_156 zok_156 hasTy_156 shp_157 zok_157 hasTy_157 shp_158 zok_158 hasTy_158 shp_159 zok_159 hasTy_159 shp_160 zok_160
attribute [go_sem] hasTy_160 shp_161 zok_161 hasTy_161 shp_162 zok_162 hasTy_162 shp_163 zok_163 hasTy_163 shp_164 zok_164 hasTy_164 shp_165 zok_165 hasTy_165 shp_166 zok_166 hasTy_166 shp_167
attribute [go_sem] zok_167 hasTy_167 shp_168 zok_168 hasTy_168 shp_169 zok_169 plc_169 hasTy_169 fld_169_0 fld_169_1 fld_169_2 fld_169_3 shp_170 zok_170 plc_170 hasTy_170 fld_170_0 fld_170_1 fld_170_2
attribute [go_sem] fld_170_3 shp_171 zer_171 zok_171 hasTy_171 shp_172 zer_172 zok_172 plc_172 hasTy_172 fld_172_0 shp_173 zer_173 zok_173 plc_173 hasTy_173 fld_173_0 shp_174 zok_174 hasTy_174
attribute [go_sem] shp_175 zer_175 zok_175 isInt_175 hasTy_175 shp_176 zer_176 zok_176 isInt_176 hasTy_176 shp_177 zok_177 hasTy_177 shp_178 zok_178 hasTy_178 shp_179 zer_179 zok_179 isInt_179
attribute [go_sem] hasTy_179 shp_180 zer_180 zok_180 isInt_180 hasTy_180 shp_181 zok_181 plc_181 hasTy_181 fld_181_0 fld_181_1 fld_181_2 fld_181_3 fld_181_4 fld_181_5 fld_181_6 fld_181_7 fld_181_8 fld_181_9
attribute [go_sem] fld_181_10 shp_182 zok_182 plc_182 hasTy_182 fld_182_0 fld_182_1 fld_182_2 fld_182_3 fld_182_4 fld_182_5 fld_182_6 fld_182_7 fld_182_8 fld_182_9 fld_182_10 shp_183 zer_183 zok_183 plc_183
attribute [go_sem] hasTy_183 fld_183_0 shp_184 zer_184 zok_184 plc_184 hasTy_184 fld_184_0 shp_185 zok_185 hasTy_185
end Go.Proofs.YtemnjalaincijaaGreat.F

/- What arguments of this program's types read as; arguments that a law leaves as they were. -/
set_option linter.constructorNameAsVariable false
set_option maxRecDepth 8000
namespace Go.Proofs.YtemnjalaincijaaGreat
open Go.Ev Go.RowKit Go.WideShapes
theorem u_limbs : Tryz.prog.underlying 22 = some (.slice 42) := by kernel_rfl
theorem u_limb : Tryz.prog.underlying 42 = some (.int .u32) := by kernel_rfl
theorem u_bool : Tryz.prog.underlying 4 = some .bool := by kernel_rfl
theorem wf_u32 {i : Int} (h : (Lit.int .u32 i).wf = true) : 0 ≤ i ∧ i < 4294967296 := by
  have h' : decide (IntKind.u32.min ≤ i ∧ i ≤ IntKind.u32.max) = true := by simpa [Lit.wf] using h
  have := of_decide_eq_true h'
  simp only [show IntKind.u32.min = 0 from rfl, show IntKind.u32.max = 4294967295 from rfl] at this
  omega
theorem shp_bool {n : Nat} {ss : List SV} (h : ShpT Tryz.prog (n + 1) 4 ss) : ∃ b, ss = [.bool b] := by
  unfold ShpT at h
  rw [u_bool] at h
  exact h
theorem shp_limbs_all {n : Nat} : ∀ l : List (List SV), (∀ x ∈ l, ShpT Tryz.prog (n + 1) 42 x) → ∃ xs : List Nat, l.flatten = xs.map limb ∧ l.length = xs.length ∧ okL xs := by
  intro l
  induction l with
  | nil => intro _; exact ⟨[], rfl, rfl, okL_nil⟩
  | cons x l ih =>
    intro hx
    obtain ⟨xs, h1, h2, h3⟩ := ih fun y hy => hx y (List.mem_cons_of_mem _ hy)
    have h4 := hx x List.mem_cons_self
    unfold ShpT at h4
    rw [u_limb] at h4
    obtain ⟨i, rfl, hw⟩ := h4
    obtain ⟨w1, w2⟩ := wf_u32 hw
    obtain ⟨y, rfl⟩ : ∃ y : Nat, i = (y : Int) := ⟨i.toNat, by omega⟩
    exact ⟨y :: xs, by rw [List.flatten_cons, h1]; rfl, by simp [h2], okL_cons.2 ⟨by omega, h3⟩⟩
theorem shp_limbs {n : Nat} {ss : List SV} (h : ShpT Tryz.prog (n + 2) 22 ss) : ∃ xs, ss = [natV xs] ∧ okL xs ∧ xs.length ≤ maxLen := by
  unfold ShpT at h
  rw [u_limbs] at h
  obtain ⟨elems, rfl, hl, he⟩ := h
  obtain ⟨xs, h1, h2, h3⟩ := shp_limbs_all elems he
  exact ⟨xs, by rw [h1, h2], h3, h2 ▸ hl⟩
/-- A struct's fields' types. -/
def fieldTs (P : Program) (t : TypeId) : List TypeId := match P.underlying t with
  | some (.struct fs) => fs.toList.map (·.type)
  | _ => []
theorem shp_struct {P : Program} {n : Nat} {t : TypeId} {ts : List TypeId} {ss : List SV} (ht : fieldTs P t = ts) (hne : ts ≠ []) (h : ShpT P (n + 1) t ss) :
    ∃ parts : List (List SV), ss = parts.flatten ∧ parts.length = ts.length ∧ ∀ (j : Nat) (u : TypeId) (x : List SV), ts[j]? = some u → parts[j]? = some x → ShpT P n u x := by
  unfold fieldTs at ht
  unfold ShpT at h
  split at ht
  · rename_i fs hu
    rw [hu] at h
    obtain ⟨parts, h1, h2, h3⟩ := h
    subst ht
    refine ⟨parts, h1, by rw [h2, List.length_map], fun j u x hj hx => ?_⟩
    rw [List.getElem?_map] at hj
    cases hf : fs.toList[j]? with
    | none => rw [hf] at hj; cases hj
    | some f =>
      rw [hf] at hj
      cases hj
      exact h3 j f x hf hx
  · exact (hne ht.symm).elim
theorem len_three {α : Type} {l : List α} (h : l.length = 3) : ∃ a b c, l = [a, b, c] := by
  match l, h with
  | [a, b, c], _ => exact ⟨a, b, c, rfl⟩
theorem ts_rat : fieldTs Tryz.prog 24 = [4, 22, 22] := by kernel_rfl
theorem shp_rat {n : Nat} {ss : List SV} (h : ShpT Tryz.prog (n + 3) 24 ss) : ∃ s xs ys, ss = [.bool s, natV xs, natV ys] ∧ okL xs ∧ okL ys ∧ xs.length ≤ maxLen ∧ ys.length ≤ maxLen := by
  obtain ⟨parts, rfl, hl, hp⟩ := shp_struct ts_rat (by simp) h
  obtain ⟨a, b, c, rfl⟩ := len_three hl
  obtain ⟨s, rfl⟩ := shp_bool (hp 0 _ a rfl rfl)
  obtain ⟨xs, rfl, h1, h2⟩ := shp_limbs (hp 1 _ b rfl rfl)
  obtain ⟨ys, rfl, h3, h4⟩ := shp_limbs (hp 2 _ c rfl rfl)
  exact ⟨s, xs, ys, rfl, h1, h3, h2, h4⟩
/-- Arguments that nobody has written read as they did. -/
theorem trodAll_stays {H : Type} {enc : TypeId × Value → H} {P : Program} (hl : laidOutB P = true) {W W' : World} (hb : Below W.heap.size W W') {sp : Nat → Bool} :
    ∀ {ts : List TypeId} {vs : List Value} {ds : List (DataW H)} {ps : List MemPlace}, (ts.all fun t => P.readableRec t && decide (t < P.types.size)) = true → DataW.TrodAll enc P W 0 (fun _ => true) true ts vs ds ps →
      (∀ x ∈ ps, x.block < W.heap.size) → (∀ x ∈ ps, sp x.block = true) → DataW.TrodAll enc P W' 0 sp true ts vs ds ps := by
  intro ts
  induction ts with
  | nil =>
    intro vs ds ps _ h _ _
    cases vs <;> cases ds <;> simp_all [DataW.TrodAll]
  | cons t ts ih =>
    intro vs ds ps ht h hlt hs
    cases vs with
    | nil => simp [DataW.TrodAll] at h
    | cons v vs =>
      cases ds with
      | nil => simp [DataW.TrodAll] at h
      | cons d ds =>
        obtain ⟨p, q, h1, h2, rfl⟩ := h
        rw [List.all_cons, Bool.and_eq_true, Bool.and_eq_true] at ht
        obtain ⟨⟨ht1, ht2⟩, ht3⟩ := ht
        refine ⟨p, q, WideElems.Trod_stays hl ht1 (of_decide_eq_true ht2) h1 (fun x hx => hb.same (hlt x (List.mem_append_left _ hx))) (fun x hx => hs x (List.mem_append_left _ hx)), ?_, rfl⟩
        exact ih ht3 h2 (fun x hx => hlt x (List.mem_append_right _ hx)) (fun x hx => hs x (List.mem_append_right _ hx))
/-- A struct that is handed in. -/
theorem open_plain {H : Type} {enc : TypeId × Value → H} {P : Program} {w : World} {sp : Nat → Bool} {held : Bool} {r : Reach} {b0 : Nat} {m : Nat} {t : TypeId} {fs : Array Field} {v : Value} {d : DataW H} {ps : List MemPlace} (hp : plainT P m t = true) (hu : P.underlying t = some (.struct fs))
    (hok : Value.okWide P w r b0 t v) (hd : DataW.Trod enc P w 0 sp held t v d ps) : ∃ ss, Rep w (fun _ => False) v (.agg ss) ∧ ShpT P m t ss := by
  obtain ⟨cs, rfl, -⟩ := okWide_struct hu hok
  obtain ⟨n, hn⟩ := hd
  obtain ⟨ss, ⟨hl, hr⟩, hs⟩ := trod_reads hp hn
  refine ⟨ss, .agg cs ss (by rw [hl]; simp [Value.cells]) (fun i s hi => ?_), hs⟩
  have := hr i s hi
  simpa [Value.cells, Array.getD_eq_getD_getElem?, List.getD_eq_getElem?_getD] using this
end Go.Proofs.YtemnjalaincijaaGreat

/- 1 by a product of u + (j - s), s of some nodes: what all its coefficients tell of powers (Hermite's forms). Plain mathematics. -/
namespace Go.Ex
set_option linter.unusedVariables false
/-- A row of numbers times u + d. -/
def mulu (d : Rat) (g : Nat → Rat) : Nat → Rat
  | 0 => d * g 0
  | k + 1 => d * g (k + 1) + g k
/-- A row by u + d. -/
def dvu (d : Rat) (f : Nat → Rat) : Nat → Rat
  | 0 => f 0 / d
  | k + 1 => (f (k + 1) - dvu d f k) / d
theorem mul_div (d x : Rat) (hd : d ≠ 0) : d * (x / d) = x := by rw [Rat.mul_comm]; exact Rat.div_mul_cancel hd
theorem mulu_dvu {d : Rat} (hd : d ≠ 0) (f : Nat → Rat) : ∀ k, mulu d (dvu d f) k = f k
  | 0 => mul_div d _ hd
  | k + 1 => by
    show d * ((f (k + 1) - dvu d f k) / d) + dvu d f k = _
    rw [mul_div d _ hd]; grind
theorem dvu_uniq {d : Rat} (hd : d ≠ 0) {f g : Nat → Rat} (h : ∀ k, mulu d g k = f k) : ∀ k, g k = dvu d f k
  | 0 => by
    have := h 0
    show g 0 = f 0 / d
    rw [← this]
    show g 0 = d * g 0 / d
    rw [Rat.mul_comm]; exact (Rat.mul_div_cancel hd).symm
  | k + 1 => by
    have e := h (k + 1)
    have ih := dvu_uniq hd h k
    show g (k + 1) = (f (k + 1) - dvu d f k) / d
    rw [← ih, ← e]
    show g (k + 1) = (d * g (k + 1) + g k - g k) / d
    rw [show d * g (k + 1) + g k - g k = g (k + 1) * d by grind]
    exact (Rat.mul_div_cancel hd).symm
theorem dvu_congr {d : Rat} {f g : Nat → Rat} (h : ∀ k, f k = g k) : ∀ k, dvu d f k = dvu d g k
  | 0 => by show f 0 / d = g 0 / d; rw [h]
  | k + 1 => by show (f (k + 1) - dvu d f k) / d = (g (k + 1) - dvu d g k) / d; rw [h, dvu_congr h k]
theorem mulu_comm (d e : Rat) (g : Nat → Rat) : ∀ k, mulu d (mulu e g) k = mulu e (mulu d g) k
  | 0 => by show d * (e * g 0) = e * (d * g 0); grind
  | 1 => by show d * (e * g 1 + g 0) + e * g 0 = e * (d * g 1 + g 0) + d * g 0; grind
  | k + 2 => by show d * (e * g (k + 2) + g (k + 1)) + (e * g (k + 1) + g k) = e * (d * g (k + 2) + g (k + 1)) + (d * g (k + 1) + g k); grind
theorem mulu_congr {d : Rat} {f g : Nat → Rat} (h : ∀ k, f k = g k) : ∀ k, mulu d f k = mulu d g k
  | 0 => by show d * f 0 = d * g 0; rw [h]
  | k + 1 => by show d * f (k + 1) + f k = d * g (k + 1) + g k; rw [h, h]
theorem dvu_comm {d e : Rat} (hd : d ≠ 0) (he : e ≠ 0) (f : Nat → Rat) (k : Nat) : dvu d (dvu e f) k = dvu e (dvu d f) k := by
  refine dvu_uniq he (fun k => dvu_uniq hd (fun k => ?_) k) k
  rw [mulu_comm]
  have h1 : ∀ k, mulu d (dvu d (dvu e f)) k = dvu e f k := mulu_dvu hd _
  rw [mulu_congr h1]
  exact mulu_dvu he f k
/-- 1 by all u + (j - s), s of a list of nodes but j. -/
def ser (j : Nat) : List Nat → Nat → Rat
  | [], k => if k = 0 then 1 else 0
  | s :: M, k => if s = j then ser j M k else dvu ((j : Rat) - (s : Rat)) (ser j M) k
theorem nat_inj {a b : Nat} (h : (a : Rat) = (b : Rat)) : a = b := by exact_mod_cast h
theorem sub_ne {j s : Nat} (h : s ≠ j) : (j : Rat) - (s : Rat) ≠ 0 := by
  intro e
  exact h (nat_inj (show (s : Rat) = (j : Rat) by grind))
theorem ser_perm (j : Nat) {M M' : List Nat} (h : M.Perm M') : ∀ k, ser j M k = ser j M' k := by
  induction h with
  | nil => intro k; rfl
  | cons s _ ih =>
    intro k
    unfold ser
    split
    · exact ih k
    · exact dvu_congr ih k
  | swap s t M =>
    intro k
    by_cases h1 : s = j <;> by_cases h2 : t = j
    · simp only [ser, if_pos h1, if_pos h2]
    · simp only [ser, if_pos h1, if_neg h2]
    · simp only [ser, if_neg h1, if_pos h2]
    · simp only [ser, if_neg h1, if_neg h2]
      exact dvu_comm (sub_ne h2) (sub_ne h1) _ k
  | trans _ _ ih1 ih2 => intro k; rw [ih1, ih2]
/-- A node's coefficients. -/
def coef (j : Nat) (M : List Nat) (i : Nat) : Rat := if i < M.count j then ser j M (M.count j - 1 - i) else 0
theorem coef_same {s : Nat} {M : List Nat} (i : Nat) : coef s (s :: M) (i + 1) = coef s M i := by
  unfold coef
  rw [List.count_cons_self]
  by_cases h : i < M.count s
  · rw [if_pos h, if_pos (by omega)]
    simp only [ser, if_pos]
    rw [show M.count s + 1 - 1 - (i + 1) = M.count s - 1 - i by omega]
  · rw [if_neg h, if_neg (by omega)]
theorem coef_other {j s : Nat} {M : List Nat} (h : s ≠ j) (i : Nat) : ((j : Rat) - (s : Rat)) * coef j (s :: M) i + coef j (s :: M) (i + 1) = coef j M i := by
  unfold coef
  rw [List.count_cons_of_ne h]
  have key := mulu_dvu (sub_ne h) (ser j M)
  by_cases h1 : i + 1 < M.count j
  · rw [if_pos h1, if_pos (by omega), if_pos (by omega)]
    obtain ⟨k, hk⟩ : ∃ k, M.count j - 1 - i = k + 1 := ⟨M.count j - 2 - i, by omega⟩
    rw [show M.count j - 1 - (i + 1) = k by omega, hk, ← key (k + 1)]
    simp only [ser, if_neg h]
    rfl
  · rw [if_neg h1]
    by_cases h2 : i < M.count j
    · rw [if_pos h2, if_pos h2, show M.count j - 1 - i = 0 by omega, ← key 0]
      simp only [ser, if_neg h]
      rw [Rat.add_zero]; rfl
    · rw [if_neg h2, if_neg h2]; grind
/-- Ways to choose. -/
def bin : Nat → Nat → Nat
  | _, 0 => 1
  | 0, _ + 1 => 0
  | m + 1, i + 1 => bin m i + bin m (i + 1)
theorem bin_big : ∀ m i, m < i → bin m i = 0
  | 0, i + 1, _ => rfl
  | m + 1, i + 1, h => by
    show bin m i + bin m (i + 1) = 0
    rw [bin_big m i (by omega), bin_big m (i + 1) (by omega)]
/-- Ways to choose, times a power. -/
def bw (j : Rat) (m i : Nat) : Rat := (bin m i : Rat) * j ^ (m - i)
theorem bw_zero (j : Rat) (m : Nat) : bw j (m + 1) 0 = j * bw j m 0 := by
  show ((bin (m + 1) 0 : Nat) : Rat) * j ^ (m + 1) = j * (((bin m 0 : Nat) : Rat) * j ^ m)
  have e1 : bin (m + 1) 0 = 1 := by cases m <;> rfl
  have e2 : bin m 0 = 1 := by cases m <;> rfl
  rw [e1, e2, Rat.pow_succ]; grind
theorem bw_succ (j : Rat) (m i : Nat) : bw j (m + 1) (i + 1) = j * bw j m (i + 1) + bw j m i := by
  show ((bin m i + bin m (i + 1) : Nat) : Rat) * j ^ (m + 1 - (i + 1)) = j * (((bin m (i + 1) : Nat) : Rat) * j ^ (m - (i + 1))) + ((bin m i : Nat) : Rat) * j ^ (m - i)
  have e : ((bin m i + bin m (i + 1) : Nat) : Rat) = (bin m i : Rat) + (bin m (i + 1) : Rat) := by exact_mod_cast rfl
  rw [e, show m + 1 - (i + 1) = m - i by omega]
  by_cases h : i + 1 ≤ m
  · rw [show m - i = m - (i + 1) + 1 by omega, Rat.pow_succ]; grind
  · rw [bin_big m (i + 1) (by omega)]
    have : ((0 : Nat) : Rat) = 0 := rfl
    rw [this]; grind
/-- A node's part. -/
def gs (j : Rat) (a : Nat → Rat) (m : Nat) : Nat → Rat
  | 0 => 0
  | c + 1 => gs j a m c + a c * bw j m c
theorem gs_congr {j : Rat} {a a' : Nat → Rat} {m : Nat} : ∀ c, (∀ i, i < c → a i = a' i) → gs j a m c = gs j a' m c
  | 0, _ => rfl
  | c + 1, h => by
    show gs j a m c + a c * _ = gs j a' m c + a' c * _
    rw [gs_congr c (fun i hi => h i (by omega)), h c (by omega)]
theorem gs_shift (j s : Rat) (a : Nat → Rat) (m : Nat) : ∀ c, gs j a (m + 1) (c + 1) + a (c + 1) * bw j m c = s * gs j a m (c + 1) + gs j (fun i => (j - s) * a i + a (i + 1)) m (c + 1)
  | 0 => by
    show 0 + a 0 * bw j (m + 1) 0 + a 1 * bw j m 0 = s * (0 + a 0 * bw j m 0) + (0 + ((j - s) * a 0 + a 1) * bw j m 0)
    rw [bw_zero]; grind
  | c + 1 => by
    have ih := gs_shift j s a m c
    show gs j a (m + 1) (c + 1) + a (c + 1) * bw j (m + 1) (c + 1) + a (c + 2) * bw j m (c + 1) = s * (gs j a m (c + 1) + a (c + 1) * bw j m (c + 1)) + (gs j (fun i => (j - s) * a i + a (i + 1)) m (c + 1) + ((j - s) * a (c + 1) + a (c + 2)) * bw j m (c + 1))
    rw [bw_succ]
    generalize gs j (fun i => (j - s) * a i + a (i + 1)) m (c + 1) = z at *
    grind
theorem gs_at {j s : Rat} {a a' : Nat → Rat} {m c : Nat} (h0 : a c = 0) (h : ∀ i, i < c → (j - s) * a i + a (i + 1) = a' i) : gs j a (m + 1) c = s * gs j a m c + gs j a' m c := by
  cases c with
  | zero => show (0 : Rat) = s * 0 + 0; grind
  | succ c =>
    have := gs_shift j s a m c
    rw [h0] at this
    rw [← gs_congr (a := fun i => (j - s) * a i + a (i + 1)) (a' := a') (c + 1) h, ← this]
    grind
/-- All nodes below J together. -/
def Gn (M : List Nat) (m : Nat) : Nat → Rat
  | 0 => 0
  | J + 1 => Gn M m J + gs (J : Rat) (coef J M) m (M.count J)
theorem coef_end (j : Nat) (M : List Nat) : coef j M (M.count j) = 0 := by unfold coef; rw [if_neg (by omega)]
theorem gs_node (j s : Nat) (M : List Nat) (m : Nat) : gs (j : Rat) (coef j (s :: M)) (m + 1) ((s :: M).count j) = (s : Rat) * gs (j : Rat) (coef j (s :: M)) m ((s :: M).count j) + gs (j : Rat) (coef j M) m (M.count j) := by
  by_cases h : s = j
  · subst h
    rw [gs_at (s := (s : Rat)) (a' := coef s M) (coef_end s _) (fun i _ => by rw [coef_same]; grind)]
    congr 1
    rw [List.count_cons_self]
    show gs _ _ _ _ + coef s M (M.count s) * _ = _
    rw [coef_end]; grind
  · rw [gs_at (s := (s : Rat)) (a' := coef j M) (coef_end j _) (fun i _ => coef_other h i)]
    congr 2
    rw [List.count_cons_of_ne h]
theorem Gn_step (s : Nat) (M : List Nat) (m : Nat) : ∀ J, Gn (s :: M) (m + 1) J = (s : Rat) * Gn (s :: M) m J + Gn M m J
  | 0 => by show (0 : Rat) = (s : Rat) * 0 + 0; grind
  | J + 1 => by
    show Gn (s :: M) (m + 1) J + gs _ _ _ _ = (s : Rat) * (Gn (s :: M) m J + gs _ _ _ _) + (Gn M m J + gs _ _ _ _)
    rw [Gn_step s M m J, gs_node]; grind
theorem Gn_perm {M M' : List Nat} (h : M.Perm M') (m : Nat) : ∀ J, Gn M m J = Gn M' m J
  | 0 => rfl
  | J + 1 => by
    show Gn M m J + gs _ _ _ _ = Gn M' m J + gs _ _ _ _
    rw [Gn_perm h m J, h.count_eq]
    congr 1
    exact gs_congr _ fun i _ => by unfold coef; rw [h.count_eq, ser_perm J h]
theorem Gn_nil (m : Nat) : ∀ J, Gn [] m J = 0
  | 0 => rfl
  | J + 1 => by show Gn [] m J + 0 = 0; rw [Gn_nil m J, Rat.add_zero]
/-- What all nodes together tell of a power: the sum of all products of so many nodes. -/
def Hn : List Nat → Nat → Nat
  | [], _ => 0
  | _ :: M, 0 => if M = [] then 1 else 0
  | s :: M, m + 1 => s * Hn (s :: M) m + Hn M m
theorem Gn_of {s : Nat} {M : List Nat} {J : Nat} (h : ∀ m, Gn M m J = (Hn M m : Rat)) (h0 : Gn (s :: M) 0 J = (Hn (s :: M) 0 : Rat)) : ∀ m, Gn (s :: M) m J = (Hn (s :: M) m : Rat)
  | 0 => h0
  | m + 1 => by
    rw [Gn_step, Gn_of h h0 m, h m]
    show _ = ((s * Hn (s :: M) m + Hn M m : Nat) : Rat)
    exact_mod_cast rfl
theorem Hn_zero {s : Nat} {M : List Nat} (h : M ≠ []) : Hn (s :: M) 0 = 0 := by
  show (if M = [] then 1 else 0) = 0
  rw [if_neg h]
theorem gs_at0 (j : Rat) (a : Nat → Rat) : ∀ c, gs j a 0 (c + 1) = a 0
  | 0 => by
    show 0 + a 0 * (((1 : Nat) : Rat) * j ^ 0) = a 0
    rw [Rat.pow_zero]; have : ((1 : Nat) : Rat) = 1 := rfl
    rw [this]; grind
  | c + 1 => by
    show gs j a 0 (c + 1) + a (c + 1) * (((0 : Nat) : Rat) * _) = a 0
    rw [gs_at0 j a c]; have : ((0 : Nat) : Rat) = 0 := rfl
    rw [this]; grind
theorem ser_rep (s : Nat) : ∀ (M : List Nat), (∀ t ∈ M, t = s) → ∀ k, ser s M k = if k = 0 then 1 else 0
  | [], _, k => rfl
  | t :: M, h, k => by
    have : t = s := h t List.mem_cons_self
    simp only [ser, if_pos this]
    exact ser_rep s M (fun u hu => h u (List.mem_cons_of_mem _ hu)) k
theorem count_rep (s : Nat) : ∀ (M : List Nat), (∀ t ∈ M, t = s) → M.count s = M.length
  | [], _ => rfl
  | t :: M, h => by
    have : t = s := h t List.mem_cons_self
    subst this
    rw [List.count_cons_self, List.length_cons, count_rep t M (fun u hu => h u (List.mem_cons_of_mem _ hu))]
theorem Gn_rep {s : Nat} {M : List Nat} (h : ∀ t ∈ M, t = s) (hM : M ≠ []) : ∀ J, Gn M 0 J = if s < J then coef s M 0 else 0
  | 0 => rfl
  | J + 1 => by
    show Gn M 0 J + gs _ _ _ _ = _
    rw [Gn_rep h hM J]
    have hl : 0 < M.length := List.length_pos_iff.2 hM
    by_cases e : s = J
    · subst e
      rw [if_neg (by omega), if_pos (by omega), count_rep s M h]
      obtain ⟨c, hc⟩ : ∃ c, M.length = c + 1 := ⟨M.length - 1, by omega⟩
      rw [hc, gs_at0, Rat.zero_add]
    · have : M.count J = 0 := List.count_eq_zero.2 fun hj => e ((h J hj).symm)
      rw [this]
      show _ + 0 = _
      rw [Rat.add_zero]
      by_cases h1 : s < J
      · rw [if_pos h1, if_pos (by omega)]
      · rw [if_neg h1, if_neg (by omega)]
/-- The coefficients of all nodes tell it. -/
theorem Gn_eq (J : Nat) : ∀ (n : Nat) (M : List Nat), M.length = n → (∀ t ∈ M, t < J) → ∀ m, Gn M m J = (Hn M m : Rat) := by
  intro n
  induction n using Nat.strongRecOn with
  | _ n ih =>
    intro M hl hM
    match M, hl, hM with
    | [], _, _ => intro m; rw [Gn_nil]; cases m <;> rfl
    | s :: M, hl, hM =>
      have hM1 := fun m => ih M.length (by rw [← hl, List.length_cons]; omega) M rfl (fun t ht => hM t (List.mem_cons_of_mem _ ht)) m
      refine Gn_of hM1 ?_
      by_cases he : ∀ t ∈ M, t = s
      · have ha : ∀ t ∈ s :: M, t = s := fun t ht => by
          rcases List.mem_cons.1 ht with h | h
          · exact h
          · exact he t h
        rw [Gn_rep ha (by simp) J, if_pos (hM s List.mem_cons_self)]
        unfold coef
        rw [count_rep s _ ha, if_pos (by simp), ser_rep s _ ha, List.length_cons]
        by_cases hn : M = []
        · subst hn; rfl
        · rw [Hn_zero hn]
          have : 0 < M.length := List.length_pos_iff.2 hn
          rw [if_neg (by omega)]; rfl
      · obtain ⟨t, ht, hts⟩ : ∃ t, t ∈ M ∧ t ≠ s := by
          refine Classical.byContradiction fun hc => he fun t ht => Classical.byContradiction fun hts => hc ⟨t, ht, hts⟩
        have hn : M ≠ [] := by rintro rfl; cases ht
        rw [Hn_zero hn]
        have p := List.perm_cons_erase ht
        obtain ⟨M0, hM0⟩ : ∃ M0, M0 = M.erase t := ⟨_, rfl⟩
        rw [← hM0] at p
        have p1 : (s :: M).Perm (s :: t :: M0) := List.Perm.cons s p
        have p2 : (s :: M).Perm (t :: s :: M0) := p1.trans (List.Perm.swap t s M0)
        have lM : M.length = M0.length + 1 := by rw [p.length_eq, List.length_cons]
        have i1 := ih (M0.length + 1) (by rw [← hl, List.length_cons]; omega) (t :: M0) (by simp) (fun u hu => hM u (List.mem_cons_of_mem _ (p.mem_iff.2 hu))) 0
        have i2 := ih (M0.length + 1) (by rw [← hl, List.length_cons]; omega) (s :: M0) (by simp) (fun u hu => by
          rcases List.mem_cons.1 hu with h | h
          · rw [h]; exact hM s List.mem_cons_self
          · exact hM u (List.mem_cons_of_mem _ (p.mem_iff.2 (List.mem_cons_of_mem _ h)))) 0
        have e0 : (Hn (t :: M0) 0) = (Hn (s :: M0) 0) := rfl
        have s1 := Gn_step s (t :: M0) 0 J
        have s2 := Gn_step t (s :: M0) 0 J
        rw [← Gn_perm p1, ← Gn_perm p1, i1] at s1
        rw [← Gn_perm p2, ← Gn_perm p2, i2, ← e0] at s2
        have d : ((s : Rat) - (t : Rat)) * Gn (s :: M) 0 J = 0 := by
          generalize Gn (s :: M) (0 + 1) J = z at *
          generalize Gn (s :: M) 0 J = y at *
          grind
        rcases Rat.mul_eq_zero.1 d with h | h
        · exact absurd h (sub_ne hts)
        · rw [h]; rfl
end Go.Ex

/- How great these coefficients, and their denominators, are. Plain mathematics. -/
namespace Go.Ex
set_option linter.unusedVariables false
/-- A whole number. -/
def isI (q : Rat) : Prop := ∃ z : Int, q = (z : Rat)
theorem isI_int (z : Int) : isI (z : Rat) := ⟨z, rfl⟩
theorem isI_nat (n : Nat) : isI (n : Rat) := ⟨(n : Int), rfl⟩
theorem isI_add {a b : Rat} (h : isI a) (g : isI b) : isI (a + b) := by
  obtain ⟨x, rfl⟩ := h; obtain ⟨y, rfl⟩ := g; exact ⟨x + y, by rw [Rat.intCast_add]⟩
theorem isI_sub {a b : Rat} (h : isI a) (g : isI b) : isI (a - b) := by
  obtain ⟨x, rfl⟩ := h; obtain ⟨y, rfl⟩ := g; exact ⟨x - y, by rw [Rat.intCast_sub]⟩
theorem isI_mul {a b : Rat} (h : isI a) (g : isI b) : isI (a * b) := by
  obtain ⟨x, rfl⟩ := h; obtain ⟨y, rfl⟩ := g; exact ⟨x * y, by rw [Rat.intCast_mul]⟩
theorem isI_zero : isI 0 := ⟨0, rfl⟩
theorem isI_one : isI 1 := ⟨1, rfl⟩
theorem isI_pow {a : Rat} (h : isI a) : ∀ n : Nat, isI (a ^ n)
  | 0 => by rw [Rat.pow_zero]; exact isI_one
  | n + 1 => by rw [Rat.pow_succ]; exact isI_mul (isI_pow h n) h
/-- All differences of a node and the others, multiplied. -/
def prd (j : Nat) : List Nat → Int
  | [] => 1
  | s :: M => if s = j then prd j M else prd j M * ((j : Int) - (s : Int))
theorem castd (j s : Nat) : (((j : Int) - (s : Int) : Int) : Rat) = (j : Rat) - (s : Rat) := by rw [Rat.intCast_sub]; rfl
theorem ser_int {A : Int} (j : Nat) : ∀ M : List Nat, (∀ s ∈ M, s ≠ j → ((j : Int) - (s : Int)) ∣ A) → ∀ k, isI (ser j M k * (prd j M : Rat) * (A : Rat) ^ k)
  | [], _, k => by
    unfold ser prd
    by_cases h : k = 0
    · subst h; rw [if_pos rfl, Rat.pow_zero]; exact ⟨1, by decide +kernel⟩
    · rw [if_neg h]; exact ⟨0, by grind⟩
  | s :: M, hA, k => by
    have ih := ser_int j M (fun t ht => hA t (List.mem_cons_of_mem _ ht))
    unfold ser prd
    by_cases h : s = j
    · rw [if_pos h, if_pos h]; exact ih k
    · rw [if_neg h, if_neg h]
      obtain ⟨e, he⟩ := hA s List.mem_cons_self h
      have hd := sub_ne h
      have eA : (A : Rat) = ((j : Rat) - (s : Rat)) * (e : Rat) := by rw [he, Rat.intCast_mul, castd]
      rw [Rat.intCast_mul, castd]
      have key : ∀ k, isI (dvu ((j : Rat) - (s : Rat)) (ser j M) k * ((prd j M : Rat) * ((j : Rat) - (s : Rat))) * (A : Rat) ^ k) := by
        intro k
        have m := mulu_dvu hd (ser j M)
        induction k with
        | zero =>
          have m0 : ((j : Rat) - (s : Rat)) * dvu ((j : Rat) - (s : Rat)) (ser j M) 0 = ser j M 0 := m 0
          have i0 := ih 0
          rw [← m0] at i0
          obtain ⟨z, hz⟩ := i0
          exact ⟨z, by rw [← hz]; grind⟩
        | succ k ihk =>
          have m1 : ((j : Rat) - (s : Rat)) * dvu ((j : Rat) - (s : Rat)) (ser j M) (k + 1) + dvu ((j : Rat) - (s : Rat)) (ser j M) k = ser j M (k + 1) := m (k + 1)
          have i1 := isI_sub (ih (k + 1)) (isI_mul ihk (isI_int e))
          obtain ⟨z, hz⟩ := i1
          refine ⟨z, ?_⟩
          rw [← hz, ← m1, Rat.pow_succ, eA]
          generalize ((j : Rat) - (s : Rat)) = d at *
          generalize dvu d (ser j M) (k + 1) = y at *
          generalize dvu d (ser j M) k = y' at *
          generalize (d * (e : Rat)) ^ k = P at *
          grind
      have := key k
      simpa only using this
theorem one_le_sub {j s : Nat} (h : s ≠ j) : 1 ≤ (j : Rat) - (s : Rat) ∨ (j : Rat) - (s : Rat) ≤ -1 := by
  rcases Nat.lt_or_ge s j with g | g
  · left
    have : ((s + 1 : Nat) : Rat) ≤ (j : Rat) := by exact_mod_cast g
    have e : ((s + 1 : Nat) : Rat) = (s : Rat) + 1 := by exact_mod_cast rfl
    rw [e] at this; grind
  · right
    have g' : j + 1 ≤ s := by omega
    have : ((j + 1 : Nat) : Rat) ≤ (s : Rat) := by exact_mod_cast g'
    have e : ((j + 1 : Nat) : Rat) = (j : Rat) + 1 := by exact_mod_cast rfl
    rw [e] at this; grind
/-- A number is held by another one. -/
def Bdd (x B : Rat) : Prop := -B ≤ x ∧ x ≤ B
theorem Bdd_nn {x B : Rat} (h : Bdd x B) : 0 ≤ B := by obtain ⟨a, b⟩ := h; grind
theorem Bdd_add {x y B C : Rat} (h : Bdd x B) (g : Bdd y C) : Bdd (x + y) (B + C) := by
  obtain ⟨a, b⟩ := h; obtain ⟨c, d⟩ := g; constructor <;> grind
theorem Bdd_sub {x y B C : Rat} (h : Bdd x B) (g : Bdd y C) : Bdd (x - y) (B + C) := by
  obtain ⟨a, b⟩ := h; obtain ⟨c, d⟩ := g; constructor <;> grind
theorem Bdd_mul {x y B C : Rat} (h : Bdd x B) (g : Bdd y C) : Bdd (x * y) (B * C) := by
  have nB := Bdd_nn h
  have nC := Bdd_nn g
  obtain ⟨a, b⟩ := h; obtain ⟨c, d⟩ := g
  have m1 := Rat.mul_nonneg (show 0 ≤ B - x by grind) (show 0 ≤ C - y by grind)
  have m2 := Rat.mul_nonneg (show 0 ≤ B + x by grind) (show 0 ≤ C + y by grind)
  have m3 := Rat.mul_nonneg (show 0 ≤ B - x by grind) (show 0 ≤ C + y by grind)
  have m4 := Rat.mul_nonneg (show 0 ≤ B + x by grind) (show 0 ≤ C - y by grind)
  constructor <;> grind
theorem Bdd_mono {x B C : Rat} (h : Bdd x B) (g : B ≤ C) : Bdd x C := by
  obtain ⟨a, b⟩ := h; constructor <;> grind
/-- By a number that is not small it is held as well. -/
theorem Bdd_div {x d B : Rat} (h : Bdd x B) (hd : 1 ≤ d ∨ d ≤ -1) : Bdd (x / d) B := by
  have dn : d ≠ 0 := by grind
  have e := mul_div d x dn
  have nB := Bdd_nn h
  obtain ⟨a, b⟩ := h
  generalize x / d = y at *
  rcases hd with hd | hd
  · constructor
    · refine Rat.not_lt.1 fun c => ?_
      have := Rat.mul_nonneg (show 0 ≤ d - 1 by grind) (show 0 ≤ -y - B by grind)
      have := Rat.mul_nonneg (show 0 ≤ d - 1 by grind) nB
      grind
    · refine Rat.not_lt.1 fun c => ?_
      have := Rat.mul_nonneg (show 0 ≤ d - 1 by grind) (show 0 ≤ y - B by grind)
      have := Rat.mul_nonneg (show 0 ≤ d - 1 by grind) nB
      grind
  · constructor
    · refine Rat.not_lt.1 fun c => ?_
      have := Rat.mul_nonneg (show 0 ≤ -d - 1 by grind) (show 0 ≤ -y - B by grind)
      have := Rat.mul_nonneg (show 0 ≤ -d - 1 by grind) nB
      grind
    · refine Rat.not_lt.1 fun c => ?_
      have := Rat.mul_nonneg (show 0 ≤ -d - 1 by grind) (show 0 ≤ y - B by grind)
      have := Rat.mul_nonneg (show 0 ≤ -d - 1 by grind) nB
      grind
/-- A power of two. -/
abbrev t2 (w : Nat) : Rat := ((2 ^ w : Nat) : Rat)
theorem t2_pos (w : Nat) : 0 < t2 w := by
  have : 0 < 2 ^ w := Nat.pow_pos (by omega)
  exact_mod_cast this
theorem t2_succ (w : Nat) : t2 (w + 1) = t2 w + t2 w := by
  show ((2 ^ (w + 1) : Nat) : Rat) = ((2 ^ w : Nat) : Rat) + ((2 ^ w : Nat) : Rat)
  rw [Nat.pow_succ, Nat.mul_two]; exact_mod_cast rfl
theorem t2_add (a b : Nat) : t2 (a + b) = t2 a * t2 b := by
  show ((2 ^ (a + b) : Nat) : Rat) = _
  rw [Nat.pow_add]; exact_mod_cast rfl
theorem t2_mono {a b : Nat} (h : a ≤ b) : t2 a ≤ t2 b := by
  have : 2 ^ a ≤ 2 ^ b := Nat.pow_le_pow_right (by omega) h
  exact_mod_cast this
theorem dvu_bd {d : Rat} (hd : 1 ≤ d ∨ d ≤ -1) {f : Nat → Rat} {L : Nat} (h : ∀ k, Bdd (f k) (t2 (L + k))) : ∀ k, Bdd (dvu d f k) (t2 (L + 1 + k))
  | 0 => Bdd_div (Bdd_mono (h 0) (t2_mono (by omega))) hd
  | k + 1 => by
    have ih := dvu_bd hd h k
    refine Bdd_div ?_ hd
    have e := Bdd_sub (h (k + 1)) (Bdd_mono ih (t2_mono (show L + 1 + k ≤ L + (k + 1) by omega)))
    rw [show L + 1 + (k + 1) = L + (k + 1) + 1 by omega, t2_succ]
    exact e
theorem ser_bd (j : Nat) : ∀ (M : List Nat) k, Bdd (ser j M k) (t2 (M.length + k))
  | [], k => by
    unfold ser
    have := t2_mono (a := 0) (b := ([] : List Nat).length + k) (by omega)
    have e : t2 0 = 1 := rfl
    rw [e] at this
    split
    · exact ⟨by grind, this⟩
    · exact ⟨by grind, by grind⟩
  | s :: M, k => by
    unfold ser
    have ih := ser_bd j M
    by_cases h : s = j
    · rw [if_pos h]; exact Bdd_mono (ih k) (t2_mono (by simp))
    · rw [if_neg h]
      have := dvu_bd (one_le_sub h) ih k
      rw [List.length_cons]
      exact this
theorem coef_bd (j : Nat) (M : List Nat) (i : Nat) : Bdd (coef j M i) (t2 (M.length + M.count j)) := by
  unfold coef
  split
  · exact Bdd_mono (ser_bd j M _) (t2_mono (by omega))
  · have := t2_pos (M.length + M.count j)
    exact ⟨by grind, by grind⟩
/-- So many times all nodes up to 64. -/
def nds : Nat → List Nat
  | 0 => []
  | n + 1 => List.range 65 ++ nds n
theorem nds_lt : ∀ n, ∀ t ∈ nds n, t < 65
  | 0, t, h => by cases h
  | n + 1, t, h => by
    rcases List.mem_append.1 h with h | h
    · exact List.mem_range.1 h
    · exact nds_lt n t h
theorem nds_len : ∀ n, (nds n).length = 65 * n
  | 0 => rfl
  | n + 1 => by
    show (List.range 65 ++ nds n).length = _
    rw [List.length_append, nds_len n, List.length_range]; omega
theorem range_cnt : (List.range 65).all (fun j => decide ((List.range 65).count j = 1)) = true := by decide +kernel
theorem nds_cnt {j : Nat} (hj : j < 65) : ∀ n, (nds n).count j = n
  | 0 => rfl
  | n + 1 => by
    show (List.range 65 ++ nds n).count j = _
    rw [List.count_append, nds_cnt hj n, of_decide_eq_true (List.all_eq_true.1 range_cnt j (List.mem_range.2 hj))]; omega
theorem prd_append (j : Nat) : ∀ M M', prd j (M ++ M') = prd j M * prd j M'
  | [], M' => by show prd j M' = 1 * prd j M'; rw [Int.one_mul]
  | s :: M, M' => by
    show (if s = j then prd j (M ++ M') else prd j (M ++ M') * _) = (if s = j then prd j M else prd j M * _) * prd j M'
    split
    · exact prd_append j M M'
    · rw [prd_append j M M', Int.mul_assoc, Int.mul_assoc, Int.mul_comm (prd j M')]
theorem prd_nds (j : Nat) : ∀ n, prd j (nds n) = prd j (List.range 65) ^ n
  | 0 => by rw [Int.pow_zero]; rfl
  | n + 1 => by
    show prd j (List.range 65 ++ nds n) = _
    rw [prd_append, prd_nds j n, Int.pow_succ, Int.mul_comm]
/-- 1 by 2 and so on up to 64. -/
def F64 : Int := 126886932185884164103433389335161480802865516174545192198801894375214704230400000000000000
/-- The least number that all up to 64 divide. -/
def L64 : Int := 1182266884102822267511361600
theorem prd_F64 : (List.range 65).all (fun j => decide (prd j (List.range 65) ∣ F64)) = true := by decide +kernel
theorem sub_L64 : (List.range 65).all (fun j => (List.range 65).all fun s => decide (s = j) || decide (((j : Int) - (s : Int)) ∣ L64)) = true := by decide +kernel
theorem prd_dvd {j : Nat} (hj : j < 65) : prd j (List.range 65) ∣ F64 := of_decide_eq_true (List.all_eq_true.1 prd_F64 j (List.mem_range.2 hj))
theorem sub_dvd {j s : Nat} (hj : j < 65) (hs : s < 65) (h : s ≠ j) : ((j : Int) - (s : Int)) ∣ L64 := by
  have := List.all_eq_true.1 (List.all_eq_true.1 sub_L64 j (List.mem_range.2 hj)) s (List.mem_range.2 hs)
  rw [decide_eq_false h, Bool.false_or] at this
  exact of_decide_eq_true this
theorem F64_le : F64 ≤ 2 ^ 296 ∧ 0 < F64 ∧ L64 ≤ 2 ^ 90 ∧ 0 < L64 := by decide +kernel
end Go.Ex

/- The row of e to a power, and these forms of it. Plain mathematics. -/
namespace Go.Ex
set_option linter.unusedVariables false
/-- A term of the row of e to the power of x. -/
def tm (x : Rat) : Nat → Rat
  | 0 => 1
  | m + 1 => tm x m * x / ((m + 1 : Nat) : Rat)
/-- So many terms together. -/
def E (x : Rat) : Nat → Rat
  | 0 => 0
  | m + 1 => E x m + tm x m
theorem nsucc_ne (m : Nat) : ((m + 1 : Nat) : Rat) ≠ 0 := fun e => by have := nat_inj (b := 0) e; omega
theorem nsucc_pos (m : Nat) : (0 : Rat) < ((m + 1 : Nat) : Rat) := by exact_mod_cast Nat.succ_pos m
theorem nat_nn (m : Nat) : (0 : Rat) ≤ (m : Rat) := by exact_mod_cast Nat.zero_le m
theorem castadd (a b : Nat) : ((a + b : Nat) : Rat) = (a : Rat) + (b : Rat) := by exact_mod_cast rfl
theorem castmul (a b : Nat) : ((a * b : Nat) : Rat) = (a : Rat) * (b : Rat) := by exact_mod_cast rfl
theorem tm_succ (x : Rat) (m : Nat) : ((m + 1 : Nat) : Rat) * tm x (m + 1) = x * tm x m := by
  show ((m + 1 : Nat) : Rat) * (tm x m * x / ((m + 1 : Nat) : Rat)) = _
  rw [mul_div _ _ (nsucc_ne m), Rat.mul_comm]
theorem div_nn {x d : Rat} (hx : 0 ≤ x) (hd : 0 < d) : 0 ≤ x / d := by
  have := Rat.inv_pos.2 hd
  rw [Rat.div_def]; exact Rat.mul_nonneg hx (Rat.le_of_lt this)
theorem tm_nn {x : Rat} (hx : 0 ≤ x) : ∀ m, 0 ≤ tm x m
  | 0 => by show (0 : Rat) ≤ 1; decide
  | m + 1 => div_nn (Rat.mul_nonneg (tm_nn hx m) hx) (nsucc_pos m)
theorem tm_pos {x : Rat} (hx : 0 < x) : ∀ m, 0 < tm x m
  | 0 => by show (0 : Rat) < 1; decide
  | m + 1 => by
    show 0 < tm x m * x / ((m + 1 : Nat) : Rat)
    rw [Rat.div_def]
    exact Rat.mul_pos (Rat.mul_pos (tm_pos hx m) hx) (Rat.inv_pos.2 (nsucc_pos m))
theorem cancel_l {c x y : Rat} (hc : c ≠ 0) (h : c * x = c * y) : x = y := by
  have : c * (x - y) = 0 := by grind
  rcases Rat.mul_eq_zero.1 this with h | h <;> grind
/-- Ways to choose, and terms. -/
theorem tm_bin (x : Rat) : ∀ n a b : Nat, a + b = n → ((bin (a + b) a : Nat) : Rat) * tm x (a + b) = tm x a * tm x b := by
  intro n
  induction n with
  | zero =>
    intro a b h
    obtain ⟨rfl, rfl⟩ : a = 0 ∧ b = 0 := ⟨by omega, by omega⟩
    show ((1 : Nat) : Rat) * 1 = 1 * 1
    decide +kernel
  | succ n ih =>
    intro a b h
    match a, b, h with
    | 0, b + 1, h =>
      rw [show bin (0 + (b + 1)) 0 = 1 by cases b <;> rfl, Nat.zero_add]
      show ((1 : Nat) : Rat) * _ = 1 * _
      rfl
    | a + 1, 0, h =>
      have e : ∀ a, bin a a = 1 := by
        intro a
        induction a with
        | zero => rfl
        | succ a iha => show bin a a + bin a (a + 1) = 1; rw [iha, bin_big a (a + 1) (by omega)]
      show ((bin (a + 1) (a + 1) : Nat) : Rat) * tm x (a + 1) = tm x (a + 1) * 1
      rw [e, Rat.mul_one]
      have : ((1 : Nat) : Rat) = 1 := rfl
      rw [this, Rat.one_mul]
    | a + 1, b + 1, h =>
      have i1 := ih a (b + 1) (by omega)
      have i2 := ih (a + 1) b (by omega)
      rw [show a + (b + 1) = a + b + 1 by omega] at i1
      rw [show a + 1 + b = a + b + 1 by omega] at i2
      rw [show a + 1 + (b + 1) = a + b + 1 + 1 by omega]
      have s := tm_succ x (a + b + 1)
      have sa := tm_succ x a
      have sb := tm_succ x b
      have eb : ((bin (a + b + 1 + 1) (a + 1) : Nat) : Rat) = (bin (a + b + 1) a : Rat) + (bin (a + b + 1) (a + 1) : Rat) := by
        rw [← castadd]; rfl
      refine cancel_l (nsucc_ne (a + b + 1)) ?_
      have en : ((a + b + 1 + 1 : Nat) : Rat) = ((a + 1 : Nat) : Rat) + ((b + 1 : Nat) : Rat) := by rw [← castadd]; congr 1; omega
      rw [eb]
      have l : ((a + b + 1 + 1 : Nat) : Rat) * (((bin (a + b + 1) a : Rat) + (bin (a + b + 1) (a + 1) : Rat)) * tm x (a + b + 1 + 1)) = ((bin (a + b + 1) a : Rat) + (bin (a + b + 1) (a + 1) : Rat)) * (((a + b + 1 + 1 : Nat) : Rat) * tm x (a + b + 1 + 1)) := by grind
      rw [l, s]
      have r : ((a + b + 1 + 1 : Nat) : Rat) * (tm x (a + 1) * tm x (b + 1)) = (((a + 1 : Nat) : Rat) * tm x (a + 1)) * tm x (b + 1) + tm x (a + 1) * (((b + 1 : Nat) : Rat) * tm x (b + 1)) := by rw [en]; grind
      rw [r, sa, sb]
      have l2 : ((bin (a + b + 1) a : Rat) + (bin (a + b + 1) (a + 1) : Rat)) * (x * tm x (a + b + 1)) = x * ((bin (a + b + 1) a : Rat) * tm x (a + b + 1)) + x * ((bin (a + b + 1) (a + 1) : Rat) * tm x (a + b + 1)) := by grind
      rw [l2, i1, i2]; grind
theorem tm_scale (j x : Rat) : ∀ m, tm (j * x) m = j ^ m * tm x m
  | 0 => by show (1 : Rat) = j ^ 0 * 1; rw [Rat.pow_zero]; decide +kernel
  | m + 1 => by
    show tm (j * x) m * (j * x) / _ = j ^ (m + 1) * (tm x m * x / _)
    rw [tm_scale j x m, Rat.pow_succ, Rat.div_def, Rat.div_def]; grind
theorem bw_tm (j x : Rat) {m i : Nat} (h : i ≤ m) : bw j m i * tm x m = tm x i * tm (j * x) (m - i) := by
  have b := tm_bin x m i (m - i) (by omega)
  rw [show i + (m - i) = m by omega] at b
  unfold bw
  rw [tm_scale]
  have : (bin m i : Rat) * j ^ (m - i) * tm x m = j ^ (m - i) * ((bin m i : Rat) * tm x m) := by grind
  rw [this, b]; grind
theorem bw_big (j : Rat) {m i : Nat} (h : m < i) : bw j m i = 0 := by
  unfold bw; rw [bin_big m i h]
  have : ((0 : Nat) : Rat) = 0 := rfl
  rw [this, Rat.zero_mul]
/-- The sums of products of nodes, with the terms. -/
def Rn (M : List Nat) (x : Rat) : Nat → Rat
  | 0 => 0
  | K + 1 => Rn M x K + (Hn M K : Rat) * tm x K
/-- A node's polynomial, times what is put for e's power. -/
def lv1 (a : Nat → Rat) (x : Rat) (v : Nat → Rat) : Nat → Rat
  | 0 => 0
  | c + 1 => lv1 a x v c + a c * tm x c * v c
def LV (M : List Nat) (x : Rat) (v : Nat → Nat → Rat) : Nat → Rat
  | 0 => 0
  | J + 1 => LV M x v J + lv1 (coef J M) x (v J) (M.count J)
theorem lv1_step (j x : Rat) (a : Nat → Rat) (K : Nat) : ∀ c, lv1 a x (fun i => E (j * x) (K + 1 - i)) c = lv1 a x (fun i => E (j * x) (K - i)) c + gs j a K c * tm x K
  | 0 => by show (0 : Rat) = 0 + 0 * _; grind
  | c + 1 => by
    show lv1 a x (fun i => E (j * x) (K + 1 - i)) c + a c * tm x c * E (j * x) (K + 1 - c) = lv1 a x (fun i => E (j * x) (K - i)) c + a c * tm x c * E (j * x) (K - c) + (gs j a K c + a c * bw j K c) * tm x K
    rw [lv1_step j x a K c]
    by_cases h : c ≤ K
    · rw [show K + 1 - c = K - c + 1 by omega]
      have b := bw_tm j x h
      show _ + a c * tm x c * (E (j * x) (K - c) + tm (j * x) (K - c)) = _
      have : a c * bw j K c * tm x K = a c * (bw j K c * tm x K) := by grind
      rw [Rat.add_mul, this, b]; grind
    · rw [bw_big j (by omega), show K + 1 - c = 0 by omega, show K - c = 0 by omega]
      grind
theorem LV_step (M : List Nat) (x : Rat) (K : Nat) : ∀ J, LV M x (fun j i => E ((j : Rat) * x) (K + 1 - i)) J = LV M x (fun j i => E ((j : Rat) * x) (K - i)) J + Gn M K J * tm x K
  | 0 => by show (0 : Rat) = 0 + 0 * _; grind
  | J + 1 => by
    show LV M x _ J + lv1 _ x (fun i => E ((J : Rat) * x) (K + 1 - i)) _ = LV M x _ J + lv1 _ x (fun i => E ((J : Rat) * x) (K - i)) _ + (Gn M K J + gs _ _ _ _) * tm x K
    rw [LV_step M x K J, lv1_step]; grind
theorem lv1_zero (a : Nat → Rat) (x : Rat) {v : Nat → Rat} (h : ∀ i, v i = 0) : ∀ c, lv1 a x v c = 0
  | 0 => rfl
  | c + 1 => by show lv1 a x v c + a c * tm x c * v c = 0; rw [lv1_zero a x h c, h]; grind
theorem LV_zero (M : List Nat) (x : Rat) {v : Nat → Nat → Rat} (h : ∀ j i, v j i = 0) : ∀ J, LV M x v J = 0
  | 0 => rfl
  | J + 1 => by show LV M x v J + lv1 _ x (v J) _ = 0; rw [LV_zero M x h J, lv1_zero _ x (h J)]; grind
/-- The nodes' polynomials times cut rows of e's powers. -/
theorem Rn_eq {M : List Nat} {J : Nat} (hM : ∀ t ∈ M, t < J) (x : Rat) : ∀ K, LV M x (fun j i => E ((j : Rat) * x) (K - i)) J = Rn M x K
  | 0 => LV_zero M x (fun j i => by rw [Nat.zero_sub]; rfl) J
  | K + 1 => by
    rw [LV_step, Rn_eq hM x K, Gn_eq J M.length M rfl hM K]; rfl
theorem lv1_diff {a : Nat → Rat} {x A T e : Rat} {v v' : Nat → Rat} (hx : 0 ≤ x) (hA : ∀ i, Bdd (a i) A) : ∀ c, (∀ i, i < c → tm x i ≤ T) → (∀ i, i < c → Bdd (v i - v' i) e) → Bdd (lv1 a x v c - lv1 a x v' c) ((c : Rat) * (A * T * e))
  | 0, _, _ => by
    show Bdd (0 - 0) (((0 : Nat) : Rat) * _)
    have : ((0 : Nat) : Rat) = 0 := rfl
    rw [this]; constructor <;> grind
  | c + 1, hT, hv => by
    have ih := lv1_diff (v := v) (v' := v') hx hA c (fun i hi => hT i (by omega)) (fun i hi => hv i (by omega))
    have ht : Bdd (tm x c) T := ⟨by have := tm_nn hx c; have := hT c (by omega); grind, hT c (by omega)⟩
    have b := Bdd_mul (Bdd_mul (hA c) ht) (hv c (by omega))
    have s := Bdd_add ih b
    have e1 : lv1 a x v (c + 1) - lv1 a x v' (c + 1) = lv1 a x v c - lv1 a x v' c + a c * tm x c * (v c - v' c) := by
      show lv1 a x v c + a c * tm x c * v c - (lv1 a x v' c + a c * tm x c * v' c) = _
      grind
    have e2 : ((c + 1 : Nat) : Rat) * (A * T * e) = (c : Rat) * (A * T * e) + A * T * e := by
      have : ((c + 1 : Nat) : Rat) = (c : Rat) + 1 := castadd c 1
      rw [this]; grind
    rw [e1, e2]; exact s
theorem LV_diff {M : List Nat} {x A T e : Rat} {v v' : Nat → Nat → Rat} {n : Nat} (hx : 0 ≤ x) : ∀ J, (∀ j, j < J → M.count j = n ∧ ∀ i, Bdd (coef j M i) A) → (∀ i, i < n → tm x i ≤ T) → (∀ j i, j < J → i < n → Bdd (v j i - v' j i) e) → Bdd (LV M x v J - LV M x v' J) ((J : Rat) * ((n : Rat) * (A * T * e)))
  | 0, _, _, _ => by
    show Bdd (0 - 0) (((0 : Nat) : Rat) * _)
    have : ((0 : Nat) : Rat) = 0 := rfl
    rw [this]; constructor <;> grind
  | J + 1, hA, hT, hv => by
    have ih := LV_diff (v := v) (v' := v') hx J (fun j hj => hA j (by omega)) hT (fun j i hj hi => hv j i (by omega) hi)
    obtain ⟨hc, hb⟩ := hA J (by omega)
    have b := lv1_diff (v := v J) (v' := v' J) hx hb n hT (fun i hi => hv J i (by omega) hi)
    have s := Bdd_add ih b
    have e1 : LV M x v (J + 1) - LV M x v' (J + 1) = LV M x v J - LV M x v' J + (lv1 (coef J M) x (v J) n - lv1 (coef J M) x (v' J) n) := by
      show LV M x v J + lv1 _ x (v J) (M.count J) - (LV M x v' J + lv1 _ x (v' J) (M.count J)) = _
      rw [hc]; grind
    have e2 : ((J + 1 : Nat) : Rat) * ((n : Rat) * (A * T * e)) = (J : Rat) * ((n : Rat) * (A * T * e)) + (n : Rat) * (A * T * e) := by
      have : ((J + 1 : Nat) : Rat) = (J : Rat) + 1 := castadd J 1
      rw [this]; grind
    rw [e1, e2]; exact s
/-- All nodes at most c: the sums are not greater than if all were c. -/
theorem Hn_small : ∀ (M : List Nat) (m : Nat), m + 1 < M.length → Hn M m = 0
  | [], _, h => by simp at h
  | s :: M, 0, h => Hn_zero (by rintro rfl; simp at h)
  | s :: M, m + 1, h => by
    show s * Hn (s :: M) m + Hn M m = 0
    rw [Hn_small (s :: M) m (by omega), Hn_small M m (by rw [List.length_cons] at h; omega), Nat.mul_zero]
theorem Hn_first : ∀ (M : List Nat) (m : Nat), m + 1 = M.length → Hn M m = 1
  | [], _, h => by simp at h
  | s :: M, 0, h => by
    have : M = [] := by cases M; rfl; simp at h
    subst this; rfl
  | s :: M, m + 1, h => by
    show s * Hn (s :: M) m + Hn M m = 1
    rw [Hn_small (s :: M) m (by omega), Hn_first M m (by rw [List.length_cons] at h; omega), Nat.mul_zero, Nat.zero_add]
theorem Hn_le {c : Nat} : ∀ (M : List Nat) (m : Nat), (∀ t ∈ M, t ≤ c) → 0 < M.length → Hn M m ≤ bin m (M.length - 1) * c ^ (m - (M.length - 1))
  | s :: M, 0, h, _ => by
    show (if M = [] then 1 else 0) ≤ _
    by_cases e : M = []
    · subst e; rw [if_pos rfl]; exact Nat.le_refl _
    · rw [if_neg e]; exact Nat.zero_le _
  | s :: M, m + 1, h, hl => by
    have i1 := Hn_le (s :: M) m h (by simp)
    have hs := h s List.mem_cons_self
    show s * Hn (s :: M) m + Hn M m ≤ _
    rw [List.length_cons, Nat.add_sub_cancel] at *
    by_cases e : M = []
    · subst e
      have hz : Hn [] m = 0 := by cases m <;> rfl
      rw [hz]
      show s * Hn [s] m + 0 ≤ bin (m + 1) 0 * c ^ (m + 1)
      have b0 : bin (m + 1) 0 = 1 := rfl
      have b1 : bin m 0 = 1 := by cases m <;> rfl
      rw [b0, Nat.one_mul]
      have i1' : Hn [s] m ≤ bin m 0 * c ^ m := i1
      rw [b1, Nat.one_mul] at i1'
      have := Nat.mul_le_mul hs i1'
      rw [Nat.pow_succ, Nat.mul_comm (c ^ m)]; omega
    · obtain ⟨k, hk⟩ : ∃ k, M.length = k + 1 := ⟨M.length - 1, by have : 0 < M.length := List.length_pos_iff.2 e; omega⟩
      have i2 := Hn_le M m (fun t ht => h t (List.mem_cons_of_mem _ ht)) (by omega)
      rw [hk] at i1 i2 ⊢
      rw [Nat.add_sub_cancel] at i2
      show _ ≤ (bin m k + bin m (k + 1)) * c ^ (m + 1 - (k + 1))
      rw [show m + 1 - (k + 1) = m - k by omega, Nat.add_mul]
      have m1 := Nat.mul_le_mul hs i1
      by_cases h2 : k + 1 ≤ m
      · have e2 : c * (bin m (k + 1) * c ^ (m - (k + 1))) = bin m (k + 1) * c ^ (m - k) := by
          rw [show m - k = m - (k + 1) + 1 by omega, Nat.pow_succ, Nat.mul_left_comm, Nat.mul_comm c]
        rw [e2] at m1; omega
      · rw [bin_big m (k + 1) (by omega)] at m1 ⊢
        rw [Nat.zero_mul] at m1 ⊢
        omega
end Go.Ex

/- e's powers multiply, by cut rows; what is left out is small. Plain mathematics. -/
namespace Go.Ex
set_option linter.unusedVariables false
theorem E_nn {x : Rat} (hx : 0 ≤ x) : ∀ K, 0 ≤ E x K
  | 0 => Rat.le_refl
  | K + 1 => by show 0 ≤ E x K + tm x K; have := E_nn hx K; have := tm_nn hx K; grind
theorem E_mono {x : Rat} (hx : 0 ≤ x) {K L : Nat} (h : K ≤ L) : E x K ≤ E x L := by
  induction L with
  | zero => rw [show K = 0 by omega]; exact Rat.le_refl
  | succ L ih =>
    by_cases e : K = L + 1
    · rw [e]; exact Rat.le_refl
    · have := ih (by omega)
      have := tm_nn hx L
      show E x K ≤ E x L + tm x L
      grind
/-- The first so many of a row's products with another row. -/
def cv (f g : Nat → Rat) (n : Nat) : Nat → Rat
  | 0 => 0
  | c + 1 => cv f g n c + f c * g (n - c)
theorem cv_step (x y : Rat) (n : Nat) : ∀ c, c ≤ n → ((n + 1 : Nat) : Rat) * cv (tm x) (tm y) (n + 1) (c + 1) = x * cv (tm x) (tm y) n c + y * cv (tm x) (tm y) n (c + 1)
  | 0, _ => by
    have s := tm_succ y n
    show ((n + 1 : Nat) : Rat) * (0 + 1 * tm y (n + 1)) = x * 0 + y * (0 + 1 * tm y n)
    grind
  | c + 1, h => by
    have ih := cv_step x y n c (by omega)
    obtain ⟨d, hd⟩ : ∃ d, n = c + 1 + d := ⟨n - (c + 1), by omega⟩
    have s1 := tm_succ x c
    have s2 := tm_succ y d
    show ((n + 1 : Nat) : Rat) * (cv (tm x) (tm y) (n + 1) (c + 1) + tm x (c + 1) * tm y (n + 1 - (c + 1))) = x * (cv (tm x) (tm y) n c + tm x c * tm y (n - c)) + y * (cv (tm x) (tm y) n (c + 1) + tm x (c + 1) * tm y (n - (c + 1)))
    rw [show n + 1 - (c + 1) = d + 1 by omega, show n - c = d + 1 by omega, show n - (c + 1) = d by omega]
    have en : ((n + 1 : Nat) : Rat) = ((c + 1 : Nat) : Rat) + ((d + 1 : Nat) : Rat) := by rw [← castadd]; congr 1; omega
    have l : ((n + 1 : Nat) : Rat) * (tm x (c + 1) * tm y (d + 1)) = (((c + 1 : Nat) : Rat) * tm x (c + 1)) * tm y (d + 1) + tm x (c + 1) * (((d + 1 : Nat) : Rat) * tm y (d + 1)) := by rw [en]; grind
    rw [Rat.mul_add, ih, l, s1, s2]; grind
theorem cv_full (x y : Rat) : ∀ n, cv (tm x) (tm y) n (n + 1) = tm (x + y) n
  | 0 => by show 0 + (1 : Rat) * 1 = 1; decide +kernel
  | n + 1 => by
    have ih := cv_full x y n
    have c1 := cv_step x y n n (Nat.le_refl n)
    have s1 := tm_succ x n
    have s := tm_succ (x + y) n
    refine cancel_l (nsucc_ne n) ?_
    rw [s, ← ih]
    have e1 : cv (tm x) (tm y) (n + 1) (n + 1 + 1) = cv (tm x) (tm y) (n + 1) (n + 1) + tm x (n + 1) * 1 := by
      show _ + tm x (n + 1) * tm y (n + 1 - (n + 1)) = _
      rw [Nat.sub_self]; rfl
    have e2 : cv (tm x) (tm y) n (n + 1) = cv (tm x) (tm y) n n + tm x n * 1 := by
      show _ + tm x n * tm y (n - n) = _
      rw [Nat.sub_self]; rfl
    rw [e1, Rat.mul_add, c1, Rat.mul_one, s1]
    have e3 : (x + y) * cv (tm x) (tm y) n (n + 1) = x * cv (tm x) (tm y) n (n + 1) + y * cv (tm x) (tm y) n (n + 1) := by grind
    rw [e3]
    have e4 : x * cv (tm x) (tm y) n (n + 1) = x * cv (tm x) (tm y) n n + x * tm x n := by rw [e2]; grind
    rw [e4]; grind
/-- A row's terms times cut rows of another. -/
def pe (x y : Rat) (N : Nat) : Nat → Rat
  | 0 => 0
  | c + 1 => pe x y N c + tm x c * E y (N - c)
theorem pe_step (x y : Rat) (N : Nat) : ∀ c, c ≤ N + 1 → pe x y (N + 1) c = pe x y N c + cv (tm x) (tm y) N c
  | 0, _ => by show (0 : Rat) = 0 + 0; grind
  | c + 1, h => by
    have ih := pe_step x y N c (by omega)
    show pe x y (N + 1) c + tm x c * E y (N + 1 - c) = pe x y N c + tm x c * E y (N - c) + (cv (tm x) (tm y) N c + tm x c * tm y (N - c))
    rw [ih, show N + 1 - c = N - c + 1 by omega]
    show _ + tm x c * (E y (N - c) + tm y (N - c)) = _
    grind
theorem pe_full (x y : Rat) : ∀ N, pe x y N N = E (x + y) N
  | 0 => rfl
  | N + 1 => by
    have ih := pe_full x y N
    show pe x y (N + 1) (N + 1) = E (x + y) N + tm (x + y) N
    rw [pe_step x y N (N + 1) (Nat.le_refl _), cv_full, ← ih]
    show pe x y N N + tm x N * E y (N - N) + _ = _
    rw [Nat.sub_self]
    show pe x y N N + tm x N * 0 + _ = _
    grind
theorem pe_le {x y : Rat} (hx : 0 ≤ x) (hy : 0 ≤ y) (N : Nat) : ∀ c, pe x y N c ≤ E x c * E y N
  | 0 => by show (0 : Rat) ≤ 0 * _; rw [Rat.zero_mul]; exact Rat.le_refl
  | c + 1 => by
    have ih := pe_le hx hy N c
    have m := Rat.mul_le_mul_of_nonneg_left (E_mono hy (Nat.sub_le N c)) (tm_nn hx c)
    show pe x y N c + tm x c * E y (N - c) ≤ (E x c + tm x c) * E y N
    grind
theorem pe_ge {x y : Rat} (hx : 0 ≤ x) (hy : 0 ≤ y) (K L : Nat) : ∀ c, c ≤ K → E x c * E y L ≤ pe x y (K + L) c
  | 0, _ => by show (0 : Rat) * _ ≤ 0; rw [Rat.zero_mul]; exact Rat.le_refl
  | c + 1, h => by
    have ih := pe_ge hx hy K L c (by omega)
    have m := Rat.mul_le_mul_of_nonneg_left (E_mono hy (show L ≤ K + L - c by omega)) (tm_nn hx c)
    show (E x c + tm x c) * E y L ≤ pe x y (K + L) c + tm x c * E y (K + L - c)
    grind
theorem pe_up {x y : Rat} (hx : 0 ≤ x) (hy : 0 ≤ y) (N : Nat) {c d : Nat} (h : c ≤ d) : pe x y N c ≤ pe x y N d := by
  induction d with
  | zero => rw [show c = 0 by omega]; exact Rat.le_refl
  | succ d ih =>
    by_cases e : c = d + 1
    · rw [e]; exact Rat.le_refl
    · have := ih (by omega)
      have := Rat.mul_nonneg (tm_nn hx d) (E_nn hy (N - d))
      show pe x y N c ≤ pe x y N d + _
      grind
/-- e's powers multiply. -/
theorem E_add_le {x y : Rat} (hx : 0 ≤ x) (hy : 0 ≤ y) (N : Nat) : E (x + y) N ≤ E x N * E y N := by
  rw [← pe_full]; exact pe_le hx hy N N
theorem E_add_ge {x y : Rat} (hx : 0 ≤ x) (hy : 0 ≤ y) (K L : Nat) : E x K * E y L ≤ E (x + y) (K + L) := by
  rw [← pe_full]; exact Rat.le_trans (pe_ge hx hy K L K (Nat.le_refl _)) (pe_up hx hy _ (Nat.le_add_right _ _))
theorem pow_nn {x : Rat} (hx : 0 ≤ x) : ∀ n : Nat, 0 ≤ x ^ n
  | 0 => by rw [Rat.pow_zero]; decide
  | n + 1 => by rw [Rat.pow_succ]; exact Rat.mul_nonneg (pow_nn hx n) hx
theorem E_zero : ∀ K, E 0 (K + 1) = 1
  | 0 => by show (0 : Rat) + 1 = 1; decide +kernel
  | K + 1 => by
    show E 0 (K + 1) + tm 0 K * 0 / _ = 1
    rw [E_zero K, Rat.mul_zero, Rat.div_def, Rat.zero_mul, Rat.add_zero]
theorem mul_nat (j : Nat) (x : Rat) : ((j + 1 : Nat) : Rat) * x = (j : Rat) * x + x := by
  have : ((j + 1 : Nat) : Rat) = (j : Rat) + 1 := castadd j 1
  rw [this]; grind
theorem jx_nn {x : Rat} (hx : 0 ≤ x) (j : Nat) : 0 ≤ (j : Rat) * x := Rat.mul_nonneg (nat_nn j) hx
theorem E_pow_ge {x : Rat} (hx : 0 ≤ x) {K : Nat} (hK : 0 < K) : ∀ j : Nat, E ((j : Rat) * x) K ≤ E x K ^ j
  | 0 => by
    have : ((0 : Nat) : Rat) = 0 := rfl
    rw [this, Rat.zero_mul, Rat.pow_zero]
    obtain ⟨k, rfl⟩ : ∃ k, K = k + 1 := ⟨K - 1, by omega⟩
    rw [E_zero]; exact Rat.le_refl
  | j + 1 => by
    have ih := E_pow_ge hx hK j
    rw [mul_nat, Rat.pow_succ]
    exact Rat.le_trans (E_add_le (jx_nn hx j) hx K) (Rat.mul_le_mul_of_nonneg_right ih (E_nn hx K))
theorem E_pow_le {x : Rat} (hx : 0 ≤ x) (K : Nat) : ∀ j : Nat, E x K ^ j ≤ E ((j : Rat) * x) (j * K + 1)
  | 0 => by
    have : ((0 : Nat) : Rat) = 0 := rfl
    rw [this, Rat.zero_mul, Rat.pow_zero, Nat.zero_mul, E_zero]; exact Rat.le_refl
  | j + 1 => by
    have ih := E_pow_le hx K j
    rw [mul_nat, Rat.pow_succ, show (j + 1) * K + 1 = j * K + 1 + K by rw [Nat.add_mul]; omega]
    exact Rat.le_trans (Rat.mul_le_mul_of_nonneg_right ih (E_nn hx K)) (E_add_ge (jx_nn hx j) hx _ K)
theorem le_by {x y c : Rat} (hc : 0 < c) (h : x * c ≤ y * c) : x ≤ y := by
  rcases Rat.le_total (a := x) (b := y) with h1 | h1
  · exact h1
  · have h2 := Rat.mul_le_mul_of_nonneg_right h1 (by grind : (0 : Rat) ≤ c)
    have h3 : (x - y) * c = 0 := by grind
    rcases Rat.mul_eq_zero.1 h3 with h4 | h4 <;> grind
theorem tm_half {y : Rat} (hy : 0 ≤ y) {m : Nat} (h : y + y ≤ ((m + 1 : Nat) : Rat)) : tm y (m + 1) + tm y (m + 1) ≤ tm y m := by
  have s := tm_succ y m
  have p := nsucc_pos m
  refine le_by p ?_
  have n := tm_nn hy m
  have m1 := Rat.mul_le_mul_of_nonneg_right h n
  grind
/-- What is left out is at most twice the first term of it. -/
theorem E_tail {y : Rat} (hy : 0 ≤ y) {N : Nat} (h : y + y ≤ ((N + 1 : Nat) : Rat)) : ∀ k, E y (N + k) + 2 * tm y (N + k) ≤ E y N + 2 * tm y N
  | 0 => Rat.le_refl
  | k + 1 => by
    have ih := E_tail hy h k
    have c : ((N + 1 : Nat) : Rat) ≤ ((N + k + 1 : Nat) : Rat) := by exact_mod_cast (by omega : N + 1 ≤ N + k + 1)
    have t := tm_half hy (m := N + k) (Rat.le_trans h c)
    show E y (N + k) + tm y (N + k) + 2 * tm y (N + k + 1) ≤ _
    grind
theorem E_tail_le {y : Rat} (hy : 0 ≤ y) {N L : Nat} (h : y + y ≤ ((N + 1 : Nat) : Rat)) : E y L ≤ E y N + 2 * tm y N := by
  by_cases g : N ≤ L
  · have t := E_tail hy h (L - N)
    rw [show N + (L - N) = L by omega] at t
    have := tm_nn hy L
    grind
  · have := E_mono hy (show L ≤ N by omega)
    have := tm_nn hy N
    grind
theorem tm_pow2 {y : Rat} (hy : 0 ≤ y) {N : Nat} (h : y + y ≤ ((N + 1 : Nat) : Rat)) : ∀ k, tm y (N + k) * t2 k ≤ tm y N
  | 0 => by show tm y N * 1 ≤ tm y N; rw [Rat.mul_one]; exact Rat.le_refl
  | k + 1 => by
    have ih := tm_pow2 hy h k
    have c : ((N + 1 : Nat) : Rat) ≤ ((N + k + 1 : Nat) : Rat) := by exact_mod_cast (by omega : N + 1 ≤ N + k + 1)
    have t := tm_half hy (m := N + k) (Rat.le_trans h c)
    have m := Rat.mul_le_mul_of_nonneg_right t (Rat.le_of_lt (t2_pos k))
    rw [t2_succ]
    show tm y (N + k + 1) * (t2 k + t2 k) ≤ _
    grind
theorem denR (D : Rat) : D * (D.den : Rat) = (D.num : Rat) := by
  have dn : (0 : Rat) < (D.den : Rat) := by exact_mod_cast Rat.den_pos (self := D)
  have := (Rat.mkRat_eq_div D.num D.den).symm.trans (Rat.mkRat_self D)
  have e := Rat.div_mul_cancel (a := (D.num : Rat)) (b := (D.den : Rat)) (by grind)
  rwa [this] at e
theorem le_nat (D : Rat) : ∃ n : Nat, D ≤ (n : Rat) := by
  refine ⟨D.num.natAbs, ?_⟩
  have e := denR D
  have h1 : (1 : Rat) ≤ (D.den : Rat) := by exact_mod_cast D.den_pos
  have h2 : (D.num : Rat) ≤ ((D.num.natAbs : Int) : Rat) := Rat.intCast_le_intCast.2 (by omega)
  have h3 : ((D.num.natAbs : Int) : Rat) = (D.num.natAbs : Rat) := rfl
  rw [h3] at h2
  rcases Rat.le_total (a := D) (b := 0) with g | g
  · exact Rat.le_trans g (nat_nn _)
  · have := Rat.mul_le_mul_of_nonneg_left h1 g
    grind
theorem nat_t2 (n : Nat) : (n : Rat) ≤ t2 n := by
  have : n ≤ 2 ^ n := Nat.le_of_lt (Nat.lt_two_pow_self)
  exact_mod_cast this
/-- A row's terms become as small as is asked. -/
theorem tm_small {y : Rat} (hy : 0 ≤ y) {e : Rat} (he : 0 < e) : ∃ N : Nat, ∀ m, N ≤ m → y + y ≤ ((m + 1 : Nat) : Rat) ∧ 2 * tm y m ≤ e := by
  obtain ⟨n0, h0⟩ := le_nat (y + y)
  obtain ⟨n1, h1⟩ := le_nat (2 * tm y n0 / e)
  have hn : y + y ≤ ((n0 + 1 : Nat) : Rat) := Rat.le_trans h0 (by exact_mod_cast Nat.le_succ n0)
  refine ⟨n0 + n1, fun m hm => ⟨Rat.le_trans hn (by exact_mod_cast (by omega : n0 + 1 ≤ m + 1)), ?_⟩⟩
  have t := tm_pow2 hy hn (m - n0)
  rw [show n0 + (m - n0) = m by omega] at t
  have a : (n1 : Rat) ≤ t2 (m - n0) := Rat.le_trans (nat_t2 n1) (t2_mono (by omega))
  have b := Rat.le_trans h1 a
  have c := Rat.mul_le_mul_of_nonneg_right b (Rat.le_of_lt he)
  rw [Rat.div_mul_cancel (by grind)] at c
  have P := t2_pos (m - n0)
  refine le_by P ?_
  generalize t2 (m - n0) = w at *
  grind
end Go.Ex

/- Whole numbers by a denominator; factorials. Plain mathematics. -/
namespace Go.Ex
set_option linter.unusedVariables false
theorem castpow (z : Int) : ∀ n : Nat, ((z ^ n : Int) : Rat) = (z : Rat) ^ n
  | 0 => by rw [Int.pow_zero, Rat.pow_zero]; rfl
  | n + 1 => by rw [Int.pow_succ, Rat.pow_succ, Rat.intCast_mul, castpow z n]
theorem castpowN (z : Nat) : ∀ n : Nat, ((z ^ n : Nat) : Rat) = (z : Rat) ^ n
  | 0 => by rw [Nat.pow_zero, Rat.pow_zero]; rfl
  | n + 1 => by rw [Nat.pow_succ, Rat.pow_succ, castmul, castpowN z n]
theorem pow_plus (q : Rat) (m : Nat) : ∀ n : Nat, q ^ (m + n) = q ^ m * q ^ n
  | 0 => by rw [Nat.add_zero, Rat.pow_zero, Rat.mul_one]
  | n + 1 => by rw [← Nat.add_assoc, Rat.pow_succ, pow_plus q m n, Rat.pow_succ, Rat.mul_assoc]
theorem mul_powR (p q : Rat) : ∀ n : Nat, (p * q) ^ n = p ^ n * q ^ n
  | 0 => by rw [Rat.pow_zero, Rat.pow_zero, Rat.pow_zero]; decide +kernel
  | n + 1 => by rw [Rat.pow_succ, mul_powR p q n, Rat.pow_succ, Rat.pow_succ]; grind
theorem coef_int {j n i : Nat} (hj : j < 65) : isI (coef j (nds n) i * ((F64 : Rat) ^ n * (L64 : Rat) ^ n)) := by
  unfold coef
  rw [nds_cnt hj]
  split
  · rename_i h
    have s := ser_int (A := L64) j (nds n) (fun t ht hne => sub_dvd hj (nds_lt n t ht) hne) (n - 1 - i)
    rw [prd_nds, castpow] at s
    obtain ⟨z, hz⟩ := prd_dvd hj
    rw [hz, Rat.intCast_mul, mul_powR, show n = (n - 1 - i) + (i + 1) by omega, pow_plus (L64 : Rat)]
    have e := isI_mul s (isI_mul (isI_pow (isI_int z) n) (isI_pow (isI_int L64) (i + 1)))
    rw [show n - 1 - i + (i + 1) = n by omega]
    obtain ⟨w, hw⟩ := e
    refine ⟨w, ?_⟩
    rw [← hw]; grind
  · rw [Rat.zero_mul]; exact isI_zero
/-- The product of all up to a number. -/
def fac : Nat → Nat
  | 0 => 1
  | n + 1 => fac n * (n + 1)
theorem fac_pos : ∀ n, 0 < fac n
  | 0 => Nat.one_pos
  | n + 1 => Nat.mul_pos (fac_pos n) (Nat.succ_pos n)
theorem fac_dvd (i : Nat) : ∀ d, fac i ∣ fac (i + d)
  | 0 => Nat.dvd_refl _
  | d + 1 => Nat.dvd_trans (fac_dvd i d) (Nat.dvd_mul_right _ _)
theorem tm_fac (x : Rat) : ∀ m, tm x m * (fac m : Rat) = x ^ m
  | 0 => by rw [Rat.pow_zero]; show (1 : Rat) * ((1 : Nat) : Rat) = 1; decide +kernel
  | m + 1 => by
    have s := tm_succ x m
    show tm x (m + 1) * ((fac m * (m + 1) : Nat) : Rat) = _
    rw [castmul, Rat.pow_succ, ← tm_fac x m]
    have : tm x (m + 1) * ((fac m : Rat) * ((m + 1 : Nat) : Rat)) = (((m + 1 : Nat) : Rat) * tm x (m + 1)) * (fac m : Rat) := by grind
    rw [this, s]; grind
theorem tm_int {x : Rat} {a b : Nat} (hx : x * (b : Rat) = (a : Rat)) {i n : Nat} (h : i ≤ n) : isI (tm x i * ((b : Rat) ^ n * (fac n : Rat))) := by
  obtain ⟨d, rfl⟩ : ∃ d, n = i + d := ⟨n - i, by omega⟩
  obtain ⟨q, hq⟩ := fac_dvd i d
  rw [hq, castmul, pow_plus]
  have t := tm_fac x i
  have e : tm x i * ((b : Rat) ^ i * (b : Rat) ^ d * ((fac i : Rat) * (q : Rat))) = (x * (b : Rat)) ^ i * ((b : Rat) ^ d * (q : Rat)) := by
    rw [mul_powR, ← t]; grind
  rw [e, hx]
  exact isI_mul (isI_pow (isI_nat a) i) (isI_mul (isI_pow (isI_nat b) d) (isI_nat q))
theorem al_int {al : Rat} {u v : Nat} (h : al * (v : Rat) = (u : Rat)) {j J : Nat} (hj : j ≤ J) : isI (al ^ j * (v : Rat) ^ J) := by
  obtain ⟨d, rfl⟩ : ∃ d, J = j + d := ⟨J - j, by omega⟩
  rw [pow_plus]
  have e : al ^ j * ((v : Rat) ^ j * (v : Rat) ^ d) = (al * (v : Rat)) ^ j * (v : Rat) ^ d := by rw [mul_powR]; grind
  rw [e, h]
  exact isI_mul (isI_pow (isI_nat u) j) (isI_pow (isI_nat v) d)
theorem lv1_int {a : Nat → Rat} {x y C T V : Rat} (hC : ∀ i, isI (a i * C)) : ∀ c, (∀ i, i < c → isI (tm x i * T)) → isI (y * V) → isI (lv1 a x (fun _ => y) c * (C * T * V))
  | 0, _, _ => by show isI (0 * _); rw [Rat.zero_mul]; exact isI_zero
  | c + 1, hT, hV => by
    have ih := lv1_int (x := x) hC c (fun i hi => hT i (by omega)) hV
    have t := isI_mul (isI_mul (hC c) (hT c (by omega))) hV
    have e : lv1 a x (fun _ => y) (c + 1) * (C * T * V) = lv1 a x (fun _ => y) c * (C * T * V) + a c * C * (tm x c * T) * (y * V) := by
      show (lv1 a x (fun _ => y) c + a c * tm x c * y) * (C * T * V) = _
      grind
    rw [e]; exact isI_add ih t
theorem LV_int {n : Nat} {x al T V : Rat} (hT : ∀ i, i < n → isI (tm x i * T)) : ∀ J, J ≤ 65 → (∀ j, j < J → isI (al ^ j * V)) → isI (LV (nds n) x (fun j _ => al ^ j) J * ((F64 : Rat) ^ n * (L64 : Rat) ^ n * T * V))
  | 0, _, _ => by show isI (0 * _); rw [Rat.zero_mul]; exact isI_zero
  | J + 1, hJ, hV => by
    have ih := LV_int (al := al) hT J (by omega) (fun j hj => hV j (by omega))
    have t := lv1_int (a := coef J (nds n)) (x := x) (y := al ^ J) (C := (F64 : Rat) ^ n * (L64 : Rat) ^ n) (T := T) (V := V) (fun i => coef_int (by omega)) n hT (hV J (by omega))
    have e : LV (nds n) x (fun j _ => al ^ j) (J + 1) = LV (nds n) x (fun j _ => al ^ j) J + lv1 (coef J (nds n)) x (fun _ => al ^ J) n := by
      show _ + lv1 _ x _ ((nds n).count J) = _
      rw [nds_cnt (by omega)]
    rw [e, Rat.add_mul]
    exact isI_add ih t
theorem Rn_nn {M : List Nat} {x : Rat} (hx : 0 ≤ x) : ∀ K, 0 ≤ Rn M x K
  | 0 => Rat.le_refl
  | K + 1 => by
    have := Rn_nn (M := M) hx K
    have := Rat.mul_nonneg (nat_nn (Hn M K)) (tm_nn hx K)
    show 0 ≤ Rn M x K + _
    grind
theorem Rn_ge {M : List Nat} {x : Rat} {N : Nat} (hx : 0 ≤ x) (hN : N + 1 = M.length) : ∀ K, N < K → tm x N ≤ Rn M x K
  | K + 1, h => by
    show tm x N ≤ Rn M x K + (Hn M K : Rat) * tm x K
    by_cases e : N = K
    · subst e
      rw [Hn_first M N hN]
      have := Rn_nn (M := M) hx N
      have h1 : ((1 : Nat) : Rat) = 1 := rfl
      rw [h1]; grind
    · have ih := Rn_ge hx hN K (by omega)
      have := Rat.mul_nonneg (nat_nn (Hn M K)) (tm_nn hx K)
      grind
theorem Rn_le {M : List Nat} {x : Rat} {N c : Nat} (hx : 0 ≤ x) (hN : N + 1 = M.length) (hM : ∀ t ∈ M, t ≤ c) : ∀ K, Rn M x K ≤ tm x N * E ((c : Rat) * x) (K - N)
  | 0 => by
    show (0 : Rat) ≤ tm x N * E _ (0 - N)
    exact Rat.mul_nonneg (tm_nn hx N) (E_nn (jx_nn hx c) _)
  | K + 1 => by
    have ih := Rn_le hx hN hM K
    show Rn M x K + (Hn M K : Rat) * tm x K ≤ _
    by_cases h : N ≤ K
    · rw [show K + 1 - N = K - N + 1 by omega]
      show _ ≤ tm x N * (E ((c : Rat) * x) (K - N) + tm ((c : Rat) * x) (K - N))
      have b := bw_tm (c : Rat) x h
      have hl := Hn_le M K hM (by omega)
      rw [show M.length - 1 = N by omega] at hl
      have hr : (Hn M K : Rat) ≤ bw (c : Rat) K N := by
        have : ((Hn M K : Nat) : Rat) ≤ ((bin K N * c ^ (K - N) : Nat) : Rat) := by exact_mod_cast hl
        rw [castmul, castpowN] at this
        exact this
      have m := Rat.mul_le_mul_of_nonneg_right hr (tm_nn hx K)
      rw [b] at m
      grind
    · rw [Hn_small M K (by omega), show K + 1 - N = K - N by omega]
      have : ((0 : Nat) : Rat) = 0 := rfl
      rw [this, Rat.zero_mul, Rat.add_zero]; exact ih
/-- Growth. -/
theorem bern (N : Nat) : ∀ k, k ≤ N + 1 → (N + 1 - k) * (N + 1) ^ k ≤ (N + 1) * N ^ k
  | 0, _ => by rw [Nat.pow_zero, Nat.pow_zero, Nat.sub_zero]; exact Nat.le_refl _
  | k + 1, h => by
    have ih := bern N k (by omega)
    obtain ⟨d, hd⟩ : ∃ d, N = k + d := ⟨N - k, by omega⟩
    have m := Nat.mul_le_mul_right N ih
    rw [Nat.pow_succ, Nat.pow_succ, show N + 1 - (k + 1) = d by omega]
    rw [show N + 1 - k = d + 1 by omega] at m
    refine Nat.le_trans ?_ (Nat.le_trans m (by rw [Nat.mul_assoc]; exact Nat.le_refl _))
    have e1 : d * ((N + 1) ^ k * (N + 1)) = d * (N + 1) * (N + 1) ^ k := by rw [Nat.mul_comm ((N + 1) ^ k), Nat.mul_assoc]
    have e2 : (d + 1) * (N + 1) ^ k * N = (d + 1) * N * (N + 1) ^ k := by rw [Nat.mul_assoc, Nat.mul_comm ((N + 1) ^ k), Nat.mul_assoc]
    rw [e1, e2]
    refine Nat.mul_le_mul_right _ ?_
    rw [Nat.mul_add, Nat.add_mul, Nat.mul_one, Nat.one_mul]; omega
theorem four (N : Nat) : (N + 1) ^ N ≤ 4 * N ^ N := by
  have key : ∀ k, 2 * k ≤ N + 1 → (N + 1) ^ k ≤ 2 * N ^ k := by
    intro k hk
    have b := bern N k (by omega)
    have m := Nat.mul_le_mul_right ((N + 1) ^ k) (show N + 1 ≤ 2 * (N + 1 - k) by omega)
    have : (N + 1) * (N + 1) ^ k ≤ (N + 1) * (2 * N ^ k) := by
      refine Nat.le_trans m ?_
      rw [Nat.mul_assoc 2, Nat.mul_left_comm (N + 1) 2]
      exact Nat.mul_le_mul_left 2 b
    exact Nat.le_of_mul_le_mul_left this (Nat.succ_pos N)
  have sq : ∀ k, 2 * k ≤ N + 1 → (N + 1) ^ (2 * k) ≤ 4 * N ^ (2 * k) := by
    intro k hk
    have h := key k hk
    have m := Nat.mul_le_mul h h
    rw [show 2 * k = k + k by omega, Nat.pow_add, Nat.pow_add]
    refine Nat.le_trans m ?_
    have : 2 * N ^ k * (2 * N ^ k) = 4 * (N ^ k * N ^ k) := by rw [Nat.mul_mul_mul_comm]
    rw [this]; exact Nat.le_refl _
  by_cases h : N % 2 = 0
  · have := sq (N / 2) (by omega)
    rwa [show 2 * (N / 2) = N by omega] at this
  · have := sq ((N + 1) / 2) (by omega)
    rw [show 2 * ((N + 1) / 2) = N + 1 by omega, Nat.pow_succ, Nat.pow_succ] at this
    have h2 : (N + 1) ^ N * (N + 1) ≤ 4 * N ^ N * (N + 1) := by
      refine Nat.le_trans this ?_
      rw [← Nat.mul_assoc]
      exact Nat.mul_le_mul_left _ (Nat.le_succ N)
    exact Nat.le_of_mul_le_mul_right h2 (Nat.succ_pos N)
theorem fac_low : ∀ N, N ^ N ≤ 4 ^ N * fac N
  | 0 => Nat.le_refl _
  | N + 1 => by
    have ih := fac_low N
    have f := four N
    show (N + 1) ^ N * (N + 1) ≤ 4 ^ N * 4 * (fac N * (N + 1))
    have e : 4 ^ N * 4 * (fac N * (N + 1)) = 4 * (4 ^ N * fac N) * (N + 1) := by
      rw [Nat.mul_comm (4 ^ N) 4, Nat.mul_assoc 4, Nat.mul_assoc 4, Nat.mul_assoc (4 ^ N)]
    rw [e]
    exact Nat.mul_le_mul_right _ (Nat.le_trans f (Nat.mul_le_mul_left 4 ih))
theorem fac_up : ∀ N, fac N ≤ N ^ N
  | 0 => Nat.le_refl _
  | N + 1 => by
    show fac N * (N + 1) ≤ (N + 1) ^ N * (N + 1)
    exact Nat.mul_le_mul_right _ (Nat.le_trans (fac_up N) (Nat.pow_le_pow_left (Nat.le_succ N) N))
end Go.Ex

/- Sizes. Plain mathematics. -/
namespace Go.Ex
set_option linter.unusedVariables false
theorem castle {a b : Nat} (h : a ≤ b) : (a : Rat) ≤ (b : Rat) := by exact_mod_cast h
theorem castlt {a b : Nat} (h : a < b) : (a : Rat) < (b : Rat) := by exact_mod_cast h
/-- Factorials are greater than all denominators together. -/
theorem big_fac {n N b v r m sF sv : Nat} (hn : n = 4096) (hN : N = 266239) (hr : r = 6657) (hm : m = 64) (hsF : sF = 296) (hsv : sv = 520) (hb : b ≤ 2 ^ 240) (hv : v ≤ 2 ^ sv) (F L : Nat) (hF : F ≤ 2 ^ sF) (hL : L ≤ 2 ^ 90) :
    F ^ n * L ^ n * (b ^ n * fac n) * v ^ m * 64 ^ N * 2 ^ r < fac N := by
  have h1 : F ^ n ≤ 2 ^ (sF * n) := by rw [Nat.pow_mul]; exact Nat.pow_le_pow_left hF n
  have h2 : L ^ n ≤ 2 ^ (90 * n) := by rw [Nat.pow_mul]; exact Nat.pow_le_pow_left hL n
  have h3 : b ^ n ≤ 2 ^ (240 * n) := by rw [Nat.pow_mul]; exact Nat.pow_le_pow_left hb n
  have h4 : fac n ≤ 2 ^ (12 * n) := by
    refine Nat.le_trans (fac_up n) ?_
    rw [Nat.pow_mul]
    exact Nat.pow_le_pow_left (by omega) n
  have h5 : v ^ m ≤ 2 ^ (sv * m) := by rw [Nat.pow_mul]; exact Nat.pow_le_pow_left hv m
  have h6 : 64 ^ N ≤ 2 ^ (6 * N) := by rw [Nat.pow_mul]; exact Nat.le_refl _
  have h7 : 2 ^ (16 * N) ≤ fac N := by
    have a : 2 ^ (18 * N) ≤ N ^ N := by rw [Nat.pow_mul]; exact Nat.pow_le_pow_left (by omega) N
    have c : (4 : Nat) ^ N = 2 ^ (2 * N) := by rw [Nat.pow_mul]
    have d := Nat.le_trans a (fac_low N)
    rw [c, show 18 * N = 2 * N + 16 * N by omega, Nat.pow_add] at d
    exact Nat.le_of_mul_le_mul_left d (Nat.pow_pos (by omega))
  refine Nat.lt_of_lt_of_le (Nat.lt_of_le_of_lt (Nat.mul_le_mul (Nat.mul_le_mul (Nat.mul_le_mul (Nat.mul_le_mul (Nat.mul_le_mul h1 h2) (Nat.mul_le_mul h3 h4)) h5) h6) (Nat.le_refl (2 ^ r))) ?_) h7
  rw [← Nat.pow_add, ← Nat.pow_add, ← Nat.pow_add, ← Nat.pow_add, ← Nat.pow_add, ← Nat.pow_add]
  have e1 : sF * n = 296 * n := by rw [hsF]
  have e2 : sv * m = 33280 := by rw [hsv, hm]
  exact Nat.pow_lt_pow_right (by omega) (by omega)
theorem small_fac {n N b W r : Nat} (hn : n = 4096) (hN : N = 266239) (hr : r = 6665) (hb : b ≤ 2 ^ 240) (hW : 70000000 ≤ W) :
    65 * n * 2 ^ (66 * n) * 2 ^ (6 * n) * 2 ^ r * fac N * b ^ N ≤ 2 ^ W := by
  have h1 : 65 * n ≤ 2 ^ 19 := by omega
  have h3 : b ^ N ≤ 2 ^ (240 * N) := by rw [Nat.pow_mul]; exact Nat.pow_le_pow_left hb N
  have h4 : fac N ≤ 2 ^ (19 * N) := by
    refine Nat.le_trans (fac_up N) ?_
    rw [Nat.pow_mul]
    exact Nat.pow_le_pow_left (by omega) N
  refine Nat.le_trans (Nat.mul_le_mul (Nat.mul_le_mul (Nat.mul_le_mul (Nat.mul_le_mul (Nat.mul_le_mul h1 (Nat.le_refl _)) (Nat.le_refl _)) (Nat.le_refl _)) h4) h3) ?_
  rw [← Nat.pow_add, ← Nat.pow_add, ← Nat.pow_add, ← Nat.pow_add, ← Nat.pow_add]
  exact Nat.pow_le_pow_right (by omega) (by omega)
theorem tm_mono {x y : Rat} (hx : 0 ≤ x) (h : x ≤ y) : ∀ m, tm x m ≤ tm y m
  | 0 => Rat.le_refl
  | m + 1 => by
    refine le_by (nsucc_pos m) ?_
    have s1 := tm_succ x m
    have s2 := tm_succ y m
    have ih := tm_mono hx h m
    have m1 := Rat.mul_le_mul_of_nonneg_right h (tm_nn hx m)
    have m2 := Rat.mul_le_mul_of_nonneg_left ih (show 0 ≤ y by grind)
    rw [Rat.mul_comm (tm x (m + 1)), s1, Rat.mul_comm (tm y (m + 1)), s2]
    exact Rat.le_trans m1 m2
theorem tm_64 {x : Rat} (hx : 0 ≤ x) (h : x ≤ 64) : ∀ i, tm x i ≤ t2 (6 * i)
  | 0 => Rat.le_refl
  | i + 1 => by
    refine le_by (nsucc_pos i) ?_
    have s := tm_succ x i
    have ih := tm_64 hx h i
    have m1 := Rat.mul_le_mul_of_nonneg_right h (tm_nn hx i)
    have e : t2 (6 * (i + 1)) = 64 * t2 (6 * i) := by
      rw [show 6 * (i + 1) = 6 + 6 * i by omega, t2_add]; rfl
    have c : (1 : Rat) ≤ ((i + 1 : Nat) : Rat) := castle (show 1 ≤ i + 1 by omega)
    have P := Rat.le_of_lt (t2_pos (6 * (i + 1)))
    have m2 := Rat.mul_le_mul_of_nonneg_left c P
    rw [Rat.mul_comm (tm x (i + 1)), s]
    rw [e] at m2 ⊢
    generalize t2 (6 * i) = w at *
    grind
theorem pow_diff {e al B d : Rat} (he : 0 ≤ e) (hal : 0 ≤ al) (h1 : e ≤ B) (h2 : al ≤ B) (hB : 1 ≤ B) (hd : Bdd (e - al) d) : ∀ j : Nat, Bdd (e ^ j - al ^ j) ((j : Rat) * (B ^ j * d)) ∧ Bdd (e ^ j) (B ^ j) ∧ Bdd (al ^ j) (B ^ j)
  | 0 => by
    rw [Rat.pow_zero, Rat.pow_zero, Rat.pow_zero]
    have : ((0 : Nat) : Rat) = 0 := rfl
    rw [this]
    refine ⟨⟨by grind, by grind⟩, ⟨by decide, Rat.le_refl⟩, ⟨by decide, Rat.le_refl⟩⟩
  | j + 1 => by
    obtain ⟨ih, b1, b2⟩ := pow_diff he hal h1 h2 hB hd j
    have c1 : Bdd e B := ⟨by grind, h1⟩
    have c2 : Bdd al B := ⟨by grind, h2⟩
    rw [Rat.pow_succ, Rat.pow_succ, Rat.pow_succ]
    refine ⟨?_, Bdd_mul b1 c1, Bdd_mul b2 c2⟩
    have m1 := Bdd_mul b1 hd
    have m2 := Bdd_mul ih c2
    have s := Bdd_add m1 m2
    have nd := Bdd_nn hd
    have nB := Bdd_nn b1
    have k := Rat.mul_le_mul_of_nonneg_left hB (Rat.mul_nonneg nB nd)
    have ej : ((j + 1 : Nat) : Rat) = (j : Rat) + 1 := castadd j 1
    have e1 : e ^ j * e - al ^ j * al = e ^ j * (e - al) + (e ^ j - al ^ j) * al := by grind
    rw [e1, ej]
    refine Bdd_mono s ?_
    generalize B ^ j = P at *
    grind
theorem pow_t2 (k : Nat) : ∀ j : Nat, t2 k ^ j = t2 (k * j)
  | 0 => by rw [Rat.pow_zero, Nat.mul_zero]; rfl
  | j + 1 => by rw [Rat.pow_succ, pow_t2 k j, Nat.mul_succ, t2_add]
end Go.Ex

/- A power of e is not near to a rational: by how much. Plain mathematics. -/
namespace Go.Ex
set_option linter.unusedVariables false
theorem mul_div4 {a b : Rat} (hb : 0 < b) : b * (a / b) = a := mul_div b a (by grind)
/-- A power of e is not near to a rational. -/
theorem exp_far {a b u v W : Nat} {x al : Rat} (hW : 70000000 ≤ W) (ha : 0 < a) (hb : 0 < b) (hb2 : b ≤ 2 ^ 240) (hx : x * (b : Rat) = (a : Rat)) (hx2 : x ≤ 64) {sv : Nat} (hsv : sv = 520) (hv : 0 < v) (hv2 : v ≤ 2 ^ sv) (hal : al * (v : Rat) = (u : Rat)) (ha0 : 0 < al) (ha2 : al ≤ t2 103) :
    ∃ K0 : Nat, ∀ K, K0 ≤ K → ¬ Bdd ((E x K - al) * t2 W) 1 := by
  obtain ⟨n, hn⟩ : ∃ n : Nat, n = 4096 := ⟨_, rfl⟩
  obtain ⟨N, hN⟩ : ∃ N : Nat, N = 266239 := ⟨_, rfl⟩
  obtain ⟨q, hq⟩ : ∃ q : Nat, q = 6656 := ⟨_, rfl⟩
  obtain ⟨sF, hsF⟩ : ∃ q : Nat, q = 296 := ⟨_, rfl⟩
  have bp : (0 : Rat) < (b : Rat) := castlt hb
  have vp : (0 : Rat) < (v : Rat) := castlt hv
  have hx0 : 0 < x := by
    rcases Rat.le_total (a := x) (b := 0) with h | h
    · have m := Rat.mul_le_mul_of_nonneg_right h (Rat.le_of_lt bp)
      rw [hx, Rat.zero_mul] at m
      have : (0 : Rat) < (a : Rat) := castlt ha
      grind
    · by_cases e : x = 0
      · subst e
        rw [Rat.zero_mul] at hx
        have : (0 : Rat) < (a : Rat) := castlt ha
        grind
      · grind
  have hx0' := Rat.le_of_lt hx0
  have T0 := tm_pos hx0 N
  -- how small the rest must be
  obtain ⟨C, hC⟩ : ∃ C : Rat, C = ((65 : Nat) : Rat) * ((n : Rat) * (t2 (66 * n) * t2 (6 * n))) := ⟨_, rfl⟩
  have Cp : 0 < C := by
    rw [hC]
    exact Rat.mul_pos (castlt (a := 0) (b := 65) (by omega)) (Rat.mul_pos (castlt (a := 0) (b := n) (by omega)) (Rat.mul_pos (t2_pos _) (t2_pos _)))
  obtain ⟨eta, heta⟩ : ∃ e : Rat, e = tm x N / (4 * C) := ⟨_, rfl⟩
  have C4 : 0 < 4 * C := Rat.mul_pos (by decide) Cp
  have etaC : 4 * C * eta = tm x N := by rw [heta]; exact mul_div4 C4
  have etap : 0 < eta := by
    rw [heta, Rat.div_def]; exact Rat.mul_pos T0 (Rat.inv_pos.2 C4)
  obtain ⟨N2, hN2⟩ := tm_small (y := ((64 : Nat) : Rat) * x) (jx_nn hx0' 64) etap
  refine ⟨N2 + n + N + 1, fun K hK hB => ?_⟩
  obtain ⟨e, he⟩ : ∃ e : Rat, e = E x K := ⟨_, rfl⟩
  rw [← he] at hB
  have e0 : 0 ≤ e := by rw [he]; exact E_nn hx0' K
  -- the distance
  obtain ⟨d, hd⟩ : ∃ d : Rat, d = 1 / t2 W := ⟨_, rfl⟩
  have Wp := t2_pos W
  have dW : t2 W * d = 1 := by rw [hd]; exact mul_div4 Wp
  have d0 : 0 < d := by
    rw [hd, Rat.div_def, Rat.one_mul]; exact Rat.inv_pos.2 Wp
  have hd2 : Bdd (e - al) d := by
    obtain ⟨b1, b2⟩ := hB
    constructor
    · refine le_by Wp ?_
      rw [show -d * t2 W = -(t2 W * d) by grind, dW]; exact b1
    · refine le_by Wp ?_
      rw [show d * t2 W = t2 W * d by grind, dW]; exact b2
  have d1 : d ≤ 1 := by
    refine le_by Wp ?_
    rw [show d * t2 W = t2 W * d by grind, dW, Rat.one_mul]
    exact castle (Nat.pow_pos (by omega))
  have B1 : (1 : Rat) ≤ t2 104 := by decide +kernel
  have eB : e ≤ t2 104 := by
    have : t2 104 = t2 103 + t2 103 := t2_succ 103
    have h1 : (1 : Rat) ≤ t2 103 := by decide +kernel
    obtain ⟨b1, b2⟩ := hd2
    rw [this]; grind
  have alB : al ≤ t2 104 := Rat.le_trans ha2 (t2_mono (by omega))
  have pd := pow_diff e0 (Rat.le_of_lt ha0) eB alB B1 hd2
  obtain ⟨Bq, hBq⟩ : ∃ q : Rat, q = t2 104 := ⟨_, rfl⟩
  rw [← hBq] at pd B1 eB alB
  have Bmono : ∀ j : Nat, j ≤ 64 → Bq ^ j ≤ t2 q := by
    intro j hj
    rw [hBq, pow_t2]
    exact t2_mono (by omega)
  -- the two forms
  have hM := nds_lt n
  have req := Rn_eq hM x K
  obtain ⟨R, hR⟩ : ∃ R, R = Rn (nds n) x K := ⟨_, rfl⟩
  obtain ⟨Q, hQ⟩ : ∃ Q, Q = LV (nds n) x (fun j _ => al ^ j) 65 := ⟨_, rfl⟩
  have hl : N + 1 = (nds n).length := by rw [nds_len]; omega
  have Rge : tm x N ≤ R := by rw [hR]; exact Rn_ge hx0' hl K (by omega)
  have Rle : R ≤ tm x N * t2 q := by
    rw [hR]
    refine Rat.le_trans (Rn_le (c := 64) hx0' hl (fun t ht => by have := hM t ht; omega) K) ?_
    refine Rat.mul_le_mul_of_nonneg_left ?_ (Rat.le_of_lt T0)
    refine Rat.le_trans (E_mono (jx_nn hx0' 64) (Nat.sub_le K N)) ?_
    refine Rat.le_trans (E_pow_ge hx0' (by omega) 64) ?_
    rw [← he]
    exact Rat.le_trans (pd 64).2.1.2 (Bmono 64 (by omega))
  have err : ∀ j i : Nat, j < 65 → i < n → Bdd (E ((j : Rat) * x) (K - i) - al ^ j) (eta + 64 * (t2 q * d)) := by
    intro j i hj hi
    have j64 : ((j : Nat) : Rat) * x ≤ ((64 : Nat) : Rat) * x := Rat.mul_le_mul_of_nonneg_right (castle (by omega)) hx0'
    obtain ⟨g1, g2⟩ := hN2 (K - i) (by omega)
    have up := E_tail_le (L := j * K + 1) (jx_nn hx0' j) (N := K - i) (by
      refine Rat.le_trans ?_ g1
      grind)
    have g3 := tm_mono (jx_nn hx0' j) j64 (K - i)
    have lo := Rat.le_trans (E_mono (jx_nn hx0' j) (Nat.sub_le K i)) (E_pow_ge hx0' (show 0 < K by omega) j)
    have hi2 := Rat.le_trans (E_pow_le hx0' K j) up
    rw [← he] at lo hi2
    have b1 : Bdd (E ((j : Rat) * x) (K - i) - e ^ j) eta := by
      constructor <;> grind
    have b2 := (pd j).1
    have b3 : Bdd (e ^ j - al ^ j) (64 * (t2 q * d)) := by
      refine Bdd_mono b2 ?_
      have m1 := Rat.mul_le_mul_of_nonneg_right (Bmono j (by omega)) (Rat.le_of_lt d0)
      have m2 : (j : Rat) ≤ 64 := castle (show j ≤ 64 by omega)
      have n1 := Rat.mul_nonneg (Bdd_nn (pd j).2.1) (Rat.le_of_lt d0)
      have m3 := Rat.mul_le_mul_of_nonneg_right m2 n1
      have m4 := Rat.mul_le_mul_of_nonneg_left m1 (show (0 : Rat) ≤ 64 by decide)
      exact Rat.le_trans m3 m4
    have s := Bdd_add b1 b2
    have s := Bdd_add b1 b3
    have e1 : E ((j : Rat) * x) (K - i) - al ^ j = E ((j : Rat) * x) (K - i) - e ^ j + (e ^ j - al ^ j) := by grind
    rw [e1]; exact s
  have df := LV_diff (M := nds n) (x := x) (A := t2 (66 * n)) (T := t2 (6 * n)) (n := n) hx0' 65 (fun j hj => ⟨nds_cnt hj n, fun i => Bdd_mono (coef_bd j (nds n) i) (t2_mono (by rw [nds_len, nds_cnt hj]; omega))⟩)
    (fun i hi => Rat.le_trans (tm_64 hx0' hx2 i) (t2_mono (by omega))) err
  rw [req, ← hR, ← hQ] at df
  have eC : ((65 : Nat) : Rat) * ((n : Rat) * (t2 (66 * n) * t2 (6 * n) * (eta + 64 * (t2 q * d)))) = C * eta + C * (64 * (t2 q * d)) := by rw [hC]; grind
  rw [eC] at df
  -- the distance's part is small as well
  have sm : 4 * (C * (64 * (t2 q * d))) ≤ tm x N := by
    have s := castle (small_fac (b := b) (r := q + 9) hn hN (by omega) hb2 hW)
    have tf := tm_fac x N
    have xb : x ^ N * (b : Rat) ^ N = (a : Rat) ^ N := by rw [← mul_powR, hx]
    have aN : (1 : Rat) ≤ (a : Rat) ^ N := by rw [← castpowN]; exact castle (Nat.pow_pos ha)
    have bN : (0 : Rat) < (b : Rat) ^ N := by rw [← castpowN]; exact castlt (Nat.pow_pos hb)
    have fN : (0 : Rat) < (fac N : Rat) := castlt (fac_pos N)
    have P : 0 < t2 W * ((fac N : Rat) * (b : Rat) ^ N) := Rat.mul_pos Wp (Rat.mul_pos fN bN)
    refine le_by P ?_
    have l : 4 * (C * (64 * (t2 q * d))) * (t2 W * ((fac N : Rat) * (b : Rat) ^ N)) = 4 * (C * (64 * t2 q)) * ((fac N : Rat) * (b : Rat) ^ N) * (t2 W * d) := by grind
    have r : tm x N * (t2 W * ((fac N : Rat) * (b : Rat) ^ N)) = t2 W * (tm x N * (fac N : Rat) * (b : Rat) ^ N) := by grind
    rw [l, r, dW, tf, xb, Rat.mul_one]
    have c1 : ((65 * n * 2 ^ (66 * n) * 2 ^ (6 * n) * 2 ^ (q + 9) * fac N * b ^ N : Nat) : Rat) = 4 * (C * (64 * t2 q)) * ((fac N : Rat) * (b : Rat) ^ N) * 2 := by
      rw [castmul, castmul, castmul, castmul, castmul, castmul, castpowN b, hC]
      have p : ((2 ^ (q + 9) : Nat) : Rat) = t2 q * 512 := t2_add q 9
      rw [p]
      generalize t2 q = q'
      grind
    rw [c1] at s
    have nn : 0 ≤ 4 * (C * (64 * t2 q)) * ((fac N : Rat) * (b : Rat) ^ N) := Rat.mul_nonneg (Rat.mul_nonneg (by decide) (Rat.mul_nonneg (Rat.le_of_lt Cp) (Rat.mul_nonneg (by decide) (Rat.le_of_lt (t2_pos _))))) (Rat.mul_nonneg (Rat.le_of_lt fN) (Rat.le_of_lt bN))
    have m := Rat.mul_le_mul_of_nonneg_left aN (Rat.le_of_lt Wp)
    have s' : 4 * (C * (64 * t2 q)) * ((fac N : Rat) * (b : Rat) ^ N) * 2 ≤ t2 W := s
    generalize 4 * (C * (64 * t2 q)) * ((fac N : Rat) * (b : Rat) ^ N) = z at *
    grind
  have ec : 4 * (C * eta) = tm x N := by rw [← etaC]; grind
  obtain ⟨f1, f2⟩ := df
  have Qpos : 0 < Q := by
    generalize C * eta = y1 at *
    generalize C * (64 * (t2 q * d)) = y2 at *
    clear Rle pd err
    grind
  have one : (1 : Rat) ≤ t2 q := by rw [show (1 : Rat) = t2 0 from rfl]; exact t2_mono (by omega)
  have Qle : Q ≤ tm x N * t2 (q + 1) := by
    have e2 : t2 (q + 1) = t2 q + t2 q := t2_succ q
    have m := Rat.mul_le_mul_of_nonneg_left one (Rat.le_of_lt T0)
    rw [e2, Rat.mul_add]
    generalize tm x N * t2 q = y0 at *
    generalize C * eta = y1 at *
    generalize C * (64 * (t2 q * d)) = y2 at *
    clear pd err
    grind
  -- it is a whole number by a denominator
  obtain ⟨D, hD⟩ : ∃ D : Rat, D = (F64 : Rat) ^ n * (L64 : Rat) ^ n * ((b : Rat) ^ n * (fac n : Rat)) * (v : Rat) ^ 64 := ⟨_, rfl⟩
  have qi : isI (Q * D) := by
    rw [hQ, hD]
    exact LV_int (fun i hi => tm_int hx (by omega)) 65 (Nat.le_refl _) (fun j hj => al_int hal (by omega))
  obtain ⟨F, hF⟩ : ∃ F : Nat, F64 = (F : Int) := ⟨F64.natAbs, by decide +kernel⟩
  obtain ⟨L, hL⟩ : ∃ L : Nat, L64 = (L : Int) := ⟨L64.natAbs, by decide +kernel⟩
  have hF2 : F ≤ 2 ^ sF ∧ 0 < F ∧ L ≤ 2 ^ 90 ∧ 0 < L := by
    have h := F64_le
    rw [hF, hL, ← hsF] at h
    exact ⟨by exact_mod_cast h.1, by exact_mod_cast h.2.1, by exact_mod_cast h.2.2.1, by exact_mod_cast h.2.2.2⟩
  have bf := big_fac (b := b) (v := v) (r := q + 1) (m := 64) hn hN (by omega) rfl hsF hsv hb2 hv2 F L hF2.1 hF2.2.2.1
  have Dn : D = ((F ^ n * L ^ n * (b ^ n * fac n) * v ^ 64 : Nat) : Rat) := by
    rw [hD, hF, hL, castmul, castmul, castmul, castmul, castpowN, castpowN, castpowN, castpowN]
    rfl
  have Dpos : 0 < D := by
    rw [Dn]
    exact castlt (Nat.mul_pos (Nat.mul_pos (Nat.mul_pos (Nat.pow_pos hF2.2.1) (Nat.pow_pos hF2.2.2.2)) (Nat.mul_pos (Nat.pow_pos hb) (fac_pos n))) (Nat.pow_pos hv))
  have lt1 : Q * D < 1 := by
    have fN : (0 : Rat) < (fac N : Rat) := castlt (fac_pos N)
    have tf := tm_fac x N
    have xp : x ^ N ≤ ((64 ^ N : Nat) : Rat) := by
      rw [castpowN]
      have g : ∀ k : Nat, x ^ k ≤ ((64 : Nat) : Rat) ^ k := by
        intro k
        induction k with
        | zero => rw [Rat.pow_zero, Rat.pow_zero]; exact Rat.le_refl
        | succ k ih =>
          rw [Rat.pow_succ, Rat.pow_succ]
          exact Rat.le_trans (Rat.mul_le_mul_of_nonneg_right ih hx0') (Rat.mul_le_mul_of_nonneg_left hx2 (pow_nn (nat_nn 64) k))
      exact g N
    have m1 := Rat.mul_le_mul_of_nonneg_right Qle (Rat.le_of_lt Dpos)
    have bf' := castlt bf
    rw [castmul, castmul, ← Dn] at bf'
    have P6 := t2_pos (q + 1)
    have bf2 : D * ((64 ^ N : Nat) : Rat) * t2 (q + 1) < (fac N : Rat) := bf'
    have m2 := Rat.mul_le_mul_of_nonneg_left xp (Rat.le_of_lt (Rat.mul_pos Dpos P6))
    refine Rat.not_le.1 fun hc => ?_
    have m3 := Rat.mul_le_mul_of_nonneg_right (Rat.le_trans hc m1) (Rat.le_of_lt fN)
    have r : tm x N * t2 (q + 1) * D * (fac N : Rat) = D * t2 (q + 1) * (tm x N * (fac N : Rat)) := by grind
    rw [r, tf, Rat.one_mul] at m3
    have r2 : D * ((64 ^ N : Nat) : Rat) * t2 (q + 1) = D * t2 (q + 1) * ((64 ^ N : Nat) : Rat) := by grind
    rw [r2] at bf2
    exact absurd (Rat.le_trans m3 m2) (Rat.not_le.2 bf2)
  obtain ⟨z, hz⟩ := qi
  have zp : 0 < Q * D := Rat.mul_pos Qpos Dpos
  rw [hz] at zp lt1
  have z1 : 0 < z := Rat.intCast_pos.1 zp
  have z2 : (1 : Rat) ≤ (z : Rat) := Rat.intCast_le_intCast.2 (show (1 : Int) ≤ z by omega)
  exact absurd z2 (Rat.not_le.2 lt1)
end Go.Ex
