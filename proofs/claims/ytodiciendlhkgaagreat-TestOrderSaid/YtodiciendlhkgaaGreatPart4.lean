/- Part 4 of the proof: the evaluator, contracts of functions and their plain laws (joined by program). No condition. -/
import Derived.Test.YtodiciendlhkgaaGreatPart3
import Derived.Test.YtodiciendlhkgaaGreatProg
import Derived.Lib.SliceRun
/- Facts of the program's types, each reckoned by the kernel. -/
namespace Go.Proofs.YtodiciendlhkgaaGreat.F
open Go Go.Ev Go.Proofs
theorem shp_0 : shp Proofs.Tryz.prog 0 = some (false, 1) := by kernel_rfl
theorem zok_0 : zok Proofs.Tryz.prog 0 = true := by kernel_rfl
theorem hasTy_0 : hasTy Proofs.Tryz.prog 0 = true := by kernel_rfl
theorem shp_1 : shp Proofs.Tryz.prog 1 = some (false, 1) := by kernel_rfl
theorem zok_1 : zok Proofs.Tryz.prog 1 = true := by kernel_rfl
theorem hasTy_1 : hasTy Proofs.Tryz.prog 1 = true := by kernel_rfl
theorem shp_2 : shp Proofs.Tryz.prog 2 = some (false, 1) := by kernel_rfl
theorem zer_2 : zer Proofs.Tryz.prog 2 = some [SV.int IntKind.i64 0] := by kernel_rfl
theorem zok_2 : zok Proofs.Tryz.prog 2 = true := by kernel_rfl
theorem isInt_2 : isInt Proofs.Tryz.prog 2 = some IntKind.i64 := by kernel_rfl
theorem hasTy_2 : hasTy Proofs.Tryz.prog 2 = true := by kernel_rfl
theorem shp_3 : shp Proofs.Tryz.prog 3 = some (false, 1) := by kernel_rfl
theorem zer_3 : zer Proofs.Tryz.prog 3 = some [SV.int IntKind.i64 0] := by kernel_rfl
theorem zok_3 : zok Proofs.Tryz.prog 3 = true := by kernel_rfl
theorem isInt_3 : isInt Proofs.Tryz.prog 3 = some IntKind.i64 := by kernel_rfl
theorem hasTy_3 : hasTy Proofs.Tryz.prog 3 = true := by kernel_rfl
theorem shp_4 : shp Proofs.Tryz.prog 4 = some (false, 1) := by kernel_rfl
theorem zer_4 : zer Proofs.Tryz.prog 4 = some [SV.bool false] := by kernel_rfl
theorem zok_4 : zok Proofs.Tryz.prog 4 = true := by kernel_rfl
theorem isBool_4 : isBool Proofs.Tryz.prog 4 = true := by kernel_rfl
theorem hasTy_4 : hasTy Proofs.Tryz.prog 4 = true := by kernel_rfl
theorem shp_5 : shp Proofs.Tryz.prog 5 = some (false, 1) := by kernel_rfl
theorem zer_5 : zer Proofs.Tryz.prog 5 = some [SV.int IntKind.u8 0] := by kernel_rfl
theorem zok_5 : zok Proofs.Tryz.prog 5 = true := by kernel_rfl
theorem isInt_5 : isInt Proofs.Tryz.prog 5 = some IntKind.u8 := by kernel_rfl
theorem hasTy_5 : hasTy Proofs.Tryz.prog 5 = true := by kernel_rfl
theorem shp_6 : shp Proofs.Tryz.prog 6 = some (false, 1) := by kernel_rfl
theorem zer_6 : zer Proofs.Tryz.prog 6 = some [SV.int IntKind.u8 0] := by kernel_rfl
theorem zok_6 : zok Proofs.Tryz.prog 6 = true := by kernel_rfl
theorem isInt_6 : isInt Proofs.Tryz.prog 6 = some IntKind.u8 := by kernel_rfl
theorem hasTy_6 : hasTy Proofs.Tryz.prog 6 = true := by kernel_rfl
theorem shp_7 : shp Proofs.Tryz.prog 7 = some (true, 4) := by kernel_rfl
theorem zer_7 : zer Proofs.Tryz.prog 7 = some [SV.int IntKind.i64 0, SV.int IntKind.i64 0, SV.bool false, SV.int IntKind.u8 0] := by kernel_rfl
theorem zok_7 : zok Proofs.Tryz.prog 7 = true := by kernel_rfl
theorem plc_7 : plc Proofs.Tryz.prog 7 = some [(0, 1), (1, 1), (2, 1), (3, 1)] := by kernel_rfl
theorem hasTy_7 : hasTy Proofs.Tryz.prog 7 = true := by kernel_rfl
theorem fld_7_0 : fld Proofs.Tryz.prog 7 0 = some (0, 2, 1) := by kernel_rfl
theorem fld_7_1 : fld Proofs.Tryz.prog 7 1 = some (1, 3, 1) := by kernel_rfl
theorem fld_7_2 : fld Proofs.Tryz.prog 7 2 = some (2, 4, 1) := by kernel_rfl
theorem fld_7_3 : fld Proofs.Tryz.prog 7 3 = some (3, 6, 1) := by kernel_rfl
theorem shp_8 : shp Proofs.Tryz.prog 8 = some (true, 4) := by kernel_rfl
theorem zer_8 : zer Proofs.Tryz.prog 8 = some [SV.int IntKind.i64 0, SV.int IntKind.i64 0, SV.bool false, SV.int IntKind.u8 0] := by kernel_rfl
theorem zok_8 : zok Proofs.Tryz.prog 8 = true := by kernel_rfl
theorem plc_8 : plc Proofs.Tryz.prog 8 = some [(0, 1), (1, 1), (2, 1), (3, 1)] := by kernel_rfl
theorem hasTy_8 : hasTy Proofs.Tryz.prog 8 = true := by kernel_rfl
theorem fld_8_0 : fld Proofs.Tryz.prog 8 0 = some (0, 2, 1) := by kernel_rfl
theorem fld_8_1 : fld Proofs.Tryz.prog 8 1 = some (1, 3, 1) := by kernel_rfl
theorem fld_8_2 : fld Proofs.Tryz.prog 8 2 = some (2, 4, 1) := by kernel_rfl
theorem fld_8_3 : fld Proofs.Tryz.prog 8 3 = some (3, 6, 1) := by kernel_rfl
theorem shp_9 : shp Proofs.Tryz.prog 9 = some (false, 1) := by kernel_rfl
theorem zer_9 : zer Proofs.Tryz.prog 9 = some [SV.str { data := { toList := [] } }] := by kernel_rfl
theorem zok_9 : zok Proofs.Tryz.prog 9 = true := by kernel_rfl
theorem isStr_9 : isStr Proofs.Tryz.prog 9 = true := by kernel_rfl
theorem hasTy_9 : hasTy Proofs.Tryz.prog 9 = true := by kernel_rfl
theorem shp_10 : shp Proofs.Tryz.prog 10 = some (false, 1) := by kernel_rfl
theorem zer_10 : zer Proofs.Tryz.prog 10 = some [SV.str { data := { toList := [] } }] := by kernel_rfl
theorem zok_10 : zok Proofs.Tryz.prog 10 = true := by kernel_rfl
theorem isStr_10 : isStr Proofs.Tryz.prog 10 = true := by kernel_rfl
theorem hasTy_10 : hasTy Proofs.Tryz.prog 10 = true := by kernel_rfl
theorem shp_11 : shp Proofs.Tryz.prog 11 = some (false, 1) := by kernel_rfl
theorem zer_11 : zer Proofs.Tryz.prog 11 = some [SV.str { data := { toList := [] } }] := by kernel_rfl
theorem zok_11 : zok Proofs.Tryz.prog 11 = true := by kernel_rfl
theorem isStr_11 : isStr Proofs.Tryz.prog 11 = true := by kernel_rfl
theorem hasTy_11 : hasTy Proofs.Tryz.prog 11 = true := by kernel_rfl
theorem shp_12 : shp Proofs.Tryz.prog 12 = some (false, 1) := by kernel_rfl
theorem zer_12 : zer Proofs.Tryz.prog 12 = some [SV.int IntKind.u64 0] := by kernel_rfl
theorem zok_12 : zok Proofs.Tryz.prog 12 = true := by kernel_rfl
theorem isInt_12 : isInt Proofs.Tryz.prog 12 = some IntKind.u64 := by kernel_rfl
theorem hasTy_12 : hasTy Proofs.Tryz.prog 12 = true := by kernel_rfl
theorem shp_13 : shp Proofs.Tryz.prog 13 = some (true, 2) := by kernel_rfl
theorem zer_13 : zer Proofs.Tryz.prog 13 = some [SV.str { data := { toList := [] } }, SV.int IntKind.u64 0] := by kernel_rfl
theorem zok_13 : zok Proofs.Tryz.prog 13 = true := by kernel_rfl
theorem plc_13 : plc Proofs.Tryz.prog 13 = some [(0, 1), (1, 1)] := by kernel_rfl
theorem hasTy_13 : hasTy Proofs.Tryz.prog 13 = true := by kernel_rfl
theorem fld_13_0 : fld Proofs.Tryz.prog 13 0 = some (0, 9, 1) := by kernel_rfl
theorem fld_13_1 : fld Proofs.Tryz.prog 13 1 = some (1, 12, 1) := by kernel_rfl
theorem shp_14 : shp Proofs.Tryz.prog 14 = some (true, 2) := by kernel_rfl
theorem zer_14 : zer Proofs.Tryz.prog 14 = some [SV.str { data := { toList := [] } }, SV.int IntKind.u64 0] := by kernel_rfl
theorem zok_14 : zok Proofs.Tryz.prog 14 = true := by kernel_rfl
theorem plc_14 : plc Proofs.Tryz.prog 14 = some [(0, 1), (1, 1)] := by kernel_rfl
theorem hasTy_14 : hasTy Proofs.Tryz.prog 14 = true := by kernel_rfl
theorem fld_14_0 : fld Proofs.Tryz.prog 14 0 = some (0, 9, 1) := by kernel_rfl
theorem fld_14_1 : fld Proofs.Tryz.prog 14 1 = some (1, 12, 1) := by kernel_rfl
theorem shp_15 : shp Proofs.Tryz.prog 15 = some (false, 1) := by kernel_rfl
theorem zok_15 : zok Proofs.Tryz.prog 15 = true := by kernel_rfl
theorem hasTy_15 : hasTy Proofs.Tryz.prog 15 = true := by kernel_rfl
theorem shp_16 : shp Proofs.Tryz.prog 16 = some (false, 1) := by kernel_rfl
theorem zok_16 : zok Proofs.Tryz.prog 16 = true := by kernel_rfl
theorem hasTy_16 : hasTy Proofs.Tryz.prog 16 = true := by kernel_rfl
theorem shp_17 : shp Proofs.Tryz.prog 17 = some (false, 1) := by kernel_rfl
theorem zok_17 : zok Proofs.Tryz.prog 17 = true := by kernel_rfl
theorem hasTy_17 : hasTy Proofs.Tryz.prog 17 = true := by kernel_rfl
theorem shp_18 : shp Proofs.Tryz.prog 18 = some (true, 1) := by kernel_rfl
theorem zok_18 : zok Proofs.Tryz.prog 18 = true := by kernel_rfl
theorem plc_18 : plc Proofs.Tryz.prog 18 = some [(0, 1)] := by kernel_rfl
theorem hasTy_18 : hasTy Proofs.Tryz.prog 18 = true := by kernel_rfl
theorem fld_18_0 : fld Proofs.Tryz.prog 18 0 = some (0, 17, 1) := by kernel_rfl
theorem shp_19 : shp Proofs.Tryz.prog 19 = some (true, 1) := by kernel_rfl
theorem zok_19 : zok Proofs.Tryz.prog 19 = true := by kernel_rfl
theorem plc_19 : plc Proofs.Tryz.prog 19 = some [(0, 1)] := by kernel_rfl
theorem hasTy_19 : hasTy Proofs.Tryz.prog 19 = true := by kernel_rfl
theorem fld_19_0 : fld Proofs.Tryz.prog 19 0 = some (0, 17, 1) := by kernel_rfl
theorem shp_20 : shp Proofs.Tryz.prog 20 = some (false, 1) := by kernel_rfl
theorem zok_20 : zok Proofs.Tryz.prog 20 = true := by kernel_rfl
theorem hasTy_20 : hasTy Proofs.Tryz.prog 20 = true := by kernel_rfl
theorem shp_21 : shp Proofs.Tryz.prog 21 = some (false, 1) := by kernel_rfl
theorem zer_21 : zer Proofs.Tryz.prog 21 = some [SV.int IntKind.i32 0] := by kernel_rfl
theorem zok_21 : zok Proofs.Tryz.prog 21 = true := by kernel_rfl
theorem isInt_21 : isInt Proofs.Tryz.prog 21 = some IntKind.i32 := by kernel_rfl
theorem hasTy_21 : hasTy Proofs.Tryz.prog 21 = true := by kernel_rfl
theorem shp_22 : shp Proofs.Tryz.prog 22 = some (false, 1) := by kernel_rfl
theorem elm_22 : elm Proofs.Tryz.prog 22 = some (56, 1, 4) := by kernel_rfl
theorem zer_22 : zer Proofs.Tryz.prog 22 = some [SV.sl 0 []] := by kernel_rfl
theorem zok_22 : zok Proofs.Tryz.prog 22 = true := by kernel_rfl
theorem hasTy_22 : hasTy Proofs.Tryz.prog 22 = true := by kernel_rfl
theorem shp_23 : shp Proofs.Tryz.prog 23 = some (true, 3) := by kernel_rfl
theorem zer_23 : zer Proofs.Tryz.prog 23 = some [SV.bool false, SV.sl 0 [], SV.sl 0 []] := by kernel_rfl
theorem zok_23 : zok Proofs.Tryz.prog 23 = true := by kernel_rfl
theorem plc_23 : plc Proofs.Tryz.prog 23 = some [(0, 1), (1, 1), (2, 1)] := by kernel_rfl
theorem hasTy_23 : hasTy Proofs.Tryz.prog 23 = true := by kernel_rfl
theorem fld_23_0 : fld Proofs.Tryz.prog 23 0 = some (0, 4, 1) := by kernel_rfl
theorem fld_23_1 : fld Proofs.Tryz.prog 23 1 = some (1, 22, 1) := by kernel_rfl
theorem fld_23_2 : fld Proofs.Tryz.prog 23 2 = some (2, 22, 1) := by kernel_rfl
theorem shp_24 : shp Proofs.Tryz.prog 24 = some (true, 3) := by kernel_rfl
theorem zer_24 : zer Proofs.Tryz.prog 24 = some [SV.bool false, SV.sl 0 [], SV.sl 0 []] := by kernel_rfl
theorem zok_24 : zok Proofs.Tryz.prog 24 = true := by kernel_rfl
theorem plc_24 : plc Proofs.Tryz.prog 24 = some [(0, 1), (1, 1), (2, 1)] := by kernel_rfl
theorem hasTy_24 : hasTy Proofs.Tryz.prog 24 = true := by kernel_rfl
theorem fld_24_0 : fld Proofs.Tryz.prog 24 0 = some (0, 4, 1) := by kernel_rfl
theorem fld_24_1 : fld Proofs.Tryz.prog 24 1 = some (1, 22, 1) := by kernel_rfl
theorem fld_24_2 : fld Proofs.Tryz.prog 24 2 = some (2, 22, 1) := by kernel_rfl
theorem shp_25 : shp Proofs.Tryz.prog 25 = some (false, 1) := by kernel_rfl
theorem zok_25 : zok Proofs.Tryz.prog 25 = true := by kernel_rfl
theorem hasTy_25 : hasTy Proofs.Tryz.prog 25 = true := by kernel_rfl
theorem shp_26 : shp Proofs.Tryz.prog 26 = some (false, 1) := by kernel_rfl
theorem zok_26 : zok Proofs.Tryz.prog 26 = true := by kernel_rfl
theorem hasTy_26 : hasTy Proofs.Tryz.prog 26 = true := by kernel_rfl
theorem shp_27 : shp Proofs.Tryz.prog 27 = some (true, 6) := by kernel_rfl
theorem zer_27 : zer Proofs.Tryz.prog 27 = some [SV.bool false, SV.sl 0 [], SV.sl 0 [], SV.bool false, SV.sl 0 [], SV.sl 0 []] := by kernel_rfl
theorem zok_27 : zok Proofs.Tryz.prog 27 = true := by kernel_rfl
theorem plc_27 : plc Proofs.Tryz.prog 27 = some [(0, 3), (3, 3)] := by kernel_rfl
theorem hasTy_27 : hasTy Proofs.Tryz.prog 27 = true := by kernel_rfl
theorem fld_27_0 : fld Proofs.Tryz.prog 27 0 = some (0, 24, 3) := by kernel_rfl
theorem fld_27_1 : fld Proofs.Tryz.prog 27 1 = some (3, 24, 3) := by kernel_rfl
theorem shp_28 : shp Proofs.Tryz.prog 28 = some (true, 6) := by kernel_rfl
theorem zer_28 : zer Proofs.Tryz.prog 28 = some [SV.bool false, SV.sl 0 [], SV.sl 0 [], SV.bool false, SV.sl 0 [], SV.sl 0 []] := by kernel_rfl
theorem zok_28 : zok Proofs.Tryz.prog 28 = true := by kernel_rfl
theorem plc_28 : plc Proofs.Tryz.prog 28 = some [(0, 3), (3, 3)] := by kernel_rfl
theorem hasTy_28 : hasTy Proofs.Tryz.prog 28 = true := by kernel_rfl
theorem fld_28_0 : fld Proofs.Tryz.prog 28 0 = some (0, 24, 3) := by kernel_rfl
theorem fld_28_1 : fld Proofs.Tryz.prog 28 1 = some (3, 24, 3) := by kernel_rfl
theorem shp_29 : shp Proofs.Tryz.prog 29 = some (false, 1) := by kernel_rfl
theorem zer_29 : zer Proofs.Tryz.prog 29 = some [SV.int IntKind.i64 0] := by kernel_rfl
theorem zok_29 : zok Proofs.Tryz.prog 29 = true := by kernel_rfl
theorem isInt_29 : isInt Proofs.Tryz.prog 29 = some IntKind.i64 := by kernel_rfl
theorem hasTy_29 : hasTy Proofs.Tryz.prog 29 = true := by kernel_rfl
theorem shp_30 : shp Proofs.Tryz.prog 30 = some (false, 1) := by kernel_rfl
theorem zok_30 : zok Proofs.Tryz.prog 30 = true := by kernel_rfl
theorem hasTy_30 : hasTy Proofs.Tryz.prog 30 = true := by kernel_rfl
theorem shp_31 : shp Proofs.Tryz.prog 31 = some (false, 1) := by kernel_rfl
theorem zok_31 : zok Proofs.Tryz.prog 31 = true := by kernel_rfl
theorem hasTy_31 : hasTy Proofs.Tryz.prog 31 = true := by kernel_rfl
theorem shp_32 : shp Proofs.Tryz.prog 32 = some (true, 9) := by kernel_rfl
theorem zer_32 : zer Proofs.Tryz.prog 32 = some [SV.int IntKind.i64 0, SV.int IntKind.i64 0, SV.int IntKind.i64 0, SV.bool false, SV.sl 0 [], SV.sl 0 [], SV.bool false, SV.sl 0 [], SV.sl 0 []] := by kernel_rfl
theorem zok_32 : zok Proofs.Tryz.prog 32 = true := by kernel_rfl
theorem plc_32 : plc Proofs.Tryz.prog 32 = some [(0, 1), (1, 1), (2, 1), (3, 3), (6, 3)] := by kernel_rfl
theorem hasTy_32 : hasTy Proofs.Tryz.prog 32 = true := by kernel_rfl
theorem fld_32_0 : fld Proofs.Tryz.prog 32 0 = some (0, 3, 1) := by kernel_rfl
theorem fld_32_1 : fld Proofs.Tryz.prog 32 1 = some (1, 3, 1) := by kernel_rfl
theorem fld_32_2 : fld Proofs.Tryz.prog 32 2 = some (2, 3, 1) := by kernel_rfl
theorem fld_32_3 : fld Proofs.Tryz.prog 32 3 = some (3, 24, 3) := by kernel_rfl
theorem fld_32_4 : fld Proofs.Tryz.prog 32 4 = some (6, 24, 3) := by kernel_rfl
theorem shp_33 : shp Proofs.Tryz.prog 33 = some (true, 9) := by kernel_rfl
theorem zer_33 : zer Proofs.Tryz.prog 33 = some [SV.int IntKind.i64 0, SV.int IntKind.i64 0, SV.int IntKind.i64 0, SV.bool false, SV.sl 0 [], SV.sl 0 [], SV.bool false, SV.sl 0 [], SV.sl 0 []] := by kernel_rfl
theorem zok_33 : zok Proofs.Tryz.prog 33 = true := by kernel_rfl
theorem plc_33 : plc Proofs.Tryz.prog 33 = some [(0, 1), (1, 1), (2, 1), (3, 3), (6, 3)] := by kernel_rfl
theorem hasTy_33 : hasTy Proofs.Tryz.prog 33 = true := by kernel_rfl
theorem fld_33_0 : fld Proofs.Tryz.prog 33 0 = some (0, 3, 1) := by kernel_rfl
theorem fld_33_1 : fld Proofs.Tryz.prog 33 1 = some (1, 3, 1) := by kernel_rfl
theorem fld_33_2 : fld Proofs.Tryz.prog 33 2 = some (2, 3, 1) := by kernel_rfl
theorem fld_33_3 : fld Proofs.Tryz.prog 33 3 = some (3, 24, 3) := by kernel_rfl
theorem fld_33_4 : fld Proofs.Tryz.prog 33 4 = some (6, 24, 3) := by kernel_rfl
theorem shp_34 : shp Proofs.Tryz.prog 34 = some (false, 1) := by kernel_rfl
theorem zok_34 : zok Proofs.Tryz.prog 34 = true := by kernel_rfl
theorem hasTy_34 : hasTy Proofs.Tryz.prog 34 = true := by kernel_rfl
theorem shp_35 : shp Proofs.Tryz.prog 35 = some (false, 1) := by kernel_rfl
theorem zok_35 : zok Proofs.Tryz.prog 35 = true := by kernel_rfl
theorem hasTy_35 : hasTy Proofs.Tryz.prog 35 = true := by kernel_rfl
theorem shp_36 : shp Proofs.Tryz.prog 36 = some (false, 1) := by kernel_rfl
theorem zok_36 : zok Proofs.Tryz.prog 36 = true := by kernel_rfl
theorem hasTy_36 : hasTy Proofs.Tryz.prog 36 = true := by kernel_rfl
theorem shp_37 : shp Proofs.Tryz.prog 37 = some (false, 1) := by kernel_rfl
theorem zok_37 : zok Proofs.Tryz.prog 37 = true := by kernel_rfl
theorem hasTy_37 : hasTy Proofs.Tryz.prog 37 = true := by kernel_rfl
theorem shp_38 : shp Proofs.Tryz.prog 38 = some (false, 1) := by kernel_rfl
theorem zok_38 : zok Proofs.Tryz.prog 38 = true := by kernel_rfl
theorem hasTy_38 : hasTy Proofs.Tryz.prog 38 = true := by kernel_rfl
theorem shp_39 : shp Proofs.Tryz.prog 39 = some (false, 1) := by kernel_rfl
theorem zok_39 : zok Proofs.Tryz.prog 39 = true := by kernel_rfl
theorem hasTy_39 : hasTy Proofs.Tryz.prog 39 = true := by kernel_rfl
theorem shp_40 : shp Proofs.Tryz.prog 40 = some (false, 1) := by kernel_rfl
theorem zok_40 : zok Proofs.Tryz.prog 40 = true := by kernel_rfl
theorem hasTy_40 : hasTy Proofs.Tryz.prog 40 = true := by kernel_rfl
theorem shp_41 : shp Proofs.Tryz.prog 41 = some (false, 1) := by kernel_rfl
theorem zok_41 : zok Proofs.Tryz.prog 41 = true := by kernel_rfl
theorem hasTy_41 : hasTy Proofs.Tryz.prog 41 = true := by kernel_rfl
theorem shp_42 : shp Proofs.Tryz.prog 42 = some (false, 1) := by kernel_rfl
theorem zok_42 : zok Proofs.Tryz.prog 42 = true := by kernel_rfl
theorem hasTy_42 : hasTy Proofs.Tryz.prog 42 = true := by kernel_rfl
theorem shp_43 : shp Proofs.Tryz.prog 43 = some (false, 1) := by kernel_rfl
theorem elm_43 : elm Proofs.Tryz.prog 43 = some (24, 3, 56) := by kernel_rfl
theorem zer_43 : zer Proofs.Tryz.prog 43 = some [SV.sl 0 []] := by kernel_rfl
theorem zok_43 : zok Proofs.Tryz.prog 43 = true := by kernel_rfl
theorem hasTy_43 : hasTy Proofs.Tryz.prog 43 = true := by kernel_rfl
theorem shp_44 : shp Proofs.Tryz.prog 44 = some (false, 1) := by kernel_rfl
theorem zok_44 : zok Proofs.Tryz.prog 44 = true := by kernel_rfl
theorem hasTy_44 : hasTy Proofs.Tryz.prog 44 = true := by kernel_rfl
theorem shp_45 : shp Proofs.Tryz.prog 45 = some (false, 1) := by kernel_rfl
theorem elm_45 : elm Proofs.Tryz.prog 45 = some (3, 1, 8) := by kernel_rfl
theorem zer_45 : zer Proofs.Tryz.prog 45 = some [SV.sl 0 []] := by kernel_rfl
theorem zok_45 : zok Proofs.Tryz.prog 45 = true := by kernel_rfl
theorem hasTy_45 : hasTy Proofs.Tryz.prog 45 = true := by kernel_rfl
theorem shp_46 : shp Proofs.Tryz.prog 46 = some (false, 1) := by kernel_rfl
theorem zok_46 : zok Proofs.Tryz.prog 46 = true := by kernel_rfl
theorem hasTy_46 : hasTy Proofs.Tryz.prog 46 = true := by kernel_rfl
theorem shp_47 : shp Proofs.Tryz.prog 47 = some (false, 1) := by kernel_rfl
theorem zok_47 : zok Proofs.Tryz.prog 47 = true := by kernel_rfl
theorem hasTy_47 : hasTy Proofs.Tryz.prog 47 = true := by kernel_rfl
theorem shp_48 : shp Proofs.Tryz.prog 48 = some (false, 1) := by kernel_rfl
theorem elm_48 : elm Proofs.Tryz.prog 48 = some (43, 1, 24) := by kernel_rfl
theorem zer_48 : zer Proofs.Tryz.prog 48 = some [SV.sl 0 []] := by kernel_rfl
theorem zok_48 : zok Proofs.Tryz.prog 48 = true := by kernel_rfl
theorem hasTy_48 : hasTy Proofs.Tryz.prog 48 = true := by kernel_rfl
theorem shp_49 : shp Proofs.Tryz.prog 49 = some (true, 12) := by kernel_rfl
theorem zer_49 : zer Proofs.Tryz.prog 49 = some [SV.int IntKind.i64 0, SV.sl 0 [], SV.sl 0 [], SV.sl 0 [], SV.bool false, SV.sl 0 [], SV.sl 0 [], SV.bool false, SV.sl 0 [], SV.sl 0 [], SV.int IntKind.i64 0, SV.int IntKind.i64 0] := by kernel_rfl
theorem zok_49 : zok Proofs.Tryz.prog 49 = true := by kernel_rfl
theorem plc_49 : plc Proofs.Tryz.prog 49 = some [(0, 1), (1, 1), (2, 1), (3, 1), (4, 3), (7, 3), (10, 1), (11, 1)] := by kernel_rfl
theorem hasTy_49 : hasTy Proofs.Tryz.prog 49 = true := by kernel_rfl
theorem fld_49_0 : fld Proofs.Tryz.prog 49 0 = some (0, 3, 1) := by kernel_rfl
theorem fld_49_1 : fld Proofs.Tryz.prog 49 1 = some (1, 43, 1) := by kernel_rfl
theorem fld_49_2 : fld Proofs.Tryz.prog 49 2 = some (2, 43, 1) := by kernel_rfl
theorem fld_49_3 : fld Proofs.Tryz.prog 49 3 = some (3, 48, 1) := by kernel_rfl
theorem fld_49_4 : fld Proofs.Tryz.prog 49 4 = some (4, 24, 3) := by kernel_rfl
theorem fld_49_5 : fld Proofs.Tryz.prog 49 5 = some (7, 24, 3) := by kernel_rfl
theorem fld_49_6 : fld Proofs.Tryz.prog 49 6 = some (10, 3, 1) := by kernel_rfl
theorem fld_49_7 : fld Proofs.Tryz.prog 49 7 = some (11, 3, 1) := by kernel_rfl
theorem shp_50 : shp Proofs.Tryz.prog 50 = some (true, 12) := by kernel_rfl
theorem zer_50 : zer Proofs.Tryz.prog 50 = some [SV.int IntKind.i64 0, SV.sl 0 [], SV.sl 0 [], SV.sl 0 [], SV.bool false, SV.sl 0 [], SV.sl 0 [], SV.bool false, SV.sl 0 [], SV.sl 0 [], SV.int IntKind.i64 0, SV.int IntKind.i64 0] := by kernel_rfl
theorem zok_50 : zok Proofs.Tryz.prog 50 = true := by kernel_rfl
theorem plc_50 : plc Proofs.Tryz.prog 50 = some [(0, 1), (1, 1), (2, 1), (3, 1), (4, 3), (7, 3), (10, 1), (11, 1)] := by kernel_rfl
theorem hasTy_50 : hasTy Proofs.Tryz.prog 50 = true := by kernel_rfl
theorem fld_50_0 : fld Proofs.Tryz.prog 50 0 = some (0, 3, 1) := by kernel_rfl
theorem fld_50_1 : fld Proofs.Tryz.prog 50 1 = some (1, 43, 1) := by kernel_rfl
theorem fld_50_2 : fld Proofs.Tryz.prog 50 2 = some (2, 43, 1) := by kernel_rfl
theorem fld_50_3 : fld Proofs.Tryz.prog 50 3 = some (3, 48, 1) := by kernel_rfl
theorem fld_50_4 : fld Proofs.Tryz.prog 50 4 = some (4, 24, 3) := by kernel_rfl
theorem fld_50_5 : fld Proofs.Tryz.prog 50 5 = some (7, 24, 3) := by kernel_rfl
theorem fld_50_6 : fld Proofs.Tryz.prog 50 6 = some (10, 3, 1) := by kernel_rfl
theorem fld_50_7 : fld Proofs.Tryz.prog 50 7 = some (11, 3, 1) := by kernel_rfl
theorem shp_51 : shp Proofs.Tryz.prog 51 = some (false, 1) := by kernel_rfl
theorem zok_51 : zok Proofs.Tryz.prog 51 = true := by kernel_rfl
theorem hasTy_51 : hasTy Proofs.Tryz.prog 51 = true := by kernel_rfl
theorem shp_52 : shp Proofs.Tryz.prog 52 = some (false, 1) := by kernel_rfl
theorem zok_52 : zok Proofs.Tryz.prog 52 = true := by kernel_rfl
theorem hasTy_52 : hasTy Proofs.Tryz.prog 52 = true := by kernel_rfl
theorem shp_53 : shp Proofs.Tryz.prog 53 = some (false, 1) := by kernel_rfl
theorem zer_53 : zer Proofs.Tryz.prog 53 = some [SV.int IntKind.u64 0] := by kernel_rfl
theorem zok_53 : zok Proofs.Tryz.prog 53 = true := by kernel_rfl
theorem isInt_53 : isInt Proofs.Tryz.prog 53 = some IntKind.u64 := by kernel_rfl
theorem hasTy_53 : hasTy Proofs.Tryz.prog 53 = true := by kernel_rfl
theorem shp_54 : shp Proofs.Tryz.prog 54 = some (false, 1) := by kernel_rfl
theorem zok_54 : zok Proofs.Tryz.prog 54 = true := by kernel_rfl
theorem hasTy_54 : hasTy Proofs.Tryz.prog 54 = true := by kernel_rfl
theorem shp_55 : shp Proofs.Tryz.prog 55 = some (false, 1) := by kernel_rfl
theorem zok_55 : zok Proofs.Tryz.prog 55 = true := by kernel_rfl
theorem hasTy_55 : hasTy Proofs.Tryz.prog 55 = true := by kernel_rfl
theorem shp_56 : shp Proofs.Tryz.prog 56 = some (false, 1) := by kernel_rfl
theorem zer_56 : zer Proofs.Tryz.prog 56 = some [SV.int IntKind.u32 0] := by kernel_rfl
theorem zok_56 : zok Proofs.Tryz.prog 56 = true := by kernel_rfl
theorem isInt_56 : isInt Proofs.Tryz.prog 56 = some IntKind.u32 := by kernel_rfl
theorem hasTy_56 : hasTy Proofs.Tryz.prog 56 = true := by kernel_rfl
theorem shp_57 : shp Proofs.Tryz.prog 57 = some (false, 1) := by kernel_rfl
theorem zok_57 : zok Proofs.Tryz.prog 57 = true := by kernel_rfl
theorem hasTy_57 : hasTy Proofs.Tryz.prog 57 = true := by kernel_rfl
theorem shp_58 : shp Proofs.Tryz.prog 58 = some (false, 1) := by kernel_rfl
theorem zok_58 : zok Proofs.Tryz.prog 58 = true := by kernel_rfl
theorem hasTy_58 : hasTy Proofs.Tryz.prog 58 = true := by kernel_rfl
theorem shp_59 : shp Proofs.Tryz.prog 59 = some (false, 1) := by kernel_rfl
theorem zok_59 : zok Proofs.Tryz.prog 59 = true := by kernel_rfl
theorem hasTy_59 : hasTy Proofs.Tryz.prog 59 = true := by kernel_rfl
theorem shp_60 : shp Proofs.Tryz.prog 60 = some (false, 1) := by kernel_rfl
theorem zok_60 : zok Proofs.Tryz.prog 60 = true := by kernel_rfl
theorem hasTy_60 : hasTy Proofs.Tryz.prog 60 = true := by kernel_rfl
theorem shp_61 : shp Proofs.Tryz.prog 61 = some (false, 1) := by kernel_rfl
theorem zok_61 : zok Proofs.Tryz.prog 61 = true := by kernel_rfl
theorem hasTy_61 : hasTy Proofs.Tryz.prog 61 = true := by kernel_rfl
theorem shp_62 : shp Proofs.Tryz.prog 62 = some (false, 1) := by kernel_rfl
theorem zok_62 : zok Proofs.Tryz.prog 62 = true := by kernel_rfl
theorem hasTy_62 : hasTy Proofs.Tryz.prog 62 = true := by kernel_rfl
theorem shp_63 : shp Proofs.Tryz.prog 63 = some (false, 1) := by kernel_rfl
theorem zok_63 : zok Proofs.Tryz.prog 63 = true := by kernel_rfl
theorem hasTy_63 : hasTy Proofs.Tryz.prog 63 = true := by kernel_rfl
theorem shp_64 : shp Proofs.Tryz.prog 64 = some (false, 1) := by kernel_rfl
theorem zok_64 : zok Proofs.Tryz.prog 64 = true := by kernel_rfl
theorem hasTy_64 : hasTy Proofs.Tryz.prog 64 = true := by kernel_rfl
theorem shp_65 : shp Proofs.Tryz.prog 65 = some (false, 1) := by kernel_rfl
theorem zok_65 : zok Proofs.Tryz.prog 65 = true := by kernel_rfl
theorem hasTy_65 : hasTy Proofs.Tryz.prog 65 = true := by kernel_rfl
theorem shp_66 : shp Proofs.Tryz.prog 66 = some (false, 1) := by kernel_rfl
theorem zok_66 : zok Proofs.Tryz.prog 66 = true := by kernel_rfl
theorem hasTy_66 : hasTy Proofs.Tryz.prog 66 = true := by kernel_rfl
theorem shp_67 : shp Proofs.Tryz.prog 67 = some (false, 1) := by kernel_rfl
theorem zok_67 : zok Proofs.Tryz.prog 67 = true := by kernel_rfl
theorem hasTy_67 : hasTy Proofs.Tryz.prog 67 = true := by kernel_rfl
theorem shp_68 : shp Proofs.Tryz.prog 68 = some (false, 1) := by kernel_rfl
theorem zok_68 : zok Proofs.Tryz.prog 68 = true := by kernel_rfl
theorem hasTy_68 : hasTy Proofs.Tryz.prog 68 = true := by kernel_rfl
theorem shp_69 : shp Proofs.Tryz.prog 69 = some (false, 1) := by kernel_rfl
theorem zok_69 : zok Proofs.Tryz.prog 69 = true := by kernel_rfl
theorem hasTy_69 : hasTy Proofs.Tryz.prog 69 = true := by kernel_rfl
theorem shp_70 : shp Proofs.Tryz.prog 70 = some (false, 1) := by kernel_rfl
theorem zok_70 : zok Proofs.Tryz.prog 70 = true := by kernel_rfl
theorem hasTy_70 : hasTy Proofs.Tryz.prog 70 = true := by kernel_rfl
theorem shp_71 : shp Proofs.Tryz.prog 71 = some (false, 1) := by kernel_rfl
theorem zok_71 : zok Proofs.Tryz.prog 71 = true := by kernel_rfl
theorem hasTy_71 : hasTy Proofs.Tryz.prog 71 = true := by kernel_rfl
theorem shp_72 : shp Proofs.Tryz.prog 72 = some (false, 1) := by kernel_rfl
theorem zer_72 : zer Proofs.Tryz.prog 72 = some [SV.int IntKind.u64 0] := by kernel_rfl
theorem zok_72 : zok Proofs.Tryz.prog 72 = true := by kernel_rfl
theorem isInt_72 : isInt Proofs.Tryz.prog 72 = some IntKind.u64 := by kernel_rfl
theorem hasTy_72 : hasTy Proofs.Tryz.prog 72 = true := by kernel_rfl
theorem shp_73 : shp Proofs.Tryz.prog 73 = some (false, 1) := by kernel_rfl
theorem zok_73 : zok Proofs.Tryz.prog 73 = true := by kernel_rfl
theorem hasTy_73 : hasTy Proofs.Tryz.prog 73 = true := by kernel_rfl
theorem shp_74 : shp Proofs.Tryz.prog 74 = some (false, 1) := by kernel_rfl
theorem zok_74 : zok Proofs.Tryz.prog 74 = true := by kernel_rfl
theorem hasTy_74 : hasTy Proofs.Tryz.prog 74 = true := by kernel_rfl
theorem shp_75 : shp Proofs.Tryz.prog 75 = some (false, 1) := by kernel_rfl
theorem zok_75 : zok Proofs.Tryz.prog 75 = true := by kernel_rfl
theorem hasTy_75 : hasTy Proofs.Tryz.prog 75 = true := by kernel_rfl
theorem shp_76 : shp Proofs.Tryz.prog 76 = some (false, 1) := by kernel_rfl
theorem zok_76 : zok Proofs.Tryz.prog 76 = true := by kernel_rfl
theorem hasTy_76 : hasTy Proofs.Tryz.prog 76 = true := by kernel_rfl
theorem shp_77 : shp Proofs.Tryz.prog 77 = some (false, 1) := by kernel_rfl
theorem zok_77 : zok Proofs.Tryz.prog 77 = true := by kernel_rfl
theorem hasTy_77 : hasTy Proofs.Tryz.prog 77 = true := by kernel_rfl
theorem shp_78 : shp Proofs.Tryz.prog 78 = some (false, 1) := by kernel_rfl
theorem zok_78 : zok Proofs.Tryz.prog 78 = true := by kernel_rfl
theorem hasTy_78 : hasTy Proofs.Tryz.prog 78 = true := by kernel_rfl
theorem shp_79 : shp Proofs.Tryz.prog 79 = some (false, 1) := by kernel_rfl
theorem zok_79 : zok Proofs.Tryz.prog 79 = true := by kernel_rfl
theorem hasTy_79 : hasTy Proofs.Tryz.prog 79 = true := by kernel_rfl
theorem shp_80 : shp Proofs.Tryz.prog 80 = some (false, 1) := by kernel_rfl
theorem zok_80 : zok Proofs.Tryz.prog 80 = true := by kernel_rfl
theorem hasTy_80 : hasTy Proofs.Tryz.prog 80 = true := by kernel_rfl
theorem shp_81 : shp Proofs.Tryz.prog 81 = some (false, 1) := by kernel_rfl
theorem zok_81 : zok Proofs.Tryz.prog 81 = true := by kernel_rfl
theorem hasTy_81 : hasTy Proofs.Tryz.prog 81 = true := by kernel_rfl
theorem shp_82 : shp Proofs.Tryz.prog 82 = some (false, 1) := by kernel_rfl
theorem zok_82 : zok Proofs.Tryz.prog 82 = true := by kernel_rfl
theorem hasTy_82 : hasTy Proofs.Tryz.prog 82 = true := by kernel_rfl
theorem shp_83 : shp Proofs.Tryz.prog 83 = some (false, 1) := by kernel_rfl
theorem zok_83 : zok Proofs.Tryz.prog 83 = true := by kernel_rfl
theorem hasTy_83 : hasTy Proofs.Tryz.prog 83 = true := by kernel_rfl
theorem shp_84 : shp Proofs.Tryz.prog 84 = some (false, 1) := by kernel_rfl
theorem zok_84 : zok Proofs.Tryz.prog 84 = true := by kernel_rfl
theorem hasTy_84 : hasTy Proofs.Tryz.prog 84 = true := by kernel_rfl
theorem shp_85 : shp Proofs.Tryz.prog 85 = some (false, 1) := by kernel_rfl
theorem zok_85 : zok Proofs.Tryz.prog 85 = true := by kernel_rfl
theorem hasTy_85 : hasTy Proofs.Tryz.prog 85 = true := by kernel_rfl
theorem shp_86 : shp Proofs.Tryz.prog 86 = some (false, 1) := by kernel_rfl
theorem zok_86 : zok Proofs.Tryz.prog 86 = true := by kernel_rfl
theorem hasTy_86 : hasTy Proofs.Tryz.prog 86 = true := by kernel_rfl
theorem shp_87 : shp Proofs.Tryz.prog 87 = some (false, 1) := by kernel_rfl
theorem zok_87 : zok Proofs.Tryz.prog 87 = true := by kernel_rfl
theorem hasTy_87 : hasTy Proofs.Tryz.prog 87 = true := by kernel_rfl
theorem shp_88 : shp Proofs.Tryz.prog 88 = some (true, 2) := by kernel_rfl
theorem zer_88 : zer Proofs.Tryz.prog 88 = some [SV.sl 0 [], SV.sl 0 []] := by kernel_rfl
theorem zok_88 : zok Proofs.Tryz.prog 88 = true := by kernel_rfl
theorem plc_88 : plc Proofs.Tryz.prog 88 = some [(0, 1), (1, 1)] := by kernel_rfl
theorem hasTy_88 : hasTy Proofs.Tryz.prog 88 = true := by kernel_rfl
theorem fld_88_0 : fld Proofs.Tryz.prog 88 0 = some (0, 22, 1) := by kernel_rfl
theorem fld_88_1 : fld Proofs.Tryz.prog 88 1 = some (1, 22, 1) := by kernel_rfl
theorem shp_89 : shp Proofs.Tryz.prog 89 = some (true, 2) := by kernel_rfl
theorem zer_89 : zer Proofs.Tryz.prog 89 = some [SV.sl 0 [], SV.sl 0 []] := by kernel_rfl
theorem zok_89 : zok Proofs.Tryz.prog 89 = true := by kernel_rfl
theorem plc_89 : plc Proofs.Tryz.prog 89 = some [(0, 1), (1, 1)] := by kernel_rfl
theorem hasTy_89 : hasTy Proofs.Tryz.prog 89 = true := by kernel_rfl
theorem fld_89_0 : fld Proofs.Tryz.prog 89 0 = some (0, 22, 1) := by kernel_rfl
theorem fld_89_1 : fld Proofs.Tryz.prog 89 1 = some (1, 22, 1) := by kernel_rfl
theorem shp_90 : shp Proofs.Tryz.prog 90 = some (false, 1) := by kernel_rfl
theorem zok_90 : zok Proofs.Tryz.prog 90 = true := by kernel_rfl
theorem hasTy_90 : hasTy Proofs.Tryz.prog 90 = true := by kernel_rfl
theorem shp_91 : shp Proofs.Tryz.prog 91 = some (false, 1) := by kernel_rfl
theorem zok_91 : zok Proofs.Tryz.prog 91 = true := by kernel_rfl
theorem hasTy_91 : hasTy Proofs.Tryz.prog 91 = true := by kernel_rfl
theorem shp_92 : shp Proofs.Tryz.prog 92 = some (false, 1) := by kernel_rfl
theorem zok_92 : zok Proofs.Tryz.prog 92 = true := by kernel_rfl
theorem hasTy_92 : hasTy Proofs.Tryz.prog 92 = true := by kernel_rfl
theorem shp_93 : shp Proofs.Tryz.prog 93 = some (false, 1) := by kernel_rfl
theorem zok_93 : zok Proofs.Tryz.prog 93 = true := by kernel_rfl
theorem hasTy_93 : hasTy Proofs.Tryz.prog 93 = true := by kernel_rfl
theorem shp_94 : shp Proofs.Tryz.prog 94 = some (false, 1) := by kernel_rfl
theorem zok_94 : zok Proofs.Tryz.prog 94 = true := by kernel_rfl
theorem hasTy_94 : hasTy Proofs.Tryz.prog 94 = true := by kernel_rfl
theorem shp_95 : shp Proofs.Tryz.prog 95 = some (false, 1) := by kernel_rfl
theorem zok_95 : zok Proofs.Tryz.prog 95 = true := by kernel_rfl
theorem hasTy_95 : hasTy Proofs.Tryz.prog 95 = true := by kernel_rfl
theorem shp_96 : shp Proofs.Tryz.prog 96 = some (false, 1) := by kernel_rfl
theorem zok_96 : zok Proofs.Tryz.prog 96 = true := by kernel_rfl
theorem hasTy_96 : hasTy Proofs.Tryz.prog 96 = true := by kernel_rfl
theorem shp_97 : shp Proofs.Tryz.prog 97 = some (false, 1) := by kernel_rfl
theorem zok_97 : zok Proofs.Tryz.prog 97 = true := by kernel_rfl
theorem hasTy_97 : hasTy Proofs.Tryz.prog 97 = true := by kernel_rfl
theorem shp_98 : shp Proofs.Tryz.prog 98 = some (false, 1) := by kernel_rfl
theorem zok_98 : zok Proofs.Tryz.prog 98 = true := by kernel_rfl
theorem hasTy_98 : hasTy Proofs.Tryz.prog 98 = true := by kernel_rfl
theorem shp_99 : shp Proofs.Tryz.prog 99 = some (false, 1) := by kernel_rfl
theorem zok_99 : zok Proofs.Tryz.prog 99 = true := by kernel_rfl
theorem hasTy_99 : hasTy Proofs.Tryz.prog 99 = true := by kernel_rfl
theorem shp_100 : shp Proofs.Tryz.prog 100 = some (false, 1) := by kernel_rfl
theorem zok_100 : zok Proofs.Tryz.prog 100 = true := by kernel_rfl
theorem hasTy_100 : hasTy Proofs.Tryz.prog 100 = true := by kernel_rfl
theorem shp_101 : shp Proofs.Tryz.prog 101 = some (false, 1) := by kernel_rfl
theorem zok_101 : zok Proofs.Tryz.prog 101 = true := by kernel_rfl
theorem hasTy_101 : hasTy Proofs.Tryz.prog 101 = true := by kernel_rfl
theorem shp_102 : shp Proofs.Tryz.prog 102 = some (false, 1) := by kernel_rfl
theorem zok_102 : zok Proofs.Tryz.prog 102 = true := by kernel_rfl
theorem hasTy_102 : hasTy Proofs.Tryz.prog 102 = true := by kernel_rfl
theorem shp_103 : shp Proofs.Tryz.prog 103 = some (false, 1) := by kernel_rfl
theorem zok_103 : zok Proofs.Tryz.prog 103 = true := by kernel_rfl
theorem hasTy_103 : hasTy Proofs.Tryz.prog 103 = true := by kernel_rfl
theorem shp_104 : shp Proofs.Tryz.prog 104 = some (false, 1) := by kernel_rfl
theorem zok_104 : zok Proofs.Tryz.prog 104 = true := by kernel_rfl
theorem hasTy_104 : hasTy Proofs.Tryz.prog 104 = true := by kernel_rfl
theorem shp_105 : shp Proofs.Tryz.prog 105 = some (false, 1) := by kernel_rfl
theorem zok_105 : zok Proofs.Tryz.prog 105 = true := by kernel_rfl
theorem hasTy_105 : hasTy Proofs.Tryz.prog 105 = true := by kernel_rfl
theorem shp_106 : shp Proofs.Tryz.prog 106 = some (false, 1) := by kernel_rfl
theorem elm_106 : elm Proofs.Tryz.prog 106 = some (22, 1, 24) := by kernel_rfl
theorem zer_106 : zer Proofs.Tryz.prog 106 = some [SV.sl 0 []] := by kernel_rfl
theorem zok_106 : zok Proofs.Tryz.prog 106 = true := by kernel_rfl
theorem hasTy_106 : hasTy Proofs.Tryz.prog 106 = true := by kernel_rfl
theorem shp_107 : shp Proofs.Tryz.prog 107 = some (false, 1) := by kernel_rfl
theorem zok_107 : zok Proofs.Tryz.prog 107 = true := by kernel_rfl
theorem hasTy_107 : hasTy Proofs.Tryz.prog 107 = true := by kernel_rfl
theorem shp_108 : shp Proofs.Tryz.prog 108 = some (false, 1) := by kernel_rfl
theorem zok_108 : zok Proofs.Tryz.prog 108 = true := by kernel_rfl
theorem hasTy_108 : hasTy Proofs.Tryz.prog 108 = true := by kernel_rfl
theorem shp_109 : shp Proofs.Tryz.prog 109 = some (false, 1) := by kernel_rfl
theorem zok_109 : zok Proofs.Tryz.prog 109 = true := by kernel_rfl
theorem hasTy_109 : hasTy Proofs.Tryz.prog 109 = true := by kernel_rfl
theorem shp_110 : shp Proofs.Tryz.prog 110 = some (false, 1) := by kernel_rfl
theorem zok_110 : zok Proofs.Tryz.prog 110 = true := by kernel_rfl
theorem hasTy_110 : hasTy Proofs.Tryz.prog 110 = true := by kernel_rfl
theorem shp_111 : shp Proofs.Tryz.prog 111 = some (false, 1) := by kernel_rfl
theorem zok_111 : zok Proofs.Tryz.prog 111 = true := by kernel_rfl
theorem hasTy_111 : hasTy Proofs.Tryz.prog 111 = true := by kernel_rfl
theorem shp_112 : shp Proofs.Tryz.prog 112 = some (false, 1) := by kernel_rfl
theorem zok_112 : zok Proofs.Tryz.prog 112 = true := by kernel_rfl
theorem hasTy_112 : hasTy Proofs.Tryz.prog 112 = true := by kernel_rfl
theorem shp_113 : shp Proofs.Tryz.prog 113 = some (false, 1) := by kernel_rfl
theorem zok_113 : zok Proofs.Tryz.prog 113 = true := by kernel_rfl
theorem hasTy_113 : hasTy Proofs.Tryz.prog 113 = true := by kernel_rfl
theorem shp_114 : shp Proofs.Tryz.prog 114 = some (false, 1) := by kernel_rfl
theorem zok_114 : zok Proofs.Tryz.prog 114 = true := by kernel_rfl
theorem hasTy_114 : hasTy Proofs.Tryz.prog 114 = true := by kernel_rfl
theorem shp_115 : shp Proofs.Tryz.prog 115 = some (false, 1) := by kernel_rfl
theorem zok_115 : zok Proofs.Tryz.prog 115 = true := by kernel_rfl
theorem hasTy_115 : hasTy Proofs.Tryz.prog 115 = true := by kernel_rfl
theorem shp_116 : shp Proofs.Tryz.prog 116 = some (false, 1) := by kernel_rfl
theorem zok_116 : zok Proofs.Tryz.prog 116 = true := by kernel_rfl
theorem hasTy_116 : hasTy Proofs.Tryz.prog 116 = true := by kernel_rfl
theorem shp_117 : shp Proofs.Tryz.prog 117 = some (false, 1) := by kernel_rfl
theorem zok_117 : zok Proofs.Tryz.prog 117 = true := by kernel_rfl
theorem hasTy_117 : hasTy Proofs.Tryz.prog 117 = true := by kernel_rfl
theorem shp_118 : shp Proofs.Tryz.prog 118 = some (false, 1) := by kernel_rfl
theorem zok_118 : zok Proofs.Tryz.prog 118 = true := by kernel_rfl
theorem hasTy_118 : hasTy Proofs.Tryz.prog 118 = true := by kernel_rfl
theorem shp_119 : shp Proofs.Tryz.prog 119 = some (false, 1) := by kernel_rfl
theorem zok_119 : zok Proofs.Tryz.prog 119 = true := by kernel_rfl
theorem hasTy_119 : hasTy Proofs.Tryz.prog 119 = true := by kernel_rfl
theorem shp_120 : shp Proofs.Tryz.prog 120 = some (false, 1) := by kernel_rfl
theorem zok_120 : zok Proofs.Tryz.prog 120 = true := by kernel_rfl
theorem hasTy_120 : hasTy Proofs.Tryz.prog 120 = true := by kernel_rfl
theorem shp_121 : shp Proofs.Tryz.prog 121 = some (false, 1) := by kernel_rfl
theorem zok_121 : zok Proofs.Tryz.prog 121 = true := by kernel_rfl
theorem hasTy_121 : hasTy Proofs.Tryz.prog 121 = true := by kernel_rfl
theorem shp_122 : shp Proofs.Tryz.prog 122 = some (false, 1) := by kernel_rfl
theorem zok_122 : zok Proofs.Tryz.prog 122 = true := by kernel_rfl
theorem hasTy_122 : hasTy Proofs.Tryz.prog 122 = true := by kernel_rfl
theorem shp_123 : shp Proofs.Tryz.prog 123 = some (false, 1) := by kernel_rfl
theorem zok_123 : zok Proofs.Tryz.prog 123 = true := by kernel_rfl
theorem hasTy_123 : hasTy Proofs.Tryz.prog 123 = true := by kernel_rfl
theorem shp_124 : shp Proofs.Tryz.prog 124 = some (false, 1) := by kernel_rfl
theorem zok_124 : zok Proofs.Tryz.prog 124 = true := by kernel_rfl
theorem hasTy_124 : hasTy Proofs.Tryz.prog 124 = true := by kernel_rfl
theorem shp_125 : shp Proofs.Tryz.prog 125 = some (false, 1) := by kernel_rfl
theorem zok_125 : zok Proofs.Tryz.prog 125 = true := by kernel_rfl
theorem hasTy_125 : hasTy Proofs.Tryz.prog 125 = true := by kernel_rfl
theorem shp_126 : shp Proofs.Tryz.prog 126 = some (false, 1) := by kernel_rfl
theorem zok_126 : zok Proofs.Tryz.prog 126 = true := by kernel_rfl
theorem hasTy_126 : hasTy Proofs.Tryz.prog 126 = true := by kernel_rfl
theorem shp_127 : shp Proofs.Tryz.prog 127 = some (false, 1) := by kernel_rfl
theorem zok_127 : zok Proofs.Tryz.prog 127 = true := by kernel_rfl
theorem hasTy_127 : hasTy Proofs.Tryz.prog 127 = true := by kernel_rfl
theorem shp_128 : shp Proofs.Tryz.prog 128 = some (false, 1) := by kernel_rfl
theorem zok_128 : zok Proofs.Tryz.prog 128 = true := by kernel_rfl
theorem hasTy_128 : hasTy Proofs.Tryz.prog 128 = true := by kernel_rfl
theorem shp_129 : shp Proofs.Tryz.prog 129 = some (false, 1) := by kernel_rfl
theorem zok_129 : zok Proofs.Tryz.prog 129 = true := by kernel_rfl
theorem hasTy_129 : hasTy Proofs.Tryz.prog 129 = true := by kernel_rfl
theorem shp_130 : shp Proofs.Tryz.prog 130 = some (false, 1) := by kernel_rfl
theorem zok_130 : zok Proofs.Tryz.prog 130 = true := by kernel_rfl
theorem hasTy_130 : hasTy Proofs.Tryz.prog 130 = true := by kernel_rfl
theorem shp_131 : shp Proofs.Tryz.prog 131 = some (false, 1) := by kernel_rfl
theorem zok_131 : zok Proofs.Tryz.prog 131 = true := by kernel_rfl
theorem hasTy_131 : hasTy Proofs.Tryz.prog 131 = true := by kernel_rfl
theorem shp_132 : shp Proofs.Tryz.prog 132 = some (false, 1) := by kernel_rfl
theorem zok_132 : zok Proofs.Tryz.prog 132 = true := by kernel_rfl
theorem hasTy_132 : hasTy Proofs.Tryz.prog 132 = true := by kernel_rfl
theorem shp_133 : shp Proofs.Tryz.prog 133 = some (false, 1) := by kernel_rfl
theorem zok_133 : zok Proofs.Tryz.prog 133 = true := by kernel_rfl
theorem hasTy_133 : hasTy Proofs.Tryz.prog 133 = true := by kernel_rfl
theorem shp_134 : shp Proofs.Tryz.prog 134 = some (false, 1) := by kernel_rfl
theorem zok_134 : zok Proofs.Tryz.prog 134 = true := by kernel_rfl
theorem hasTy_134 : hasTy Proofs.Tryz.prog 134 = true := by kernel_rfl
theorem shp_135 : shp Proofs.Tryz.prog 135 = some (false, 1) := by kernel_rfl
theorem elm_135 : elm Proofs.Tryz.prog 135 = some (89, 2, 48) := by kernel_rfl
theorem zer_135 : zer Proofs.Tryz.prog 135 = some [SV.sl 0 []] := by kernel_rfl
theorem zok_135 : zok Proofs.Tryz.prog 135 = true := by kernel_rfl
theorem hasTy_135 : hasTy Proofs.Tryz.prog 135 = true := by kernel_rfl
theorem shp_136 : shp Proofs.Tryz.prog 136 = some (false, 1) := by kernel_rfl
theorem zok_136 : zok Proofs.Tryz.prog 136 = true := by kernel_rfl
theorem hasTy_136 : hasTy Proofs.Tryz.prog 136 = true := by kernel_rfl
theorem shp_137 : shp Proofs.Tryz.prog 137 = some (false, 1) := by kernel_rfl
theorem zok_137 : zok Proofs.Tryz.prog 137 = true := by kernel_rfl
theorem hasTy_137 : hasTy Proofs.Tryz.prog 137 = true := by kernel_rfl
theorem shp_138 : shp Proofs.Tryz.prog 138 = some (false, 1) := by kernel_rfl
theorem zok_138 : zok Proofs.Tryz.prog 138 = true := by kernel_rfl
theorem hasTy_138 : hasTy Proofs.Tryz.prog 138 = true := by kernel_rfl
theorem shp_139 : shp Proofs.Tryz.prog 139 = some (false, 1) := by kernel_rfl
theorem zok_139 : zok Proofs.Tryz.prog 139 = true := by kernel_rfl
theorem hasTy_139 : hasTy Proofs.Tryz.prog 139 = true := by kernel_rfl
theorem shp_140 : shp Proofs.Tryz.prog 140 = some (false, 1) := by kernel_rfl
theorem zok_140 : zok Proofs.Tryz.prog 140 = true := by kernel_rfl
theorem hasTy_140 : hasTy Proofs.Tryz.prog 140 = true := by kernel_rfl
theorem shp_141 : shp Proofs.Tryz.prog 141 = some (false, 1) := by kernel_rfl
theorem zok_141 : zok Proofs.Tryz.prog 141 = true := by kernel_rfl
theorem hasTy_141 : hasTy Proofs.Tryz.prog 141 = true := by kernel_rfl
theorem shp_142 : shp Proofs.Tryz.prog 142 = some (false, 1) := by kernel_rfl
theorem zok_142 : zok Proofs.Tryz.prog 142 = true := by kernel_rfl
theorem hasTy_142 : hasTy Proofs.Tryz.prog 142 = true := by kernel_rfl
theorem shp_143 : shp Proofs.Tryz.prog 143 = some (false, 1) := by kernel_rfl
theorem zok_143 : zok Proofs.Tryz.prog 143 = true := by kernel_rfl
theorem hasTy_143 : hasTy Proofs.Tryz.prog 143 = true := by kernel_rfl
theorem shp_144 : shp Proofs.Tryz.prog 144 = some (false, 1) := by kernel_rfl
theorem zok_144 : zok Proofs.Tryz.prog 144 = true := by kernel_rfl
theorem hasTy_144 : hasTy Proofs.Tryz.prog 144 = true := by kernel_rfl
theorem shp_145 : shp Proofs.Tryz.prog 145 = some (false, 1) := by kernel_rfl
theorem zok_145 : zok Proofs.Tryz.prog 145 = true := by kernel_rfl
theorem hasTy_145 : hasTy Proofs.Tryz.prog 145 = true := by kernel_rfl
theorem shp_146 : shp Proofs.Tryz.prog 146 = some (false, 1) := by kernel_rfl
theorem zok_146 : zok Proofs.Tryz.prog 146 = true := by kernel_rfl
theorem hasTy_146 : hasTy Proofs.Tryz.prog 146 = true := by kernel_rfl
theorem shp_147 : shp Proofs.Tryz.prog 147 = some (false, 1) := by kernel_rfl
theorem zok_147 : zok Proofs.Tryz.prog 147 = true := by kernel_rfl
theorem hasTy_147 : hasTy Proofs.Tryz.prog 147 = true := by kernel_rfl
theorem shp_148 : shp Proofs.Tryz.prog 148 = some (false, 1) := by kernel_rfl
theorem zok_148 : zok Proofs.Tryz.prog 148 = true := by kernel_rfl
theorem hasTy_148 : hasTy Proofs.Tryz.prog 148 = true := by kernel_rfl
theorem shp_149 : shp Proofs.Tryz.prog 149 = some (false, 1) := by kernel_rfl
theorem zok_149 : zok Proofs.Tryz.prog 149 = true := by kernel_rfl
theorem hasTy_149 : hasTy Proofs.Tryz.prog 149 = true := by kernel_rfl
theorem shp_150 : shp Proofs.Tryz.prog 150 = some (false, 1) := by kernel_rfl
theorem zok_150 : zok Proofs.Tryz.prog 150 = true := by kernel_rfl
theorem hasTy_150 : hasTy Proofs.Tryz.prog 150 = true := by kernel_rfl
theorem shp_151 : shp Proofs.Tryz.prog 151 = some (false, 1) := by kernel_rfl
theorem zok_151 : zok Proofs.Tryz.prog 151 = true := by kernel_rfl
theorem hasTy_151 : hasTy Proofs.Tryz.prog 151 = true := by kernel_rfl
theorem shp_152 : shp Proofs.Tryz.prog 152 = some (false, 1) := by kernel_rfl
theorem zok_152 : zok Proofs.Tryz.prog 152 = true := by kernel_rfl
theorem hasTy_152 : hasTy Proofs.Tryz.prog 152 = true := by kernel_rfl
theorem shp_153 : shp Proofs.Tryz.prog 153 = some (false, 1) := by kernel_rfl
theorem zok_153 : zok Proofs.Tryz.prog 153 = true := by kernel_rfl
theorem hasTy_153 : hasTy Proofs.Tryz.prog 153 = true := by kernel_rfl
theorem shp_154 : shp Proofs.Tryz.prog 154 = some (false, 1) := by kernel_rfl
theorem zok_154 : zok Proofs.Tryz.prog 154 = true := by kernel_rfl
theorem hasTy_154 : hasTy Proofs.Tryz.prog 154 = true := by kernel_rfl
theorem shp_155 : shp Proofs.Tryz.prog 155 = some (false, 1) := by kernel_rfl
theorem zok_155 : zok Proofs.Tryz.prog 155 = true := by kernel_rfl
theorem hasTy_155 : hasTy Proofs.Tryz.prog 155 = true := by kernel_rfl
theorem shp_156 : shp Proofs.Tryz.prog 156 = some (false, 1) := by kernel_rfl
theorem zok_156 : zok Proofs.Tryz.prog 156 = true := by kernel_rfl
theorem hasTy_156 : hasTy Proofs.Tryz.prog 156 = true := by kernel_rfl
theorem shp_157 : shp Proofs.Tryz.prog 157 = some (false, 1) := by kernel_rfl
theorem zok_157 : zok Proofs.Tryz.prog 157 = true := by kernel_rfl
theorem hasTy_157 : hasTy Proofs.Tryz.prog 157 = true := by kernel_rfl
theorem shp_158 : shp Proofs.Tryz.prog 158 = some (false, 1) := by kernel_rfl
theorem zok_158 : zok Proofs.Tryz.prog 158 = true := by kernel_rfl
theorem hasTy_158 : hasTy Proofs.Tryz.prog 158 = true := by kernel_rfl
theorem shp_159 : shp Proofs.Tryz.prog 159 = some (false, 1) := by kernel_rfl
theorem zok_159 : zok Proofs.Tryz.prog 159 = true := by kernel_rfl
theorem hasTy_159 : hasTy Proofs.Tryz.prog 159 = true := by kernel_rfl
theorem shp_160 : shp Proofs.Tryz.prog 160 = some (false, 1) := by kernel_rfl
theorem zok_160 : zok Proofs.Tryz.prog 160 = true := by kernel_rfl
theorem hasTy_160 : hasTy Proofs.Tryz.prog 160 = true := by kernel_rfl
theorem shp_161 : shp Proofs.Tryz.prog 161 = some (false, 1) := by kernel_rfl
theorem zok_161 : zok Proofs.Tryz.prog 161 = true := by kernel_rfl
theorem hasTy_161 : hasTy Proofs.Tryz.prog 161 = true := by kernel_rfl
theorem shp_162 : shp Proofs.Tryz.prog 162 = some (false, 1) := by kernel_rfl
theorem zok_162 : zok Proofs.Tryz.prog 162 = true := by kernel_rfl
theorem hasTy_162 : hasTy Proofs.Tryz.prog 162 = true := by kernel_rfl
theorem shp_163 : shp Proofs.Tryz.prog 163 = some (true, 4) := by kernel_rfl
theorem zok_163 : zok Proofs.Tryz.prog 163 = true := by kernel_rfl
theorem plc_163 : plc Proofs.Tryz.prog 163 = some [(0, 1), (1, 1), (2, 1), (3, 1)] := by kernel_rfl
theorem hasTy_163 : hasTy Proofs.Tryz.prog 163 = true := by kernel_rfl
theorem fld_163_0 : fld Proofs.Tryz.prog 163 0 = some (0, 17, 1) := by kernel_rfl
theorem fld_163_1 : fld Proofs.Tryz.prog 163 1 = some (1, 17, 1) := by kernel_rfl
theorem fld_163_2 : fld Proofs.Tryz.prog 163 2 = some (2, 17, 1) := by kernel_rfl
theorem fld_163_3 : fld Proofs.Tryz.prog 163 3 = some (3, 9, 1) := by kernel_rfl
theorem shp_164 : shp Proofs.Tryz.prog 164 = some (true, 4) := by kernel_rfl
theorem zok_164 : zok Proofs.Tryz.prog 164 = true := by kernel_rfl
theorem plc_164 : plc Proofs.Tryz.prog 164 = some [(0, 1), (1, 1), (2, 1), (3, 1)] := by kernel_rfl
theorem hasTy_164 : hasTy Proofs.Tryz.prog 164 = true := by kernel_rfl
theorem fld_164_0 : fld Proofs.Tryz.prog 164 0 = some (0, 17, 1) := by kernel_rfl
theorem fld_164_1 : fld Proofs.Tryz.prog 164 1 = some (1, 17, 1) := by kernel_rfl
theorem fld_164_2 : fld Proofs.Tryz.prog 164 2 = some (2, 17, 1) := by kernel_rfl
theorem fld_164_3 : fld Proofs.Tryz.prog 164 3 = some (3, 9, 1) := by kernel_rfl
theorem shp_165 : shp Proofs.Tryz.prog 165 = some (true, 0) := by kernel_rfl
theorem zer_165 : zer Proofs.Tryz.prog 165 = some [] := by kernel_rfl
theorem zok_165 : zok Proofs.Tryz.prog 165 = true := by kernel_rfl
theorem hasTy_165 : hasTy Proofs.Tryz.prog 165 = true := by kernel_rfl
theorem shp_166 : shp Proofs.Tryz.prog 166 = some (true, 0) := by kernel_rfl
theorem zer_166 : zer Proofs.Tryz.prog 166 = some [] := by kernel_rfl
theorem zok_166 : zok Proofs.Tryz.prog 166 = true := by kernel_rfl
theorem plc_166 : plc Proofs.Tryz.prog 166 = some [(0, 0)] := by kernel_rfl
theorem hasTy_166 : hasTy Proofs.Tryz.prog 166 = true := by kernel_rfl
theorem fld_166_0 : fld Proofs.Tryz.prog 166 0 = some (0, 165, 0) := by kernel_rfl
theorem shp_167 : shp Proofs.Tryz.prog 167 = some (true, 0) := by kernel_rfl
theorem zer_167 : zer Proofs.Tryz.prog 167 = some [] := by kernel_rfl
theorem zok_167 : zok Proofs.Tryz.prog 167 = true := by kernel_rfl
theorem plc_167 : plc Proofs.Tryz.prog 167 = some [(0, 0)] := by kernel_rfl
theorem hasTy_167 : hasTy Proofs.Tryz.prog 167 = true := by kernel_rfl
theorem fld_167_0 : fld Proofs.Tryz.prog 167 0 = some (0, 165, 0) := by kernel_rfl
theorem shp_168 : shp Proofs.Tryz.prog 168 = some (false, 1) := by kernel_rfl
theorem zok_168 : zok Proofs.Tryz.prog 168 = true := by kernel_rfl
theorem hasTy_168 : hasTy Proofs.Tryz.prog 168 = true := by kernel_rfl
theorem shp_169 : shp Proofs.Tryz.prog 169 = some (false, 1) := by kernel_rfl
theorem zer_169 : zer Proofs.Tryz.prog 169 = some [SV.int IntKind.u8 0] := by kernel_rfl
theorem zok_169 : zok Proofs.Tryz.prog 169 = true := by kernel_rfl
theorem isInt_169 : isInt Proofs.Tryz.prog 169 = some IntKind.u8 := by kernel_rfl
theorem hasTy_169 : hasTy Proofs.Tryz.prog 169 = true := by kernel_rfl
theorem shp_170 : shp Proofs.Tryz.prog 170 = some (false, 1) := by kernel_rfl
theorem zer_170 : zer Proofs.Tryz.prog 170 = some [SV.int IntKind.u8 0] := by kernel_rfl
theorem zok_170 : zok Proofs.Tryz.prog 170 = true := by kernel_rfl
theorem isInt_170 : isInt Proofs.Tryz.prog 170 = some IntKind.u8 := by kernel_rfl
theorem hasTy_170 : hasTy Proofs.Tryz.prog 170 = true := by kernel_rfl
theorem shp_171 : shp Proofs.Tryz.prog 171 = some (false, 1) := by kernel_rfl
theorem zok_171 : zok Proofs.Tryz.prog 171 = true := by kernel_rfl
theorem hasTy_171 : hasTy Proofs.Tryz.prog 171 = true := by kernel_rfl
theorem shp_172 : shp Proofs.Tryz.prog 172 = some (false, 1) := by kernel_rfl
theorem zok_172 : zok Proofs.Tryz.prog 172 = true := by kernel_rfl
theorem hasTy_172 : hasTy Proofs.Tryz.prog 172 = true := by kernel_rfl
theorem shp_173 : shp Proofs.Tryz.prog 173 = some (false, 1) := by kernel_rfl
theorem zer_173 : zer Proofs.Tryz.prog 173 = some [SV.int IntKind.i32 0] := by kernel_rfl
theorem zok_173 : zok Proofs.Tryz.prog 173 = true := by kernel_rfl
theorem isInt_173 : isInt Proofs.Tryz.prog 173 = some IntKind.i32 := by kernel_rfl
theorem hasTy_173 : hasTy Proofs.Tryz.prog 173 = true := by kernel_rfl
theorem shp_174 : shp Proofs.Tryz.prog 174 = some (false, 1) := by kernel_rfl
theorem zer_174 : zer Proofs.Tryz.prog 174 = some [SV.int IntKind.i32 0] := by kernel_rfl
theorem zok_174 : zok Proofs.Tryz.prog 174 = true := by kernel_rfl
theorem isInt_174 : isInt Proofs.Tryz.prog 174 = some IntKind.i32 := by kernel_rfl
theorem hasTy_174 : hasTy Proofs.Tryz.prog 174 = true := by kernel_rfl
theorem shp_175 : shp Proofs.Tryz.prog 175 = some (true, 11) := by kernel_rfl
theorem zok_175 : zok Proofs.Tryz.prog 175 = true := by kernel_rfl
theorem plc_175 : plc Proofs.Tryz.prog 175 = some [(0, 1), (1, 1), (2, 1), (3, 1), (4, 1), (5, 1), (6, 1), (7, 1), (8, 1), (9, 1), (10, 1)] := by kernel_rfl
theorem hasTy_175 : hasTy Proofs.Tryz.prog 175 = true := by kernel_rfl
theorem fld_175_0 : fld Proofs.Tryz.prog 175 0 = some (0, 12, 1) := by kernel_rfl
theorem fld_175_1 : fld Proofs.Tryz.prog 175 1 = some (1, 12, 1) := by kernel_rfl
theorem fld_175_2 : fld Proofs.Tryz.prog 175 2 = some (2, 56, 1) := by kernel_rfl
theorem fld_175_3 : fld Proofs.Tryz.prog 175 3 = some (3, 169, 1) := by kernel_rfl
theorem fld_175_4 : fld Proofs.Tryz.prog 175 4 = some (4, 5, 1) := by kernel_rfl
theorem fld_175_5 : fld Proofs.Tryz.prog 175 5 = some (5, 5, 1) := by kernel_rfl
theorem fld_175_6 : fld Proofs.Tryz.prog 175 6 = some (6, 170, 1) := by kernel_rfl
theorem fld_175_7 : fld Proofs.Tryz.prog 175 7 = some (7, 171, 1) := by kernel_rfl
theorem fld_175_8 : fld Proofs.Tryz.prog 175 8 = some (8, 172, 1) := by kernel_rfl
theorem fld_175_9 : fld Proofs.Tryz.prog 175 9 = some (9, 173, 1) := by kernel_rfl
theorem fld_175_10 : fld Proofs.Tryz.prog 175 10 = some (10, 174, 1) := by kernel_rfl
theorem shp_176 : shp Proofs.Tryz.prog 176 = some (true, 11) := by kernel_rfl
theorem zok_176 : zok Proofs.Tryz.prog 176 = true := by kernel_rfl
theorem plc_176 : plc Proofs.Tryz.prog 176 = some [(0, 1), (1, 1), (2, 1), (3, 1), (4, 1), (5, 1), (6, 1), (7, 1), (8, 1), (9, 1), (10, 1)] := by kernel_rfl
theorem hasTy_176 : hasTy Proofs.Tryz.prog 176 = true := by kernel_rfl
theorem fld_176_0 : fld Proofs.Tryz.prog 176 0 = some (0, 12, 1) := by kernel_rfl
theorem fld_176_1 : fld Proofs.Tryz.prog 176 1 = some (1, 12, 1) := by kernel_rfl
theorem fld_176_2 : fld Proofs.Tryz.prog 176 2 = some (2, 56, 1) := by kernel_rfl
theorem fld_176_3 : fld Proofs.Tryz.prog 176 3 = some (3, 169, 1) := by kernel_rfl
theorem fld_176_4 : fld Proofs.Tryz.prog 176 4 = some (4, 5, 1) := by kernel_rfl
theorem fld_176_5 : fld Proofs.Tryz.prog 176 5 = some (5, 5, 1) := by kernel_rfl
theorem fld_176_6 : fld Proofs.Tryz.prog 176 6 = some (6, 170, 1) := by kernel_rfl
theorem fld_176_7 : fld Proofs.Tryz.prog 176 7 = some (7, 171, 1) := by kernel_rfl
theorem fld_176_8 : fld Proofs.Tryz.prog 176 8 = some (8, 172, 1) := by kernel_rfl
theorem fld_176_9 : fld Proofs.Tryz.prog 176 9 = some (9, 173, 1) := by kernel_rfl
theorem fld_176_10 : fld Proofs.Tryz.prog 176 10 = some (10, 174, 1) := by kernel_rfl
theorem shp_177 : shp Proofs.Tryz.prog 177 = some (true, 1) := by kernel_rfl
theorem zer_177 : zer Proofs.Tryz.prog 177 = some [SV.str { data := { toList := [] } }] := by kernel_rfl
theorem zok_177 : zok Proofs.Tryz.prog 177 = true := by kernel_rfl
theorem plc_177 : plc Proofs.Tryz.prog 177 = some [(0, 1)] := by kernel_rfl
theorem hasTy_177 : hasTy Proofs.Tryz.prog 177 = true := by kernel_rfl
theorem fld_177_0 : fld Proofs.Tryz.prog 177 0 = some (0, 9, 1) := by kernel_rfl
theorem shp_178 : shp Proofs.Tryz.prog 178 = some (true, 1) := by kernel_rfl
theorem zer_178 : zer Proofs.Tryz.prog 178 = some [SV.str { data := { toList := [] } }] := by kernel_rfl
theorem zok_178 : zok Proofs.Tryz.prog 178 = true := by kernel_rfl
theorem plc_178 : plc Proofs.Tryz.prog 178 = some [(0, 1)] := by kernel_rfl
theorem hasTy_178 : hasTy Proofs.Tryz.prog 178 = true := by kernel_rfl
theorem fld_178_0 : fld Proofs.Tryz.prog 178 0 = some (0, 9, 1) := by kernel_rfl
theorem shp_179 : shp Proofs.Tryz.prog 179 = some (false, 1) := by kernel_rfl
theorem zok_179 : zok Proofs.Tryz.prog 179 = true := by kernel_rfl
theorem hasTy_179 : hasTy Proofs.Tryz.prog 179 = true := by kernel_rfl
attribute [go_sem] shp_0 zok_0 hasTy_0 shp_1 zok_1 hasTy_1 shp_2 zer_2 zok_2 isInt_2 hasTy_2 shp_3 zer_3 zok_3 isInt_3 hasTy_3 shp_4 zer_4 zok_4 isBool_4
attribute [go_sem] hasTy_4 shp_5 zer_5 zok_5 isInt_5 hasTy_5 shp_6 zer_6 zok_6 isInt_6 hasTy_6 shp_7 zer_7 zok_7 plc_7 hasTy_7 fld_7_0 fld_7_1 fld_7_2 fld_7_3
attribute [go_sem] shp_8 zer_8 zok_8 plc_8 hasTy_8 fld_8_0 fld_8_1 fld_8_2 fld_8_3 shp_9 zer_9 zok_9 isStr_9 hasTy_9 shp_10 zer_10 zok_10 isStr_10 hasTy_10 shp_11
attribute [go_sem] zer_11 zok_11 isStr_11 hasTy_11 shp_12 zer_12 zok_12 isInt_12 hasTy_12 shp_13 zer_13 zok_13 plc_13 hasTy_13 fld_13_0 fld_13_1 shp_14 zer_14 zok_14 plc_14
attribute [go_sem] hasTy_14 fld_14_0 fld_14_1 shp_15 zok_15 hasTy_15 shp_16 zok_16 hasTy_16 shp_17 zok_17 hasTy_17 shp_18 zok_18 plc_18 hasTy_18 fld_18_0 shp_19 zok_19 plc_19
attribute [go_sem] hasTy_19 fld_19_0 shp_20 zok_20 hasTy_20 shp_21 zer_21 zok_21 isInt_21 hasTy_21 shp_22 elm_22 zer_22 zok_22 hasTy_22 shp_23 zer_23 zok_23 plc_23 hasTy_23
attribute [go_sem] fld_23_0 fld_23_1 fld_23_2 shp_24 zer_24 zok_24 plc_24 hasTy_24 fld_24_0 fld_24_1 fld_24_2 shp_25 zok_25 hasTy_25 shp_26 zok_26 hasTy_26 shp_27 zer_27 zok_27
attribute [go_sem] plc_27 hasTy_27 fld_27_0 fld_27_1 shp_28 zer_28 zok_28 plc_28 hasTy_28 fld_28_0 fld_28_1 shp_29 zer_29 zok_29 isInt_29 hasTy_29 shp_30 zok_30 hasTy_30 shp_31
attribute [go_sem] zok_31 hasTy_31 shp_32 zer_32 zok_32 plc_32 hasTy_32 fld_32_0 fld_32_1 fld_32_2 fld_32_3 fld_32_4 shp_33 zer_33 zok_33 plc_33 hasTy_33 fld_33_0 fld_33_1 fld_33_2
attribute [go_sem] fld_33_3 fld_33_4 shp_34 zok_34 hasTy_34 shp_35 zok_35 hasTy_35 shp_36 zok_36 hasTy_36 shp_37 zok_37 hasTy_37 shp_38 zok_38 hasTy_38 shp_39 zok_39 hasTy_39
attribute [go_sem] shp_40 zok_40 hasTy_40 shp_41 zok_41 hasTy_41 shp_42 zok_42 hasTy_42 shp_43 elm_43 zer_43 zok_43 hasTy_43 shp_44 zok_44 hasTy_44 shp_45 elm_45 zer_45
attribute [go_sem] zok_45 hasTy_45 shp_46 zok_46 hasTy_46 shp_47 zok_47 hasTy_47 shp_48 elm_48 zer_48 zok_48 hasTy_48 shp_49 zer_49 zok_49 plc_49 hasTy_49 fld_49_0 fld_49_1
attribute [go_sem] fld_49_2 fld_49_3 fld_49_4 fld_49_5 fld_49_6 fld_49_7 shp_50 zer_50 zok_50 plc_50 hasTy_50 fld_50_0 fld_50_1 fld_50_2 fld_50_3 fld_50_4 fld_50_5 fld_50_6 fld_50_7 shp_51
attribute [go_sem] zok_51 hasTy_51 shp_52 zok_52 hasTy_52 shp_53 zer_53 zok_53 isInt_53 hasTy_53 shp_54 zok_54 hasTy_54 shp_55 zok_55 hasTy_55 shp_56 zer_56 zok_56 isInt_56
attribute [go_sem] hasTy_56 shp_57 zok_57 hasTy_57 shp_58 zok_58 hasTy_58 shp_59 zok_59 hasTy_59 shp_60 zok_60 hasTy_60 shp_61 zok_61 hasTy_61 shp_62 zok_62 hasTy_62 shp_63
attribute [go_sem] zok_63 hasTy_63 shp_64 zok_64 hasTy_64 shp_65 zok_65 hasTy_65 shp_66 zok_66 hasTy_66 shp_67 zok_67 hasTy_67 shp_68 zok_68 hasTy_68 shp_69 zok_69 hasTy_69
attribute [go_sem] shp_70 zok_70 hasTy_70 shp_71 zok_71 hasTy_71 shp_72 zer_72 zok_72 isInt_72 hasTy_72 shp_73 zok_73 hasTy_73 shp_74 zok_74 hasTy_74 shp_75 zok_75 hasTy_75
attribute [go_sem] shp_76 zok_76 hasTy_76 shp_77 zok_77 hasTy_77 shp_78 zok_78 hasTy_78 shp_79 zok_79 hasTy_79 shp_80 zok_80 hasTy_80 shp_81 zok_81 hasTy_81 shp_82 zok_82
attribute [go_sem] hasTy_82 shp_83 zok_83 hasTy_83 shp_84 zok_84 hasTy_84 shp_85 zok_85 hasTy_85 shp_86 zok_86 hasTy_86 shp_87 zok_87 hasTy_87 shp_88 zer_88 zok_88 plc_88
attribute [go_sem] hasTy_88 fld_88_0 fld_88_1 shp_89 zer_89 zok_89 plc_89 hasTy_89 fld_89_0 fld_89_1 shp_90 zok_90 hasTy_90 shp_91 zok_91 hasTy_91 shp_92 zok_92 hasTy_92 shp_93
attribute [go_sem] zok_93 hasTy_93 shp_94 zok_94 hasTy_94 shp_95 zok_95 hasTy_95 shp_96 zok_96 hasTy_96 shp_97 zok_97 hasTy_97 shp_98 zok_98 hasTy_98 shp_99 zok_99 hasTy_99
attribute [go_sem] shp_100 zok_100 hasTy_100 shp_101 zok_101 hasTy_101 shp_102 zok_102 hasTy_102 shp_103 zok_103 hasTy_103 shp_104 zok_104 hasTy_104 shp_105 zok_105 hasTy_105 shp_106 elm_106
attribute [go_sem] zer_106 zok_106 hasTy_106 shp_107 zok_107 hasTy_107 shp_108 zok_108 hasTy_108 shp_109 zok_109 hasTy_109 shp_110 zok_110 hasTy_110 shp_111 zok_111 hasTy_111 shp_112 zok_112
attribute [go_sem] hasTy_112 shp_113 zok_113 hasTy_113 shp_114 zok_114 hasTy_114 shp_115 zok_115 hasTy_115 shp_116 zok_116 hasTy_116 shp_117 zok_117 hasTy_117 shp_118 zok_118 hasTy_118 shp_119
attribute [go_sem] zok_119 hasTy_119 shp_120 zok_120 hasTy_120 shp_121 zok_121 hasTy_121 shp_122 zok_122 hasTy_122 shp_123 zok_123 hasTy_123 shp_124 zok_124 hasTy_124 shp_125 zok_125 hasTy_125
attribute [go_sem] shp_126 zok_126 hasTy_126 shp_127 zok_127 hasTy_127 shp_128 zok_128 hasTy_128 shp_129 zok_129 hasTy_129 shp_130 zok_130 hasTy_130 shp_131 zok_131 hasTy_131 shp_132 zok_132
attribute [go_sem] hasTy_132 shp_133 zok_133 hasTy_133 shp_134 zok_134 hasTy_134 shp_135 elm_135 zer_135 zok_135 hasTy_135 shp_136 zok_136 hasTy_136 shp_137 zok_137 hasTy_137 shp_138 zok_138
attribute [go_sem] hasTy_138 shp_139 zok_139 hasTy_139 shp_140 zok_140 hasTy_140 shp_141 zok_141 hasTy_141 shp_142 zok_142 hasTy_142 shp_143 zok_143 hasTy_143 shp_144 zok_144 hasTy_144 shp_145
attribute [go_sem] zok_145 hasTy_145 shp_146 zok_146 hasTy_146 shp_147 zok_147 hasTy_147 shp_148 zok_148 hasTy_148 shp_149 zok_149 hasTy_149 shp_150 zok_150 hasTy_150 shp_151 zok_151 hasTy_151
attribute [go_sem] shp_152 zok_152 hasTy_152 shp_153 zok_153 hasTy_153 shp_154 zok_154 hasTy_154 shp_155 zok_155 hasTy_155 shp_156 zok_156 hasTy_156 shp_157 zok_157 hasTy_157 shp_158 zok_158
attribute [go_sem] hasTy_158 shp_159 zok_159 hasTy_159 shp_160 zok_160 hasTy_160 shp_161 zok_161 hasTy_161 shp_162 zok_162 hasTy_162 shp_163 zok_163 plc_163 hasTy_163 fld_163_0 fld_163_1 fld_163_2
attribute [go_sem] fld_163_3 shp_164 zok_164 plc_164 hasTy_164 fld_164_0 fld_164_1 fld_164_2 fld_164_3 shp_165 zer_165 zok_165 hasTy_165 shp_166 zer_166 zok_166 plc_166 hasTy_166 fld_166_0 shp_167
attribute [go_sem] zer_167 zok_167 plc_167 hasTy_167 fld_167_0 shp_168 zok_168 hasTy_168 shp_169 zer_169 zok_169 isInt_169 hasTy_169 shp_170 zer_170 zok_170 isInt_170 hasTy_170 shp_171 zok_171
attribute [go_sem] hasTy_171 shp_172 zok_172 hasTy_172 shp_173 zer_173 zok_173 isInt_173 hasTy_173 shp_174 zer_174 zok_174 isInt_174 hasTy_174 shp_175 zok_175 plc_175 hasTy_175 fld_175_0 fld_175_1
attribute [go_sem] fld_175_2 fld_175_3 fld_175_4 fld_175_5 fld_175_6 fld_175_7 fld_175_8 fld_175_9 fld_175_10 shp_176 zok_176 plc_176 hasTy_176 fld_176_0 fld_176_1 fld_176_2 fld_176_3 fld_176_4 fld_176_5 fld_176_6
attribute [go_sem] fld_176_7 fld_176_8 fld_176_9 fld_176_10 shp_177 zer_177 zok_177 plc_177 hasTy_177 fld_177_0 shp_178 zer_178 zok_178 plc_178 hasTy_178 fld_178_0 shp_179 zok_179 hasTy_179
end Go.Proofs.YtodiciendlhkgaaGreat.F

/- What arguments of this program's types read as; arguments that a law leaves as they were. -/
set_option linter.constructorNameAsVariable false
set_option maxRecDepth 8000
namespace Go.Proofs.YtodiciendlhkgaaGreat
open Go.Ev Go.RowKit Go.WideShapes
theorem u_limbs : Tryz.prog.underlying 22 = some (.slice 56) := by kernel_rfl
theorem u_limb : Tryz.prog.underlying 56 = some (.int .u32) := by kernel_rfl
theorem u_bool : Tryz.prog.underlying 4 = some .bool := by kernel_rfl
theorem u_int : Tryz.prog.underlying 3 = some (.int .i64) := by kernel_rfl
theorem wf_u32 {i : Int} (h : (Lit.int .u32 i).wf = true) : 0 ≤ i ∧ i < 4294967296 := by
  have h' : decide (IntKind.u32.min ≤ i ∧ i ≤ IntKind.u32.max) = true := by simpa [Lit.wf] using h
  have := of_decide_eq_true h'
  simp only [show IntKind.u32.min = 0 from rfl, show IntKind.u32.max = 4294967295 from rfl] at this
  omega
theorem shp_int {n : Nat} {ss : List SV} (h : ShpT Tryz.prog (n + 1) 3 ss) : ∃ i, ss = [.int .i64 i] ∧ (Lit.int .i64 i).wf = true := by
  unfold ShpT at h
  rw [u_int] at h
  exact h
theorem shp_bool {n : Nat} {ss : List SV} (h : ShpT Tryz.prog (n + 1) 4 ss) : ∃ b, ss = [.bool b] := by
  unfold ShpT at h
  rw [u_bool] at h
  exact h
theorem shp_limbs_all {n : Nat} : ∀ l : List (List SV), (∀ x ∈ l, ShpT Tryz.prog (n + 1) 56 x) → ∃ xs : List Nat, l.flatten = xs.map limb ∧ l.length = xs.length ∧ okL xs := by
  intro l
  induction l with
  | nil => intro _; exact ⟨[], rfl, rfl, okL_nil⟩
  | cons x l ih =>
    intro hx
    obtain ⟨xs, h1, h2, h3⟩ := ih fun y hy => hx y (List.mem_cons_of_mem _ hy)
    have h4 := hx x List.mem_cons_self
    unfold ShpT at h4
    rw [u_limb] at h4
    obtain ⟨i, rfl, hw⟩ := h4
    obtain ⟨w1, w2⟩ := wf_u32 hw
    obtain ⟨y, rfl⟩ : ∃ y : Nat, i = (y : Int) := ⟨i.toNat, by omega⟩
    exact ⟨y :: xs, by rw [List.flatten_cons, h1]; rfl, by simp [h2], okL_cons.2 ⟨by omega, h3⟩⟩
theorem shp_limbs {n : Nat} {ss : List SV} (h : ShpT Tryz.prog (n + 2) 22 ss) : ∃ xs, ss = [natV xs] ∧ okL xs ∧ xs.length ≤ maxLen := by
  unfold ShpT at h
  rw [u_limbs] at h
  obtain ⟨elems, rfl, hl, he⟩ := h
  obtain ⟨xs, h1, h2, h3⟩ := shp_limbs_all elems he
  exact ⟨xs, by rw [h1, h2], h3, h2 ▸ hl⟩
/-- A struct's fields' types. -/
def fieldTs (P : Program) (t : TypeId) : List TypeId := match P.underlying t with
  | some (.struct fs) => fs.toList.map (·.type)
  | _ => []
theorem shp_struct {P : Program} {n : Nat} {t : TypeId} {ts : List TypeId} {ss : List SV} (ht : fieldTs P t = ts) (hne : ts ≠ []) (h : ShpT P (n + 1) t ss) :
    ∃ parts : List (List SV), ss = parts.flatten ∧ parts.length = ts.length ∧ ∀ (j : Nat) (u : TypeId) (x : List SV), ts[j]? = some u → parts[j]? = some x → ShpT P n u x := by
  unfold fieldTs at ht
  unfold ShpT at h
  split at ht
  · rename_i fs hu
    rw [hu] at h
    obtain ⟨parts, h1, h2, h3⟩ := h
    subst ht
    refine ⟨parts, h1, by rw [h2, List.length_map], fun j u x hj hx => ?_⟩
    rw [List.getElem?_map] at hj
    cases hf : fs.toList[j]? with
    | none => rw [hf] at hj; cases hj
    | some f =>
      rw [hf] at hj
      cases hj
      exact h3 j f x hf hx
  · exact (hne ht.symm).elim
theorem len_three {α : Type} {l : List α} (h : l.length = 3) : ∃ a b c, l = [a, b, c] := by
  match l, h with
  | [a, b, c], _ => exact ⟨a, b, c, rfl⟩
theorem len_five {α : Type} {l : List α} (h : l.length = 5) : ∃ a b c d e, l = [a, b, c, d, e] := by
  match l, h with
  | [a, b, c, d, e], _ => exact ⟨a, b, c, d, e, rfl⟩
theorem ts_rat : fieldTs Tryz.prog 24 = [4, 22, 22] := by kernel_rfl
theorem shp_rat {n : Nat} {ss : List SV} (h : ShpT Tryz.prog (n + 3) 24 ss) : ∃ s xs ys, ss = [.bool s, natV xs, natV ys] ∧ okL xs ∧ okL ys ∧ xs.length ≤ maxLen ∧ ys.length ≤ maxLen := by
  obtain ⟨parts, rfl, hl, hp⟩ := shp_struct ts_rat (by simp) h
  obtain ⟨a, b, c, rfl⟩ := len_three hl
  obtain ⟨s, rfl⟩ := shp_bool (hp 0 _ a rfl rfl)
  obtain ⟨xs, rfl, h1, h2⟩ := shp_limbs (hp 1 _ b rfl rfl)
  obtain ⟨ys, rfl, h3, h4⟩ := shp_limbs (hp 2 _ c rfl rfl)
  exact ⟨s, xs, ys, rfl, h1, h3, h2, h4⟩
/-- Arguments that nobody has written read as they did. -/
theorem trodAll_stays {H : Type} {enc : TypeId × Value → H} {P : Program} (hl : laidOutB P = true) {W W' : World} (hb : Below W.heap.size W W') {sp : Nat → Bool} :
    ∀ {ts : List TypeId} {vs : List Value} {ds : List (DataW H)} {ps : List MemPlace}, (ts.all fun t => P.readableRec t && decide (t < P.types.size)) = true → DataW.TrodAll enc P W 0 (fun _ => true) true ts vs ds ps →
      (∀ x ∈ ps, x.block < W.heap.size) → (∀ x ∈ ps, sp x.block = true) → DataW.TrodAll enc P W' 0 sp true ts vs ds ps := by
  intro ts
  induction ts with
  | nil =>
    intro vs ds ps _ h _ _
    cases vs <;> cases ds <;> simp_all [DataW.TrodAll]
  | cons t ts ih =>
    intro vs ds ps ht h hlt hs
    cases vs with
    | nil => simp [DataW.TrodAll] at h
    | cons v vs =>
      cases ds with
      | nil => simp [DataW.TrodAll] at h
      | cons d ds =>
        obtain ⟨p, q, h1, h2, rfl⟩ := h
        rw [List.all_cons, Bool.and_eq_true, Bool.and_eq_true] at ht
        obtain ⟨⟨ht1, ht2⟩, ht3⟩ := ht
        refine ⟨p, q, WideElems.Trod_stays hl ht1 (of_decide_eq_true ht2) h1 (fun x hx => hb.same (hlt x (List.mem_append_left _ hx))) (fun x hx => hs x (List.mem_append_left _ hx)), ?_, rfl⟩
        exact ih ht3 h2 (fun x hx => hlt x (List.mem_append_right _ hx)) (fun x hx => hs x (List.mem_append_right _ hx))
/-- A struct that is handed in. -/
theorem open_plain {H : Type} {enc : TypeId × Value → H} {P : Program} {w : World} {sp : Nat → Bool} {held : Bool} {r : Reach} {b0 : Nat} {m : Nat} {t : TypeId} {fs : Array Field} {v : Value} {d : DataW H} {ps : List MemPlace} (hp : plainT P m t = true) (hu : P.underlying t = some (.struct fs))
    (hok : Value.okWide P w r b0 t v) (hd : DataW.Trod enc P w 0 sp held t v d ps) : ∃ ss, Rep w (fun _ => False) v (.agg ss) ∧ ShpT P m t ss := by
  obtain ⟨cs, rfl, -⟩ := okWide_struct hu hok
  obtain ⟨n, hn⟩ := hd
  obtain ⟨ss, ⟨hl, hr⟩, hs⟩ := trod_reads hp hn
  refine ⟨ss, .agg cs ss (by rw [hl]; simp [Value.cells]) (fun i s hi => ?_), hs⟩
  have := hr i s hi
  simpa [Value.cells, Array.getD_eq_getD_getElem?, List.getD_eq_getElem?_getD] using this
end Go.Proofs.YtodiciendlhkgaaGreat

/- slices.Clone: a copy; nil stays nil, which a reading does not show. -/
namespace Go.Ev
open Go.RowKit

section
variable {P : Program} {w0 w : World} {F I : Nat → Prop} {Z : Nat → Nat} {N : Nat} {st : St} {a : Act}

/-- Is it nil? Either answer may come where no cell is known. -/
theorem nilcmp_region {call : Callf} (hcall : CallOk P call) {id d1 d2 x n : Nat} {cs : List SV} {t t' ty1 ty2 : TypeId} {p1 p2 : String} {af1 af2 : Array Edge} {e : Nat × Nat × Nat} (hto : To w0 F I Z N st a w) (hx : st.tmp x = .sv (.sl n cs))
    (hd1 : d1 < N) (hd2 : d2 < N) (he : elm P t = some e) {Q : Exit → Act → World → Prop}
    (hQ : ∀ b a' w', (b = true → cs = []) → To w0 F I Z N ((st.put d1 (.sv (.sl n cs))).put d2 (.sv (.bool b))) a' w' → Q .normal a' w') :
    (Code.region id #[⟨some d1, .move (.tmp x), ty1, p1, af1, none⟩, ⟨some d2, .binOp .eql t (.tmp d1) (.const (.slice none 0 0)) t', ty2, p2, af2, none⟩] false).wp P Q a w := by
  obtain ⟨β, hr⟩ := hto
  refine wp_region ?_
  show wpOps P _ Q [0, 1] a w
  rw [wpOps_cons]
  refine stepO_wpOp (mu := fun _ => false) (soft := false) (st' := st.put d1 (.sv (.sl n cs))) hr hcall rfl (fun d e => by cases e; exact hd1) ?_ (fun a' w' hto => ?_) Q
  · show some (st.put d1 (st.tmp x)) = _
    rw [hx]
  obtain ⟨β', hr'⟩ := hto
  rw [wpOps_cons]
  unfold wpOp
  simp only [List.getElem?_toArray, List.getElem?_cons_succ, List.getElem?_cons_zero]
  rw [if_pos (by rfl)]
  have hv := hr'.tmps d1
  rw [show (st.put d1 (.sv (.sl n cs))).tmp d1 = .sv (.sl n cs) from if_pos rfl] at hv
  obtain ⟨e1, e2, e3⟩ := e
  obtain ⟨hu, _⟩ := elm_parts he
  have hv' : Rep w' (Mut F β' (st.put d1 (.sv (.sl n cs)))) (a'.tmps.getD d1 undef) (.sl n cs) := hv
  obtain ⟨A, cap, hval, hcap⟩ := slice_len hv'
  refine .inl (Runs.wp (K := fun a' w' => wpOps P _ Q [] a' w') ⟨w', .inl ⟨.bool A.isNone, ?_, ?_⟩⟩)
  · have h1 : a'.eval (.tmp d1) = .slice A n cap := hval
    have h2 : a'.eval (.const (.slice none 0 0)) = .slice none 0 0 := rfl
    have hg : (eqGuard .eql t (.tmp d1) (.const (.slice none 0 0)) (.slice A n cap) (.slice none 0 0)).run P w' = .ok () w' := by
      unfold eqGuard; split <;> rfl
    simp only [execOp, h1, h2, Sem.run_bind, hg, Lib.run_eql_slice_nil w' t e1 A n cap 0 0 hu, Result.andThen_ok, Sem.run_pure]
  · show Q .normal _ _
    refine hQ A.isNone _ _ (fun hb => ?_) ⟨β', hr'.putO (dst := some d2) (t := .sv (.bool A.isNone)) (fun d e => by cases e; exact hd2) (.bool _) (fun d g e => by simp [TV.id] at e)⟩
    rw [hval] at hv'
    cases hv' with
    | sl0 => rfl
    | sl => simp at hb

theorem wp_seq' {c d : Code} {Q : Exit → Act → World → Prop} (h : c.wp P (fun e a w => match e with | .normal => d.wp P Q a w | e => Q e a w) a w) : (Code.seq c d).wp P Q a w :=
  wp_seq (Code.wp_mono (fun e a w q => by cases e <;> exact q) h)
end

/-- Clone's contract. -/
def cloneX (f : FuncId) : Callf := fun g args => if g = f then match args with
  | [.sv (.sl n cs)] => if cs.length = n ∧ oneAll cs = true ∧ n ≤ 274877906944 then some (.sv (.sl n cs), [none]) else none
  | _ => none
  else none

theorem cloneX_ok {P : Program} {f : FuncId} {fn : Func} {t ty1 ty2 : TypeId} {p1 p2 : String} {af1 af2 : Array Edge} {i1 : Nat} {c0 cT c3 : Code} (hf : P.funcs[f]? = some fn) (hok : okFn P fn = true)
    (hb : fn.body = some (.seq c0 (.seq (.seq (.region i1 #[⟨some 3, .move (.tmp 0), ty1, p1, af1, none⟩, ⟨some 4, .binOp .eql t (.tmp 3) (.const (.slice none 0 0)) t, ty2, p2, af2, none⟩] false) (.cond (.tmp 4) cT .skip)) c3)))
    (hn : 4 < fn.ntmps) {e : Nat × Nat × Nat} (he : elm P t = some e)
    (h0 : ∀ n cs, ∃ k st, exec P (fun _ _ => none) (fun _ => false) k c0 (argSt [.sv (.sl n cs)]) = some (.normal, st) ∧ st.tmp 0 = .sv (.sl n cs) ∧
      (∃ k st', exec P (fun _ _ => none) (fun _ => false) k cT ((st.put 3 (.sv (.sl n cs))).put 4 (.sv (.bool true))) = some (.ret, st') ∧ retOf P st' fn.results.toList = some (.sv (.sl 0 []))) ∧
      (cs.length = n → oneAll cs = true → n ≤ 274877906944 → ∃ call mu k st', CallOk P call ∧ exec P call mu k c3 ((st.put 3 (.sv (.sl n cs))).put 4 (.sv (.bool false))) = some (.ret, st') ∧ retOf P st' fn.results.toList = some (.sv (.sl n cs)))) :
    CallOk P (cloneX f) := by
  intro g args r exps h
  unfold cloneX at h
  split at h
  · rename_i hg
    subst hg
    split at h
    · rename_i n cs
      split at h
      · rename_i hc
        cases h
        simp only [okFn, Bool.and_eq_true, hb, decide_eq_true_eq] at hok
        obtain ⟨⟨⟨hm, hnm⟩, hN⟩, hcode⟩ := hok
        refine ⟨enters_of hf hnm hb, fun w F B vals hF hsz hrep hinj => ?_⟩
        have hcall : CallOk P (fun _ _ => none) := fun g args r exps h => by cases h
        have hent := entry hN (show ([Arg.sv (.sl n cs)] : List Arg).length ≤ fn.ntmps by simp; omega) hF hsz hrep hinj
        refine calls_of_wp hf hb ?_
        simp only [okCode, Bool.and_eq_true] at hcode
        obtain ⟨hc0, ⟨_, hcT, _⟩, hc3⟩ := hcode
        obtain ⟨k, st, he0, hx, ⟨kT, sT, heT, hrT⟩, h3⟩ := h0 n cs
        obtain ⟨call3, mu3, k3, s3, hcall3, he3, hr3⟩ := h3 hc.1 hc.2.1 hc.2.2
        have fin : ∀ {st' : St}, retOf P st' fn.results.toList = some (.sv (.sl n cs)) → ∀ a' w', To w F (impB [.sv (.sl n cs)] B) B fn.ntmps st' a' w' → bodyPost P fn (fun e w' => ∃ v, e = .returned v ∧ RetRep w w' F v (.sv (.sl n cs)) ∧ Ext (impB [.sv (.sl n cs)] B) w w' ∧ ∀ (i : Nat) (cs' : List SV), ([none] : List (Option (List SV)))[i]? = some (some cs') → Holds w' F (B i) cs') .ret a' w' := by
          intro st' hret a' w' ⟨β, hr⟩
          obtain ⟨v, hv, hrr⟩ := hr.ret hret
          refine ⟨hr.defers, v, hv, v, rfl, hrr, hr.ext, fun i cs' hi => ?_⟩
          cases i <;> simp at hi
        refine wp_seq (exec_wp hcall hm k hc0 ⟨_, hent⟩ he0 fun a1 w1 hto1 => ?_)
        refine wp_seq (wp_seq (nilcmp_region hcall hto1 hx (by omega) (by omega) he fun b a2 w2 hb2 hto2 => ?_))
        cases b with
        | true =>
          have hcs := hb2 rfl
          subst hcs
          have hn0 : n = 0 := by simpa using hc.1.symm
          subst hn0
          obtain ⟨β, hr2⟩ := hto2
          have hv4 : Rep _ _ (a2.eval (.tmp 4)) (.bool true) := hr2.tmps 4
          refine wp_cond (rep_bool hv4) ?_
          exact exec_wp hcall hm kT hcT ⟨β, hr2⟩ heT fun a3 w3 hto3 => fin hrT a3 w3 hto3
        | false =>
          have hto2' := hto2
          obtain ⟨β, hr2⟩ := hto2
          have hv4 : Rep _ _ (a2.eval (.tmp 4)) (.bool false) := hr2.tmps 4
          refine wp_cond (rep_bool hv4) ?_
          refine wp_skip ?_
          exact exec_wp hcall3 hm k3 hc3 hto2' he3 fun a3 w3 hto3 => fin hr3 a3 w3 hto3
      · cases h
    · cases h
  · cases h
end Go.Ev

/- The seat's program under the evaluator: what is good, what comes by contract. -/
namespace Go.Proofs.YtodiciendlhkgaaGreat
open Go.Ev
/-- The functions with bodies: from 2 on, so many, but for those that the evaluator does not take. -/
def nGood : Nat := 184
def notGood : List Nat := []
noncomputable def good (f : FuncId) : Bool := Nat.ble 2 f && Nat.blt f (2 + nGood) && !(notGood.any fun g => Nat.beq g f)
def allOk (P : Program) (n : Nat) : Bool := (List.range n).all fun i => notGood.any (fun g => Nat.beq g (i + 2)) || match P.funcs[i + 2]? with
  | some fn => okFn P fn
  | none => true
theorem good_of {P : Program} {n : Nat} (h : allOk P n = true) {f : Nat} {fn : Func} (h2 : 2 ≤ f) (hn : f < 2 + n) (hb : (notGood.any fun g => Nat.beq g f) = false) (hf : P.funcs[f]? = some fn) : okFn P fn = true := by
  unfold allOk at h
  have hlt : f - 2 < n := by omega
  have := List.all_eq_true.1 h (f - 2) (List.mem_range.2 hlt)
  rw [show f - 2 + 2 = f by omega, hf, hb, Bool.false_or] at this
  exact this
theorem good_all : allOk Tryz.prog nGood = true := by kernel_rfl
theorem good_ok : Go.Ev.Good Tryz.prog good := by
  intro f fn hg hf
  unfold good at hg
  simp only [Bool.and_eq_true, Nat.ble_eq, Nat.blt_eq, Bool.not_eq_true'] at hg
  exact good_of good_all hg.1.1 hg.1.2 hg.2 hf
end Go.Proofs.YtodiciendlhkgaaGreat

/- Functions that hand over a row of their own: rules for the walk. -/
namespace Go.Ev
section
variable {C : Cx} {ops : Array Oper} {l : List Oper} {st : St} {Q : St → Prop} {d : Nat}
/-- A function that gives a row that its caller may write. -/
def FnR (C : Cx) (f : FuncId) (args : List SV) (cs : List SV) (size off n : Nat) : Prop := ∃ m e, callN C.P C.X C.mu C.good m f (args.map Arg.sv) = some (.row cs size off n, e)
theorem vf_row {g : FuncId} {ss cs : List SV} {size off n : Nat} (h : FnR C g ss cs size off n) (k : WO C false ops l (st.new d cs (.ref d (st.gen d) size off n)) Q) : WF C false ops l (some d) st Q g ss := by
  obtain ⟨m, e, hn⟩ := h
  exact ⟨m, by rw [hn]; exact k⟩
theorem vf_rowS {dst : Option Nat} {g : FuncId} {ss cs : List SV} {size off n : Nat} (h : FnR C g ss cs size off n) (k : WO C true ops l (st.putO dst (.sv (.sl n ((cs.drop off).take (n * size))))) Q) : WF C true ops l dst st Q g ss := by
  obtain ⟨m, e, hn⟩ := h
  exact ⟨m, by rw [hn]; exact k⟩
/-- What a function gives back as a row. -/
def RR (P : Program) (rs : List ResultVar) (r : Ret) (e : Ex) (st : St) : Prop := match e with
  | .exit _ => False
  | _ => retRow P st rs = some r
theorem expOf_sv (st : St) (ars : List SV) : expOf st (ars.map Arg.sv) = List.replicate ars.length none := by
  unfold expOf
  rw [List.length_map]
  refine List.ext_getElem? fun i => ?_
  rw [List.getElem?_map, List.getElem?_replicate]
  rcases Nat.lt_or_ge i ars.length with h | h
  · rw [List.getElem?_range h, if_pos h, Option.map_some, List.getElem?_map, List.getElem?_eq_getElem h]
    rfl
  · rw [List.getElem?_eq_none (by simpa using h), if_neg (by omega)]
    rfl
theorem row_intro {f : FuncId} {fn : Func} {body : Code} {args : List SV} {r : Ret} (hf : C.P.funcs[f]? = some fn) (hok : C.good f = true) (hb : fn.body = some body) (hl : args.length ≤ fn.ntmps)
    (h : WP C body (argSt (args.map Arg.sv)) (RR C.P fn.results.toList r)) : ∃ n, rowN C.P C.X C.mu C.good n f (args.map Arg.sv) = some (r, List.replicate args.length none) := by
  obtain ⟨n, e, st, he, hq⟩ := h
  refine ⟨n, ?_⟩
  unfold rowN
  simp only [hf, hok, hb, if_true]
  rw [if_pos (by simpa using hl), he, ← expOf_sv st args]
  cases e with
  | exit i => exact hq.elim
  | normal => show Option.map _ (retRow C.P st fn.results.toList) = _; rw [show retRow C.P st fn.results.toList = some r from hq]; rfl
  | ret => show Option.map _ (retRow C.P st fn.results.toList) = _; rw [show retRow C.P st fn.results.toList = some r from hq]; rfl
/-- A function that writes what it is handed: what comes of it is told by the walk's end. -/
theorem FnI_of {f : FuncId} {fn : Func} {body : Code} {args : List Arg} {T : SV → List (Option (List SV)) → Prop} (hf : C.P.funcs[f]? = some fn) (hok : C.good f = true) (hb : fn.body = some body) (hX : ∀ ars, C.X f ars = none) (hl : args.length ≤ fn.ntmps)
    (h : WP C body (argSt args) (fun e s => ∃ r exps, T r exps ∧ RQ C.P fn.results.toList r e s ∧ expOf s args = exps)) : ∃ r exps, T r exps ∧ FnI C f args r exps := by
  obtain ⟨n, e, st, he, r, exps, hT, hq, hexp⟩ := h
  refine ⟨r, exps, hT, n + 1, ?_⟩
  unfold callN
  rw [hX]
  simp only [hf, hok, hb, if_true]
  rw [if_pos hl, he, ← hexp]
  cases e with
  | exit i => exact hq.elim
  | normal => show Option.map _ (retOf C.P st fn.results.toList) = _; rw [show retOf C.P st fn.results.toList = some (.sv r) from hq]; rfl
  | ret => show Option.map _ (retOf C.P st fn.results.toList) = _; rw [show retOf C.P st fn.results.toList = some (.sv r) from hq]; rfl
theorem rr_one {P : Program} {t : Nat} {r : Ret} : RR P [.tmp t] r .ret st = ((match st.tmp t with
    | .ref d g size off n => if d < 1000000 then (st.obj d g).map fun cs => Ret.row cs size off n else none
    | _ => none) = some r) := by
  show (retRow P st [.tmp t] = some r) = _
  unfold retRow resTV
  dsimp only
  generalize st.tmp t = v
  cases v <;> rfl
end
attribute [go_sem] rr_one
end Go.Ev

/- vernierlaw9.known: the kernel reckons it. -/
namespace Go.Proofs.YtodiciendlhkgaaGreat
open Go.Ev
/-- Clone alone comes by contract. -/
noncomputable def CZ : Cx := { P := Tryz.prog, X := cloneX 162, mu := fun f => Nat.beq f 177, good := good }
theorem CZ_P : CZ.P = Tryz.prog := _root_.id rfl
theorem CZ_mu (f : Nat) : CZ.mu f = Nat.beq f 177 := _root_.id rfl
/-- nat.left gives a row that its caller may write. -/
noncomputable def XL : Callf := fun g args => if Nat.beq g 170 then (match args with
    | [.sv s, .sv (.int .u64 (.ofNat k)), .sv (.int .i64 (.ofNat n))] => match decV s with
      | some xs => if k < 32 ∧ xs.length ≤ n ∧ n ≤ xs.length + 1 then some (.row ((limN n (wth xs * 2 ^ k)).map limb) 1 0 n, [none, none, none]) else none
      | none => none
    | _ => none) else CZ.X g args
noncomputable def CX : Cx := { CZ with X := XL }
theorem CX_P : CX.P = Tryz.prog := _root_.id rfl
theorem CX_mu (f : Nat) : CX.mu f = Nat.beq f 177 := _root_.id rfl
attribute [go_sem] CZ_P CZ_mu CX_P CX_mu Nat.reduceBEq
/-- 1: it gives true. -/
def says (o : Option (Ret × List (Option (List SV)))) : Bool := match o with
  | some (.sv (.bool true), _) => true
  | _ => false
theorem says_fn {C : Cx} {f : FuncId} {args : List SV} {n : Nat} (h : says (callN C.P C.X C.mu C.good n f (args.map Arg.sv)) = true) : Go.Ev.Fn C f args (.bool true) := by
  unfold says at h
  split at h
  · rename_i e he
    exact ⟨n, e, he⟩
  · cases h
end Go.Proofs.YtodiciendlhkgaaGreat

/- Contracts that are kept in a table. -/
namespace Go.Ev

theorem tab_ok {P : Program} {X : Callf} {mu good : FuncId → Bool} (hX : CallOk P X) (hg : Good P good) (X1 : Callf)
    (h : ∀ g args r exps, X1 g args = some (r, exps) → X g args = some (r, exps) ∨ (exps = [] ∧ ∃ ars s, args = ars.map Arg.sv ∧ r = .sv s ∧ Fn ⟨P, X, mu, good⟩ g ars s)) : CallOk P X1 := by
  intro g args r exps h1
  rcases h g args r exps h1 with h2 | ⟨rfl, ars, s, rfl, rfl, n, e, hn⟩
  · exact hX g args r exps h2
  · obtain ⟨h3, h4⟩ := callN_ok hX hg mu n g _ _ e hn
    refine ⟨h3, fun w F B vals hF hsz hrep hinj => (h4 w F B vals hF hsz hrep hinj).mono ?_⟩
    rintro e' w' ⟨v, rfl, hr, he, _⟩
    exact ⟨v, rfl, hr, he, fun i cs hi => by simp at hi⟩
/-- A table with rows of the caller's own in it, too. -/
theorem tab_row_ok {P : Program} {X : Callf} {mu good : FuncId → Bool} (hX : CallOk P X) (hg : Good P good) (X1 : Callf)
    (h : ∀ g args r exps, X1 g args = some (r, exps) → X g args = some (r, exps) ∨ ∃ n, rowN P X mu good n g args = some (r, exps)) : CallOk P X1 := by
  intro g args r exps h1
  rcases h g args r exps h1 with h2 | ⟨n, h2⟩
  · exact hX g args r exps h2
  · exact rowN_ok hX hg h2
end Go.Ev

/- slices.Clone of this program. -/
namespace Go.Proofs.YtodiciendlhkgaaGreat
set_option linter.unusedSimpArgs false
set_option linter.unusedVariables false
set_option maxRecDepth 8000
open Go.Ev
noncomputable def C0 : Cx := { P := Tryz.prog, X := fun _ _ => none, mu := fun _ => false, good := fun _ => false }
theorem C0_P : C0.P = Tryz.prog := rfl
theorem clone_ok : CallOk Tryz.prog CZ.X := by
  refine cloneX_ok (f := 162) (fn := Tryz.f162) (e := (56, 1, 4)) (by kernel_rfl) (by kernel_rfl) rfl (Nat.lt_of_lt_of_le (Nat.lt_succ_self 4) (Nat.le_of_ble_eq_true (by kernel_rfl))) (by kernel_rfl) fun n cs => ?_
  refine ⟨20, _, rfl, rfl, ⟨20, _, rfl, rfl⟩, fun h1 h2 h3 => ?_⟩
  have hC : ∀ m, CallOk Tryz.prog (callN C0.P C0.X C0.mu C0.good m) := fun m => callN_ok (fun g args r exps h => by cases h) (fun f fn h => by cases h) _ m
  suffices h : ∀ {c : Code} {st : St}, WP C0 c st (fun e s => e = .ret ∧ retOf Tryz.prog s Tryz.f162.results.toList = some (.sv (.sl n cs))) → ∃ call mu k st', CallOk Tryz.prog call ∧ exec Tryz.prog call mu k c st = some (.ret, st') ∧ retOf Tryz.prog st' Tryz.f162.results.toList = some (.sv (.sl n cs)) by
    refine h ?_
    have hlen : (List.length cs : Nat) = n * 1 := by omega
    have h2' : cs.all SV.one = true := h2
    have h5 : (5 < N0) = True := by simp [N0]
    have hr : Tryz.f162.results.toList = [.tmp 2] := by kernel_rfl
    rcases Nat.eq_zero_or_pos n with rfl | hn
    · have : cs = [] := List.eq_nil_of_length_eq_zero h1
      subst this
      simp only [go_sem, Nat.reduceEqDiff, Nat.reduceAdd, Nat.reduceSub, Nat.reduceMul, Nat.reduceLeDiff, Nat.reduceLT, reduceIte, reduceCtorEq, Nat.succ_ne_zero, elemsC, Int.reduceToNat, Nat.reducePow, C0_P, h1, h2, h2', h3, h5, hr, elemsC, Nat.zero_le, Nat.mul_one, Nat.zero_mul, Nat.zero_add, retOf, resTV, outSV]
    · have hn0 : ¬ n = 0 := by omega
      simp only [go_sem, Nat.reduceEqDiff, Nat.reduceAdd, Nat.reduceSub, Nat.reduceMul, Nat.reduceLeDiff, Nat.reduceLT, reduceIte, reduceCtorEq, Nat.succ_ne_zero, elemsC, Int.reduceToNat, Nat.reducePow, C0_P, h1, h2, h2', h3, h5, hn0, hr, elemsC, Nat.zero_le, Nat.mul_one, Nat.zero_mul, Nat.zero_add, retOf, resTV, outSV]
      rw [List.take_of_length_le (by omega)]
  rintro c st ⟨m, e, s, he, rfl, hr⟩
  exact ⟨_, _, m, s, hC m, he, hr⟩
end Go.Proofs.YtodiciendlhkgaaGreat

/- nat's small functions, in the evaluator. -/
namespace Go.Proofs.YtodiciendlhkgaaGreat
set_option linter.unusedSimpArgs false
set_option linter.unusedVariables false
set_option maxRecDepth 8000
open Go.Ev

theorem nat_Is (xs : List Nat) (hl : xs.length ≤ 1099511627776) : Go.Ev.Fn CX 157 [natV xs] (.bool (isT xs)) := by
  refine Go.Ev.Fn.intro (fn := Tryz.f157) (body := (Tryz.f157).body.get!) (by kernel_rfl) (by kernel_rfl) (by kernel_rfl) (fun _ => rfl) (Nat.le_of_ble_eq_true (by kernel_rfl)) ?_; unfold Tryz.f157; simp only [Option.get!_some]
  by_cases h0 : xs.length = 0
  · have e : isT xs = true := by simp [isT, h0]
    rw [e]
    repeat (first | (simp only [go_sem, Nat.reduceEqDiff, Nat.reduceAdd, Nat.reduceSub, Nat.reduceMul, Nat.reduceLeDiff, Nat.reduceLT, reduceIte, reduceCtorEq, Nat.succ_ne_zero, elemsC, Int.reduceToNat, Nat.reducePow]) | (simp (disch := (first | omega | (simp only [AL, List.length_map]; omega))) only [AR, AL, ifT, ifF, take_all, List.length_cons, List.length_nil, Int.reduceToNat, Int.reducePow, Nat.reducePow]) | (refine wk_intro (by kernel_rfl) ?_) | (refine vp_draw (l := []) (by kernel_rfl) ?_))
  · have e : isT xs = (xs.getD (xs.length - 1) 0 != 0) := by simp [isT, h0]
    rw [e]
    repeat (first | (simp only [go_sem, Nat.reduceEqDiff, Nat.reduceAdd, Nat.reduceSub, Nat.reduceMul, Nat.reduceLeDiff, Nat.reduceLT, reduceIte, reduceCtorEq, Nat.succ_ne_zero, elemsC, Int.reduceToNat, Nat.reducePow]) | (simp (disch := (first | omega | (simp only [AL, List.length_map]; omega))) only [AR, AL, ifT, ifF, take_all, List.length_cons, List.length_nil, Int.reduceToNat, Int.reducePow, Nat.reducePow]) | (refine wk_intro (by kernel_rfl) ?_) | (refine vp_draw (l := []) (by kernel_rfl) ?_))
    rw [bne_nat]

/-- Taking noughts from the end. -/
theorem lim_dropLast {xs : List Nat} (h : isT xs = false) : xs.length ≠ 0 ∧ lim (wth (xs.take (xs.length - 1))) = lim (wth xs) := by
  unfold isT at h
  simp only [Bool.or_eq_false_iff, beq_eq_false_iff_ne, bne_eq_false_iff_eq] at h
  refine ⟨h.1, ?_⟩
  rcases xs.eq_nil_or_concat with rfl | ⟨ys, z, rfl⟩
  · rfl
  · rw [List.concat_eq_append] at h ⊢
    have e : z = 0 := by simpa using h.2
    subst e
    simp [lim_snoc0]
theorem nat_trim (xs : List Nat) (hx : okL xs) (hl : xs.length ≤ 1099511627776) : Go.Ev.Fn CX 122 [natV xs] (natV (lim (wth xs))) := by
  refine Go.Ev.Fn.intro (fn := Tryz.f122) (body := (Tryz.f122).body.get!) (by kernel_rfl) (by kernel_rfl) (by kernel_rfl) (fun _ => rfl) (Nat.le_of_ble_eq_true (by kernel_rfl)) ?_; unfold Tryz.f122; simp only [Option.get!_some]
  simp only [go_sem, Nat.reduceEqDiff, Nat.reduceAdd, Nat.reduceSub, Nat.reduceMul, Nat.reduceLeDiff, Nat.reduceLT, reduceIte, reduceCtorEq, Nat.succ_ne_zero, elemsC, Int.reduceToNat, Nat.reducePow]
  refine vp_loop_inv (fun s => ∃ ys, s.tmp 0 = .sv (natV ys) ∧ okL ys ∧ ys.length ≤ xs.length ∧ lim (wth ys) = lim (wth xs)) (fun s => (lenTV (s.tmp 0)).getD 0) ⟨xs, rfl, hx, Nat.le_refl _, rfl⟩ ?_
  rintro s ⟨ys, h0, hy, hle, he⟩
  repeat (first | (simp only [go_sem, Nat.reduceEqDiff, Nat.reduceAdd, Nat.reduceSub, Nat.reduceMul, Nat.reduceLeDiff, Nat.reduceLT, reduceIte, reduceCtorEq, Nat.succ_ne_zero, elemsC, Int.reduceToNat, Nat.reducePow, h0]) | (simp (disch := (first | omega | (simp only [AL, List.length_map]; omega))) only [AR, AL, ifT, ifF, take_all, List.length_cons, List.length_nil, Int.reduceToNat, Int.reducePow, Nat.reducePow, h0]) | (refine wk_intro (by kernel_rfl) ?_) | (refine vp_draw (l := []) (by kernel_rfl) ?_))
  refine vf_of (nat_Is ys (by omega)) ?_; simp only [go_sem, Nat.reduceEqDiff, Nat.reduceAdd, Nat.reduceSub, Nat.reduceMul, Nat.reduceLeDiff, Nat.reduceLT, reduceIte, reduceCtorEq, Nat.succ_ne_zero, elemsC, Int.reduceToNat, Nat.reducePow, h0]
  by_cases hT : isT ys = true
  · repeat (first | (simp only [go_sem, Nat.reduceEqDiff, Nat.reduceAdd, Nat.reduceSub, Nat.reduceMul, Nat.reduceLeDiff, Nat.reduceLT, reduceIte, reduceCtorEq, Nat.succ_ne_zero, elemsC, Int.reduceToNat, Nat.reducePow, h0, hT, Bool.not_true]) | (simp (disch := (first | omega | (simp only [AL, List.length_map]; omega))) only [AR, AL, ifT, ifF, take_all, List.length_cons, List.length_nil, Int.reduceToNat, Int.reducePow, Nat.reducePow, h0, hT, Bool.not_true]) | (refine wk_intro (by kernel_rfl) ?_) | (refine vp_draw (l := []) (by kernel_rfl) ?_))
    rw [← he, ← lim_unique hy (isT_iff.1 hT)]
  · have hT : isT ys = false := by simpa using hT
    obtain ⟨h1, h2⟩ := lim_dropLast hT
    repeat (first | (simp only [go_sem, Nat.reduceEqDiff, Nat.reduceAdd, Nat.reduceSub, Nat.reduceMul, Nat.reduceLeDiff, Nat.reduceLT, reduceIte, reduceCtorEq, Nat.succ_ne_zero, elemsC, Int.reduceToNat, Nat.reducePow, h0, hT, Bool.not_false]) | (simp (disch := (first | omega | (simp only [AL, List.length_map]; omega))) only [AR, AL, ifT, ifF, take_all, List.length_cons, List.length_nil, Int.reduceToNat, Int.reducePow, Nat.reducePow, h0, hT, Bool.not_false]) | (refine wk_intro (by kernel_rfl) ?_) | (refine vp_draw (l := []) (by kernel_rfl) ?_))
    refine ⟨⟨ys.take (ys.length - 1), ?_, okL_take hy _, ?_, h2.trans he⟩, ?_⟩
    · rw [natV_cut (by omega)]
    · rw [List.length_take]; omega
    · simp only [lenTV, Option.getD_some]; omega
theorem nat_Trim (xs : List Nat) (hx : okL xs) (hl : xs.length ≤ 274877906944) : Go.Ev.Fn CX 134 [natV xs] (natV (lim (wth xs))) := by
  have hc : Go.Ev.Fn CX 162 [natV (lim (wth xs))] (natV (lim (wth xs))) := by
    refine ⟨1, [none], ?_⟩
    have h1 := lim_length_le hx
    have h2 := natV_one (lim (wth xs))
    have h3 : cloneX 162 162 [.sv (natV (lim (wth xs)))] = some (.sv (natV (lim (wth xs))), [none]) := by
      simp only [cloneX, if_true]
      rw [if_pos ⟨natV_len _, h2, by omega⟩]
    have h4 : CX.X 162 [.sv (natV (lim (wth xs)))] = some (.sv (natV (lim (wth xs))), [none]) := h3
    unfold callN
    rw [List.map_cons, List.map_nil, h4]
  refine Go.Ev.Fn.intro (fn := Tryz.f134) (body := (Tryz.f134).body.get!) (by kernel_rfl) (by kernel_rfl) (by kernel_rfl) (fun _ => rfl) (Nat.le_of_ble_eq_true (by kernel_rfl)) ?_; unfold Tryz.f134; simp only [Option.get!_some]
  simp only [go_sem, Nat.reduceEqDiff, Nat.reduceAdd, Nat.reduceSub, Nat.reduceMul, Nat.reduceLeDiff, Nat.reduceLT, reduceIte, reduceCtorEq, Nat.succ_ne_zero, elemsC, Int.reduceToNat, Nat.reducePow]
  refine vf_of (nat_trim xs hx (by omega)) ?_; simp only [go_sem, Nat.reduceEqDiff, Nat.reduceAdd, Nat.reduceSub, Nat.reduceMul, Nat.reduceLeDiff, Nat.reduceLT, reduceIte, reduceCtorEq, Nat.succ_ne_zero, elemsC, Int.reduceToNat, Nat.reducePow]
  refine vf_of (hc) ?_; simp only [go_sem, Nat.reduceEqDiff, Nat.reduceAdd, Nat.reduceSub, Nat.reduceMul, Nat.reduceLeDiff, Nat.reduceLT, reduceIte, reduceCtorEq, Nat.succ_ne_zero, elemsC, Int.reduceToNat, Nat.reducePow]
theorem nat_Of (n : Nat) (hn : n < 18446744073709551616) : Go.Ev.Fn CX 75 [.int .u64 n] (natV (lim n)) := by
  refine Go.Ev.Fn.intro (fn := Tryz.f75) (body := (Tryz.f75).body.get!) (by kernel_rfl) (by kernel_rfl) (by kernel_rfl) (fun _ => rfl) (Nat.le_of_ble_eq_true (by kernel_rfl)) ?_; unfold Tryz.f75; simp only [Option.get!_some]
  repeat (first | (simp only [go_sem, Nat.reduceEqDiff, Nat.reduceAdd, Nat.reduceSub, Nat.reduceMul, Nat.reduceLeDiff, Nat.reduceLT, reduceIte, reduceCtorEq, Nat.succ_ne_zero, elemsC, Int.reduceToNat, Nat.reducePow]) | (simp (disch := (first | omega | (simp only [AL, List.length_map]; omega))) only [AR, AL, ifT, ifF, take_all, List.length_cons, List.length_nil, Int.reduceToNat, Int.reducePow, Nat.reducePow]) | (refine wk_intro (by kernel_rfl) ?_) | (refine vp_draw (l := []) (by kernel_rfl) ?_))
  have e : wth [n % 4294967296, n / 4294967296] = n := by simp only [wth]; omega
  refine vf_of (nat_trim [n % 4294967296, n / 4294967296] (by simp [okL]; omega) (by simp)) ?_; repeat (first | (simp only [go_sem, Nat.reduceEqDiff, Nat.reduceAdd, Nat.reduceSub, Nat.reduceMul, Nat.reduceLeDiff, Nat.reduceLT, reduceIte, reduceCtorEq, Nat.succ_ne_zero, elemsC, Int.reduceToNat, Nat.reducePow]) | (simp (disch := (first | omega | (simp only [AL, List.length_map]; omega))) only [AR, AL, ifT, ifF, take_all, List.length_cons, List.length_nil, Int.reduceToNat, Int.reducePow, Nat.reducePow]) | (refine wk_intro (by kernel_rfl) ?_) | (refine vp_draw (l := []) (by kernel_rfl) ?_))
  rw [e]
end Go.Proofs.YtodiciendlhkgaaGreat

/- nat.Cmp, in the evaluator. -/
namespace Go.Proofs.YtodiciendlhkgaaGreat
set_option linter.unusedSimpArgs false
set_option linter.unusedVariables false
set_option maxRecDepth 8000
open Go.Ev
/-- -1, 0 or 1. -/
def cmpN (a b : Nat) : Int := if a < b then -1 else if a = b then 0 else 1
theorem wth_lt_of {xs ys : List Nat} (hx : okL xs) (hy : okL ys) (hl : xs.length = ys.length) {i : Nat} (hi : i < xs.length) (hd : xs.drop (i + 1) = ys.drop (i + 1)) (h : xs.getD i 0 < ys.getD i 0) : wth xs < wth ys := by
  have h1 : ∀ (zs : List Nat), i < zs.length → wth zs = wth (zs.take i) + 4294967296 ^ i * (zs.getD i 0 + 4294967296 * wth (zs.drop (i + 1))) := by
    intro zs hz
    conv => lhs; rw [← List.take_append_drop i zs]
    rw [wth_append, List.length_take, Nat.min_eq_left (by omega), List.drop_eq_getElem_cons hz, wth_cons, List.getD_eq_getElem?_getD, List.getElem?_eq_getElem hz]
    rfl
  rw [h1 xs hi, h1 ys (by omega), hd]
  have h2 := wth_lt (okL_take hx i)
  rw [List.length_take, Nat.min_eq_left (by omega)] at h2
  have h3 : 4294967296 ^ i * (xs.getD i 0 + 4294967296 * wth (ys.drop (i + 1)) + 1) ≤ 4294967296 ^ i * (ys.getD i 0 + 4294967296 * wth (ys.drop (i + 1))) := Nat.mul_le_mul_left _ (by omega)
  rw [Nat.mul_add _ _ 1, Nat.mul_one] at h3
  omega
theorem lim_length_lt {a b : Nat} (h : (lim a).length < (lim b).length) : a < b := by
  rcases Nat.lt_or_ge a b with h1 | h1
  · exact h1
  · have := trimL_length (okL_lim b) (okL_lim a) (trimL_lim b) (by rw [wth_lim, wth_lim]; exact h1)
    omega
theorem nat_Cmp (xs ys : List Nat) (hx : okL xs) (hy : okL ys) (hl : xs.length ≤ 1099511627776) (hm : ys.length ≤ 1099511627776) : Go.Ev.Fn CX 123 [natV xs, natV ys] (.int .i64 (cmpN (wth xs) (wth ys))) := by
  refine Go.Ev.Fn.intro (fn := Tryz.f123) (body := (Tryz.f123).body.get!) (by kernel_rfl) (by kernel_rfl) (by kernel_rfl) (fun _ => rfl) (Nat.le_of_ble_eq_true (by kernel_rfl)) ?_; unfold Tryz.f123; simp only [Option.get!_some]
  have lx := lim_length_le hx
  have ly := lim_length_le hy
  repeat (first | (simp only [go_sem, Nat.reduceEqDiff, Nat.reduceAdd, Nat.reduceSub, Nat.reduceMul, Nat.reduceLeDiff, Nat.reduceLT, reduceIte, reduceCtorEq, Nat.succ_ne_zero, elemsC, Int.reduceToNat, Nat.reducePow]) | (simp (disch := (first | omega | (simp only [AL, List.length_map]; omega))) only [AR, AL, ifT, ifF, take_all, List.length_cons, List.length_nil, Int.reduceToNat, Int.reducePow, Nat.reducePow]) | (refine wk_intro (by kernel_rfl) ?_) | (refine vp_draw (l := []) (by kernel_rfl) ?_))
  refine vf_of (nat_trim xs hx (by omega)) ?_; repeat (first | (simp only [go_sem, Nat.reduceEqDiff, Nat.reduceAdd, Nat.reduceSub, Nat.reduceMul, Nat.reduceLeDiff, Nat.reduceLT, reduceIte, reduceCtorEq, Nat.succ_ne_zero, elemsC, Int.reduceToNat, Nat.reducePow]) | (simp (disch := (first | omega | (simp only [AL, List.length_map]; omega))) only [AR, AL, ifT, ifF, take_all, List.length_cons, List.length_nil, Int.reduceToNat, Int.reducePow, Nat.reducePow]) | (refine wk_intro (by kernel_rfl) ?_) | (refine vp_draw (l := []) (by kernel_rfl) ?_))
  refine vf_of (nat_trim ys hy (by omega)) ?_; repeat (first | (simp only [go_sem, Nat.reduceEqDiff, Nat.reduceAdd, Nat.reduceSub, Nat.reduceMul, Nat.reduceLeDiff, Nat.reduceLT, reduceIte, reduceCtorEq, Nat.succ_ne_zero, elemsC, Int.reduceToNat, Nat.reducePow]) | (simp (disch := (first | omega | (simp only [AL, List.length_map]; omega))) only [AR, AL, ifT, ifF, take_all, List.length_cons, List.length_nil, Int.reduceToNat, Int.reducePow, Nat.reducePow]) | (refine wk_intro (by kernel_rfl) ?_) | (refine vp_draw (l := []) (by kernel_rfl) ?_))
  by_cases h1 : (lim (wth xs)).length = (lim (wth ys)).length
  · repeat (first | (simp only [go_sem, Nat.reduceEqDiff, Nat.reduceAdd, Nat.reduceSub, Nat.reduceMul, Nat.reduceLeDiff, Nat.reduceLT, reduceIte, reduceCtorEq, Nat.succ_ne_zero, elemsC, Int.reduceToNat, Nat.reducePow]) | (simp (disch := (first | omega | (simp only [AL, List.length_map]; omega))) only [AR, AL, ifT, ifF, take_all, List.length_cons, List.length_nil, Int.reduceToNat, Int.reducePow, Nat.reducePow]) | (refine wk_intro (by kernel_rfl) ?_))
    refine vp_loop_inv (fun s => s.tmp 0 = .sv (natV (lim (wth xs))) ∧ s.tmp 1 = .sv (natV (lim (wth ys))) ∧ ∃ i : Nat, s.tmp 5 = .sv (.int .i64 ((i : Int) - 1)) ∧ i ≤ (lim (wth xs)).length ∧ (lim (wth xs)).drop i = (lim (wth ys)).drop i)
      (fun s => match s.tmp 5 with | .sv (.int _ i) => (i + 1).toNat | _ => 0) ⟨rfl, rfl, (lim (wth xs)).length, rfl, Nat.le_refl _, ?_⟩ ?_
    · rw [List.drop_length, h1, List.drop_length]
    rintro s ⟨g0, g1, i, g5, hi, hd⟩
    rcases Nat.eq_zero_or_pos i with rfl | hi0
    · have e : cmpN (wth xs) (wth ys) = 0 := by
        have := congrArg wth hd
        rw [List.drop_zero, List.drop_zero, wth_lim, wth_lim] at this
        rw [this]
        simp [cmpN]
      rw [e]
      repeat (first | (simp only [go_sem, Nat.reduceEqDiff, Nat.reduceAdd, Nat.reduceSub, Nat.reduceMul, Nat.reduceLeDiff, Nat.reduceLT, reduceIte, reduceCtorEq, Nat.succ_ne_zero, elemsC, Int.reduceToNat, Nat.reducePow, g0, g1, g5]) | (simp (disch := (first | omega | (simp only [AL, List.length_map]; omega))) only [AR, AL, ifT, ifF, take_all, List.length_cons, List.length_nil, Int.reduceToNat, Int.reducePow, Nat.reducePow, g0, g1, g5]) | (refine wk_intro (by kernel_rfl) ?_) | (refine vp_draw (l := []) (by kernel_rfl) ?_))
    · repeat (first | (simp only [go_sem, Nat.reduceEqDiff, Nat.reduceAdd, Nat.reduceSub, Nat.reduceMul, Nat.reduceLeDiff, Nat.reduceLT, reduceIte, reduceCtorEq, Nat.succ_ne_zero, elemsC, Int.reduceToNat, Nat.reducePow, g0, g1, g5]) | (simp (disch := (first | omega | (simp only [AL, List.length_map]; omega))) only [AR, AL, ifT, ifF, take_all, List.length_cons, List.length_nil, Int.reduceToNat, Int.reducePow, Nat.reducePow, g0, g1, g5]) | (refine wk_intro (by kernel_rfl) ?_) | (refine vp_draw (l := []) (by kernel_rfl) ?_))
      have hdr : ∀ zs : List Nat, i ≤ zs.length → zs.drop (i - 1) = zs.getD (i - 1) 0 :: zs.drop i := by
        intro zs hz
        rw [List.drop_eq_getElem_cons (show i - 1 < zs.length by omega), List.getD_eq_getElem?_getD, List.getElem?_eq_getElem (show i - 1 < zs.length by omega), show i - 1 + 1 = i by omega]
        rfl
      rcases Nat.lt_trichotomy ((lim (wth xs)).getD (i - 1) 0) ((lim (wth ys)).getD (i - 1) 0) with hc | hc | hc
      · have := wth_lt_of (okL_lim _) (okL_lim _) h1 (i := i - 1) (by omega) (by rw [show i - 1 + 1 = i by omega]; exact hd) hc
        rw [wth_lim, wth_lim] at this
        have e : cmpN (wth xs) (wth ys) = -1 := by simp [cmpN, this]
        rw [e]
        repeat (first | (simp only [go_sem, Nat.reduceEqDiff, Nat.reduceAdd, Nat.reduceSub, Nat.reduceMul, Nat.reduceLeDiff, Nat.reduceLT, reduceIte, reduceCtorEq, Nat.succ_ne_zero, elemsC, Int.reduceToNat, Nat.reducePow, g0, g1, g5]) | (simp (disch := (first | omega | (simp only [AL, List.length_map]; omega))) only [AR, AL, ifT, ifF, take_all, List.length_cons, List.length_nil, Int.reduceToNat, Int.reducePow, Nat.reducePow, g0, g1, g5]) | (refine wk_intro (by kernel_rfl) ?_) | (refine vp_draw (l := []) (by kernel_rfl) ?_))
      · repeat (first | (simp only [go_sem, Nat.reduceEqDiff, Nat.reduceAdd, Nat.reduceSub, Nat.reduceMul, Nat.reduceLeDiff, Nat.reduceLT, reduceIte, reduceCtorEq, Nat.succ_ne_zero, elemsC, Int.reduceToNat, Nat.reducePow, g0, g1, g5]) | (simp (disch := (first | omega | (simp only [AL, List.length_map]; omega))) only [AR, AL, ifT, ifF, take_all, List.length_cons, List.length_nil, Int.reduceToNat, Int.reducePow, Nat.reducePow, g0, g1, g5]) | (refine wk_intro (by kernel_rfl) ?_) | (refine vp_draw (l := []) (by kernel_rfl) ?_))
        refine ⟨⟨i - 1, ?_, by omega, ?_⟩, by omega⟩
        · simp only [Int.natCast_sub hi0]
        · rw [hdr _ hi, hdr _ (by omega), hc, hd]
      · have := wth_lt_of (okL_lim _) (okL_lim _) h1.symm (i := i - 1) (by omega) (by rw [show i - 1 + 1 = i by omega]; exact hd.symm) hc
        rw [wth_lim, wth_lim] at this
        have e : cmpN (wth xs) (wth ys) = 1 := by unfold cmpN; rw [if_neg (by omega), if_neg (by omega)]
        rw [e]
        repeat (first | (simp only [go_sem, Nat.reduceEqDiff, Nat.reduceAdd, Nat.reduceSub, Nat.reduceMul, Nat.reduceLeDiff, Nat.reduceLT, reduceIte, reduceCtorEq, Nat.succ_ne_zero, elemsC, Int.reduceToNat, Nat.reducePow, g0, g1, g5]) | (simp (disch := (first | omega | (simp only [AL, List.length_map]; omega))) only [AR, AL, ifT, ifF, take_all, List.length_cons, List.length_nil, Int.reduceToNat, Int.reducePow, Nat.reducePow, g0, g1, g5]) | (refine wk_intro (by kernel_rfl) ?_) | (refine vp_draw (l := []) (by kernel_rfl) ?_))
  · by_cases h2 : (lim (wth xs)).length < (lim (wth ys)).length
    · have := lim_length_lt h2
      have e : cmpN (wth xs) (wth ys) = -1 := by simp [cmpN, this]
      rw [e]
      repeat (first | (simp only [go_sem, Nat.reduceEqDiff, Nat.reduceAdd, Nat.reduceSub, Nat.reduceMul, Nat.reduceLeDiff, Nat.reduceLT, reduceIte, reduceCtorEq, Nat.succ_ne_zero, elemsC, Int.reduceToNat, Nat.reducePow]) | (simp (disch := (first | omega | (simp only [AL, List.length_map]; omega))) only [AR, AL, ifT, ifF, take_all, List.length_cons, List.length_nil, Int.reduceToNat, Int.reducePow, Nat.reducePow]) | (refine wk_intro (by kernel_rfl) ?_) | (refine vp_draw (l := []) (by kernel_rfl) ?_))
    · have := lim_length_lt (a := wth ys) (b := wth xs) (by omega)
      have e : cmpN (wth xs) (wth ys) = 1 := by unfold cmpN; rw [if_neg (by omega), if_neg (by omega)]
      rw [e]
      repeat (first | (simp only [go_sem, Nat.reduceEqDiff, Nat.reduceAdd, Nat.reduceSub, Nat.reduceMul, Nat.reduceLeDiff, Nat.reduceLT, reduceIte, reduceCtorEq, Nat.succ_ne_zero, elemsC, Int.reduceToNat, Nat.reducePow]) | (simp (disch := (first | omega | (simp only [AL, List.length_map]; omega))) only [AR, AL, ifT, ifF, take_all, List.length_cons, List.length_nil, Int.reduceToNat, Int.reducePow, Nat.reducePow]) | (refine wk_intro (by kernel_rfl) ?_) | (refine vp_draw (l := []) (by kernel_rfl) ?_))
end Go.Proofs.YtodiciendlhkgaaGreat

/- nat.Add, in the evaluator. -/
namespace Go.Proofs.YtodiciendlhkgaaGreat
set_option linter.unusedSimpArgs false
set_option linter.unusedVariables false
set_option maxRecDepth 8000
open Go.Ev
theorem nat_Add (xs ys : List Nat) (hx : okL xs) (hy : okL ys) (hl : xs.length ≤ 1073741824) (hm : ys.length ≤ 1073741824) : Go.Ev.Fn CX 84 [natV xs, natV ys] (natV (lim (wth xs + wth ys))) := by
  refine Go.Ev.Fn.intro (fn := Tryz.f84) (body := (Tryz.f84).body.get!) (by kernel_rfl) (by kernel_rfl) (by kernel_rfl) (fun _ => rfl) (Nat.le_of_ble_eq_true (by kernel_rfl)) ?_; unfold Tryz.f84; simp only [Option.get!_some]
  have lx := lim_length_le hx
  have ly := lim_length_le hy
  repeat (first | (simp only [go_sem, Nat.reduceEqDiff, Nat.reduceAdd, Nat.reduceSub, Nat.reduceMul, Nat.reduceLeDiff, Nat.reduceLT, reduceIte, reduceCtorEq, Nat.succ_ne_zero, elemsC, Int.reduceToNat, Nat.reducePow]) | (simp (disch := (first | omega | (simp only [AL, List.length_map]; omega))) only [AR, AL, ifT, ifF, take_all, List.length_cons, List.length_nil, Int.reduceToNat, Int.reducePow, Nat.reducePow]) | (refine wk_intro (by kernel_rfl) ?_) | (refine vp_draw (l := []) (by kernel_rfl) ?_))
  refine vf_of (nat_trim xs hx (by omega)) ?_; repeat (first | (simp only [go_sem, Nat.reduceEqDiff, Nat.reduceAdd, Nat.reduceSub, Nat.reduceMul, Nat.reduceLeDiff, Nat.reduceLT, reduceIte, reduceCtorEq, Nat.succ_ne_zero, elemsC, Int.reduceToNat, Nat.reducePow]) | (simp (disch := (first | omega | (simp only [AL, List.length_map]; omega))) only [AR, AL, ifT, ifF, take_all, List.length_cons, List.length_nil, Int.reduceToNat, Int.reducePow, Nat.reducePow]) | (refine wk_intro (by kernel_rfl) ?_) | (refine vp_draw (l := []) (by kernel_rfl) ?_))
  refine vf_of (nat_trim ys hy (by omega)) ?_; repeat (first | (simp only [go_sem, Nat.reduceEqDiff, Nat.reduceAdd, Nat.reduceSub, Nat.reduceMul, Nat.reduceLeDiff, Nat.reduceLT, reduceIte, reduceCtorEq, Nat.succ_ne_zero, elemsC, Int.reduceToNat, Nat.reducePow]) | (simp (disch := (first | omega | (simp only [AL, List.length_map]; omega))) only [AR, AL, ifT, ifF, take_all, List.length_cons, List.length_nil, Int.reduceToNat, Int.reducePow, Nat.reducePow]) | (refine wk_intro (by kernel_rfl) ?_) | (refine vp_draw (l := []) (by kernel_rfl) ?_))
  refine vc_cut (Mid := fun s => ∃ a b, s.tmp 0 = .sv (natV a) ∧ s.tmp 1 = .sv (natV b) ∧ okL a ∧ okL b ∧ b.length ≤ a.length ∧ a.length ≤ 1073741824 ∧ wth a + wth b = wth xs + wth ys) ?_ ?_
  · by_cases h1 : (lim (wth xs)).length < (lim (wth ys)).length
    · repeat (first | (simp only [go_sem, Nat.reduceEqDiff, Nat.reduceAdd, Nat.reduceSub, Nat.reduceMul, Nat.reduceLeDiff, Nat.reduceLT, reduceIte, reduceCtorEq, Nat.succ_ne_zero, elemsC, Int.reduceToNat, Nat.reducePow]) | (simp (disch := (first | omega | (simp only [AL, List.length_map]; omega))) only [AR, AL, ifT, ifF, take_all, List.length_cons, List.length_nil, Int.reduceToNat, Int.reducePow, Nat.reducePow]) | (refine wk_intro (by kernel_rfl) ?_) | (refine vp_draw (l := []) (by kernel_rfl) ?_))
      exact ⟨_, _, rfl, rfl, okL_lim _, okL_lim _, by omega, by omega, by rw [wth_lim, wth_lim]; omega⟩
    · repeat (first | (simp only [go_sem, Nat.reduceEqDiff, Nat.reduceAdd, Nat.reduceSub, Nat.reduceMul, Nat.reduceLeDiff, Nat.reduceLT, reduceIte, reduceCtorEq, Nat.succ_ne_zero, elemsC, Int.reduceToNat, Nat.reducePow]) | (simp (disch := (first | omega | (simp only [AL, List.length_map]; omega))) only [AR, AL, ifT, ifF, take_all, List.length_cons, List.length_nil, Int.reduceToNat, Int.reducePow, Nat.reducePow]) | (refine wk_intro (by kernel_rfl) ?_) | (refine vp_draw (l := []) (by kernel_rfl) ?_))
      exact ⟨_, _, rfl, rfl, okL_lim _, okL_lim _, by omega, by omega, by rw [wth_lim, wth_lim]⟩
  rintro s ⟨a, b, g0, g1, ha, hb, hab, hla, hsum⟩
  repeat (first | (simp only [go_sem, Nat.reduceEqDiff, Nat.reduceAdd, Nat.reduceSub, Nat.reduceMul, Nat.reduceLeDiff, Nat.reduceLT, reduceIte, reduceCtorEq, Nat.succ_ne_zero, elemsC, Int.reduceToNat, Nat.reducePow, g0, g1]) | (simp (disch := (first | omega | (simp only [AL, List.length_map]; omega))) only [AR, AL, ifT, ifF, take_all, List.length_cons, List.length_nil, Int.reduceToNat, Int.reducePow, Nat.reducePow, g0, g1]) | (refine wk_intro (by kernel_rfl) ?_))
  generalize hg : s.gen 23 = g
  refine vp_loop_inv (fun s' => s'.tmp 0 = .sv (natV a) ∧ s'.tmp 1 = .sv (natV b) ∧ s'.tmp 5 = .ref 23 g 1 0 (a.length + 1) ∧ s'.tmp 24 = .sv (natV a) ∧ s'.tmp 25 = .sv (.int .i64 a.length) ∧
      ∃ c : List Nat, ∃ i carry : Nat, s'.obj 23 g = some (c.map limb) ∧ s'.tmp 6 = .sv (.int .u64 carry) ∧ s'.tmp 26 = .sv (.int .i64 i) ∧ c.length = a.length + 1 ∧ okL c ∧ i ≤ a.length ∧ carry ≤ 1 ∧
        wth (c.take i) + 4294967296 ^ i * carry = wth (a.take i) + wth (b.take i))
    (fun s => match s.tmp 26 with | .sv (.int _ i) => a.length - i.toNat | _ => 0) ?_ ?_
  · refine ⟨g0, g1, rfl, rfl, rfl, List.replicate (a.length + 1) 0, 0, 0, ?_, rfl, rfl, List.length_replicate .., okL_replicate _, by omega, by omega, rfl⟩
    simp [St.put, St.new, hg]
  rintro s' ⟨i0, i1, i5, i24, i25, c, i, carry, iO, i6, i26, hc, hok, hi, hcar, hw⟩
  by_cases hend : i = a.length
  · subst hend
    repeat (first | (simp only [go_sem, Nat.reduceEqDiff, Nat.reduceAdd, Nat.reduceSub, Nat.reduceMul, Nat.reduceLeDiff, Nat.reduceLT, reduceIte, reduceCtorEq, Nat.succ_ne_zero, elemsC, Int.reduceToNat, Nat.reducePow, i0, i1, i5, i24, i25, iO, i6, i26]) | (simp (disch := (first | omega | (simp only [AL, List.length_map]; omega))) only [AR, AL, ifT, ifF, take_all, List.length_cons, List.length_nil, Int.reduceToNat, Int.reducePow, Nat.reducePow, i0, i1, i5, i24, i25, iO, i6, i26]) | (refine wk_intro (by kernel_rfl) ?_) | (refine vp_draw (l := []) (by kernel_rfl) ?_))
    refine vf_of (fn_natV (nat_trim (c.set a.length carry) (okL_set hok _ _ (by omega)) (by rw [List.length_set]; omega)) (by rw [List.length_set]; omega)) ?_; repeat (first | (simp only [go_sem, Nat.reduceEqDiff, Nat.reduceAdd, Nat.reduceSub, Nat.reduceMul, Nat.reduceLeDiff, Nat.reduceLT, reduceIte, reduceCtorEq, Nat.succ_ne_zero, elemsC, Int.reduceToNat, Nat.reducePow]) | (simp (disch := (first | omega | (simp only [AL, List.length_map]; omega))) only [AR, AL, ifT, ifF, take_all, List.length_cons, List.length_nil, Int.reduceToNat, Int.reducePow, Nat.reducePow]) | (refine wk_intro (by kernel_rfl) ?_) | (refine vp_draw (l := []) (by kernel_rfl) ?_))
    have e : wth (c.set a.length carry) = wth xs + wth ys := by
      rw [← List.take_of_length_le (l := c.set a.length carry) (i := a.length + 1) (by rw [List.length_set]; omega), wth_set_take (by omega), hw, List.take_of_length_le (Nat.le_refl _), List.take_of_length_le hab, hsum]
    rw [e]
  · have h1 := getD_lt ha i
    have h2 := getD_lt hb i
    have key : ∀ x : Nat, x = carry + a.getD i 0 + b.getD i 0 → wth ((c.set i (x % 4294967296)).take (i + 1)) + 4294967296 ^ (i + 1) * (x / 4294967296) = wth (a.take (i + 1)) + wth (b.take (i + 1)) := by
      intro x hx
      rw [wth_set_take (by omega), wth_take_succ, wth_take_succ]
      have e1 : 4294967296 ^ i * (x % 4294967296) + 4294967296 ^ (i + 1) * (x / 4294967296) = 4294967296 ^ i * x := by
        rw [Nat.pow_succ, Nat.mul_assoc, ← Nat.mul_add, Nat.mod_add_div]
      have e2 : 4294967296 ^ i * x = 4294967296 ^ i * carry + 4294967296 ^ i * a.getD i 0 + 4294967296 ^ i * b.getD i 0 := by
        rw [hx, Nat.mul_add, Nat.mul_add]
      omega
    by_cases hib : i < b.length
    · repeat (first | (simp only [go_sem, Nat.reduceEqDiff, Nat.reduceAdd, Nat.reduceSub, Nat.reduceMul, Nat.reduceLeDiff, Nat.reduceLT, reduceIte, reduceCtorEq, Nat.succ_ne_zero, elemsC, Int.reduceToNat, Nat.reducePow, i0, i1, i5, i24, i25, iO, i6, i26]) | (simp (disch := (first | omega | (simp only [AL, List.length_map]; omega))) only [AR, AL, ifT, ifF, take_all, List.length_cons, List.length_nil, Int.reduceToNat, Int.reducePow, Nat.reducePow, i0, i1, i5, i24, i25, iO, i6, i26]) | (refine wk_intro (by kernel_rfl) ?_) | (refine vp_draw (l := []) (by kernel_rfl) ?_))
      exact ⟨⟨c.set i ((carry + a.getD i 0 + b.getD i 0) % 4294967296), i + 1, (carry + a.getD i 0 + b.getD i 0) / 4294967296, rfl, rfl, rfl, by rw [List.length_set]; exact hc, okL_set hok _ _ (by omega), by omega, by omega, key _ rfl⟩, by omega⟩
    · have e0 : b.getD i 0 = 0 := by rw [List.getD_eq_getElem?_getD, List.getElem?_eq_none (by omega)]; rfl
      repeat (first | (simp only [go_sem, Nat.reduceEqDiff, Nat.reduceAdd, Nat.reduceSub, Nat.reduceMul, Nat.reduceLeDiff, Nat.reduceLT, reduceIte, reduceCtorEq, Nat.succ_ne_zero, elemsC, Int.reduceToNat, Nat.reducePow, i0, i1, i5, i24, i25, iO, i6, i26]) | (simp (disch := (first | omega | (simp only [AL, List.length_map]; omega))) only [AR, AL, ifT, ifF, take_all, List.length_cons, List.length_nil, Int.reduceToNat, Int.reducePow, Nat.reducePow, i0, i1, i5, i24, i25, iO, i6, i26]) | (refine wk_intro (by kernel_rfl) ?_) | (refine vp_draw (l := []) (by kernel_rfl) ?_))
      exact ⟨⟨c.set i ((carry + a.getD i 0) % 4294967296), i + 1, (carry + a.getD i 0) / 4294967296, rfl, rfl, rfl, by rw [List.length_set]; exact hc, okL_set hok _ _ (by omega), by omega, by omega, key _ (by omega)⟩, by omega⟩
end Go.Proofs.YtodiciendlhkgaaGreat

/- bits.Sub32, bits.Add32, bits.Div32; nat.Sub, in the evaluator. -/
namespace Go.Proofs.YtodiciendlhkgaaGreat
set_option linter.unusedSimpArgs false
set_option linter.unusedVariables false
set_option maxRecDepth 8000
open Go.Ev
theorem bits_Add32 (x y c : Nat) (hx : x < 4294967296) (hy : y < 4294967296) (hc : c < 4294967296) :
    Go.Ev.Fn CX 184 [limb x, limb y, limb c] (.tup [limb ((x + y + c) % 4294967296), limb ((x + y + c) / 4294967296)]) := by
  refine Go.Ev.Fn.intro (fn := Tryz.f184) (body := (Tryz.f184).body.get!) (by kernel_rfl) (by kernel_rfl) (by kernel_rfl) (fun _ => rfl) (Nat.le_of_ble_eq_true (by kernel_rfl)) ?_; unfold Tryz.f184; simp only [Option.get!_some]
  repeat (first | (simp only [go_sem, Nat.reduceEqDiff, Nat.reduceAdd, Nat.reduceSub, Nat.reduceMul, Nat.reduceLeDiff, Nat.reduceLT, reduceIte, reduceCtorEq, Nat.succ_ne_zero, elemsC, Int.reduceToNat, Nat.reducePow]) | (simp (disch := (first | omega | (simp only [AL, List.length_map]; omega))) only [AR, AL, ifT, ifF, take_all, List.length_cons, List.length_nil, Int.reduceToNat, Int.reducePow, Nat.reducePow]) | (refine wk_intro (by kernel_rfl) ?_) | (refine vp_draw (l := []) (by kernel_rfl) ?_))
theorem bits_Sub32 (x y b : Nat) (hx : x < 4294967296) (hy : y < 4294967296) (hb : b ≤ 1) :
    Go.Ev.Fn CX 137 [limb x, limb y, limb b] (.tup [limb (((x + (4294967296 - y)) % 4294967296 + (4294967296 - b)) % 4294967296), limb (if x < y + b then 1 else 0)]) := by
  refine Go.Ev.Fn.intro (fn := Tryz.f137) (body := (Tryz.f137).body.get!) (by kernel_rfl) (by kernel_rfl) (by kernel_rfl) (fun _ => rfl) (Nat.le_of_ble_eq_true (by kernel_rfl)) ?_; unfold Tryz.f137; simp only [Option.get!_some]
  have hd : ∃ d, d = ((x + (4294967296 - y)) % 4294967296 + (4294967296 - b)) % 4294967296 := ⟨_, rfl⟩
  obtain ⟨d, hd⟩ := hd
  rw [← hd, ← sub32_bit hx hy hb hd]
  have hd' : d < 4294967296 := by omega
  have h0 : 4294967295 ^^^ x < 4294967296 := Nat.xor_lt_two_pow (n := 32) (by decide) hx
  have h1 : (4294967295 ^^^ x) &&& y < 4294967296 := Nat.lt_of_le_of_lt Nat.and_le_right hy
  have h2 : x ^^^ y < 4294967296 := Nat.xor_lt_two_pow (n := 32) hx hy
  have h3 : 4294967295 ^^^ (x ^^^ y) < 4294967296 := Nat.xor_lt_two_pow (n := 32) (by decide) h2
  have h4 : (4294967295 ^^^ (x ^^^ y)) &&& d < 4294967296 := Nat.lt_of_le_of_lt Nat.and_le_right hd'
  repeat (first | (simp only [go_sem, Nat.reduceEqDiff, Nat.reduceAdd, Nat.reduceSub, Nat.reduceMul, Nat.reduceLeDiff, Nat.reduceLT, reduceIte, reduceCtorEq, Nat.succ_ne_zero, elemsC, Int.reduceToNat, Nat.reducePow, u32_sub, ← hd]) | (simp (disch := (first | omega | (simp only [AL, List.length_map]; omega))) only [AR, AL, ifT, ifF, take_all, List.length_cons, List.length_nil, Int.reduceToNat, Int.reducePow, Nat.reducePow, u32_sub, ← hd]) | (refine wk_intro (by kernel_rfl) ?_) | (refine vp_draw (l := []) (by kernel_rfl) ?_))
theorem bits_Div32 (hi lo y : Nat) (h : hi < y) (hy : y < 4294967296) (hlo : lo < 4294967296) :
    Go.Ev.Fn CX 174 [limb hi, limb lo, limb y] (.tup [limb ((hi * 4294967296 + lo) / y), limb ((hi * 4294967296 + lo) % y)]) := by
  refine Go.Ev.Fn.intro (fn := Tryz.f174) (body := (Tryz.f174).body.get!) (by kernel_rfl) (by kernel_rfl) (by kernel_rfl) (fun _ => rfl) (Nat.le_of_ble_eq_true (by kernel_rfl)) ?_; unfold Tryz.f174; simp only [Option.get!_some]
  have hq : (hi * 4294967296 + lo) / y < 4294967296 := by
    rw [Nat.div_lt_iff_lt_mul (by omega)]
    have : (hi + 1) * 4294967296 ≤ y * 4294967296 := Nat.mul_le_mul_right _ h
    omega
  have hr : (hi * 4294967296 + lo) % y < 4294967296 := Nat.lt_trans (Nat.mod_lt _ (by omega)) hy
  have hX : ∃ X, hi * 4294967296 + lo = X := ⟨_, rfl⟩
  obtain ⟨X, hX⟩ := hX
  rw [hX] at hq hr ⊢
  generalize hQ : X / y = Q at *
  generalize hR : X % y = R at *
  repeat (first | (simp only [go_sem, Nat.reduceEqDiff, Nat.reduceAdd, Nat.reduceSub, Nat.reduceMul, Nat.reduceLeDiff, Nat.reduceLT, reduceIte, reduceCtorEq, Nat.succ_ne_zero, elemsC, Int.reduceToNat, Nat.reducePow, hX, hQ, hR]) | (simp (disch := (first | omega | (simp only [AL, List.length_map]; omega))) only [AR, AL, ifT, ifF, take_all, List.length_cons, List.length_nil, Int.reduceToNat, Int.reducePow, Nat.reducePow, hX, hQ, hR]) | (refine wk_intro (by kernel_rfl) ?_) | (refine vp_draw (l := []) (by kernel_rfl) ?_))
end Go.Proofs.YtodiciendlhkgaaGreat

/- nat.Sub, in the evaluator. -/
namespace Go.Proofs.YtodiciendlhkgaaGreat
set_option linter.unusedSimpArgs false
set_option linter.unusedVariables false
set_option maxRecDepth 8000
open Go.Ev
theorem wth_take_le (xs : List Nat) (i : Nat) : wth (xs.take i) ≤ wth xs := by
  conv => rhs; rw [← List.take_append_drop i xs, wth_append]
  omega
theorem nat_Sub (xs ys : List Nat) (hx : okL xs) (hy : okL ys) (hl : xs.length ≤ 1073741824) (hm : ys.length ≤ 1073741824) :
    Go.Ev.Fn CX 85 [natV xs, natV ys] (if wth xs < wth ys then .tup [natV [], .bool false] else .tup [natV (lim (wth xs - wth ys)), .bool true]) := by
  refine Go.Ev.Fn.intro (fn := Tryz.f85) (body := (Tryz.f85).body.get!) (by kernel_rfl) (by kernel_rfl) (by kernel_rfl) (fun _ => rfl) (Nat.le_of_ble_eq_true (by kernel_rfl)) ?_; unfold Tryz.f85; simp only [Option.get!_some]
  have lx := lim_length_le hx
  have ly := lim_length_le hy
  repeat (first | (simp only [go_sem, Nat.reduceEqDiff, Nat.reduceAdd, Nat.reduceSub, Nat.reduceMul, Nat.reduceLeDiff, Nat.reduceLT, reduceIte, reduceCtorEq, Nat.succ_ne_zero, elemsC, Int.reduceToNat, Nat.reducePow]) | (simp (disch := (first | omega | (simp only [AL, List.length_map]; omega))) only [AR, AL, ifT, ifF, take_all, List.length_cons, List.length_nil, Int.reduceToNat, Int.reducePow, Nat.reducePow]) | (refine wk_intro (by kernel_rfl) ?_) | (refine vp_draw (l := []) (by kernel_rfl) ?_))
  refine vf_of (nat_Cmp xs ys hx hy (by omega) (by omega)) ?_; repeat (first | (simp only [go_sem, Nat.reduceEqDiff, Nat.reduceAdd, Nat.reduceSub, Nat.reduceMul, Nat.reduceLeDiff, Nat.reduceLT, reduceIte, reduceCtorEq, Nat.succ_ne_zero, elemsC, Int.reduceToNat, Nat.reducePow]) | (simp (disch := (first | omega | (simp only [AL, List.length_map]; omega))) only [AR, AL, ifT, ifF, take_all, List.length_cons, List.length_nil, Int.reduceToNat, Int.reducePow, Nat.reducePow]) | (refine wk_intro (by kernel_rfl) ?_) | (refine vp_draw (l := []) (by kernel_rfl) ?_))
  by_cases hlt : wth xs < wth ys
  · rw [if_pos hlt]
    have e : cmpN (wth xs) (wth ys) = -1 := by simp [cmpN, hlt]
    rw [e]
    repeat (first | (simp only [go_sem, Nat.reduceEqDiff, Nat.reduceAdd, Nat.reduceSub, Nat.reduceMul, Nat.reduceLeDiff, Nat.reduceLT, reduceIte, reduceCtorEq, Nat.succ_ne_zero, elemsC, Int.reduceToNat, Nat.reducePow]) | (simp (disch := (first | omega | (simp only [AL, List.length_map]; omega))) only [AR, AL, ifT, ifF, take_all, List.length_cons, List.length_nil, Int.reduceToNat, Int.reducePow, Nat.reducePow]) | (refine wk_intro (by kernel_rfl) ?_) | (refine vp_draw (l := []) (by kernel_rfl) ?_))
    rfl
  · rw [if_neg hlt]
    have e : decide (cmpN (wth xs) (wth ys) < 0) = false := by
      unfold cmpN; rw [if_neg hlt]; split <;> rfl
    repeat (first | (simp only [go_sem, Nat.reduceEqDiff, Nat.reduceAdd, Nat.reduceSub, Nat.reduceMul, Nat.reduceLeDiff, Nat.reduceLT, reduceIte, reduceCtorEq, Nat.succ_ne_zero, elemsC, Int.reduceToNat, Nat.reducePow, e]) | (simp (disch := (first | omega | (simp only [AL, List.length_map]; omega))) only [AR, AL, ifT, ifF, take_all, List.length_cons, List.length_nil, Int.reduceToNat, Int.reducePow, Nat.reducePow, e]) | (refine wk_intro (by kernel_rfl) ?_) | (refine vp_draw (l := []) (by kernel_rfl) ?_))
    refine vf_of (nat_trim xs hx (by omega)) ?_; repeat (first | (simp only [go_sem, Nat.reduceEqDiff, Nat.reduceAdd, Nat.reduceSub, Nat.reduceMul, Nat.reduceLeDiff, Nat.reduceLT, reduceIte, reduceCtorEq, Nat.succ_ne_zero, elemsC, Int.reduceToNat, Nat.reducePow]) | (simp (disch := (first | omega | (simp only [AL, List.length_map]; omega))) only [AR, AL, ifT, ifF, take_all, List.length_cons, List.length_nil, Int.reduceToNat, Int.reducePow, Nat.reducePow]) | (refine wk_intro (by kernel_rfl) ?_) | (refine vp_draw (l := []) (by kernel_rfl) ?_))
    refine vf_of (nat_trim ys hy (by omega)) ?_; repeat (first | (simp only [go_sem, Nat.reduceEqDiff, Nat.reduceAdd, Nat.reduceSub, Nat.reduceMul, Nat.reduceLeDiff, Nat.reduceLT, reduceIte, reduceCtorEq, Nat.succ_ne_zero, elemsC, Int.reduceToNat, Nat.reducePow]) | (simp (disch := (first | omega | (simp only [AL, List.length_map]; omega))) only [AR, AL, ifT, ifF, take_all, List.length_cons, List.length_nil, Int.reduceToNat, Int.reducePow, Nat.reducePow]) | (refine wk_intro (by kernel_rfl) ?_) | (refine vp_draw (l := []) (by kernel_rfl) ?_))
    have hab : (lim (wth ys)).length ≤ (lim (wth xs)).length := trimL_length (okL_lim _) (okL_lim _) (trimL_lim _) (by rw [wth_lim, wth_lim]; omega)
    have ha := okL_lim (wth xs)
    have hb := okL_lim (wth ys)
    have va := wth_lim (wth xs)
    have vb := wth_lim (wth ys)
    generalize lim (wth xs) = a at *
    generalize lim (wth ys) = b at *
    refine vp_loop_inv (fun s' => s'.tmp 0 = .sv (natV a) ∧ s'.tmp 1 = .sv (natV b) ∧ s'.tmp 6 = .ref 21 0 1 0 a.length ∧ s'.tmp 22 = .sv (natV a) ∧ s'.tmp 23 = .sv (.int .i64 a.length) ∧
        ∃ c : List Nat, ∃ i w : Nat, s'.obj 21 0 = some (c.map limb) ∧ s'.tmp 7 = .sv (.int .u32 w) ∧ s'.tmp 24 = .sv (.int .i64 i) ∧ c.length = a.length ∧ okL c ∧ i ≤ a.length ∧ w ≤ 1 ∧
          wth (c.take i) + wth (b.take i) = wth (a.take i) + 4294967296 ^ i * w)
      (fun s => match s.tmp 24 with | .sv (.int _ i) => a.length - i.toNat | _ => 0) ?_ ?_
    · refine ⟨rfl, rfl, rfl, rfl, rfl, List.replicate a.length 0, 0, 0, rfl, rfl, rfl, List.length_replicate .., okL_replicate _, by omega, by omega, rfl⟩
    rintro s' ⟨i0, i1, i6, i22, i23, c, i, w, iO, i7, i24, hc, hok, hi, hw, hv⟩
    by_cases hend : i = a.length
    · subst hend
      repeat (first | (simp only [go_sem, Nat.reduceEqDiff, Nat.reduceAdd, Nat.reduceSub, Nat.reduceMul, Nat.reduceLeDiff, Nat.reduceLT, reduceIte, reduceCtorEq, Nat.succ_ne_zero, elemsC, Int.reduceToNat, Nat.reducePow, i0, i1, i6, i22, i23, iO, i7, i24]) | (simp (disch := (first | omega | (simp only [AL, List.length_map]; omega))) only [AR, AL, ifT, ifF, take_all, List.length_cons, List.length_nil, Int.reduceToNat, Int.reducePow, Nat.reducePow, i0, i1, i6, i22, i23, iO, i7, i24]) | (refine wk_intro (by kernel_rfl) ?_) | (refine vp_draw (l := []) (by kernel_rfl) ?_))
      have e : wth c = wth xs - wth ys := by
        rw [List.take_of_length_le (by omega), List.take_of_length_le hab, List.take_of_length_le (Nat.le_refl _), va, vb] at hv
        have h0 := wth_lt hok
        rw [hc] at h0
        rcases Nat.eq_zero_or_pos w with rfl | hw0
        · omega
        · have : w = 1 := by omega
          subst this
          have := wth_lt ha
          omega
      refine vf_of (fn_natV (nat_trim c hok (by omega)) hc) ?_; repeat (first | (simp only [go_sem, Nat.reduceEqDiff, Nat.reduceAdd, Nat.reduceSub, Nat.reduceMul, Nat.reduceLeDiff, Nat.reduceLT, reduceIte, reduceCtorEq, Nat.succ_ne_zero, elemsC, Int.reduceToNat, Nat.reducePow]) | (simp (disch := (first | omega | (simp only [AL, List.length_map]; omega))) only [AR, AL, ifT, ifF, take_all, List.length_cons, List.length_nil, Int.reduceToNat, Int.reducePow, Nat.reducePow]) | (refine wk_intro (by kernel_rfl) ?_) | (refine vp_draw (l := []) (by kernel_rfl) ?_))
      rw [e]
    · have h1 := getD_lt ha i
      have h2 := getD_lt hb i
      have key : ∀ x y v w' : Nat, x = a.getD i 0 → y = b.getD i 0 → v + y + w = x + 4294967296 * w' → wth ((c.set i v).take (i + 1)) + wth (b.take (i + 1)) = wth (a.take (i + 1)) + 4294967296 ^ (i + 1) * w' := by
        intro x y v w' hx' hy' he
        rw [wth_set_take (by omega), wth_take_succ, wth_take_succ, ← hx', ← hy', Nat.pow_succ, Nat.mul_assoc]
        have e1 : 4294967296 ^ i * (v + y + w) = 4294967296 ^ i * (x + 4294967296 * w') := by rw [he]
        rw [Nat.mul_add, Nat.mul_add, Nat.mul_add] at e1
        omega
      by_cases hib : i < b.length
      · repeat (first | (simp only [go_sem, Nat.reduceEqDiff, Nat.reduceAdd, Nat.reduceSub, Nat.reduceMul, Nat.reduceLeDiff, Nat.reduceLT, reduceIte, reduceCtorEq, Nat.succ_ne_zero, elemsC, Int.reduceToNat, Nat.reducePow, i0, i1, i6, i22, i23, iO, i7, i24]) | (simp (disch := (first | omega | (simp only [AL, List.length_map]; omega))) only [AR, AL, ifT, ifF, take_all, List.length_cons, List.length_nil, Int.reduceToNat, Int.reducePow, Nat.reducePow, i0, i1, i6, i22, i23, iO, i7, i24]) | (refine wk_intro (by kernel_rfl) ?_) | (refine vp_draw (l := []) (by kernel_rfl) ?_))
        refine vf_of (bits_Sub32 (a.getD i 0) (b.getD i 0) w h1 h2 hw) ?_; repeat (first | (simp only [go_sem, Nat.reduceEqDiff, Nat.reduceAdd, Nat.reduceSub, Nat.reduceMul, Nat.reduceLeDiff, Nat.reduceLT, reduceIte, reduceCtorEq, Nat.succ_ne_zero, elemsC, Int.reduceToNat, Nat.reducePow, i0, i1, i6, i22, i23, iO, i7, i24]) | (simp (disch := (first | omega | (simp only [AL, List.length_map]; omega))) only [AR, AL, ifT, ifF, take_all, List.length_cons, List.length_nil, Int.reduceToNat, Int.reducePow, Nat.reducePow, i0, i1, i6, i22, i23, iO, i7, i24]) | (refine wk_intro (by kernel_rfl) ?_) | (refine vp_draw (l := []) (by kernel_rfl) ?_))
        refine ⟨⟨c.set i (((a.getD i 0 + (4294967296 - b.getD i 0)) % 4294967296 + (4294967296 - w)) % 4294967296), i + 1, if a.getD i 0 < b.getD i 0 + w then 1 else 0, rfl, rfl, rfl, by rw [List.length_set]; exact hc, okL_set hok _ _ (by omega), by omega, by split <;> omega, key _ _ _ _ rfl rfl ?_⟩, by omega⟩
        split <;> omega
      · have e0 : b.getD i 0 = 0 := by rw [List.getD_eq_getElem?_getD, List.getElem?_eq_none (by omega)]; rfl
        repeat (first | (simp only [go_sem, Nat.reduceEqDiff, Nat.reduceAdd, Nat.reduceSub, Nat.reduceMul, Nat.reduceLeDiff, Nat.reduceLT, reduceIte, reduceCtorEq, Nat.succ_ne_zero, elemsC, Int.reduceToNat, Nat.reducePow, i0, i1, i6, i22, i23, iO, i7, i24]) | (simp (disch := (first | omega | (simp only [AL, List.length_map]; omega))) only [AR, AL, ifT, ifF, take_all, List.length_cons, List.length_nil, Int.reduceToNat, Int.reducePow, Nat.reducePow, i0, i1, i6, i22, i23, iO, i7, i24]) | (refine wk_intro (by kernel_rfl) ?_) | (refine vp_draw (l := []) (by kernel_rfl) ?_))
        refine vf_of (bits_Sub32 (a.getD i 0) 0 w h1 (by omega) hw) ?_; repeat (first | (simp only [go_sem, Nat.reduceEqDiff, Nat.reduceAdd, Nat.reduceSub, Nat.reduceMul, Nat.reduceLeDiff, Nat.reduceLT, reduceIte, reduceCtorEq, Nat.succ_ne_zero, elemsC, Int.reduceToNat, Nat.reducePow, i0, i1, i6, i22, i23, iO, i7, i24]) | (simp (disch := (first | omega | (simp only [AL, List.length_map]; omega))) only [AR, AL, ifT, ifF, take_all, List.length_cons, List.length_nil, Int.reduceToNat, Int.reducePow, Nat.reducePow, i0, i1, i6, i22, i23, iO, i7, i24]) | (refine wk_intro (by kernel_rfl) ?_) | (refine vp_draw (l := []) (by kernel_rfl) ?_))
        refine ⟨⟨c.set i (((a.getD i 0 + 4294967296) % 4294967296 + (4294967296 - w)) % 4294967296), i + 1, if a.getD i 0 < w then 1 else 0, rfl, rfl, rfl, by rw [List.length_set]; exact hc, okL_set hok _ _ (by omega), by omega, by split <;> omega, key _ _ _ _ rfl e0.symm ?_⟩, by omega⟩
        split <;> omega
end Go.Proofs.YtodiciendlhkgaaGreat

/- nat.Mul, in the evaluator. -/
namespace Go.Proofs.YtodiciendlhkgaaGreat
set_option linter.unusedSimpArgs false
set_option linter.unusedVariables false
set_option maxRecDepth 8000
open Go.Ev
theorem getD_set_ne {xs : List Nat} {i j v : Nat} (h : j ≠ i) : (xs.set i v).getD j 0 = xs.getD j 0 := by
  rw [List.getD_eq_getElem?_getD, List.getD_eq_getElem?_getD, List.getElem?_set_ne (fun e => h e.symm)]
theorem limb_mul {v w : Nat} (hv : v < 4294967296) (hw : w < 4294967296) : v * w ≤ 18446744065119617025 :=
  Nat.le_trans (Nat.mul_le_mul (show v ≤ 4294967295 by omega) (show w ≤ 4294967295 by omega)) (by decide)
theorem nat_Mul (xs ys : List Nat) (hx : okL xs) (hy : okL ys) (hl : xs.length ≤ 1073741824) (hm : ys.length ≤ 1073741824) :
    Go.Ev.Fn CX 82 [natV xs, natV ys] (natV (lim (wth xs * wth ys))) := by
  refine Go.Ev.Fn.intro (fn := Tryz.f82) (body := (Tryz.f82).body.get!) (by kernel_rfl) (by kernel_rfl) (by kernel_rfl) (fun _ => rfl) (Nat.le_of_ble_eq_true (by kernel_rfl)) ?_; unfold Tryz.f82; simp only [Option.get!_some]
  have lx := lim_length_le hx
  have ly := lim_length_le hy
  repeat (first | (simp only [go_sem, Nat.reduceEqDiff, Nat.reduceAdd, Nat.reduceSub, Nat.reduceMul, Nat.reduceLeDiff, Nat.reduceLT, reduceIte, reduceCtorEq, Nat.succ_ne_zero, elemsC, Int.reduceToNat, Nat.reducePow]) | (simp (disch := (first | omega | (simp only [AL, List.length_map]; omega))) only [AR, AL, ifT, ifF, take_all, List.length_cons, List.length_nil, Int.reduceToNat, Int.reducePow, Nat.reducePow]) | (refine wk_intro (by kernel_rfl) ?_) | (refine vp_draw (l := []) (by kernel_rfl) ?_))
  refine vf_of (nat_trim xs hx (by omega)) ?_; repeat (first | (simp only [go_sem, Nat.reduceEqDiff, Nat.reduceAdd, Nat.reduceSub, Nat.reduceMul, Nat.reduceLeDiff, Nat.reduceLT, reduceIte, reduceCtorEq, Nat.succ_ne_zero, elemsC, Int.reduceToNat, Nat.reducePow]) | (simp (disch := (first | omega | (simp only [AL, List.length_map]; omega))) only [AR, AL, ifT, ifF, take_all, List.length_cons, List.length_nil, Int.reduceToNat, Int.reducePow, Nat.reducePow]) | (refine wk_intro (by kernel_rfl) ?_) | (refine vp_draw (l := []) (by kernel_rfl) ?_))
  refine vf_of (nat_trim ys hy (by omega)) ?_; repeat (first | (simp only [go_sem, Nat.reduceEqDiff, Nat.reduceAdd, Nat.reduceSub, Nat.reduceMul, Nat.reduceLeDiff, Nat.reduceLT, reduceIte, reduceCtorEq, Nat.succ_ne_zero, elemsC, Int.reduceToNat, Nat.reducePow]) | (simp (disch := (first | omega | (simp only [AL, List.length_map]; omega))) only [AR, AL, ifT, ifF, take_all, List.length_cons, List.length_nil, Int.reduceToNat, Int.reducePow, Nat.reducePow]) | (refine wk_intro (by kernel_rfl) ?_) | (refine vp_draw (l := []) (by kernel_rfl) ?_))
  have ha := okL_lim (wth xs)
  have hb := okL_lim (wth ys)
  have va := wth_lim (wth xs)
  have vb := wth_lim (wth ys)
  generalize lim (wth xs) = a at *
  generalize lim (wth ys) = b at *
  refine vp_loop_inv (fun s' => s'.tmp 0 = .sv (natV a) ∧ s'.tmp 1 = .sv (natV b) ∧ s'.tmp 5 = .ref 20 0 1 0 (a.length + b.length) ∧ s'.tmp 21 = .sv (natV a) ∧ s'.tmp 22 = .sv (.int .i64 a.length) ∧
      ∃ c : List Nat, ∃ i : Nat, s'.obj 20 0 = some (c.map limb) ∧ s'.tmp 23 = .sv (.int .i64 i) ∧ c.length = a.length + b.length ∧ okL c ∧ i ≤ a.length ∧
        wth (c.take (i + b.length)) = wth (a.take i) * wth b)
    (fun s => match s.tmp 23 with | .sv (.int _ i) => a.length - i.toNat | _ => 0) ?_ ?_
  · refine ⟨rfl, rfl, rfl, rfl, rfl, List.replicate (a.length + b.length) 0, 0, rfl, rfl, List.length_replicate .., okL_replicate _, by omega, ?_⟩
    rw [List.take_replicate, wth_replicate]; simp [wth]
  rintro s' ⟨i0, i1, i5, i21, i22, c0, i, iO, i23, hc0, hok0, hi, hv⟩
  by_cases hend : i = a.length
  · subst hend
    repeat (first | (simp only [go_sem, Nat.reduceEqDiff, Nat.reduceAdd, Nat.reduceSub, Nat.reduceMul, Nat.reduceLeDiff, Nat.reduceLT, reduceIte, reduceCtorEq, Nat.succ_ne_zero, elemsC, Int.reduceToNat, Nat.reducePow, i0, i1, i5, i21, i22, iO, i23]) | (simp (disch := (first | omega | (simp only [AL, List.length_map]; omega))) only [AR, AL, ifT, ifF, take_all, List.length_cons, List.length_nil, Int.reduceToNat, Int.reducePow, Nat.reducePow, i0, i1, i5, i21, i22, iO, i23]) | (refine wk_intro (by kernel_rfl) ?_) | (refine vp_draw (l := []) (by kernel_rfl) ?_))
    refine vf_of (fn_natV (nat_trim c0 hok0 (by omega)) hc0) ?_; repeat (first | (simp only [go_sem, Nat.reduceEqDiff, Nat.reduceAdd, Nat.reduceSub, Nat.reduceMul, Nat.reduceLeDiff, Nat.reduceLT, reduceIte, reduceCtorEq, Nat.succ_ne_zero, elemsC, Int.reduceToNat, Nat.reducePow]) | (simp (disch := (first | omega | (simp only [AL, List.length_map]; omega))) only [AR, AL, ifT, ifF, take_all, List.length_cons, List.length_nil, Int.reduceToNat, Int.reducePow, Nat.reducePow]) | (refine wk_intro (by kernel_rfl) ?_) | (refine vp_draw (l := []) (by kernel_rfl) ?_))
    have e : wth c0 = wth xs * wth ys := by
      rw [List.take_of_length_le (by omega), List.take_of_length_le (Nat.le_refl _), va, vb] at hv
      exact hv
    rw [e]
  · have h1 := getD_lt ha i
    repeat (first | (simp only [go_sem, Nat.reduceEqDiff, Nat.reduceAdd, Nat.reduceSub, Nat.reduceMul, Nat.reduceLeDiff, Nat.reduceLT, reduceIte, reduceCtorEq, Nat.succ_ne_zero, elemsC, Int.reduceToNat, Nat.reducePow, i0, i1, i5, i21, i22, iO, i23]) | (simp (disch := (first | omega | (simp only [AL, List.length_map]; omega))) only [AR, AL, ifT, ifF, take_all, List.length_cons, List.length_nil, Int.reduceToNat, Int.reducePow, Nat.reducePow, i0, i1, i5, i21, i22, iO, i23]) | (refine wk_intro (by kernel_rfl) ?_) | (refine vp_draw (l := []) (by kernel_rfl) ?_))
    generalize hvv : a.getD i 0 = v at *
    refine vp_loop_inv (fun s' => s'.tmp 0 = .sv (natV a) ∧ s'.tmp 1 = .sv (natV b) ∧ s'.tmp 5 = .ref 20 0 1 0 (a.length + b.length) ∧ s'.tmp 21 = .sv (natV a) ∧ s'.tmp 22 = .sv (.int .i64 a.length) ∧ s'.tmp 23 = .sv (.int .i64 i) ∧
        s'.tmp 6 = .sv (.int .i64 i) ∧ s'.tmp 7 = .sv (.int .u32 v) ∧ s'.tmp 28 = .sv (natV b) ∧ s'.tmp 29 = .sv (.int .i64 b.length) ∧
        ∃ c : List Nat, ∃ k carry : Nat, s'.obj 20 0 = some (c.map limb) ∧ s'.tmp 30 = .sv (.int .i64 k) ∧ s'.tmp 8 = .sv (.int .u64 carry) ∧ c.length = a.length + b.length ∧ okL c ∧ k ≤ b.length ∧ carry < 4294967296 ∧
          (∀ j, i + k ≤ j → c.getD j 0 = c0.getD j 0) ∧ wth (c.take (i + k)) + 4294967296 ^ (i + k) * carry = wth (c0.take (i + k)) + 4294967296 ^ i * (v * wth (b.take k)))
      (fun s => match s.tmp 30 with | .sv (.int _ i) => b.length - i.toNat | _ => 0) ?_ ?_
    · refine ⟨i0, i1, i5, i21, i22, i23, rfl, rfl, rfl, rfl, c0, 0, 0, iO, rfl, rfl, hc0, hok0, by omega, by omega, fun _ _ => rfl, ?_⟩
      simp [wth]
    rintro s2 ⟨j0, j1, j5, j21, j22, j23, j6, j7, j28, j29, c, k, carry, jO, j30, j8, hc, hok, hk, hcar, hsame, hw⟩
    by_cases hend2 : k = b.length
    · subst hend2
      repeat (first | (simp only [go_sem, Nat.reduceEqDiff, Nat.reduceAdd, Nat.reduceSub, Nat.reduceMul, Nat.reduceLeDiff, Nat.reduceLT, reduceIte, reduceCtorEq, Nat.succ_ne_zero, elemsC, Int.reduceToNat, Nat.reducePow, j0, j1, j5, j21, j22, j23, j6, j7, j28, j29, jO, j30, j8]) | (simp (disch := (first | omega | (simp only [AL, List.length_map]; omega))) only [AR, AL, ifT, ifF, take_all, List.length_cons, List.length_nil, Int.reduceToNat, Int.reducePow, Nat.reducePow, j0, j1, j5, j21, j22, j23, j6, j7, j28, j29, jO, j30, j8]) | (refine wk_intro (by kernel_rfl) ?_) | (refine vp_draw (l := []) (by kernel_rfl) ?_))
      refine ⟨⟨c.set (i + b.length) carry, i + 1, rfl, rfl, by rw [List.length_set]; exact hc, okL_set hok _ _ hcar, by omega, ?_⟩, by omega⟩
      rw [show i + 1 + b.length = i + b.length + 1 by omega, wth_set_take (by omega), hw, hv, wth_take_succ, hvv, List.take_of_length_le (Nat.le_refl _)]
      rw [Nat.add_mul, Nat.mul_assoc]
    · have h2 := getD_lt hb k
      have h3 := getD_lt hok (i + k)
      have h4 := limb_mul h1 h2
      have hs := hsame (i + k) (Nat.le_refl _)
      generalize hww : b.getD k 0 = w at *
      generalize hu : c.getD (i + k) 0 = u at *
      generalize hp : v * w = p at *
      repeat (first | (simp only [go_sem, Nat.reduceEqDiff, Nat.reduceAdd, Nat.reduceSub, Nat.reduceMul, Nat.reduceLeDiff, Nat.reduceLT, reduceIte, reduceCtorEq, Nat.succ_ne_zero, elemsC, Int.reduceToNat, Nat.reducePow, j0, j1, j5, j21, j22, j23, j6, j7, j28, j29, jO, j30, j8, hww, hu, hp]) | (simp (disch := (first | omega | (simp only [AL, List.length_map]; omega))) only [AR, AL, ifT, ifF, take_all, List.length_cons, List.length_nil, Int.reduceToNat, Int.reducePow, Nat.reducePow, j0, j1, j5, j21, j22, j23, j6, j7, j28, j29, jO, j30, j8, hww, hu, hp]) | (refine wk_intro (by kernel_rfl) ?_) | (refine vp_draw (l := []) (by kernel_rfl) ?_))
      refine ⟨⟨c.set (i + k) ((carry + (p + u)) % 4294967296), k + 1, (carry + (p + u)) / 4294967296, rfl, rfl, rfl, by rw [List.length_set]; exact hc, okL_set hok _ _ (by omega), by omega, by omega, fun j hj => (getD_set_ne (by omega)).trans (hsame j (by omega)), ?_⟩, by omega⟩
      rw [show i + (k + 1) = i + k + 1 by omega, wth_set_take (by omega), wth_take_succ c0, ← hs, wth_take_succ b, hww]
      generalize hx : carry + (p + u) = x
      have e1 : 4294967296 ^ (i + k) * (x % 4294967296) + 4294967296 ^ (i + k + 1) * (x / 4294967296) = 4294967296 ^ (i + k) * x := by
        rw [Nat.pow_succ, Nat.mul_assoc, ← Nat.mul_add, Nat.mod_add_div]
      have e2 : 4294967296 ^ (i + k) * x = 4294967296 ^ (i + k) * carry + (4294967296 ^ (i + k) * p + 4294967296 ^ (i + k) * u) := by
        rw [← hx, Nat.mul_add, Nat.mul_add]
      have e3 : 4294967296 ^ i * (v * (wth (b.take k) + 4294967296 ^ k * w)) = 4294967296 ^ i * (v * wth (b.take k)) + 4294967296 ^ (i + k) * p := by
        rw [Nat.mul_add, Nat.mul_add, ← hp, Nat.pow_add, Nat.mul_left_comm v, ← Nat.mul_assoc (4294967296 ^ i) (4294967296 ^ k)]
      rw [e3]
      omega
end Go.Proofs.YtodiciendlhkgaaGreat

/- nat.small, in the evaluator. -/
namespace Go.Proofs.YtodiciendlhkgaaGreat
set_option linter.unusedSimpArgs false
set_option linter.unusedVariables false
set_option maxRecDepth 8000
open Go.Ev
theorem wth_drop {xs : List Nat} {i : Nat} (h : i < xs.length) : wth (xs.drop i) = xs.getD i 0 + 4294967296 * wth (xs.drop (i + 1)) := by
  rw [List.drop_eq_getElem_cons h, wth_cons, List.getD_eq_getElem?_getD, List.getElem?_eq_getElem h]
  rfl
theorem wth_set_drop {xs : List Nat} {i : Nat} (h : i < xs.length) (v : Nat) : wth ((xs.set i v).drop i) = v + 4294967296 * wth (xs.drop (i + 1)) := by
  rw [wth_drop (by rw [List.length_set]; exact h), List.drop_set_of_lt (by omega)]
  simp [List.getD_eq_getElem?_getD, h]
theorem nat_small (xs : List Nat) (b : Nat) (hx : okL xs) (hl : xs.length ≤ 1073741824) (hb0 : 0 < b) (hb : b < 4294967296) :
    Go.Ev.Fn CX 163 [natV xs, limb b] (.tup [natV (lim (wth xs / b)), limb (wth xs % b)]) := by
  refine Go.Ev.Fn.intro (fn := Tryz.f163) (body := (Tryz.f163).body.get!) (by kernel_rfl) (by kernel_rfl) (by kernel_rfl) (fun _ => rfl) (Nat.le_of_ble_eq_true (by kernel_rfl)) ?_; unfold Tryz.f163; simp only [Option.get!_some]
  repeat (first | (simp only [go_sem, Nat.reduceEqDiff, Nat.reduceAdd, Nat.reduceSub, Nat.reduceMul, Nat.reduceLeDiff, Nat.reduceLT, reduceIte, reduceCtorEq, Nat.succ_ne_zero, elemsC, Int.reduceToNat, Nat.reducePow]) | (simp (disch := (first | omega | (simp only [AL, List.length_map]; omega))) only [AR, AL, ifT, ifF, take_all, List.length_cons, List.length_nil, Int.reduceToNat, Int.reducePow, Nat.reducePow]) | (refine wk_intro (by kernel_rfl) ?_))
  refine vp_loop_inv (fun s' => s'.tmp 0 = .sv (natV xs) ∧ s'.tmp 1 = .sv (limb b) ∧ s'.tmp 6 = .ref 11 0 1 0 xs.length ∧
      ∃ q : List Nat, ∃ i rest : Nat, s'.obj 11 0 = some (q.map limb) ∧ s'.tmp 8 = .sv (.int .i64 ((i : Int) - 1)) ∧ s'.tmp 7 = .sv (limb rest) ∧ q.length = xs.length ∧ okL q ∧ i ≤ xs.length ∧ rest < b ∧
        wth (xs.drop i) = b * wth (q.drop i) + rest)
    (fun s => match s.tmp 8 with | .sv (.int _ i) => (i + 1).toNat | _ => 0) ?_ ?_
  · refine ⟨rfl, rfl, rfl, List.replicate xs.length 0, xs.length, 0, rfl, rfl, rfl, List.length_replicate .., okL_replicate _, by omega, hb0, ?_⟩
    rw [List.drop_length, List.drop_of_length_le (by simp)]
    simp [wth]
  rintro s' ⟨i0, i1, i6, q, i, rest, iO, i8, i7, hq, hok, hi, hrest, hv⟩
  rcases Nat.eq_zero_or_pos i with rfl | hi0
  · repeat (first | (simp only [go_sem, Nat.reduceEqDiff, Nat.reduceAdd, Nat.reduceSub, Nat.reduceMul, Nat.reduceLeDiff, Nat.reduceLT, reduceIte, reduceCtorEq, Nat.succ_ne_zero, elemsC, Int.reduceToNat, Nat.reducePow, i0, i1, i6, iO, i8, i7]) | (simp (disch := (first | omega | (simp only [AL, List.length_map]; omega))) only [AR, AL, ifT, ifF, take_all, List.length_cons, List.length_nil, Int.reduceToNat, Int.reducePow, Nat.reducePow, i0, i1, i6, iO, i8, i7]) | (refine wk_intro (by kernel_rfl) ?_) | (refine vp_draw (l := []) (by kernel_rfl) ?_))
    rw [List.drop_zero, List.drop_zero] at hv
    have e1 : wth xs / b = wth q := by
      rw [hv, Nat.mul_add_div hb0, Nat.div_eq_of_lt hrest, Nat.add_zero]
    have e2 : wth xs % b = rest := by
      rw [hv, Nat.mul_add_mod, Nat.mod_eq_of_lt hrest]
    refine vf_of (fn_natV (nat_trim q hok (by omega)) hq) ?_; repeat (first | (simp only [go_sem, Nat.reduceEqDiff, Nat.reduceAdd, Nat.reduceSub, Nat.reduceMul, Nat.reduceLeDiff, Nat.reduceLT, reduceIte, reduceCtorEq, Nat.succ_ne_zero, elemsC, Int.reduceToNat, Nat.reducePow, i0, i1, i6, iO, i8, i7]) | (simp (disch := (first | omega | (simp only [AL, List.length_map]; omega))) only [AR, AL, ifT, ifF, take_all, List.length_cons, List.length_nil, Int.reduceToNat, Int.reducePow, Nat.reducePow, i0, i1, i6, iO, i8, i7]) | (refine wk_intro (by kernel_rfl) ?_) | (refine vp_draw (l := []) (by kernel_rfl) ?_))
    rw [e1, e2]
    exact ⟨rfl, rfl⟩
  · have h1 := getD_lt hx (i - 1)
    have h5 : (((i - 1 : Nat) : Int)) = (i : Int) - 1 := by omega
    repeat (first | (simp only [go_sem, Nat.reduceEqDiff, Nat.reduceAdd, Nat.reduceSub, Nat.reduceMul, Nat.reduceLeDiff, Nat.reduceLT, reduceIte, reduceCtorEq, Nat.succ_ne_zero, elemsC, Int.reduceToNat, Nat.reducePow, i0, i1, i6, iO, i8, i7]) | (simp (disch := (first | omega | (simp only [AL, List.length_map]; omega))) only [AR, AL, ifT, ifF, take_all, List.length_cons, List.length_nil, Int.reduceToNat, Int.reducePow, Nat.reducePow, i0, i1, i6, iO, i8, i7]) | (refine wk_intro (by kernel_rfl) ?_) | (refine vp_draw (l := []) (by kernel_rfl) ?_))
    have hq0 : (rest * 4294967296 + xs.getD (i - 1) 0) / b < 4294967296 := by
      rw [Nat.div_lt_iff_lt_mul hb0]
      have : (rest + 1) * 4294967296 ≤ b * 4294967296 := Nat.mul_le_mul_right _ hrest
      omega
    have hr0 := Nat.mod_lt (rest * 4294967296 + xs.getD (i - 1) 0) hb0
    refine vf_of (bits_Div32 rest (xs.getD (i - 1) 0) b hrest hb h1) ?_; repeat (first | (simp only [go_sem, Nat.reduceEqDiff, Nat.reduceAdd, Nat.reduceSub, Nat.reduceMul, Nat.reduceLeDiff, Nat.reduceLT, reduceIte, reduceCtorEq, Nat.succ_ne_zero, elemsC, Int.reduceToNat, Nat.reducePow, i0, i1, i6, iO, i8, i7]) | (simp (disch := (first | omega | (simp only [AL, List.length_map]; omega))) only [AR, AL, ifT, ifF, take_all, List.length_cons, List.length_nil, Int.reduceToNat, Int.reducePow, Nat.reducePow, i0, i1, i6, iO, i8, i7]) | (refine wk_intro (by kernel_rfl) ?_) | (refine vp_draw (l := []) (by kernel_rfl) ?_))
    refine ⟨⟨q.set (i - 1) ((rest * 4294967296 + xs.getD (i - 1) 0) / b), i - 1, (rest * 4294967296 + xs.getD (i - 1) 0) % b, rfl, rfl, rfl, by rw [List.length_set]; exact hq, okL_set hok _ _ hq0, by omega, hr0, ?_⟩, by omega⟩
    rw [wth_set_drop (by omega), wth_drop (by omega), show i - 1 + 1 = i by omega, hv]
    have e1 := Nat.div_add_mod (rest * 4294967296 + xs.getD (i - 1) 0) b
    generalize (rest * 4294967296 + xs.getD (i - 1) 0) / b = Q at *
    generalize (rest * 4294967296 + xs.getD (i - 1) 0) % b = R at *
    rw [Nat.mul_add b, ← Nat.mul_assoc b, Nat.mul_comm b 4294967296, Nat.mul_assoc]
    omega
end Go.Proofs.YtodiciendlhkgaaGreat
