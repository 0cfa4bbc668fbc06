/- Part 4 of the proof: the evaluator, contracts of functions and their plain laws (joined by program). No condition. -/
import Derived.Test.YtdnmhnjblgkjaaaPart3
import Derived.Test.YtdnmhnjblgkjaaaProg
/- Facts of the program's types, each reckoned by the kernel. -/
namespace Go.Proofs.Ytdnmhnjblgkjaaa.F
open Go Go.Ev Go.Proofs
theorem shp_0 : shp Proofs.Try.prog 0 = some (false, 1) := by kernel_rfl
theorem zok_0 : zok Proofs.Try.prog 0 = true := by kernel_rfl
theorem hasTy_0 : hasTy Proofs.Try.prog 0 = true := by kernel_rfl
theorem shp_1 : shp Proofs.Try.prog 1 = some (false, 1) := by kernel_rfl
theorem zok_1 : zok Proofs.Try.prog 1 = true := by kernel_rfl
theorem hasTy_1 : hasTy Proofs.Try.prog 1 = true := by kernel_rfl
theorem shp_2 : shp Proofs.Try.prog 2 = some (false, 1) := by kernel_rfl
theorem zer_2 : zer Proofs.Try.prog 2 = some [SV.int IntKind.i64 0] := by kernel_rfl
theorem zok_2 : zok Proofs.Try.prog 2 = true := by kernel_rfl
theorem isInt_2 : isInt Proofs.Try.prog 2 = some IntKind.i64 := by kernel_rfl
theorem hasTy_2 : hasTy Proofs.Try.prog 2 = true := by kernel_rfl
theorem shp_3 : shp Proofs.Try.prog 3 = some (false, 1) := by kernel_rfl
theorem zer_3 : zer Proofs.Try.prog 3 = some [SV.int IntKind.i64 0] := by kernel_rfl
theorem zok_3 : zok Proofs.Try.prog 3 = true := by kernel_rfl
theorem isInt_3 : isInt Proofs.Try.prog 3 = some IntKind.i64 := by kernel_rfl
theorem hasTy_3 : hasTy Proofs.Try.prog 3 = true := by kernel_rfl
theorem shp_4 : shp Proofs.Try.prog 4 = some (false, 1) := by kernel_rfl
theorem zer_4 : zer Proofs.Try.prog 4 = some [SV.bool false] := by kernel_rfl
theorem zok_4 : zok Proofs.Try.prog 4 = true := by kernel_rfl
theorem isBool_4 : isBool Proofs.Try.prog 4 = true := by kernel_rfl
theorem hasTy_4 : hasTy Proofs.Try.prog 4 = true := by kernel_rfl
theorem shp_5 : shp Proofs.Try.prog 5 = some (false, 1) := by kernel_rfl
theorem zer_5 : zer Proofs.Try.prog 5 = some [SV.int IntKind.u8 0] := by kernel_rfl
theorem zok_5 : zok Proofs.Try.prog 5 = true := by kernel_rfl
theorem isInt_5 : isInt Proofs.Try.prog 5 = some IntKind.u8 := by kernel_rfl
theorem hasTy_5 : hasTy Proofs.Try.prog 5 = true := by kernel_rfl
theorem shp_6 : shp Proofs.Try.prog 6 = some (false, 1) := by kernel_rfl
theorem zer_6 : zer Proofs.Try.prog 6 = some [SV.int IntKind.u8 0] := by kernel_rfl
theorem zok_6 : zok Proofs.Try.prog 6 = true := by kernel_rfl
theorem isInt_6 : isInt Proofs.Try.prog 6 = some IntKind.u8 := by kernel_rfl
theorem hasTy_6 : hasTy Proofs.Try.prog 6 = true := by kernel_rfl
theorem shp_7 : shp Proofs.Try.prog 7 = some (true, 4) := by kernel_rfl
theorem zer_7 : zer Proofs.Try.prog 7 = some [SV.int IntKind.i64 0, SV.int IntKind.i64 0, SV.bool false, SV.int IntKind.u8 0] := by kernel_rfl
theorem zok_7 : zok Proofs.Try.prog 7 = true := by kernel_rfl
theorem plc_7 : plc Proofs.Try.prog 7 = some [(0, 1), (1, 1), (2, 1), (3, 1)] := by kernel_rfl
theorem hasTy_7 : hasTy Proofs.Try.prog 7 = true := by kernel_rfl
theorem fld_7_0 : fld Proofs.Try.prog 7 0 = some (0, 2, 1) := by kernel_rfl
theorem fld_7_1 : fld Proofs.Try.prog 7 1 = some (1, 3, 1) := by kernel_rfl
theorem fld_7_2 : fld Proofs.Try.prog 7 2 = some (2, 4, 1) := by kernel_rfl
theorem fld_7_3 : fld Proofs.Try.prog 7 3 = some (3, 6, 1) := by kernel_rfl
theorem shp_8 : shp Proofs.Try.prog 8 = some (true, 4) := by kernel_rfl
theorem zer_8 : zer Proofs.Try.prog 8 = some [SV.int IntKind.i64 0, SV.int IntKind.i64 0, SV.bool false, SV.int IntKind.u8 0] := by kernel_rfl
theorem zok_8 : zok Proofs.Try.prog 8 = true := by kernel_rfl
theorem plc_8 : plc Proofs.Try.prog 8 = some [(0, 1), (1, 1), (2, 1), (3, 1)] := by kernel_rfl
theorem hasTy_8 : hasTy Proofs.Try.prog 8 = true := by kernel_rfl
theorem fld_8_0 : fld Proofs.Try.prog 8 0 = some (0, 2, 1) := by kernel_rfl
theorem fld_8_1 : fld Proofs.Try.prog 8 1 = some (1, 3, 1) := by kernel_rfl
theorem fld_8_2 : fld Proofs.Try.prog 8 2 = some (2, 4, 1) := by kernel_rfl
theorem fld_8_3 : fld Proofs.Try.prog 8 3 = some (3, 6, 1) := by kernel_rfl
theorem shp_9 : shp Proofs.Try.prog 9 = some (false, 1) := by kernel_rfl
theorem zer_9 : zer Proofs.Try.prog 9 = some [SV.str { data := { toList := [] } }] := by kernel_rfl
theorem zok_9 : zok Proofs.Try.prog 9 = true := by kernel_rfl
theorem isStr_9 : isStr Proofs.Try.prog 9 = true := by kernel_rfl
theorem hasTy_9 : hasTy Proofs.Try.prog 9 = true := by kernel_rfl
theorem shp_10 : shp Proofs.Try.prog 10 = some (false, 1) := by kernel_rfl
theorem zer_10 : zer Proofs.Try.prog 10 = some [SV.str { data := { toList := [] } }] := by kernel_rfl
theorem zok_10 : zok Proofs.Try.prog 10 = true := by kernel_rfl
theorem isStr_10 : isStr Proofs.Try.prog 10 = true := by kernel_rfl
theorem hasTy_10 : hasTy Proofs.Try.prog 10 = true := by kernel_rfl
theorem shp_11 : shp Proofs.Try.prog 11 = some (false, 1) := by kernel_rfl
theorem zer_11 : zer Proofs.Try.prog 11 = some [SV.str { data := { toList := [] } }] := by kernel_rfl
theorem zok_11 : zok Proofs.Try.prog 11 = true := by kernel_rfl
theorem isStr_11 : isStr Proofs.Try.prog 11 = true := by kernel_rfl
theorem hasTy_11 : hasTy Proofs.Try.prog 11 = true := by kernel_rfl
theorem shp_12 : shp Proofs.Try.prog 12 = some (false, 1) := by kernel_rfl
theorem zer_12 : zer Proofs.Try.prog 12 = some [SV.int IntKind.u64 0] := by kernel_rfl
theorem zok_12 : zok Proofs.Try.prog 12 = true := by kernel_rfl
theorem isInt_12 : isInt Proofs.Try.prog 12 = some IntKind.u64 := by kernel_rfl
theorem hasTy_12 : hasTy Proofs.Try.prog 12 = true := by kernel_rfl
theorem shp_13 : shp Proofs.Try.prog 13 = some (true, 2) := by kernel_rfl
theorem zer_13 : zer Proofs.Try.prog 13 = some [SV.str { data := { toList := [] } }, SV.int IntKind.u64 0] := by kernel_rfl
theorem zok_13 : zok Proofs.Try.prog 13 = true := by kernel_rfl
theorem plc_13 : plc Proofs.Try.prog 13 = some [(0, 1), (1, 1)] := by kernel_rfl
theorem hasTy_13 : hasTy Proofs.Try.prog 13 = true := by kernel_rfl
theorem fld_13_0 : fld Proofs.Try.prog 13 0 = some (0, 9, 1) := by kernel_rfl
theorem fld_13_1 : fld Proofs.Try.prog 13 1 = some (1, 12, 1) := by kernel_rfl
theorem shp_14 : shp Proofs.Try.prog 14 = some (true, 2) := by kernel_rfl
theorem zer_14 : zer Proofs.Try.prog 14 = some [SV.str { data := { toList := [] } }, SV.int IntKind.u64 0] := by kernel_rfl
theorem zok_14 : zok Proofs.Try.prog 14 = true := by kernel_rfl
theorem plc_14 : plc Proofs.Try.prog 14 = some [(0, 1), (1, 1)] := by kernel_rfl
theorem hasTy_14 : hasTy Proofs.Try.prog 14 = true := by kernel_rfl
theorem fld_14_0 : fld Proofs.Try.prog 14 0 = some (0, 9, 1) := by kernel_rfl
theorem fld_14_1 : fld Proofs.Try.prog 14 1 = some (1, 12, 1) := by kernel_rfl
theorem shp_15 : shp Proofs.Try.prog 15 = some (false, 1) := by kernel_rfl
theorem zok_15 : zok Proofs.Try.prog 15 = true := by kernel_rfl
theorem hasTy_15 : hasTy Proofs.Try.prog 15 = true := by kernel_rfl
theorem shp_16 : shp Proofs.Try.prog 16 = some (false, 1) := by kernel_rfl
theorem zok_16 : zok Proofs.Try.prog 16 = true := by kernel_rfl
theorem hasTy_16 : hasTy Proofs.Try.prog 16 = true := by kernel_rfl
theorem shp_17 : shp Proofs.Try.prog 17 = some (false, 1) := by kernel_rfl
theorem zok_17 : zok Proofs.Try.prog 17 = true := by kernel_rfl
theorem hasTy_17 : hasTy Proofs.Try.prog 17 = true := by kernel_rfl
theorem shp_18 : shp Proofs.Try.prog 18 = some (true, 1) := by kernel_rfl
theorem zok_18 : zok Proofs.Try.prog 18 = true := by kernel_rfl
theorem plc_18 : plc Proofs.Try.prog 18 = some [(0, 1)] := by kernel_rfl
theorem hasTy_18 : hasTy Proofs.Try.prog 18 = true := by kernel_rfl
theorem fld_18_0 : fld Proofs.Try.prog 18 0 = some (0, 17, 1) := by kernel_rfl
theorem shp_19 : shp Proofs.Try.prog 19 = some (true, 1) := by kernel_rfl
theorem zok_19 : zok Proofs.Try.prog 19 = true := by kernel_rfl
theorem plc_19 : plc Proofs.Try.prog 19 = some [(0, 1)] := by kernel_rfl
theorem hasTy_19 : hasTy Proofs.Try.prog 19 = true := by kernel_rfl
theorem fld_19_0 : fld Proofs.Try.prog 19 0 = some (0, 17, 1) := by kernel_rfl
theorem shp_20 : shp Proofs.Try.prog 20 = some (false, 1) := by kernel_rfl
theorem zok_20 : zok Proofs.Try.prog 20 = true := by kernel_rfl
theorem hasTy_20 : hasTy Proofs.Try.prog 20 = true := by kernel_rfl
theorem shp_21 : shp Proofs.Try.prog 21 = some (false, 1) := by kernel_rfl
theorem zer_21 : zer Proofs.Try.prog 21 = some [SV.int IntKind.i32 0] := by kernel_rfl
theorem zok_21 : zok Proofs.Try.prog 21 = true := by kernel_rfl
theorem isInt_21 : isInt Proofs.Try.prog 21 = some IntKind.i32 := by kernel_rfl
theorem hasTy_21 : hasTy Proofs.Try.prog 21 = true := by kernel_rfl
theorem shp_22 : shp Proofs.Try.prog 22 = some (false, 1) := by kernel_rfl
theorem elm_22 : elm Proofs.Try.prog 22 = some (58, 1, 4) := by kernel_rfl
theorem zer_22 : zer Proofs.Try.prog 22 = some [SV.sl 0 []] := by kernel_rfl
theorem zok_22 : zok Proofs.Try.prog 22 = true := by kernel_rfl
theorem hasTy_22 : hasTy Proofs.Try.prog 22 = true := by kernel_rfl
theorem shp_23 : shp Proofs.Try.prog 23 = some (true, 3) := by kernel_rfl
theorem zer_23 : zer Proofs.Try.prog 23 = some [SV.bool false, SV.sl 0 [], SV.sl 0 []] := by kernel_rfl
theorem zok_23 : zok Proofs.Try.prog 23 = true := by kernel_rfl
theorem plc_23 : plc Proofs.Try.prog 23 = some [(0, 1), (1, 1), (2, 1)] := by kernel_rfl
theorem hasTy_23 : hasTy Proofs.Try.prog 23 = true := by kernel_rfl
theorem fld_23_0 : fld Proofs.Try.prog 23 0 = some (0, 4, 1) := by kernel_rfl
theorem fld_23_1 : fld Proofs.Try.prog 23 1 = some (1, 22, 1) := by kernel_rfl
theorem fld_23_2 : fld Proofs.Try.prog 23 2 = some (2, 22, 1) := by kernel_rfl
theorem shp_24 : shp Proofs.Try.prog 24 = some (true, 3) := by kernel_rfl
theorem zer_24 : zer Proofs.Try.prog 24 = some [SV.bool false, SV.sl 0 [], SV.sl 0 []] := by kernel_rfl
theorem zok_24 : zok Proofs.Try.prog 24 = true := by kernel_rfl
theorem plc_24 : plc Proofs.Try.prog 24 = some [(0, 1), (1, 1), (2, 1)] := by kernel_rfl
theorem hasTy_24 : hasTy Proofs.Try.prog 24 = true := by kernel_rfl
theorem fld_24_0 : fld Proofs.Try.prog 24 0 = some (0, 4, 1) := by kernel_rfl
theorem fld_24_1 : fld Proofs.Try.prog 24 1 = some (1, 22, 1) := by kernel_rfl
theorem fld_24_2 : fld Proofs.Try.prog 24 2 = some (2, 22, 1) := by kernel_rfl
theorem shp_25 : shp Proofs.Try.prog 25 = some (true, 9) := by kernel_rfl
theorem zer_25 : zer Proofs.Try.prog 25 = some [SV.int IntKind.i64 0, SV.int IntKind.i64 0, SV.int IntKind.i64 0, SV.bool false, SV.sl 0 [], SV.sl 0 [], SV.bool false, SV.sl 0 [], SV.sl 0 []] := by kernel_rfl
theorem zok_25 : zok Proofs.Try.prog 25 = true := by kernel_rfl
theorem plc_25 : plc Proofs.Try.prog 25 = some [(0, 1), (1, 1), (2, 1), (3, 3), (6, 3)] := by kernel_rfl
theorem hasTy_25 : hasTy Proofs.Try.prog 25 = true := by kernel_rfl
theorem fld_25_0 : fld Proofs.Try.prog 25 0 = some (0, 3, 1) := by kernel_rfl
theorem fld_25_1 : fld Proofs.Try.prog 25 1 = some (1, 3, 1) := by kernel_rfl
theorem fld_25_2 : fld Proofs.Try.prog 25 2 = some (2, 3, 1) := by kernel_rfl
theorem fld_25_3 : fld Proofs.Try.prog 25 3 = some (3, 24, 3) := by kernel_rfl
theorem fld_25_4 : fld Proofs.Try.prog 25 4 = some (6, 24, 3) := by kernel_rfl
theorem shp_26 : shp Proofs.Try.prog 26 = some (true, 9) := by kernel_rfl
theorem zer_26 : zer Proofs.Try.prog 26 = some [SV.int IntKind.i64 0, SV.int IntKind.i64 0, SV.int IntKind.i64 0, SV.bool false, SV.sl 0 [], SV.sl 0 [], SV.bool false, SV.sl 0 [], SV.sl 0 []] := by kernel_rfl
theorem zok_26 : zok Proofs.Try.prog 26 = true := by kernel_rfl
theorem plc_26 : plc Proofs.Try.prog 26 = some [(0, 1), (1, 1), (2, 1), (3, 3), (6, 3)] := by kernel_rfl
theorem hasTy_26 : hasTy Proofs.Try.prog 26 = true := by kernel_rfl
theorem fld_26_0 : fld Proofs.Try.prog 26 0 = some (0, 3, 1) := by kernel_rfl
theorem fld_26_1 : fld Proofs.Try.prog 26 1 = some (1, 3, 1) := by kernel_rfl
theorem fld_26_2 : fld Proofs.Try.prog 26 2 = some (2, 3, 1) := by kernel_rfl
theorem fld_26_3 : fld Proofs.Try.prog 26 3 = some (3, 24, 3) := by kernel_rfl
theorem fld_26_4 : fld Proofs.Try.prog 26 4 = some (6, 24, 3) := by kernel_rfl
theorem shp_27 : shp Proofs.Try.prog 27 = some (false, 1) := by kernel_rfl
theorem zok_27 : zok Proofs.Try.prog 27 = true := by kernel_rfl
theorem hasTy_27 : hasTy Proofs.Try.prog 27 = true := by kernel_rfl
theorem shp_28 : shp Proofs.Try.prog 28 = some (false, 1) := by kernel_rfl
theorem zer_28 : zer Proofs.Try.prog 28 = some [SV.int IntKind.i64 0] := by kernel_rfl
theorem zok_28 : zok Proofs.Try.prog 28 = true := by kernel_rfl
theorem isInt_28 : isInt Proofs.Try.prog 28 = some IntKind.i64 := by kernel_rfl
theorem hasTy_28 : hasTy Proofs.Try.prog 28 = true := by kernel_rfl
theorem shp_29 : shp Proofs.Try.prog 29 = some (false, 1) := by kernel_rfl
theorem zok_29 : zok Proofs.Try.prog 29 = true := by kernel_rfl
theorem hasTy_29 : hasTy Proofs.Try.prog 29 = true := by kernel_rfl
theorem shp_30 : shp Proofs.Try.prog 30 = some (false, 1) := by kernel_rfl
theorem zok_30 : zok Proofs.Try.prog 30 = true := by kernel_rfl
theorem hasTy_30 : hasTy Proofs.Try.prog 30 = true := by kernel_rfl
theorem shp_31 : shp Proofs.Try.prog 31 = some (false, 1) := by kernel_rfl
theorem zok_31 : zok Proofs.Try.prog 31 = true := by kernel_rfl
theorem hasTy_31 : hasTy Proofs.Try.prog 31 = true := by kernel_rfl
theorem shp_32 : shp Proofs.Try.prog 32 = some (false, 1) := by kernel_rfl
theorem zok_32 : zok Proofs.Try.prog 32 = true := by kernel_rfl
theorem hasTy_32 : hasTy Proofs.Try.prog 32 = true := by kernel_rfl
theorem shp_33 : shp Proofs.Try.prog 33 = some (false, 1) := by kernel_rfl
theorem zok_33 : zok Proofs.Try.prog 33 = true := by kernel_rfl
theorem hasTy_33 : hasTy Proofs.Try.prog 33 = true := by kernel_rfl
theorem shp_34 : shp Proofs.Try.prog 34 = some (false, 1) := by kernel_rfl
theorem zok_34 : zok Proofs.Try.prog 34 = true := by kernel_rfl
theorem hasTy_34 : hasTy Proofs.Try.prog 34 = true := by kernel_rfl
theorem shp_35 : shp Proofs.Try.prog 35 = some (false, 1) := by kernel_rfl
theorem zok_35 : zok Proofs.Try.prog 35 = true := by kernel_rfl
theorem hasTy_35 : hasTy Proofs.Try.prog 35 = true := by kernel_rfl
theorem shp_36 : shp Proofs.Try.prog 36 = some (false, 1) := by kernel_rfl
theorem zok_36 : zok Proofs.Try.prog 36 = true := by kernel_rfl
theorem hasTy_36 : hasTy Proofs.Try.prog 36 = true := by kernel_rfl
theorem shp_37 : shp Proofs.Try.prog 37 = some (false, 1) := by kernel_rfl
theorem zok_37 : zok Proofs.Try.prog 37 = true := by kernel_rfl
theorem hasTy_37 : hasTy Proofs.Try.prog 37 = true := by kernel_rfl
theorem shp_38 : shp Proofs.Try.prog 38 = some (false, 1) := by kernel_rfl
theorem zok_38 : zok Proofs.Try.prog 38 = true := by kernel_rfl
theorem hasTy_38 : hasTy Proofs.Try.prog 38 = true := by kernel_rfl
theorem shp_39 : shp Proofs.Try.prog 39 = some (false, 1) := by kernel_rfl
theorem elm_39 : elm Proofs.Try.prog 39 = some (24, 3, 56) := by kernel_rfl
theorem zer_39 : zer Proofs.Try.prog 39 = some [SV.sl 0 []] := by kernel_rfl
theorem zok_39 : zok Proofs.Try.prog 39 = true := by kernel_rfl
theorem hasTy_39 : hasTy Proofs.Try.prog 39 = true := by kernel_rfl
theorem shp_40 : shp Proofs.Try.prog 40 = some (false, 1) := by kernel_rfl
theorem zok_40 : zok Proofs.Try.prog 40 = true := by kernel_rfl
theorem hasTy_40 : hasTy Proofs.Try.prog 40 = true := by kernel_rfl
theorem shp_41 : shp Proofs.Try.prog 41 = some (false, 1) := by kernel_rfl
theorem zok_41 : zok Proofs.Try.prog 41 = true := by kernel_rfl
theorem hasTy_41 : hasTy Proofs.Try.prog 41 = true := by kernel_rfl
theorem shp_42 : shp Proofs.Try.prog 42 = some (false, 1) := by kernel_rfl
theorem zok_42 : zok Proofs.Try.prog 42 = true := by kernel_rfl
theorem hasTy_42 : hasTy Proofs.Try.prog 42 = true := by kernel_rfl
theorem shp_43 : shp Proofs.Try.prog 43 = some (false, 1) := by kernel_rfl
theorem elm_43 : elm Proofs.Try.prog 43 = some (3, 1, 8) := by kernel_rfl
theorem zer_43 : zer Proofs.Try.prog 43 = some [SV.sl 0 []] := by kernel_rfl
theorem zok_43 : zok Proofs.Try.prog 43 = true := by kernel_rfl
theorem hasTy_43 : hasTy Proofs.Try.prog 43 = true := by kernel_rfl
theorem shp_44 : shp Proofs.Try.prog 44 = some (false, 1) := by kernel_rfl
theorem zok_44 : zok Proofs.Try.prog 44 = true := by kernel_rfl
theorem hasTy_44 : hasTy Proofs.Try.prog 44 = true := by kernel_rfl
theorem shp_45 : shp Proofs.Try.prog 45 = some (false, 1) := by kernel_rfl
theorem zok_45 : zok Proofs.Try.prog 45 = true := by kernel_rfl
theorem hasTy_45 : hasTy Proofs.Try.prog 45 = true := by kernel_rfl
theorem shp_46 : shp Proofs.Try.prog 46 = some (false, 1) := by kernel_rfl
theorem elm_46 : elm Proofs.Try.prog 46 = some (39, 1, 24) := by kernel_rfl
theorem zer_46 : zer Proofs.Try.prog 46 = some [SV.sl 0 []] := by kernel_rfl
theorem zok_46 : zok Proofs.Try.prog 46 = true := by kernel_rfl
theorem hasTy_46 : hasTy Proofs.Try.prog 46 = true := by kernel_rfl
theorem shp_47 : shp Proofs.Try.prog 47 = some (true, 12) := by kernel_rfl
theorem zer_47 : zer Proofs.Try.prog 47 = some [SV.int IntKind.i64 0, SV.sl 0 [], SV.sl 0 [], SV.sl 0 [], SV.bool false, SV.sl 0 [], SV.sl 0 [], SV.bool false, SV.sl 0 [], SV.sl 0 [], SV.int IntKind.i64 0, SV.int IntKind.i64 0] := by kernel_rfl
theorem zok_47 : zok Proofs.Try.prog 47 = true := by kernel_rfl
theorem plc_47 : plc Proofs.Try.prog 47 = some [(0, 1), (1, 1), (2, 1), (3, 1), (4, 3), (7, 3), (10, 1), (11, 1)] := by kernel_rfl
theorem hasTy_47 : hasTy Proofs.Try.prog 47 = true := by kernel_rfl
theorem fld_47_0 : fld Proofs.Try.prog 47 0 = some (0, 3, 1) := by kernel_rfl
theorem fld_47_1 : fld Proofs.Try.prog 47 1 = some (1, 39, 1) := by kernel_rfl
theorem fld_47_2 : fld Proofs.Try.prog 47 2 = some (2, 39, 1) := by kernel_rfl
theorem fld_47_3 : fld Proofs.Try.prog 47 3 = some (3, 46, 1) := by kernel_rfl
theorem fld_47_4 : fld Proofs.Try.prog 47 4 = some (4, 24, 3) := by kernel_rfl
theorem fld_47_5 : fld Proofs.Try.prog 47 5 = some (7, 24, 3) := by kernel_rfl
theorem fld_47_6 : fld Proofs.Try.prog 47 6 = some (10, 3, 1) := by kernel_rfl
theorem fld_47_7 : fld Proofs.Try.prog 47 7 = some (11, 3, 1) := by kernel_rfl
theorem shp_48 : shp Proofs.Try.prog 48 = some (true, 12) := by kernel_rfl
theorem zer_48 : zer Proofs.Try.prog 48 = some [SV.int IntKind.i64 0, SV.sl 0 [], SV.sl 0 [], SV.sl 0 [], SV.bool false, SV.sl 0 [], SV.sl 0 [], SV.bool false, SV.sl 0 [], SV.sl 0 [], SV.int IntKind.i64 0, SV.int IntKind.i64 0] := by kernel_rfl
theorem zok_48 : zok Proofs.Try.prog 48 = true := by kernel_rfl
theorem plc_48 : plc Proofs.Try.prog 48 = some [(0, 1), (1, 1), (2, 1), (3, 1), (4, 3), (7, 3), (10, 1), (11, 1)] := by kernel_rfl
theorem hasTy_48 : hasTy Proofs.Try.prog 48 = true := by kernel_rfl
theorem fld_48_0 : fld Proofs.Try.prog 48 0 = some (0, 3, 1) := by kernel_rfl
theorem fld_48_1 : fld Proofs.Try.prog 48 1 = some (1, 39, 1) := by kernel_rfl
theorem fld_48_2 : fld Proofs.Try.prog 48 2 = some (2, 39, 1) := by kernel_rfl
theorem fld_48_3 : fld Proofs.Try.prog 48 3 = some (3, 46, 1) := by kernel_rfl
theorem fld_48_4 : fld Proofs.Try.prog 48 4 = some (4, 24, 3) := by kernel_rfl
theorem fld_48_5 : fld Proofs.Try.prog 48 5 = some (7, 24, 3) := by kernel_rfl
theorem fld_48_6 : fld Proofs.Try.prog 48 6 = some (10, 3, 1) := by kernel_rfl
theorem fld_48_7 : fld Proofs.Try.prog 48 7 = some (11, 3, 1) := by kernel_rfl
theorem shp_49 : shp Proofs.Try.prog 49 = some (false, 1) := by kernel_rfl
theorem zok_49 : zok Proofs.Try.prog 49 = true := by kernel_rfl
theorem hasTy_49 : hasTy Proofs.Try.prog 49 = true := by kernel_rfl
theorem shp_50 : shp Proofs.Try.prog 50 = some (false, 1) := by kernel_rfl
theorem zok_50 : zok Proofs.Try.prog 50 = true := by kernel_rfl
theorem hasTy_50 : hasTy Proofs.Try.prog 50 = true := by kernel_rfl
theorem shp_51 : shp Proofs.Try.prog 51 = some (false, 1) := by kernel_rfl
theorem zok_51 : zok Proofs.Try.prog 51 = true := by kernel_rfl
theorem hasTy_51 : hasTy Proofs.Try.prog 51 = true := by kernel_rfl
theorem shp_52 : shp Proofs.Try.prog 52 = some (false, 1) := by kernel_rfl
theorem zok_52 : zok Proofs.Try.prog 52 = true := by kernel_rfl
theorem hasTy_52 : hasTy Proofs.Try.prog 52 = true := by kernel_rfl
theorem shp_53 : shp Proofs.Try.prog 53 = some (false, 1) := by kernel_rfl
theorem zok_53 : zok Proofs.Try.prog 53 = true := by kernel_rfl
theorem hasTy_53 : hasTy Proofs.Try.prog 53 = true := by kernel_rfl
theorem shp_54 : shp Proofs.Try.prog 54 = some (false, 1) := by kernel_rfl
theorem zok_54 : zok Proofs.Try.prog 54 = true := by kernel_rfl
theorem hasTy_54 : hasTy Proofs.Try.prog 54 = true := by kernel_rfl
theorem shp_55 : shp Proofs.Try.prog 55 = some (false, 1) := by kernel_rfl
theorem zok_55 : zok Proofs.Try.prog 55 = true := by kernel_rfl
theorem hasTy_55 : hasTy Proofs.Try.prog 55 = true := by kernel_rfl
theorem shp_56 : shp Proofs.Try.prog 56 = some (false, 1) := by kernel_rfl
theorem zok_56 : zok Proofs.Try.prog 56 = true := by kernel_rfl
theorem hasTy_56 : hasTy Proofs.Try.prog 56 = true := by kernel_rfl
theorem shp_57 : shp Proofs.Try.prog 57 = some (false, 1) := by kernel_rfl
theorem zok_57 : zok Proofs.Try.prog 57 = true := by kernel_rfl
theorem hasTy_57 : hasTy Proofs.Try.prog 57 = true := by kernel_rfl
theorem shp_58 : shp Proofs.Try.prog 58 = some (false, 1) := by kernel_rfl
theorem zer_58 : zer Proofs.Try.prog 58 = some [SV.int IntKind.u32 0] := by kernel_rfl
theorem zok_58 : zok Proofs.Try.prog 58 = true := by kernel_rfl
theorem isInt_58 : isInt Proofs.Try.prog 58 = some IntKind.u32 := by kernel_rfl
theorem hasTy_58 : hasTy Proofs.Try.prog 58 = true := by kernel_rfl
theorem shp_59 : shp Proofs.Try.prog 59 = some (false, 1) := by kernel_rfl
theorem zok_59 : zok Proofs.Try.prog 59 = true := by kernel_rfl
theorem hasTy_59 : hasTy Proofs.Try.prog 59 = true := by kernel_rfl
theorem shp_60 : shp Proofs.Try.prog 60 = some (false, 1) := by kernel_rfl
theorem elm_60 : elm Proofs.Try.prog 60 = some (22, 1, 24) := by kernel_rfl
theorem zer_60 : zer Proofs.Try.prog 60 = some [SV.sl 0 []] := by kernel_rfl
theorem zok_60 : zok Proofs.Try.prog 60 = true := by kernel_rfl
theorem hasTy_60 : hasTy Proofs.Try.prog 60 = true := by kernel_rfl
theorem shp_61 : shp Proofs.Try.prog 61 = some (false, 1) := by kernel_rfl
theorem zok_61 : zok Proofs.Try.prog 61 = true := by kernel_rfl
theorem hasTy_61 : hasTy Proofs.Try.prog 61 = true := by kernel_rfl
theorem shp_62 : shp Proofs.Try.prog 62 = some (false, 1) := by kernel_rfl
theorem zok_62 : zok Proofs.Try.prog 62 = true := by kernel_rfl
theorem hasTy_62 : hasTy Proofs.Try.prog 62 = true := by kernel_rfl
theorem shp_63 : shp Proofs.Try.prog 63 = some (false, 1) := by kernel_rfl
theorem zok_63 : zok Proofs.Try.prog 63 = true := by kernel_rfl
theorem hasTy_63 : hasTy Proofs.Try.prog 63 = true := by kernel_rfl
theorem shp_64 : shp Proofs.Try.prog 64 = some (false, 1) := by kernel_rfl
theorem zok_64 : zok Proofs.Try.prog 64 = true := by kernel_rfl
theorem hasTy_64 : hasTy Proofs.Try.prog 64 = true := by kernel_rfl
theorem shp_65 : shp Proofs.Try.prog 65 = some (false, 1) := by kernel_rfl
theorem zok_65 : zok Proofs.Try.prog 65 = true := by kernel_rfl
theorem hasTy_65 : hasTy Proofs.Try.prog 65 = true := by kernel_rfl
theorem shp_66 : shp Proofs.Try.prog 66 = some (false, 1) := by kernel_rfl
theorem zok_66 : zok Proofs.Try.prog 66 = true := by kernel_rfl
theorem hasTy_66 : hasTy Proofs.Try.prog 66 = true := by kernel_rfl
theorem shp_67 : shp Proofs.Try.prog 67 = some (false, 1) := by kernel_rfl
theorem zok_67 : zok Proofs.Try.prog 67 = true := by kernel_rfl
theorem hasTy_67 : hasTy Proofs.Try.prog 67 = true := by kernel_rfl
theorem shp_68 : shp Proofs.Try.prog 68 = some (false, 1) := by kernel_rfl
theorem zok_68 : zok Proofs.Try.prog 68 = true := by kernel_rfl
theorem hasTy_68 : hasTy Proofs.Try.prog 68 = true := by kernel_rfl
theorem shp_69 : shp Proofs.Try.prog 69 = some (false, 1) := by kernel_rfl
theorem zok_69 : zok Proofs.Try.prog 69 = true := by kernel_rfl
theorem hasTy_69 : hasTy Proofs.Try.prog 69 = true := by kernel_rfl
theorem shp_70 : shp Proofs.Try.prog 70 = some (false, 1) := by kernel_rfl
theorem zer_70 : zer Proofs.Try.prog 70 = some [SV.int IntKind.u64 0] := by kernel_rfl
theorem zok_70 : zok Proofs.Try.prog 70 = true := by kernel_rfl
theorem isInt_70 : isInt Proofs.Try.prog 70 = some IntKind.u64 := by kernel_rfl
theorem hasTy_70 : hasTy Proofs.Try.prog 70 = true := by kernel_rfl
theorem shp_71 : shp Proofs.Try.prog 71 = some (false, 1) := by kernel_rfl
theorem zok_71 : zok Proofs.Try.prog 71 = true := by kernel_rfl
theorem hasTy_71 : hasTy Proofs.Try.prog 71 = true := by kernel_rfl
theorem shp_72 : shp Proofs.Try.prog 72 = some (false, 1) := by kernel_rfl
theorem zok_72 : zok Proofs.Try.prog 72 = true := by kernel_rfl
theorem hasTy_72 : hasTy Proofs.Try.prog 72 = true := by kernel_rfl
theorem shp_73 : shp Proofs.Try.prog 73 = some (false, 1) := by kernel_rfl
theorem zok_73 : zok Proofs.Try.prog 73 = true := by kernel_rfl
theorem hasTy_73 : hasTy Proofs.Try.prog 73 = true := by kernel_rfl
theorem shp_74 : shp Proofs.Try.prog 74 = some (false, 1) := by kernel_rfl
theorem zok_74 : zok Proofs.Try.prog 74 = true := by kernel_rfl
theorem hasTy_74 : hasTy Proofs.Try.prog 74 = true := by kernel_rfl
theorem shp_75 : shp Proofs.Try.prog 75 = some (false, 1) := by kernel_rfl
theorem zok_75 : zok Proofs.Try.prog 75 = true := by kernel_rfl
theorem hasTy_75 : hasTy Proofs.Try.prog 75 = true := by kernel_rfl
theorem shp_76 : shp Proofs.Try.prog 76 = some (false, 1) := by kernel_rfl
theorem zok_76 : zok Proofs.Try.prog 76 = true := by kernel_rfl
theorem hasTy_76 : hasTy Proofs.Try.prog 76 = true := by kernel_rfl
theorem shp_77 : shp Proofs.Try.prog 77 = some (false, 1) := by kernel_rfl
theorem zer_77 : zer Proofs.Try.prog 77 = some [SV.int IntKind.u64 0] := by kernel_rfl
theorem zok_77 : zok Proofs.Try.prog 77 = true := by kernel_rfl
theorem isInt_77 : isInt Proofs.Try.prog 77 = some IntKind.u64 := by kernel_rfl
theorem hasTy_77 : hasTy Proofs.Try.prog 77 = true := by kernel_rfl
theorem shp_78 : shp Proofs.Try.prog 78 = some (false, 1) := by kernel_rfl
theorem zok_78 : zok Proofs.Try.prog 78 = true := by kernel_rfl
theorem hasTy_78 : hasTy Proofs.Try.prog 78 = true := by kernel_rfl
theorem shp_79 : shp Proofs.Try.prog 79 = some (false, 1) := by kernel_rfl
theorem zok_79 : zok Proofs.Try.prog 79 = true := by kernel_rfl
theorem hasTy_79 : hasTy Proofs.Try.prog 79 = true := by kernel_rfl
theorem shp_80 : shp Proofs.Try.prog 80 = some (false, 1) := by kernel_rfl
theorem zok_80 : zok Proofs.Try.prog 80 = true := by kernel_rfl
theorem hasTy_80 : hasTy Proofs.Try.prog 80 = true := by kernel_rfl
theorem shp_81 : shp Proofs.Try.prog 81 = some (false, 1) := by kernel_rfl
theorem zok_81 : zok Proofs.Try.prog 81 = true := by kernel_rfl
theorem hasTy_81 : hasTy Proofs.Try.prog 81 = true := by kernel_rfl
theorem shp_82 : shp Proofs.Try.prog 82 = some (false, 1) := by kernel_rfl
theorem zok_82 : zok Proofs.Try.prog 82 = true := by kernel_rfl
theorem hasTy_82 : hasTy Proofs.Try.prog 82 = true := by kernel_rfl
theorem shp_83 : shp Proofs.Try.prog 83 = some (false, 1) := by kernel_rfl
theorem zok_83 : zok Proofs.Try.prog 83 = true := by kernel_rfl
theorem hasTy_83 : hasTy Proofs.Try.prog 83 = true := by kernel_rfl
theorem shp_84 : shp Proofs.Try.prog 84 = some (false, 1) := by kernel_rfl
theorem zok_84 : zok Proofs.Try.prog 84 = true := by kernel_rfl
theorem hasTy_84 : hasTy Proofs.Try.prog 84 = true := by kernel_rfl
theorem shp_85 : shp Proofs.Try.prog 85 = some (false, 1) := by kernel_rfl
theorem zok_85 : zok Proofs.Try.prog 85 = true := by kernel_rfl
theorem hasTy_85 : hasTy Proofs.Try.prog 85 = true := by kernel_rfl
theorem shp_86 : shp Proofs.Try.prog 86 = some (false, 1) := by kernel_rfl
theorem zok_86 : zok Proofs.Try.prog 86 = true := by kernel_rfl
theorem hasTy_86 : hasTy Proofs.Try.prog 86 = true := by kernel_rfl
theorem shp_87 : shp Proofs.Try.prog 87 = some (false, 1) := by kernel_rfl
theorem zok_87 : zok Proofs.Try.prog 87 = true := by kernel_rfl
theorem hasTy_87 : hasTy Proofs.Try.prog 87 = true := by kernel_rfl
theorem shp_88 : shp Proofs.Try.prog 88 = some (false, 1) := by kernel_rfl
theorem zok_88 : zok Proofs.Try.prog 88 = true := by kernel_rfl
theorem hasTy_88 : hasTy Proofs.Try.prog 88 = true := by kernel_rfl
theorem shp_89 : shp Proofs.Try.prog 89 = some (false, 1) := by kernel_rfl
theorem zok_89 : zok Proofs.Try.prog 89 = true := by kernel_rfl
theorem hasTy_89 : hasTy Proofs.Try.prog 89 = true := by kernel_rfl
theorem shp_90 : shp Proofs.Try.prog 90 = some (false, 1) := by kernel_rfl
theorem zok_90 : zok Proofs.Try.prog 90 = true := by kernel_rfl
theorem hasTy_90 : hasTy Proofs.Try.prog 90 = true := by kernel_rfl
theorem shp_91 : shp Proofs.Try.prog 91 = some (false, 1) := by kernel_rfl
theorem zok_91 : zok Proofs.Try.prog 91 = true := by kernel_rfl
theorem hasTy_91 : hasTy Proofs.Try.prog 91 = true := by kernel_rfl
theorem shp_92 : shp Proofs.Try.prog 92 = some (false, 1) := by kernel_rfl
theorem zok_92 : zok Proofs.Try.prog 92 = true := by kernel_rfl
theorem hasTy_92 : hasTy Proofs.Try.prog 92 = true := by kernel_rfl
theorem shp_93 : shp Proofs.Try.prog 93 = some (false, 1) := by kernel_rfl
theorem zok_93 : zok Proofs.Try.prog 93 = true := by kernel_rfl
theorem hasTy_93 : hasTy Proofs.Try.prog 93 = true := by kernel_rfl
theorem shp_94 : shp Proofs.Try.prog 94 = some (false, 1) := by kernel_rfl
theorem zok_94 : zok Proofs.Try.prog 94 = true := by kernel_rfl
theorem hasTy_94 : hasTy Proofs.Try.prog 94 = true := by kernel_rfl
theorem shp_95 : shp Proofs.Try.prog 95 = some (false, 1) := by kernel_rfl
theorem zok_95 : zok Proofs.Try.prog 95 = true := by kernel_rfl
theorem hasTy_95 : hasTy Proofs.Try.prog 95 = true := by kernel_rfl
theorem shp_96 : shp Proofs.Try.prog 96 = some (false, 1) := by kernel_rfl
theorem zok_96 : zok Proofs.Try.prog 96 = true := by kernel_rfl
theorem hasTy_96 : hasTy Proofs.Try.prog 96 = true := by kernel_rfl
theorem shp_97 : shp Proofs.Try.prog 97 = some (false, 1) := by kernel_rfl
theorem zok_97 : zok Proofs.Try.prog 97 = true := by kernel_rfl
theorem hasTy_97 : hasTy Proofs.Try.prog 97 = true := by kernel_rfl
theorem shp_98 : shp Proofs.Try.prog 98 = some (false, 1) := by kernel_rfl
theorem zok_98 : zok Proofs.Try.prog 98 = true := by kernel_rfl
theorem hasTy_98 : hasTy Proofs.Try.prog 98 = true := by kernel_rfl
theorem shp_99 : shp Proofs.Try.prog 99 = some (false, 1) := by kernel_rfl
theorem zok_99 : zok Proofs.Try.prog 99 = true := by kernel_rfl
theorem hasTy_99 : hasTy Proofs.Try.prog 99 = true := by kernel_rfl
theorem shp_100 : shp Proofs.Try.prog 100 = some (false, 1) := by kernel_rfl
theorem zok_100 : zok Proofs.Try.prog 100 = true := by kernel_rfl
theorem hasTy_100 : hasTy Proofs.Try.prog 100 = true := by kernel_rfl
theorem shp_101 : shp Proofs.Try.prog 101 = some (false, 1) := by kernel_rfl
theorem zok_101 : zok Proofs.Try.prog 101 = true := by kernel_rfl
theorem hasTy_101 : hasTy Proofs.Try.prog 101 = true := by kernel_rfl
theorem shp_102 : shp Proofs.Try.prog 102 = some (false, 1) := by kernel_rfl
theorem zok_102 : zok Proofs.Try.prog 102 = true := by kernel_rfl
theorem hasTy_102 : hasTy Proofs.Try.prog 102 = true := by kernel_rfl
theorem shp_103 : shp Proofs.Try.prog 103 = some (false, 1) := by kernel_rfl
theorem zok_103 : zok Proofs.Try.prog 103 = true := by kernel_rfl
theorem hasTy_103 : hasTy Proofs.Try.prog 103 = true := by kernel_rfl
theorem shp_104 : shp Proofs.Try.prog 104 = some (false, 1) := by kernel_rfl
theorem zok_104 : zok Proofs.Try.prog 104 = true := by kernel_rfl
theorem hasTy_104 : hasTy Proofs.Try.prog 104 = true := by kernel_rfl
theorem shp_105 : shp Proofs.Try.prog 105 = some (false, 1) := by kernel_rfl
theorem zok_105 : zok Proofs.Try.prog 105 = true := by kernel_rfl
theorem hasTy_105 : hasTy Proofs.Try.prog 105 = true := by kernel_rfl
theorem shp_106 : shp Proofs.Try.prog 106 = some (false, 1) := by kernel_rfl
theorem zok_106 : zok Proofs.Try.prog 106 = true := by kernel_rfl
theorem hasTy_106 : hasTy Proofs.Try.prog 106 = true := by kernel_rfl
theorem shp_107 : shp Proofs.Try.prog 107 = some (false, 1) := by kernel_rfl
theorem zok_107 : zok Proofs.Try.prog 107 = true := by kernel_rfl
theorem hasTy_107 : hasTy Proofs.Try.prog 107 = true := by kernel_rfl
theorem shp_108 : shp Proofs.Try.prog 108 = some (false, 1) := by kernel_rfl
theorem zok_108 : zok Proofs.Try.prog 108 = true := by kernel_rfl
theorem hasTy_108 : hasTy Proofs.Try.prog 108 = true := by kernel_rfl
theorem shp_109 : shp Proofs.Try.prog 109 = some (false, 1) := by kernel_rfl
theorem zok_109 : zok Proofs.Try.prog 109 = true := by kernel_rfl
theorem hasTy_109 : hasTy Proofs.Try.prog 109 = true := by kernel_rfl
theorem shp_110 : shp Proofs.Try.prog 110 = some (false, 1) := by kernel_rfl
theorem zok_110 : zok Proofs.Try.prog 110 = true := by kernel_rfl
theorem hasTy_110 : hasTy Proofs.Try.prog 110 = true := by kernel_rfl
theorem shp_111 : shp Proofs.Try.prog 111 = some (false, 1) := by kernel_rfl
theorem zok_111 : zok Proofs.Try.prog 111 = true := by kernel_rfl
theorem hasTy_111 : hasTy Proofs.Try.prog 111 = true := by kernel_rfl
theorem shp_112 : shp Proofs.Try.prog 112 = some (false, 1) := by kernel_rfl
theorem zok_112 : zok Proofs.Try.prog 112 = true := by kernel_rfl
theorem hasTy_112 : hasTy Proofs.Try.prog 112 = true := by kernel_rfl
theorem shp_113 : shp Proofs.Try.prog 113 = some (false, 1) := by kernel_rfl
theorem zok_113 : zok Proofs.Try.prog 113 = true := by kernel_rfl
theorem hasTy_113 : hasTy Proofs.Try.prog 113 = true := by kernel_rfl
theorem shp_114 : shp Proofs.Try.prog 114 = some (false, 1) := by kernel_rfl
theorem zok_114 : zok Proofs.Try.prog 114 = true := by kernel_rfl
theorem hasTy_114 : hasTy Proofs.Try.prog 114 = true := by kernel_rfl
theorem shp_115 : shp Proofs.Try.prog 115 = some (false, 1) := by kernel_rfl
theorem zok_115 : zok Proofs.Try.prog 115 = true := by kernel_rfl
theorem hasTy_115 : hasTy Proofs.Try.prog 115 = true := by kernel_rfl
theorem shp_116 : shp Proofs.Try.prog 116 = some (false, 1) := by kernel_rfl
theorem zok_116 : zok Proofs.Try.prog 116 = true := by kernel_rfl
theorem hasTy_116 : hasTy Proofs.Try.prog 116 = true := by kernel_rfl
theorem shp_117 : shp Proofs.Try.prog 117 = some (false, 1) := by kernel_rfl
theorem zok_117 : zok Proofs.Try.prog 117 = true := by kernel_rfl
theorem hasTy_117 : hasTy Proofs.Try.prog 117 = true := by kernel_rfl
theorem shp_118 : shp Proofs.Try.prog 118 = some (false, 1) := by kernel_rfl
theorem zok_118 : zok Proofs.Try.prog 118 = true := by kernel_rfl
theorem hasTy_118 : hasTy Proofs.Try.prog 118 = true := by kernel_rfl
theorem shp_119 : shp Proofs.Try.prog 119 = some (true, 4) := by kernel_rfl
theorem zok_119 : zok Proofs.Try.prog 119 = true := by kernel_rfl
theorem plc_119 : plc Proofs.Try.prog 119 = some [(0, 1), (1, 1), (2, 1), (3, 1)] := by kernel_rfl
theorem hasTy_119 : hasTy Proofs.Try.prog 119 = true := by kernel_rfl
theorem fld_119_0 : fld Proofs.Try.prog 119 0 = some (0, 17, 1) := by kernel_rfl
theorem fld_119_1 : fld Proofs.Try.prog 119 1 = some (1, 17, 1) := by kernel_rfl
theorem fld_119_2 : fld Proofs.Try.prog 119 2 = some (2, 17, 1) := by kernel_rfl
theorem fld_119_3 : fld Proofs.Try.prog 119 3 = some (3, 9, 1) := by kernel_rfl
theorem shp_120 : shp Proofs.Try.prog 120 = some (true, 4) := by kernel_rfl
theorem zok_120 : zok Proofs.Try.prog 120 = true := by kernel_rfl
theorem plc_120 : plc Proofs.Try.prog 120 = some [(0, 1), (1, 1), (2, 1), (3, 1)] := by kernel_rfl
theorem hasTy_120 : hasTy Proofs.Try.prog 120 = true := by kernel_rfl
theorem fld_120_0 : fld Proofs.Try.prog 120 0 = some (0, 17, 1) := by kernel_rfl
theorem fld_120_1 : fld Proofs.Try.prog 120 1 = some (1, 17, 1) := by kernel_rfl
theorem fld_120_2 : fld Proofs.Try.prog 120 2 = some (2, 17, 1) := by kernel_rfl
theorem fld_120_3 : fld Proofs.Try.prog 120 3 = some (3, 9, 1) := by kernel_rfl
theorem shp_121 : shp Proofs.Try.prog 121 = some (true, 0) := by kernel_rfl
theorem zer_121 : zer Proofs.Try.prog 121 = some [] := by kernel_rfl
theorem zok_121 : zok Proofs.Try.prog 121 = true := by kernel_rfl
theorem hasTy_121 : hasTy Proofs.Try.prog 121 = true := by kernel_rfl
theorem shp_122 : shp Proofs.Try.prog 122 = some (true, 0) := by kernel_rfl
theorem zer_122 : zer Proofs.Try.prog 122 = some [] := by kernel_rfl
theorem zok_122 : zok Proofs.Try.prog 122 = true := by kernel_rfl
theorem plc_122 : plc Proofs.Try.prog 122 = some [(0, 0)] := by kernel_rfl
theorem hasTy_122 : hasTy Proofs.Try.prog 122 = true := by kernel_rfl
theorem fld_122_0 : fld Proofs.Try.prog 122 0 = some (0, 121, 0) := by kernel_rfl
theorem shp_123 : shp Proofs.Try.prog 123 = some (true, 0) := by kernel_rfl
theorem zer_123 : zer Proofs.Try.prog 123 = some [] := by kernel_rfl
theorem zok_123 : zok Proofs.Try.prog 123 = true := by kernel_rfl
theorem plc_123 : plc Proofs.Try.prog 123 = some [(0, 0)] := by kernel_rfl
theorem hasTy_123 : hasTy Proofs.Try.prog 123 = true := by kernel_rfl
theorem fld_123_0 : fld Proofs.Try.prog 123 0 = some (0, 121, 0) := by kernel_rfl
theorem shp_124 : shp Proofs.Try.prog 124 = some (false, 1) := by kernel_rfl
theorem zok_124 : zok Proofs.Try.prog 124 = true := by kernel_rfl
theorem hasTy_124 : hasTy Proofs.Try.prog 124 = true := by kernel_rfl
theorem shp_125 : shp Proofs.Try.prog 125 = some (false, 1) := by kernel_rfl
theorem zer_125 : zer Proofs.Try.prog 125 = some [SV.int IntKind.u8 0] := by kernel_rfl
theorem zok_125 : zok Proofs.Try.prog 125 = true := by kernel_rfl
theorem isInt_125 : isInt Proofs.Try.prog 125 = some IntKind.u8 := by kernel_rfl
theorem hasTy_125 : hasTy Proofs.Try.prog 125 = true := by kernel_rfl
theorem shp_126 : shp Proofs.Try.prog 126 = some (false, 1) := by kernel_rfl
theorem zer_126 : zer Proofs.Try.prog 126 = some [SV.int IntKind.u8 0] := by kernel_rfl
theorem zok_126 : zok Proofs.Try.prog 126 = true := by kernel_rfl
theorem isInt_126 : isInt Proofs.Try.prog 126 = some IntKind.u8 := by kernel_rfl
theorem hasTy_126 : hasTy Proofs.Try.prog 126 = true := by kernel_rfl
theorem shp_127 : shp Proofs.Try.prog 127 = some (false, 1) := by kernel_rfl
theorem zok_127 : zok Proofs.Try.prog 127 = true := by kernel_rfl
theorem hasTy_127 : hasTy Proofs.Try.prog 127 = true := by kernel_rfl
theorem shp_128 : shp Proofs.Try.prog 128 = some (false, 1) := by kernel_rfl
theorem zok_128 : zok Proofs.Try.prog 128 = true := by kernel_rfl
theorem hasTy_128 : hasTy Proofs.Try.prog 128 = true := by kernel_rfl
theorem shp_129 : shp Proofs.Try.prog 129 = some (false, 1) := by kernel_rfl
theorem zer_129 : zer Proofs.Try.prog 129 = some [SV.int IntKind.i32 0] := by kernel_rfl
theorem zok_129 : zok Proofs.Try.prog 129 = true := by kernel_rfl
theorem isInt_129 : isInt Proofs.Try.prog 129 = some IntKind.i32 := by kernel_rfl
theorem hasTy_129 : hasTy Proofs.Try.prog 129 = true := by kernel_rfl
theorem shp_130 : shp Proofs.Try.prog 130 = some (false, 1) := by kernel_rfl
theorem zer_130 : zer Proofs.Try.prog 130 = some [SV.int IntKind.i32 0] := by kernel_rfl
theorem zok_130 : zok Proofs.Try.prog 130 = true := by kernel_rfl
theorem isInt_130 : isInt Proofs.Try.prog 130 = some IntKind.i32 := by kernel_rfl
theorem hasTy_130 : hasTy Proofs.Try.prog 130 = true := by kernel_rfl
theorem shp_131 : shp Proofs.Try.prog 131 = some (true, 11) := by kernel_rfl
theorem zok_131 : zok Proofs.Try.prog 131 = true := by kernel_rfl
theorem plc_131 : plc Proofs.Try.prog 131 = some [(0, 1), (1, 1), (2, 1), (3, 1), (4, 1), (5, 1), (6, 1), (7, 1), (8, 1), (9, 1), (10, 1)] := by kernel_rfl
theorem hasTy_131 : hasTy Proofs.Try.prog 131 = true := by kernel_rfl
theorem fld_131_0 : fld Proofs.Try.prog 131 0 = some (0, 12, 1) := by kernel_rfl
theorem fld_131_1 : fld Proofs.Try.prog 131 1 = some (1, 12, 1) := by kernel_rfl
theorem fld_131_2 : fld Proofs.Try.prog 131 2 = some (2, 58, 1) := by kernel_rfl
theorem fld_131_3 : fld Proofs.Try.prog 131 3 = some (3, 125, 1) := by kernel_rfl
theorem fld_131_4 : fld Proofs.Try.prog 131 4 = some (4, 5, 1) := by kernel_rfl
theorem fld_131_5 : fld Proofs.Try.prog 131 5 = some (5, 5, 1) := by kernel_rfl
theorem fld_131_6 : fld Proofs.Try.prog 131 6 = some (6, 126, 1) := by kernel_rfl
theorem fld_131_7 : fld Proofs.Try.prog 131 7 = some (7, 127, 1) := by kernel_rfl
theorem fld_131_8 : fld Proofs.Try.prog 131 8 = some (8, 128, 1) := by kernel_rfl
theorem fld_131_9 : fld Proofs.Try.prog 131 9 = some (9, 129, 1) := by kernel_rfl
theorem fld_131_10 : fld Proofs.Try.prog 131 10 = some (10, 130, 1) := by kernel_rfl
theorem shp_132 : shp Proofs.Try.prog 132 = some (true, 11) := by kernel_rfl
theorem zok_132 : zok Proofs.Try.prog 132 = true := by kernel_rfl
theorem plc_132 : plc Proofs.Try.prog 132 = some [(0, 1), (1, 1), (2, 1), (3, 1), (4, 1), (5, 1), (6, 1), (7, 1), (8, 1), (9, 1), (10, 1)] := by kernel_rfl
theorem hasTy_132 : hasTy Proofs.Try.prog 132 = true := by kernel_rfl
theorem fld_132_0 : fld Proofs.Try.prog 132 0 = some (0, 12, 1) := by kernel_rfl
theorem fld_132_1 : fld Proofs.Try.prog 132 1 = some (1, 12, 1) := by kernel_rfl
theorem fld_132_2 : fld Proofs.Try.prog 132 2 = some (2, 58, 1) := by kernel_rfl
theorem fld_132_3 : fld Proofs.Try.prog 132 3 = some (3, 125, 1) := by kernel_rfl
theorem fld_132_4 : fld Proofs.Try.prog 132 4 = some (4, 5, 1) := by kernel_rfl
theorem fld_132_5 : fld Proofs.Try.prog 132 5 = some (5, 5, 1) := by kernel_rfl
theorem fld_132_6 : fld Proofs.Try.prog 132 6 = some (6, 126, 1) := by kernel_rfl
theorem fld_132_7 : fld Proofs.Try.prog 132 7 = some (7, 127, 1) := by kernel_rfl
theorem fld_132_8 : fld Proofs.Try.prog 132 8 = some (8, 128, 1) := by kernel_rfl
theorem fld_132_9 : fld Proofs.Try.prog 132 9 = some (9, 129, 1) := by kernel_rfl
theorem fld_132_10 : fld Proofs.Try.prog 132 10 = some (10, 130, 1) := by kernel_rfl
theorem shp_133 : shp Proofs.Try.prog 133 = some (true, 1) := by kernel_rfl
theorem zer_133 : zer Proofs.Try.prog 133 = some [SV.str { data := { toList := [] } }] := by kernel_rfl
theorem zok_133 : zok Proofs.Try.prog 133 = true := by kernel_rfl
theorem plc_133 : plc Proofs.Try.prog 133 = some [(0, 1)] := by kernel_rfl
theorem hasTy_133 : hasTy Proofs.Try.prog 133 = true := by kernel_rfl
theorem fld_133_0 : fld Proofs.Try.prog 133 0 = some (0, 9, 1) := by kernel_rfl
theorem shp_134 : shp Proofs.Try.prog 134 = some (true, 1) := by kernel_rfl
theorem zer_134 : zer Proofs.Try.prog 134 = some [SV.str { data := { toList := [] } }] := by kernel_rfl
theorem zok_134 : zok Proofs.Try.prog 134 = true := by kernel_rfl
theorem plc_134 : plc Proofs.Try.prog 134 = some [(0, 1)] := by kernel_rfl
theorem hasTy_134 : hasTy Proofs.Try.prog 134 = true := by kernel_rfl
theorem fld_134_0 : fld Proofs.Try.prog 134 0 = some (0, 9, 1) := by kernel_rfl
theorem shp_135 : shp Proofs.Try.prog 135 = some (false, 1) := by kernel_rfl
theorem zok_135 : zok Proofs.Try.prog 135 = true := by kernel_rfl
theorem hasTy_135 : hasTy Proofs.Try.prog 135 = true := by kernel_rfl
attribute [go_sem] shp_0 zok_0 hasTy_0 shp_1 zok_1 hasTy_1 shp_2 zer_2 zok_2 isInt_2 hasTy_2 shp_3 zer_3 zok_3 isInt_3 hasTy_3 shp_4 zer_4 zok_4 isBool_4
attribute [go_sem] hasTy_4 shp_5 zer_5 zok_5 isInt_5 hasTy_5 shp_6 zer_6 zok_6 isInt_6 hasTy_6 shp_7 zer_7 zok_7 plc_7 hasTy_7 fld_7_0 fld_7_1 fld_7_2 fld_7_3
attribute [go_sem] shp_8 zer_8 zok_8 plc_8 hasTy_8 fld_8_0 fld_8_1 fld_8_2 fld_8_3 shp_9 zer_9 zok_9 isStr_9 hasTy_9 shp_10 zer_10 zok_10 isStr_10 hasTy_10 shp_11
attribute [go_sem] zer_11 zok_11 isStr_11 hasTy_11 shp_12 zer_12 zok_12 isInt_12 hasTy_12 shp_13 zer_13 zok_13 plc_13 hasTy_13 fld_13_0 fld_13_1 shp_14 zer_14 zok_14 plc_14
attribute [go_sem] hasTy_14 fld_14_0 fld_14_1 shp_15 zok_15 hasTy_15 shp_16 zok_16 hasTy_16 shp_17 zok_17 hasTy_17 shp_18 zok_18 plc_18 hasTy_18 fld_18_0 shp_19 zok_19 plc_19
attribute [go_sem] hasTy_19 fld_19_0 shp_20 zok_20 hasTy_20 shp_21 zer_21 zok_21 isInt_21 hasTy_21 shp_22 elm_22 zer_22 zok_22 hasTy_22 shp_23 zer_23 zok_23 plc_23 hasTy_23
attribute [go_sem] fld_23_0 fld_23_1 fld_23_2 shp_24 zer_24 zok_24 plc_24 hasTy_24 fld_24_0 fld_24_1 fld_24_2 shp_25 zer_25 zok_25 plc_25 hasTy_25 fld_25_0 fld_25_1 fld_25_2 fld_25_3
attribute [go_sem] fld_25_4 shp_26 zer_26 zok_26 plc_26 hasTy_26 fld_26_0 fld_26_1 fld_26_2 fld_26_3 fld_26_4 shp_27 zok_27 hasTy_27 shp_28 zer_28 zok_28 isInt_28 hasTy_28 shp_29
attribute [go_sem] zok_29 hasTy_29 shp_30 zok_30 hasTy_30 shp_31 zok_31 hasTy_31 shp_32 zok_32 hasTy_32 shp_33 zok_33 hasTy_33 shp_34 zok_34 hasTy_34 shp_35 zok_35 hasTy_35
attribute [go_sem] shp_36 zok_36 hasTy_36 shp_37 zok_37 hasTy_37 shp_38 zok_38 hasTy_38 shp_39 elm_39 zer_39 zok_39 hasTy_39 shp_40 zok_40 hasTy_40 shp_41 zok_41 hasTy_41
attribute [go_sem] shp_42 zok_42 hasTy_42 shp_43 elm_43 zer_43 zok_43 hasTy_43 shp_44 zok_44 hasTy_44 shp_45 zok_45 hasTy_45 shp_46 elm_46 zer_46 zok_46 hasTy_46 shp_47
attribute [go_sem] zer_47 zok_47 plc_47 hasTy_47 fld_47_0 fld_47_1 fld_47_2 fld_47_3 fld_47_4 fld_47_5 fld_47_6 fld_47_7 shp_48 zer_48 zok_48 plc_48 hasTy_48 fld_48_0 fld_48_1 fld_48_2
attribute [go_sem] fld_48_3 fld_48_4 fld_48_5 fld_48_6 fld_48_7 shp_49 zok_49 hasTy_49 shp_50 zok_50 hasTy_50 shp_51 zok_51 hasTy_51 shp_52 zok_52 hasTy_52 shp_53 zok_53 hasTy_53
attribute [go_sem] shp_54 zok_54 hasTy_54 shp_55 zok_55 hasTy_55 shp_56 zok_56 hasTy_56 shp_57 zok_57 hasTy_57 shp_58 zer_58 zok_58 isInt_58 hasTy_58 shp_59 zok_59 hasTy_59
attribute [go_sem] shp_60 elm_60 zer_60 zok_60 hasTy_60 shp_61 zok_61 hasTy_61 shp_62 zok_62 hasTy_62 shp_63 zok_63 hasTy_63 shp_64 zok_64 hasTy_64 shp_65 zok_65 hasTy_65
attribute [go_sem] shp_66 zok_66 hasTy_66 shp_67 zok_67 hasTy_67 shp_68 zok_68 hasTy_68 shp_69 zok_69 hasTy_69 shp_70 zer_70 zok_70 isInt_70 hasTy_70 shp_71 zok_71 hasTy_71
attribute [go_sem] shp_72 zok_72 hasTy_72 shp_73 zok_73 hasTy_73 shp_74 zok_74 hasTy_74 shp_75 zok_75 hasTy_75 shp_76 zok_76 hasTy_76 shp_77 zer_77 zok_77 isInt_77 hasTy_77
attribute [go_sem] shp_78 zok_78 hasTy_78 shp_79 zok_79 hasTy_79 shp_80 zok_80 hasTy_80 shp_81 zok_81 hasTy_81 shp_82 zok_82 hasTy_82 shp_83 zok_83 hasTy_83 shp_84 zok_84
attribute [go_sem] hasTy_84 shp_85 zok_85 hasTy_85 shp_86 zok_86 hasTy_86 shp_87 zok_87 hasTy_87 shp_88 zok_88 hasTy_88 shp_89 zok_89 hasTy_89 shp_90 zok_90 hasTy_90 shp_91
attribute [go_sem] zok_91 hasTy_91 shp_92 zok_92 hasTy_92 shp_93 zok_93 hasTy_93 shp_94 zok_94 hasTy_94 shp_95 zok_95 hasTy_95 shp_96 zok_96 hasTy_96 shp_97 zok_97 hasTy_97
attribute [go_sem] shp_98 zok_98 hasTy_98 shp_99 zok_99 hasTy_99 shp_100 zok_100 hasTy_100 shp_101 zok_101 hasTy_101 shp_102 zok_102 hasTy_102 shp_103 zok_103 hasTy_103 shp_104 zok_104
attribute [go_sem] hasTy_104 shp_105 zok_105 hasTy_105 shp_106 zok_106 hasTy_106 shp_107 zok_107 hasTy_107 shp_108 zok_108 hasTy_108 shp_109 zok_109 hasTy_109 shp_110 zok_110 hasTy_110 shp_111
attribute [go_sem] zok_111 hasTy_111 shp_112 zok_112 hasTy_112 shp_113 zok_113 hasTy_113 shp_114 zok_114 hasTy_114 shp_115 zok_115 hasTy_115 shp_116 zok_116 hasTy_116 shp_117 zok_117 hasTy_117
attribute [go_sem] shp_118 zok_118 hasTy_118 shp_119 zok_119 plc_119 hasTy_119 fld_119_0 fld_119_1 fld_119_2 fld_119_3 shp_120 zok_120 plc_120 hasTy_120 fld_120_0 fld_120_1 fld_120_2 fld_120_3 shp_121
attribute [go_sem] zer_121 zok_121 hasTy_121 shp_122 zer_122 zok_122 plc_122 hasTy_122 fld_122_0 shp_123 zer_123 zok_123 plc_123 hasTy_123 fld_123_0 shp_124 zok_124 hasTy_124 shp_125 zer_125
attribute [go_sem] zok_125 isInt_125 hasTy_125 shp_126 zer_126 zok_126 isInt_126 hasTy_126 shp_127 zok_127 hasTy_127 shp_128 zok_128 hasTy_128 shp_129 zer_129 zok_129 isInt_129 hasTy_129 shp_130
attribute [go_sem] zer_130 zok_130 isInt_130 hasTy_130 shp_131 zok_131 plc_131 hasTy_131 fld_131_0 fld_131_1 fld_131_2 fld_131_3 fld_131_4 fld_131_5 fld_131_6 fld_131_7 fld_131_8 fld_131_9 fld_131_10 shp_132
attribute [go_sem] zok_132 plc_132 hasTy_132 fld_132_0 fld_132_1 fld_132_2 fld_132_3 fld_132_4 fld_132_5 fld_132_6 fld_132_7 fld_132_8 fld_132_9 fld_132_10 shp_133 zer_133 zok_133 plc_133 hasTy_133 fld_133_0
attribute [go_sem] shp_134 zer_134 zok_134 plc_134 hasTy_134 fld_134_0 shp_135 zok_135 hasTy_135
end Go.Proofs.Ytdnmhnjblgkjaaa.F

/- slices.Clone of this program. -/
namespace Go.Proofs.Ytdnmhnjblgkjaaa
set_option linter.unusedSimpArgs false
set_option linter.unusedVariables false
set_option maxRecDepth 8000
open Go.Ev
noncomputable def C0 : Cx := { P := Try.prog, X := fun _ _ => none, mu := fun _ => false, good := fun _ => false }
theorem C0_P : C0.P = Try.prog := rfl
theorem clone_ok : CallOk Try.prog CZ.X := by
  refine cloneX_ok (f := 106) (fn := Try.f106) (e := (58, 1, 4)) (by kernel_rfl) (by kernel_rfl) rfl (Nat.lt_of_lt_of_le (Nat.lt_succ_self 4) (Nat.le_of_ble_eq_true (by kernel_rfl))) (by kernel_rfl) fun n cs => ?_
  refine ⟨20, _, rfl, rfl, ⟨20, _, rfl, rfl⟩, fun h1 h2 h3 => ?_⟩
  have hC : ∀ m, CallOk Try.prog (callN C0.P C0.X C0.mu C0.good m) := fun m => callN_ok (fun g args r exps h => by cases h) (fun f fn h => by cases h) _ m
  suffices h : ∀ {c : Code} {st : St}, WP C0 c st (fun e s => e = .ret ∧ retOf Try.prog s Try.f106.results.toList = some (.sv (.sl n cs))) → ∃ call mu k st', CallOk Try.prog call ∧ exec Try.prog call mu k c st = some (.ret, st') ∧ retOf Try.prog st' Try.f106.results.toList = some (.sv (.sl n cs)) by
    refine h ?_
    have hlen : (List.length cs : Nat) = n * 1 := by omega
    have h2' : cs.all SV.one = true := h2
    have h5 : (5 < N0) = True := by simp [N0]
    have hr : Try.f106.results.toList = [.tmp 2] := by kernel_rfl
    rcases Nat.eq_zero_or_pos n with rfl | hn
    · have : cs = [] := List.eq_nil_of_length_eq_zero h1
      subst this
      simp only [go_sem, Nat.reduceEqDiff, Nat.reduceAdd, Nat.reduceSub, Nat.reduceMul, Nat.reduceLeDiff, Nat.reduceLT, reduceIte, reduceCtorEq, Nat.succ_ne_zero, elemsC, Int.reduceToNat, Nat.reducePow, C0_P, h1, h2, h2', h3, h5, hr, elemsC, Nat.zero_le, Nat.mul_one, Nat.zero_mul, Nat.zero_add, retOf, resTV, outSV]
    · have hn0 : ¬ n = 0 := by omega
      simp only [go_sem, Nat.reduceEqDiff, Nat.reduceAdd, Nat.reduceSub, Nat.reduceMul, Nat.reduceLeDiff, Nat.reduceLT, reduceIte, reduceCtorEq, Nat.succ_ne_zero, elemsC, Int.reduceToNat, Nat.reducePow, C0_P, h1, h2, h2', h3, h5, hn0, hr, elemsC, Nat.zero_le, Nat.mul_one, Nat.zero_mul, Nat.zero_add, retOf, resTV, outSV]
      rw [List.take_of_length_le (by omega)]
  rintro c st ⟨m, e, s, he, rfl, hr⟩
  exact ⟨_, _, m, s, hC m, he, hr⟩
end Go.Proofs.Ytdnmhnjblgkjaaa

/- nat's small functions, in the evaluator. -/
namespace Go.Proofs.Ytdnmhnjblgkjaaa
set_option linter.unusedSimpArgs false
set_option linter.unusedVariables false
set_option maxRecDepth 8000
open Go.Ev

theorem nat_Is (xs : List Nat) (hl : xs.length ≤ 1099511627776) : Go.Ev.Fn CX 95 [natV xs] (.bool (isT xs)) := by
  refine Go.Ev.Fn.intro (fn := Try.f95) (body := (Try.f95).body.get!) (by kernel_rfl) (by kernel_rfl) (by kernel_rfl) (fun _ => rfl) (Nat.le_of_ble_eq_true (by kernel_rfl)) ?_; unfold Try.f95; simp only [Option.get!_some]
  by_cases h0 : xs.length = 0
  · have e : isT xs = true := by simp [isT, h0]
    rw [e]
    (try (simp only [go_sem, Nat.reduceEqDiff, Nat.reduceAdd, Nat.reduceSub, Nat.reduceMul, Nat.reduceLeDiff, Nat.reduceLT, reduceIte, reduceCtorEq, Nat.succ_ne_zero, elemsC, Int.reduceToNat, Nat.reducePow])); repeat ((first | (simp (disch := (first | omega | (simp only [AL, List.length_map]; omega))) only [AR, AL, ifT, ifF, take_all, List.length_cons, List.length_nil, Int.reduceToNat, Int.reducePow, Nat.reducePow]) | (refine wk_intro (by kernel_rfl) ?_) | (refine vp_draw (l := []) (by kernel_rfl) ?_)); try (simp only [go_sem, Nat.reduceEqDiff, Nat.reduceAdd, Nat.reduceSub, Nat.reduceMul, Nat.reduceLeDiff, Nat.reduceLT, reduceIte, reduceCtorEq, Nat.succ_ne_zero, elemsC, Int.reduceToNat, Nat.reducePow]))
  · have e : isT xs = (xs.getD (xs.length - 1) 0 != 0) := by simp [isT, h0]
    rw [e]
    (try (simp only [go_sem, Nat.reduceEqDiff, Nat.reduceAdd, Nat.reduceSub, Nat.reduceMul, Nat.reduceLeDiff, Nat.reduceLT, reduceIte, reduceCtorEq, Nat.succ_ne_zero, elemsC, Int.reduceToNat, Nat.reducePow])); repeat ((first | (simp (disch := (first | omega | (simp only [AL, List.length_map]; omega))) only [AR, AL, ifT, ifF, take_all, List.length_cons, List.length_nil, Int.reduceToNat, Int.reducePow, Nat.reducePow]) | (refine wk_intro (by kernel_rfl) ?_) | (refine vp_draw (l := []) (by kernel_rfl) ?_)); try (simp only [go_sem, Nat.reduceEqDiff, Nat.reduceAdd, Nat.reduceSub, Nat.reduceMul, Nat.reduceLeDiff, Nat.reduceLT, reduceIte, reduceCtorEq, Nat.succ_ne_zero, elemsC, Int.reduceToNat, Nat.reducePow]))
    rw [bne_nat]

/-- Taking noughts from the end. -/
theorem lim_dropLast {xs : List Nat} (h : isT xs = false) : xs.length ≠ 0 ∧ lim (wth (xs.take (xs.length - 1))) = lim (wth xs) := by
  unfold isT at h
  simp only [Bool.or_eq_false_iff, beq_eq_false_iff_ne, bne_eq_false_iff_eq] at h
  refine ⟨h.1, ?_⟩
  rcases xs.eq_nil_or_concat with rfl | ⟨ys, z, rfl⟩
  · rfl
  · rw [List.concat_eq_append] at h ⊢
    have e : z = 0 := by simpa using h.2
    subst e
    simp [lim_snoc0]
theorem nat_trim (xs : List Nat) (hx : okL xs) (hl : xs.length ≤ 1099511627776) : Go.Ev.Fn CX 70 [natV xs] (natV (lim (wth xs))) := by
  refine Go.Ev.Fn.intro (fn := Try.f70) (body := (Try.f70).body.get!) (by kernel_rfl) (by kernel_rfl) (by kernel_rfl) (fun _ => rfl) (Nat.le_of_ble_eq_true (by kernel_rfl)) ?_; unfold Try.f70; simp only [Option.get!_some]
  simp only [go_sem, Nat.reduceEqDiff, Nat.reduceAdd, Nat.reduceSub, Nat.reduceMul, Nat.reduceLeDiff, Nat.reduceLT, reduceIte, reduceCtorEq, Nat.succ_ne_zero, elemsC, Int.reduceToNat, Nat.reducePow]
  refine vp_loop_inv (fun s => ∃ ys, s.tmp 0 = .sv (natV ys) ∧ okL ys ∧ ys.length ≤ xs.length ∧ lim (wth ys) = lim (wth xs)) (fun s => (lenTV (s.tmp 0)).getD 0) ⟨xs, rfl, hx, Nat.le_refl _, rfl⟩ ?_
  rintro s ⟨ys, h0, hy, hle, he⟩
  (try (simp only [go_sem, Nat.reduceEqDiff, Nat.reduceAdd, Nat.reduceSub, Nat.reduceMul, Nat.reduceLeDiff, Nat.reduceLT, reduceIte, reduceCtorEq, Nat.succ_ne_zero, elemsC, Int.reduceToNat, Nat.reducePow, h0])); repeat ((first | (simp (disch := (first | omega | (simp only [AL, List.length_map]; omega))) only [AR, AL, ifT, ifF, take_all, List.length_cons, List.length_nil, Int.reduceToNat, Int.reducePow, Nat.reducePow, h0]) | (refine wk_intro (by kernel_rfl) ?_) | (refine vp_draw (l := []) (by kernel_rfl) ?_)); try (simp only [go_sem, Nat.reduceEqDiff, Nat.reduceAdd, Nat.reduceSub, Nat.reduceMul, Nat.reduceLeDiff, Nat.reduceLT, reduceIte, reduceCtorEq, Nat.succ_ne_zero, elemsC, Int.reduceToNat, Nat.reducePow, h0]))
  refine vf_of (nat_Is ys (by omega)) ?_; simp only [go_sem, Nat.reduceEqDiff, Nat.reduceAdd, Nat.reduceSub, Nat.reduceMul, Nat.reduceLeDiff, Nat.reduceLT, reduceIte, reduceCtorEq, Nat.succ_ne_zero, elemsC, Int.reduceToNat, Nat.reducePow, h0]
  by_cases hT : isT ys = true
  · (try (simp only [go_sem, Nat.reduceEqDiff, Nat.reduceAdd, Nat.reduceSub, Nat.reduceMul, Nat.reduceLeDiff, Nat.reduceLT, reduceIte, reduceCtorEq, Nat.succ_ne_zero, elemsC, Int.reduceToNat, Nat.reducePow, h0, hT, Bool.not_true])); repeat ((first | (simp (disch := (first | omega | (simp only [AL, List.length_map]; omega))) only [AR, AL, ifT, ifF, take_all, List.length_cons, List.length_nil, Int.reduceToNat, Int.reducePow, Nat.reducePow, h0, hT, Bool.not_true]) | (refine wk_intro (by kernel_rfl) ?_) | (refine vp_draw (l := []) (by kernel_rfl) ?_)); try (simp only [go_sem, Nat.reduceEqDiff, Nat.reduceAdd, Nat.reduceSub, Nat.reduceMul, Nat.reduceLeDiff, Nat.reduceLT, reduceIte, reduceCtorEq, Nat.succ_ne_zero, elemsC, Int.reduceToNat, Nat.reducePow, h0, hT, Bool.not_true]))
    rw [← he, ← lim_unique hy (isT_iff.1 hT)]
  · have hT : isT ys = false := by simpa using hT
    obtain ⟨h1, h2⟩ := lim_dropLast hT
    (try (simp only [go_sem, Nat.reduceEqDiff, Nat.reduceAdd, Nat.reduceSub, Nat.reduceMul, Nat.reduceLeDiff, Nat.reduceLT, reduceIte, reduceCtorEq, Nat.succ_ne_zero, elemsC, Int.reduceToNat, Nat.reducePow, h0, hT, Bool.not_false])); repeat ((first | (simp (disch := (first | omega | (simp only [AL, List.length_map]; omega))) only [AR, AL, ifT, ifF, take_all, List.length_cons, List.length_nil, Int.reduceToNat, Int.reducePow, Nat.reducePow, h0, hT, Bool.not_false]) | (refine wk_intro (by kernel_rfl) ?_) | (refine vp_draw (l := []) (by kernel_rfl) ?_)); try (simp only [go_sem, Nat.reduceEqDiff, Nat.reduceAdd, Nat.reduceSub, Nat.reduceMul, Nat.reduceLeDiff, Nat.reduceLT, reduceIte, reduceCtorEq, Nat.succ_ne_zero, elemsC, Int.reduceToNat, Nat.reducePow, h0, hT, Bool.not_false]))
    refine ⟨⟨ys.take (ys.length - 1), ?_, okL_take hy _, ?_, h2.trans he⟩, ?_⟩
    · rw [natV_cut (by omega)]
    · rw [List.length_take]; omega
    · simp only [lenTV, Option.getD_some]; omega
theorem nat_Trim (xs : List Nat) (hx : okL xs) (hl : xs.length ≤ 274877906944) : Go.Ev.Fn CX 96 [natV xs] (natV (lim (wth xs))) := by
  have hc : Go.Ev.Fn CX 106 [natV (lim (wth xs))] (natV (lim (wth xs))) := by
    refine ⟨1, [none], ?_⟩
    have h1 := lim_length_le hx
    have h2 := natV_one (lim (wth xs))
    have h3 : cloneX 106 106 [.sv (natV (lim (wth xs)))] = some (.sv (natV (lim (wth xs))), [none]) := by
      simp only [cloneX, if_true]
      rw [if_pos ⟨natV_len _, h2, by omega⟩]
    have h4 : CX.X 106 [.sv (natV (lim (wth xs)))] = some (.sv (natV (lim (wth xs))), [none]) := h3
    unfold callN
    rw [List.map_cons, List.map_nil, h4]
  refine Go.Ev.Fn.intro (fn := Try.f96) (body := (Try.f96).body.get!) (by kernel_rfl) (by kernel_rfl) (by kernel_rfl) (fun _ => rfl) (Nat.le_of_ble_eq_true (by kernel_rfl)) ?_; unfold Try.f96; simp only [Option.get!_some]
  simp only [go_sem, Nat.reduceEqDiff, Nat.reduceAdd, Nat.reduceSub, Nat.reduceMul, Nat.reduceLeDiff, Nat.reduceLT, reduceIte, reduceCtorEq, Nat.succ_ne_zero, elemsC, Int.reduceToNat, Nat.reducePow]
  refine vf_of (nat_trim xs hx (by omega)) ?_; simp only [go_sem, Nat.reduceEqDiff, Nat.reduceAdd, Nat.reduceSub, Nat.reduceMul, Nat.reduceLeDiff, Nat.reduceLT, reduceIte, reduceCtorEq, Nat.succ_ne_zero, elemsC, Int.reduceToNat, Nat.reducePow]
  refine vf_of (hc) ?_; simp only [go_sem, Nat.reduceEqDiff, Nat.reduceAdd, Nat.reduceSub, Nat.reduceMul, Nat.reduceLeDiff, Nat.reduceLT, reduceIte, reduceCtorEq, Nat.succ_ne_zero, elemsC, Int.reduceToNat, Nat.reducePow]
theorem nat_Of (n : Nat) (hn : n < 18446744073709551616) : Go.Ev.Fn CX 46 [.int .u64 n] (natV (lim n)) := by
  refine Go.Ev.Fn.intro (fn := Try.f46) (body := (Try.f46).body.get!) (by kernel_rfl) (by kernel_rfl) (by kernel_rfl) (fun _ => rfl) (Nat.le_of_ble_eq_true (by kernel_rfl)) ?_; unfold Try.f46; simp only [Option.get!_some]
  (try (simp only [go_sem, Nat.reduceEqDiff, Nat.reduceAdd, Nat.reduceSub, Nat.reduceMul, Nat.reduceLeDiff, Nat.reduceLT, reduceIte, reduceCtorEq, Nat.succ_ne_zero, elemsC, Int.reduceToNat, Nat.reducePow])); repeat ((first | (simp (disch := (first | omega | (simp only [AL, List.length_map]; omega))) only [AR, AL, ifT, ifF, take_all, List.length_cons, List.length_nil, Int.reduceToNat, Int.reducePow, Nat.reducePow]) | (refine wk_intro (by kernel_rfl) ?_) | (refine vp_draw (l := []) (by kernel_rfl) ?_)); try (simp only [go_sem, Nat.reduceEqDiff, Nat.reduceAdd, Nat.reduceSub, Nat.reduceMul, Nat.reduceLeDiff, Nat.reduceLT, reduceIte, reduceCtorEq, Nat.succ_ne_zero, elemsC, Int.reduceToNat, Nat.reducePow]))
  have e : wth [n % 4294967296, n / 4294967296] = n := by simp only [wth]; omega
  refine vf_of (nat_trim [n % 4294967296, n / 4294967296] (by simp [okL]; omega) (by simp)) ?_; (try (simp only [go_sem, Nat.reduceEqDiff, Nat.reduceAdd, Nat.reduceSub, Nat.reduceMul, Nat.reduceLeDiff, Nat.reduceLT, reduceIte, reduceCtorEq, Nat.succ_ne_zero, elemsC, Int.reduceToNat, Nat.reducePow])); repeat ((first | (simp (disch := (first | omega | (simp only [AL, List.length_map]; omega))) only [AR, AL, ifT, ifF, take_all, List.length_cons, List.length_nil, Int.reduceToNat, Int.reducePow, Nat.reducePow]) | (refine wk_intro (by kernel_rfl) ?_) | (refine vp_draw (l := []) (by kernel_rfl) ?_)); try (simp only [go_sem, Nat.reduceEqDiff, Nat.reduceAdd, Nat.reduceSub, Nat.reduceMul, Nat.reduceLeDiff, Nat.reduceLT, reduceIte, reduceCtorEq, Nat.succ_ne_zero, elemsC, Int.reduceToNat, Nat.reducePow]))
  rw [e]
end Go.Proofs.Ytdnmhnjblgkjaaa

/- nat.Cmp, in the evaluator. -/
namespace Go.Proofs.Ytdnmhnjblgkjaaa
set_option linter.unusedSimpArgs false
set_option linter.unusedVariables false
set_option maxRecDepth 8000
open Go.Ev
/-- -1, 0 or 1. -/
def cmpN (a b : Nat) : Int := if a < b then -1 else if a = b then 0 else 1
theorem wth_lt_of {xs ys : List Nat} (hx : okL xs) (hy : okL ys) (hl : xs.length = ys.length) {i : Nat} (hi : i < xs.length) (hd : xs.drop (i + 1) = ys.drop (i + 1)) (h : xs.getD i 0 < ys.getD i 0) : wth xs < wth ys := by
  have h1 : ∀ (zs : List Nat), i < zs.length → wth zs = wth (zs.take i) + 4294967296 ^ i * (zs.getD i 0 + 4294967296 * wth (zs.drop (i + 1))) := by
    intro zs hz
    conv => lhs; rw [← List.take_append_drop i zs]
    rw [wth_append, List.length_take, Nat.min_eq_left (by omega), List.drop_eq_getElem_cons hz, wth_cons, List.getD_eq_getElem?_getD, List.getElem?_eq_getElem hz]
    rfl
  rw [h1 xs hi, h1 ys (by omega), hd]
  have h2 := wth_lt (okL_take hx i)
  rw [List.length_take, Nat.min_eq_left (by omega)] at h2
  have h3 : 4294967296 ^ i * (xs.getD i 0 + 4294967296 * wth (ys.drop (i + 1)) + 1) ≤ 4294967296 ^ i * (ys.getD i 0 + 4294967296 * wth (ys.drop (i + 1))) := Nat.mul_le_mul_left _ (by omega)
  rw [Nat.mul_add _ _ 1, Nat.mul_one] at h3
  omega
theorem lim_length_lt {a b : Nat} (h : (lim a).length < (lim b).length) : a < b := by
  rcases Nat.lt_or_ge a b with h1 | h1
  · exact h1
  · have := trimL_length (okL_lim b) (okL_lim a) (trimL_lim b) (by rw [wth_lim, wth_lim]; exact h1)
    omega
theorem nat_Cmp (xs ys : List Nat) (hx : okL xs) (hy : okL ys) (hl : xs.length ≤ 1099511627776) (hm : ys.length ≤ 1099511627776) : Go.Ev.Fn CX 104 [natV xs, natV ys] (.int .i64 (cmpN (wth xs) (wth ys))) := by
  refine Go.Ev.Fn.intro (fn := Try.f104) (body := (Try.f104).body.get!) (by kernel_rfl) (by kernel_rfl) (by kernel_rfl) (fun _ => rfl) (Nat.le_of_ble_eq_true (by kernel_rfl)) ?_; unfold Try.f104; simp only [Option.get!_some]
  have lx := lim_length_le hx
  have ly := lim_length_le hy
  (try (simp only [go_sem, Nat.reduceEqDiff, Nat.reduceAdd, Nat.reduceSub, Nat.reduceMul, Nat.reduceLeDiff, Nat.reduceLT, reduceIte, reduceCtorEq, Nat.succ_ne_zero, elemsC, Int.reduceToNat, Nat.reducePow])); repeat ((first | (simp (disch := (first | omega | (simp only [AL, List.length_map]; omega))) only [AR, AL, ifT, ifF, take_all, List.length_cons, List.length_nil, Int.reduceToNat, Int.reducePow, Nat.reducePow]) | (refine wk_intro (by kernel_rfl) ?_) | (refine vp_draw (l := []) (by kernel_rfl) ?_)); try (simp only [go_sem, Nat.reduceEqDiff, Nat.reduceAdd, Nat.reduceSub, Nat.reduceMul, Nat.reduceLeDiff, Nat.reduceLT, reduceIte, reduceCtorEq, Nat.succ_ne_zero, elemsC, Int.reduceToNat, Nat.reducePow]))
  refine vf_of (nat_trim xs hx (by omega)) ?_; (try (simp only [go_sem, Nat.reduceEqDiff, Nat.reduceAdd, Nat.reduceSub, Nat.reduceMul, Nat.reduceLeDiff, Nat.reduceLT, reduceIte, reduceCtorEq, Nat.succ_ne_zero, elemsC, Int.reduceToNat, Nat.reducePow])); repeat ((first | (simp (disch := (first | omega | (simp only [AL, List.length_map]; omega))) only [AR, AL, ifT, ifF, take_all, List.length_cons, List.length_nil, Int.reduceToNat, Int.reducePow, Nat.reducePow]) | (refine wk_intro (by kernel_rfl) ?_) | (refine vp_draw (l := []) (by kernel_rfl) ?_)); try (simp only [go_sem, Nat.reduceEqDiff, Nat.reduceAdd, Nat.reduceSub, Nat.reduceMul, Nat.reduceLeDiff, Nat.reduceLT, reduceIte, reduceCtorEq, Nat.succ_ne_zero, elemsC, Int.reduceToNat, Nat.reducePow]))
  refine vf_of (nat_trim ys hy (by omega)) ?_; (try (simp only [go_sem, Nat.reduceEqDiff, Nat.reduceAdd, Nat.reduceSub, Nat.reduceMul, Nat.reduceLeDiff, Nat.reduceLT, reduceIte, reduceCtorEq, Nat.succ_ne_zero, elemsC, Int.reduceToNat, Nat.reducePow])); repeat ((first | (simp (disch := (first | omega | (simp only [AL, List.length_map]; omega))) only [AR, AL, ifT, ifF, take_all, List.length_cons, List.length_nil, Int.reduceToNat, Int.reducePow, Nat.reducePow]) | (refine wk_intro (by kernel_rfl) ?_) | (refine vp_draw (l := []) (by kernel_rfl) ?_)); try (simp only [go_sem, Nat.reduceEqDiff, Nat.reduceAdd, Nat.reduceSub, Nat.reduceMul, Nat.reduceLeDiff, Nat.reduceLT, reduceIte, reduceCtorEq, Nat.succ_ne_zero, elemsC, Int.reduceToNat, Nat.reducePow]))
  by_cases h1 : (lim (wth xs)).length = (lim (wth ys)).length
  · (try (simp only [go_sem, Nat.reduceEqDiff, Nat.reduceAdd, Nat.reduceSub, Nat.reduceMul, Nat.reduceLeDiff, Nat.reduceLT, reduceIte, reduceCtorEq, Nat.succ_ne_zero, elemsC, Int.reduceToNat, Nat.reducePow])); repeat ((first | (simp (disch := (first | omega | (simp only [AL, List.length_map]; omega))) only [AR, AL, ifT, ifF, take_all, List.length_cons, List.length_nil, Int.reduceToNat, Int.reducePow, Nat.reducePow]) | (refine wk_intro (by kernel_rfl) ?_)); try (simp only [go_sem, Nat.reduceEqDiff, Nat.reduceAdd, Nat.reduceSub, Nat.reduceMul, Nat.reduceLeDiff, Nat.reduceLT, reduceIte, reduceCtorEq, Nat.succ_ne_zero, elemsC, Int.reduceToNat, Nat.reducePow]))
    refine vp_loop_inv (fun s => s.tmp 0 = .sv (natV (lim (wth xs))) ∧ s.tmp 1 = .sv (natV (lim (wth ys))) ∧ ∃ i : Nat, s.tmp 5 = .sv (.int .i64 ((i : Int) - 1)) ∧ i ≤ (lim (wth xs)).length ∧ (lim (wth xs)).drop i = (lim (wth ys)).drop i)
      (fun s => match s.tmp 5 with | .sv (.int _ i) => (i + 1).toNat | _ => 0) ⟨rfl, rfl, (lim (wth xs)).length, rfl, Nat.le_refl _, ?_⟩ ?_
    · rw [List.drop_length, h1, List.drop_length]
    rintro s ⟨g0, g1, i, g5, hi, hd⟩
    rcases Nat.eq_zero_or_pos i with rfl | hi0
    · have e : cmpN (wth xs) (wth ys) = 0 := by
        have := congrArg wth hd
        rw [List.drop_zero, List.drop_zero, wth_lim, wth_lim] at this
        rw [this]
        simp [cmpN]
      rw [e]
      (try (simp only [go_sem, Nat.reduceEqDiff, Nat.reduceAdd, Nat.reduceSub, Nat.reduceMul, Nat.reduceLeDiff, Nat.reduceLT, reduceIte, reduceCtorEq, Nat.succ_ne_zero, elemsC, Int.reduceToNat, Nat.reducePow, g0, g1, g5])); repeat ((first | (simp (disch := (first | omega | (simp only [AL, List.length_map]; omega))) only [AR, AL, ifT, ifF, take_all, List.length_cons, List.length_nil, Int.reduceToNat, Int.reducePow, Nat.reducePow, g0, g1, g5]) | (refine wk_intro (by kernel_rfl) ?_) | (refine vp_draw (l := []) (by kernel_rfl) ?_)); try (simp only [go_sem, Nat.reduceEqDiff, Nat.reduceAdd, Nat.reduceSub, Nat.reduceMul, Nat.reduceLeDiff, Nat.reduceLT, reduceIte, reduceCtorEq, Nat.succ_ne_zero, elemsC, Int.reduceToNat, Nat.reducePow, g0, g1, g5]))
    · (try (simp only [go_sem, Nat.reduceEqDiff, Nat.reduceAdd, Nat.reduceSub, Nat.reduceMul, Nat.reduceLeDiff, Nat.reduceLT, reduceIte, reduceCtorEq, Nat.succ_ne_zero, elemsC, Int.reduceToNat, Nat.reducePow, g0, g1, g5])); repeat ((first | (simp (disch := (first | omega | (simp only [AL, List.length_map]; omega))) only [AR, AL, ifT, ifF, take_all, List.length_cons, List.length_nil, Int.reduceToNat, Int.reducePow, Nat.reducePow, g0, g1, g5]) | (refine wk_intro (by kernel_rfl) ?_) | (refine vp_draw (l := []) (by kernel_rfl) ?_)); try (simp only [go_sem, Nat.reduceEqDiff, Nat.reduceAdd, Nat.reduceSub, Nat.reduceMul, Nat.reduceLeDiff, Nat.reduceLT, reduceIte, reduceCtorEq, Nat.succ_ne_zero, elemsC, Int.reduceToNat, Nat.reducePow, g0, g1, g5]))
      have hdr : ∀ zs : List Nat, i ≤ zs.length → zs.drop (i - 1) = zs.getD (i - 1) 0 :: zs.drop i := by
        intro zs hz
        rw [List.drop_eq_getElem_cons (show i - 1 < zs.length by omega), List.getD_eq_getElem?_getD, List.getElem?_eq_getElem (show i - 1 < zs.length by omega), show i - 1 + 1 = i by omega]
        rfl
      rcases Nat.lt_trichotomy ((lim (wth xs)).getD (i - 1) 0) ((lim (wth ys)).getD (i - 1) 0) with hc | hc | hc
      · have := wth_lt_of (okL_lim _) (okL_lim _) h1 (i := i - 1) (by omega) (by rw [show i - 1 + 1 = i by omega]; exact hd) hc
        rw [wth_lim, wth_lim] at this
        have e : cmpN (wth xs) (wth ys) = -1 := by simp [cmpN, this]
        rw [e]
        (try (simp only [go_sem, Nat.reduceEqDiff, Nat.reduceAdd, Nat.reduceSub, Nat.reduceMul, Nat.reduceLeDiff, Nat.reduceLT, reduceIte, reduceCtorEq, Nat.succ_ne_zero, elemsC, Int.reduceToNat, Nat.reducePow, g0, g1, g5])); repeat ((first | (simp (disch := (first | omega | (simp only [AL, List.length_map]; omega))) only [AR, AL, ifT, ifF, take_all, List.length_cons, List.length_nil, Int.reduceToNat, Int.reducePow, Nat.reducePow, g0, g1, g5]) | (refine wk_intro (by kernel_rfl) ?_) | (refine vp_draw (l := []) (by kernel_rfl) ?_)); try (simp only [go_sem, Nat.reduceEqDiff, Nat.reduceAdd, Nat.reduceSub, Nat.reduceMul, Nat.reduceLeDiff, Nat.reduceLT, reduceIte, reduceCtorEq, Nat.succ_ne_zero, elemsC, Int.reduceToNat, Nat.reducePow, g0, g1, g5]))
      · (try (simp only [go_sem, Nat.reduceEqDiff, Nat.reduceAdd, Nat.reduceSub, Nat.reduceMul, Nat.reduceLeDiff, Nat.reduceLT, reduceIte, reduceCtorEq, Nat.succ_ne_zero, elemsC, Int.reduceToNat, Nat.reducePow, g0, g1, g5])); repeat ((first | (simp (disch := (first | omega | (simp only [AL, List.length_map]; omega))) only [AR, AL, ifT, ifF, take_all, List.length_cons, List.length_nil, Int.reduceToNat, Int.reducePow, Nat.reducePow, g0, g1, g5]) | (refine wk_intro (by kernel_rfl) ?_) | (refine vp_draw (l := []) (by kernel_rfl) ?_)); try (simp only [go_sem, Nat.reduceEqDiff, Nat.reduceAdd, Nat.reduceSub, Nat.reduceMul, Nat.reduceLeDiff, Nat.reduceLT, reduceIte, reduceCtorEq, Nat.succ_ne_zero, elemsC, Int.reduceToNat, Nat.reducePow, g0, g1, g5]))
        refine ⟨⟨i - 1, ?_, by omega, ?_⟩, by omega⟩
        · simp only [Int.natCast_sub hi0]
        · rw [hdr _ hi, hdr _ (by omega), hc, hd]
      · have := wth_lt_of (okL_lim _) (okL_lim _) h1.symm (i := i - 1) (by omega) (by rw [show i - 1 + 1 = i by omega]; exact hd.symm) hc
        rw [wth_lim, wth_lim] at this
        have e : cmpN (wth xs) (wth ys) = 1 := by unfold cmpN; rw [if_neg (by omega), if_neg (by omega)]
        rw [e]
        (try (simp only [go_sem, Nat.reduceEqDiff, Nat.reduceAdd, Nat.reduceSub, Nat.reduceMul, Nat.reduceLeDiff, Nat.reduceLT, reduceIte, reduceCtorEq, Nat.succ_ne_zero, elemsC, Int.reduceToNat, Nat.reducePow, g0, g1, g5])); repeat ((first | (simp (disch := (first | omega | (simp only [AL, List.length_map]; omega))) only [AR, AL, ifT, ifF, take_all, List.length_cons, List.length_nil, Int.reduceToNat, Int.reducePow, Nat.reducePow, g0, g1, g5]) | (refine wk_intro (by kernel_rfl) ?_) | (refine vp_draw (l := []) (by kernel_rfl) ?_)); try (simp only [go_sem, Nat.reduceEqDiff, Nat.reduceAdd, Nat.reduceSub, Nat.reduceMul, Nat.reduceLeDiff, Nat.reduceLT, reduceIte, reduceCtorEq, Nat.succ_ne_zero, elemsC, Int.reduceToNat, Nat.reducePow, g0, g1, g5]))
  · by_cases h2 : (lim (wth xs)).length < (lim (wth ys)).length
    · have := lim_length_lt h2
      have e : cmpN (wth xs) (wth ys) = -1 := by simp [cmpN, this]
      rw [e]
      (try (simp only [go_sem, Nat.reduceEqDiff, Nat.reduceAdd, Nat.reduceSub, Nat.reduceMul, Nat.reduceLeDiff, Nat.reduceLT, reduceIte, reduceCtorEq, Nat.succ_ne_zero, elemsC, Int.reduceToNat, Nat.reducePow])); repeat ((first | (simp (disch := (first | omega | (simp only [AL, List.length_map]; omega))) only [AR, AL, ifT, ifF, take_all, List.length_cons, List.length_nil, Int.reduceToNat, Int.reducePow, Nat.reducePow]) | (refine wk_intro (by kernel_rfl) ?_) | (refine vp_draw (l := []) (by kernel_rfl) ?_)); try (simp only [go_sem, Nat.reduceEqDiff, Nat.reduceAdd, Nat.reduceSub, Nat.reduceMul, Nat.reduceLeDiff, Nat.reduceLT, reduceIte, reduceCtorEq, Nat.succ_ne_zero, elemsC, Int.reduceToNat, Nat.reducePow]))
    · have := lim_length_lt (a := wth ys) (b := wth xs) (by omega)
      have e : cmpN (wth xs) (wth ys) = 1 := by unfold cmpN; rw [if_neg (by omega), if_neg (by omega)]
      rw [e]
      (try (simp only [go_sem, Nat.reduceEqDiff, Nat.reduceAdd, Nat.reduceSub, Nat.reduceMul, Nat.reduceLeDiff, Nat.reduceLT, reduceIte, reduceCtorEq, Nat.succ_ne_zero, elemsC, Int.reduceToNat, Nat.reducePow])); repeat ((first | (simp (disch := (first | omega | (simp only [AL, List.length_map]; omega))) only [AR, AL, ifT, ifF, take_all, List.length_cons, List.length_nil, Int.reduceToNat, Int.reducePow, Nat.reducePow]) | (refine wk_intro (by kernel_rfl) ?_) | (refine vp_draw (l := []) (by kernel_rfl) ?_)); try (simp only [go_sem, Nat.reduceEqDiff, Nat.reduceAdd, Nat.reduceSub, Nat.reduceMul, Nat.reduceLeDiff, Nat.reduceLT, reduceIte, reduceCtorEq, Nat.succ_ne_zero, elemsC, Int.reduceToNat, Nat.reducePow]))
end Go.Proofs.Ytdnmhnjblgkjaaa

/- nat.Add, in the evaluator. -/
namespace Go.Proofs.Ytdnmhnjblgkjaaa
set_option linter.unusedSimpArgs false
set_option linter.unusedVariables false
set_option maxRecDepth 8000
open Go.Ev
theorem nat_Add (xs ys : List Nat) (hx : okL xs) (hy : okL ys) (hl : xs.length ≤ 1073741824) (hm : ys.length ≤ 1073741824) : Go.Ev.Fn CX 71 [natV xs, natV ys] (natV (lim (wth xs + wth ys))) := by
  refine Go.Ev.Fn.intro (fn := Try.f71) (body := (Try.f71).body.get!) (by kernel_rfl) (by kernel_rfl) (by kernel_rfl) (fun _ => rfl) (Nat.le_of_ble_eq_true (by kernel_rfl)) ?_; unfold Try.f71; simp only [Option.get!_some]
  have lx := lim_length_le hx
  have ly := lim_length_le hy
  (try (simp only [go_sem, Nat.reduceEqDiff, Nat.reduceAdd, Nat.reduceSub, Nat.reduceMul, Nat.reduceLeDiff, Nat.reduceLT, reduceIte, reduceCtorEq, Nat.succ_ne_zero, elemsC, Int.reduceToNat, Nat.reducePow])); repeat ((first | (simp (disch := (first | omega | (simp only [AL, List.length_map]; omega))) only [AR, AL, ifT, ifF, take_all, List.length_cons, List.length_nil, Int.reduceToNat, Int.reducePow, Nat.reducePow]) | (refine wk_intro (by kernel_rfl) ?_) | (refine vp_draw (l := []) (by kernel_rfl) ?_)); try (simp only [go_sem, Nat.reduceEqDiff, Nat.reduceAdd, Nat.reduceSub, Nat.reduceMul, Nat.reduceLeDiff, Nat.reduceLT, reduceIte, reduceCtorEq, Nat.succ_ne_zero, elemsC, Int.reduceToNat, Nat.reducePow]))
  refine vf_of (nat_trim xs hx (by omega)) ?_; (try (simp only [go_sem, Nat.reduceEqDiff, Nat.reduceAdd, Nat.reduceSub, Nat.reduceMul, Nat.reduceLeDiff, Nat.reduceLT, reduceIte, reduceCtorEq, Nat.succ_ne_zero, elemsC, Int.reduceToNat, Nat.reducePow])); repeat ((first | (simp (disch := (first | omega | (simp only [AL, List.length_map]; omega))) only [AR, AL, ifT, ifF, take_all, List.length_cons, List.length_nil, Int.reduceToNat, Int.reducePow, Nat.reducePow]) | (refine wk_intro (by kernel_rfl) ?_) | (refine vp_draw (l := []) (by kernel_rfl) ?_)); try (simp only [go_sem, Nat.reduceEqDiff, Nat.reduceAdd, Nat.reduceSub, Nat.reduceMul, Nat.reduceLeDiff, Nat.reduceLT, reduceIte, reduceCtorEq, Nat.succ_ne_zero, elemsC, Int.reduceToNat, Nat.reducePow]))
  refine vf_of (nat_trim ys hy (by omega)) ?_; (try (simp only [go_sem, Nat.reduceEqDiff, Nat.reduceAdd, Nat.reduceSub, Nat.reduceMul, Nat.reduceLeDiff, Nat.reduceLT, reduceIte, reduceCtorEq, Nat.succ_ne_zero, elemsC, Int.reduceToNat, Nat.reducePow])); repeat ((first | (simp (disch := (first | omega | (simp only [AL, List.length_map]; omega))) only [AR, AL, ifT, ifF, take_all, List.length_cons, List.length_nil, Int.reduceToNat, Int.reducePow, Nat.reducePow]) | (refine wk_intro (by kernel_rfl) ?_) | (refine vp_draw (l := []) (by kernel_rfl) ?_)); try (simp only [go_sem, Nat.reduceEqDiff, Nat.reduceAdd, Nat.reduceSub, Nat.reduceMul, Nat.reduceLeDiff, Nat.reduceLT, reduceIte, reduceCtorEq, Nat.succ_ne_zero, elemsC, Int.reduceToNat, Nat.reducePow]))
  refine vc_cut (Mid := fun s => ∃ a b, s.tmp 0 = .sv (natV a) ∧ s.tmp 1 = .sv (natV b) ∧ okL a ∧ okL b ∧ b.length ≤ a.length ∧ a.length ≤ 1073741824 ∧ wth a + wth b = wth xs + wth ys) ?_ ?_
  · by_cases h1 : (lim (wth xs)).length < (lim (wth ys)).length
    · (try (simp only [go_sem, Nat.reduceEqDiff, Nat.reduceAdd, Nat.reduceSub, Nat.reduceMul, Nat.reduceLeDiff, Nat.reduceLT, reduceIte, reduceCtorEq, Nat.succ_ne_zero, elemsC, Int.reduceToNat, Nat.reducePow])); repeat ((first | (simp (disch := (first | omega | (simp only [AL, List.length_map]; omega))) only [AR, AL, ifT, ifF, take_all, List.length_cons, List.length_nil, Int.reduceToNat, Int.reducePow, Nat.reducePow]) | (refine wk_intro (by kernel_rfl) ?_) | (refine vp_draw (l := []) (by kernel_rfl) ?_)); try (simp only [go_sem, Nat.reduceEqDiff, Nat.reduceAdd, Nat.reduceSub, Nat.reduceMul, Nat.reduceLeDiff, Nat.reduceLT, reduceIte, reduceCtorEq, Nat.succ_ne_zero, elemsC, Int.reduceToNat, Nat.reducePow]))
      exact ⟨_, _, rfl, rfl, okL_lim _, okL_lim _, by omega, by omega, by rw [wth_lim, wth_lim]; omega⟩
    · (try (simp only [go_sem, Nat.reduceEqDiff, Nat.reduceAdd, Nat.reduceSub, Nat.reduceMul, Nat.reduceLeDiff, Nat.reduceLT, reduceIte, reduceCtorEq, Nat.succ_ne_zero, elemsC, Int.reduceToNat, Nat.reducePow])); repeat ((first | (simp (disch := (first | omega | (simp only [AL, List.length_map]; omega))) only [AR, AL, ifT, ifF, take_all, List.length_cons, List.length_nil, Int.reduceToNat, Int.reducePow, Nat.reducePow]) | (refine wk_intro (by kernel_rfl) ?_) | (refine vp_draw (l := []) (by kernel_rfl) ?_)); try (simp only [go_sem, Nat.reduceEqDiff, Nat.reduceAdd, Nat.reduceSub, Nat.reduceMul, Nat.reduceLeDiff, Nat.reduceLT, reduceIte, reduceCtorEq, Nat.succ_ne_zero, elemsC, Int.reduceToNat, Nat.reducePow]))
      exact ⟨_, _, rfl, rfl, okL_lim _, okL_lim _, by omega, by omega, by rw [wth_lim, wth_lim]⟩
  rintro s ⟨a, b, g0, g1, ha, hb, hab, hla, hsum⟩
  (try (simp only [go_sem, Nat.reduceEqDiff, Nat.reduceAdd, Nat.reduceSub, Nat.reduceMul, Nat.reduceLeDiff, Nat.reduceLT, reduceIte, reduceCtorEq, Nat.succ_ne_zero, elemsC, Int.reduceToNat, Nat.reducePow, g0, g1])); repeat ((first | (simp (disch := (first | omega | (simp only [AL, List.length_map]; omega))) only [AR, AL, ifT, ifF, take_all, List.length_cons, List.length_nil, Int.reduceToNat, Int.reducePow, Nat.reducePow, g0, g1]) | (refine wk_intro (by kernel_rfl) ?_)); try (simp only [go_sem, Nat.reduceEqDiff, Nat.reduceAdd, Nat.reduceSub, Nat.reduceMul, Nat.reduceLeDiff, Nat.reduceLT, reduceIte, reduceCtorEq, Nat.succ_ne_zero, elemsC, Int.reduceToNat, Nat.reducePow, g0, g1]))
  generalize hg : s.gen 23 = g
  refine vp_loop_inv (fun s' => s'.tmp 0 = .sv (natV a) ∧ s'.tmp 1 = .sv (natV b) ∧ s'.tmp 5 = .ref 23 g 1 0 (a.length + 1) ∧ s'.tmp 24 = .sv (natV a) ∧ s'.tmp 25 = .sv (.int .i64 a.length) ∧
      ∃ c : List Nat, ∃ i carry : Nat, s'.obj 23 g = some (c.map limb) ∧ s'.tmp 6 = .sv (.int .u64 carry) ∧ s'.tmp 26 = .sv (.int .i64 i) ∧ c.length = a.length + 1 ∧ okL c ∧ i ≤ a.length ∧ carry ≤ 1 ∧
        wth (c.take i) + 4294967296 ^ i * carry = wth (a.take i) + wth (b.take i))
    (fun s => match s.tmp 26 with | .sv (.int _ i) => a.length - i.toNat | _ => 0) ?_ ?_
  · refine ⟨g0, g1, rfl, rfl, rfl, List.replicate (a.length + 1) 0, 0, 0, ?_, rfl, rfl, List.length_replicate .., okL_replicate _, by omega, by omega, rfl⟩
    simp [St.put, St.new, hg]
  rintro s' ⟨i0, i1, i5, i24, i25, c, i, carry, iO, i6, i26, hc, hok, hi, hcar, hw⟩
  by_cases hend : i = a.length
  · subst hend
    (try (simp only [go_sem, Nat.reduceEqDiff, Nat.reduceAdd, Nat.reduceSub, Nat.reduceMul, Nat.reduceLeDiff, Nat.reduceLT, reduceIte, reduceCtorEq, Nat.succ_ne_zero, elemsC, Int.reduceToNat, Nat.reducePow, i0, i1, i5, i24, i25, iO, i6, i26])); repeat ((first | (simp (disch := (first | omega | (simp only [AL, List.length_map]; omega))) only [AR, AL, ifT, ifF, take_all, List.length_cons, List.length_nil, Int.reduceToNat, Int.reducePow, Nat.reducePow, i0, i1, i5, i24, i25, iO, i6, i26]) | (refine wk_intro (by kernel_rfl) ?_) | (refine vp_draw (l := []) (by kernel_rfl) ?_)); try (simp only [go_sem, Nat.reduceEqDiff, Nat.reduceAdd, Nat.reduceSub, Nat.reduceMul, Nat.reduceLeDiff, Nat.reduceLT, reduceIte, reduceCtorEq, Nat.succ_ne_zero, elemsC, Int.reduceToNat, Nat.reducePow, i0, i1, i5, i24, i25, iO, i6, i26]))
    refine vf_of (fn_natV (nat_trim (c.set a.length carry) (okL_set hok _ _ (by omega)) (by rw [List.length_set]; omega)) (by rw [List.length_set]; omega)) ?_; (try (simp only [go_sem, Nat.reduceEqDiff, Nat.reduceAdd, Nat.reduceSub, Nat.reduceMul, Nat.reduceLeDiff, Nat.reduceLT, reduceIte, reduceCtorEq, Nat.succ_ne_zero, elemsC, Int.reduceToNat, Nat.reducePow])); repeat ((first | (simp (disch := (first | omega | (simp only [AL, List.length_map]; omega))) only [AR, AL, ifT, ifF, take_all, List.length_cons, List.length_nil, Int.reduceToNat, Int.reducePow, Nat.reducePow]) | (refine wk_intro (by kernel_rfl) ?_) | (refine vp_draw (l := []) (by kernel_rfl) ?_)); try (simp only [go_sem, Nat.reduceEqDiff, Nat.reduceAdd, Nat.reduceSub, Nat.reduceMul, Nat.reduceLeDiff, Nat.reduceLT, reduceIte, reduceCtorEq, Nat.succ_ne_zero, elemsC, Int.reduceToNat, Nat.reducePow]))
    have e : wth (c.set a.length carry) = wth xs + wth ys := by
      rw [← List.take_of_length_le (l := c.set a.length carry) (i := a.length + 1) (by rw [List.length_set]; omega), wth_set_take (by omega), hw, List.take_of_length_le (Nat.le_refl _), List.take_of_length_le hab, hsum]
    rw [e]
  · have h1 := getD_lt ha i
    have h2 := getD_lt hb i
    have key : ∀ x : Nat, x = carry + a.getD i 0 + b.getD i 0 → wth ((c.set i (x % 4294967296)).take (i + 1)) + 4294967296 ^ (i + 1) * (x / 4294967296) = wth (a.take (i + 1)) + wth (b.take (i + 1)) := by
      intro x hx
      rw [wth_set_take (by omega), wth_take_succ, wth_take_succ]
      have e1 : 4294967296 ^ i * (x % 4294967296) + 4294967296 ^ (i + 1) * (x / 4294967296) = 4294967296 ^ i * x := by
        rw [Nat.pow_succ, Nat.mul_assoc, ← Nat.mul_add, Nat.mod_add_div]
      have e2 : 4294967296 ^ i * x = 4294967296 ^ i * carry + 4294967296 ^ i * a.getD i 0 + 4294967296 ^ i * b.getD i 0 := by
        rw [hx, Nat.mul_add, Nat.mul_add]
      omega
    by_cases hib : i < b.length
    · (try (simp only [go_sem, Nat.reduceEqDiff, Nat.reduceAdd, Nat.reduceSub, Nat.reduceMul, Nat.reduceLeDiff, Nat.reduceLT, reduceIte, reduceCtorEq, Nat.succ_ne_zero, elemsC, Int.reduceToNat, Nat.reducePow, i0, i1, i5, i24, i25, iO, i6, i26])); repeat ((first | (simp (disch := (first | omega | (simp only [AL, List.length_map]; omega))) only [AR, AL, ifT, ifF, take_all, List.length_cons, List.length_nil, Int.reduceToNat, Int.reducePow, Nat.reducePow, i0, i1, i5, i24, i25, iO, i6, i26]) | (refine wk_intro (by kernel_rfl) ?_) | (refine vp_draw (l := []) (by kernel_rfl) ?_)); try (simp only [go_sem, Nat.reduceEqDiff, Nat.reduceAdd, Nat.reduceSub, Nat.reduceMul, Nat.reduceLeDiff, Nat.reduceLT, reduceIte, reduceCtorEq, Nat.succ_ne_zero, elemsC, Int.reduceToNat, Nat.reducePow, i0, i1, i5, i24, i25, iO, i6, i26]))
      exact ⟨⟨c.set i ((carry + a.getD i 0 + b.getD i 0) % 4294967296), i + 1, (carry + a.getD i 0 + b.getD i 0) / 4294967296, rfl, rfl, rfl, by rw [List.length_set]; exact hc, okL_set hok _ _ (by omega), by omega, by omega, key _ rfl⟩, by omega⟩
    · have e0 : b.getD i 0 = 0 := by rw [List.getD_eq_getElem?_getD, List.getElem?_eq_none (by omega)]; rfl
      (try (simp only [go_sem, Nat.reduceEqDiff, Nat.reduceAdd, Nat.reduceSub, Nat.reduceMul, Nat.reduceLeDiff, Nat.reduceLT, reduceIte, reduceCtorEq, Nat.succ_ne_zero, elemsC, Int.reduceToNat, Nat.reducePow, i0, i1, i5, i24, i25, iO, i6, i26])); repeat ((first | (simp (disch := (first | omega | (simp only [AL, List.length_map]; omega))) only [AR, AL, ifT, ifF, take_all, List.length_cons, List.length_nil, Int.reduceToNat, Int.reducePow, Nat.reducePow, i0, i1, i5, i24, i25, iO, i6, i26]) | (refine wk_intro (by kernel_rfl) ?_) | (refine vp_draw (l := []) (by kernel_rfl) ?_)); try (simp only [go_sem, Nat.reduceEqDiff, Nat.reduceAdd, Nat.reduceSub, Nat.reduceMul, Nat.reduceLeDiff, Nat.reduceLT, reduceIte, reduceCtorEq, Nat.succ_ne_zero, elemsC, Int.reduceToNat, Nat.reducePow, i0, i1, i5, i24, i25, iO, i6, i26]))
      exact ⟨⟨c.set i ((carry + a.getD i 0) % 4294967296), i + 1, (carry + a.getD i 0) / 4294967296, rfl, rfl, rfl, by rw [List.length_set]; exact hc, okL_set hok _ _ (by omega), by omega, by omega, key _ (by omega)⟩, by omega⟩
end Go.Proofs.Ytdnmhnjblgkjaaa

/- bits.Sub32, bits.Add32, bits.Div32; nat.Sub, in the evaluator. -/
namespace Go.Proofs.Ytdnmhnjblgkjaaa
set_option linter.unusedSimpArgs false
set_option linter.unusedVariables false
set_option maxRecDepth 8000
open Go.Ev
theorem bits_Add32 (x y c : Nat) (hx : x < 4294967296) (hy : y < 4294967296) (hc : c < 4294967296) :
    Go.Ev.Fn CX 118 [limb x, limb y, limb c] (.tup [limb ((x + y + c) % 4294967296), limb ((x + y + c) / 4294967296)]) := by
  refine Go.Ev.Fn.intro (fn := Try.f118) (body := (Try.f118).body.get!) (by kernel_rfl) (by kernel_rfl) (by kernel_rfl) (fun _ => rfl) (Nat.le_of_ble_eq_true (by kernel_rfl)) ?_; unfold Try.f118; simp only [Option.get!_some]
  (try (simp only [go_sem, Nat.reduceEqDiff, Nat.reduceAdd, Nat.reduceSub, Nat.reduceMul, Nat.reduceLeDiff, Nat.reduceLT, reduceIte, reduceCtorEq, Nat.succ_ne_zero, elemsC, Int.reduceToNat, Nat.reducePow])); repeat ((first | (simp (disch := (first | omega | (simp only [AL, List.length_map]; omega))) only [AR, AL, ifT, ifF, take_all, List.length_cons, List.length_nil, Int.reduceToNat, Int.reducePow, Nat.reducePow]) | (refine wk_intro (by kernel_rfl) ?_) | (refine vp_draw (l := []) (by kernel_rfl) ?_)); try (simp only [go_sem, Nat.reduceEqDiff, Nat.reduceAdd, Nat.reduceSub, Nat.reduceMul, Nat.reduceLeDiff, Nat.reduceLT, reduceIte, reduceCtorEq, Nat.succ_ne_zero, elemsC, Int.reduceToNat, Nat.reducePow]))
theorem bits_Sub32 (x y b : Nat) (hx : x < 4294967296) (hy : y < 4294967296) (hb : b ≤ 1) :
    Go.Ev.Fn CX 105 [limb x, limb y, limb b] (.tup [limb (((x + (4294967296 - y)) % 4294967296 + (4294967296 - b)) % 4294967296), limb (if x < y + b then 1 else 0)]) := by
  refine Go.Ev.Fn.intro (fn := Try.f105) (body := (Try.f105).body.get!) (by kernel_rfl) (by kernel_rfl) (by kernel_rfl) (fun _ => rfl) (Nat.le_of_ble_eq_true (by kernel_rfl)) ?_; unfold Try.f105; simp only [Option.get!_some]
  have hd : ∃ d, d = ((x + (4294967296 - y)) % 4294967296 + (4294967296 - b)) % 4294967296 := ⟨_, rfl⟩
  obtain ⟨d, hd⟩ := hd
  rw [← hd, ← sub32_bit hx hy hb hd]
  have hd' : d < 4294967296 := by omega
  have h0 : 4294967295 ^^^ x < 4294967296 := Nat.xor_lt_two_pow (n := 32) (by decide) hx
  have h1 : (4294967295 ^^^ x) &&& y < 4294967296 := Nat.lt_of_le_of_lt Nat.and_le_right hy
  have h2 : x ^^^ y < 4294967296 := Nat.xor_lt_two_pow (n := 32) hx hy
  have h3 : 4294967295 ^^^ (x ^^^ y) < 4294967296 := Nat.xor_lt_two_pow (n := 32) (by decide) h2
  have h4 : (4294967295 ^^^ (x ^^^ y)) &&& d < 4294967296 := Nat.lt_of_le_of_lt Nat.and_le_right hd'
  (try (simp only [go_sem, Nat.reduceEqDiff, Nat.reduceAdd, Nat.reduceSub, Nat.reduceMul, Nat.reduceLeDiff, Nat.reduceLT, reduceIte, reduceCtorEq, Nat.succ_ne_zero, elemsC, Int.reduceToNat, Nat.reducePow, u32_sub, ← hd])); repeat ((first | (simp (disch := (first | omega | (simp only [AL, List.length_map]; omega))) only [AR, AL, ifT, ifF, take_all, List.length_cons, List.length_nil, Int.reduceToNat, Int.reducePow, Nat.reducePow, u32_sub, ← hd]) | (refine wk_intro (by kernel_rfl) ?_) | (refine vp_draw (l := []) (by kernel_rfl) ?_)); try (simp only [go_sem, Nat.reduceEqDiff, Nat.reduceAdd, Nat.reduceSub, Nat.reduceMul, Nat.reduceLeDiff, Nat.reduceLT, reduceIte, reduceCtorEq, Nat.succ_ne_zero, elemsC, Int.reduceToNat, Nat.reducePow, u32_sub, ← hd]))
theorem bits_Div32 (hi lo y : Nat) (h : hi < y) (hy : y < 4294967296) (hlo : lo < 4294967296) :
    Go.Ev.Fn CX 111 [limb hi, limb lo, limb y] (.tup [limb ((hi * 4294967296 + lo) / y), limb ((hi * 4294967296 + lo) % y)]) := by
  refine Go.Ev.Fn.intro (fn := Try.f111) (body := (Try.f111).body.get!) (by kernel_rfl) (by kernel_rfl) (by kernel_rfl) (fun _ => rfl) (Nat.le_of_ble_eq_true (by kernel_rfl)) ?_; unfold Try.f111; simp only [Option.get!_some]
  have hq : (hi * 4294967296 + lo) / y < 4294967296 := by
    rw [Nat.div_lt_iff_lt_mul (by omega)]
    have : (hi + 1) * 4294967296 ≤ y * 4294967296 := Nat.mul_le_mul_right _ h
    omega
  have hr : (hi * 4294967296 + lo) % y < 4294967296 := Nat.lt_trans (Nat.mod_lt _ (by omega)) hy
  have hX : ∃ X, hi * 4294967296 + lo = X := ⟨_, rfl⟩
  obtain ⟨X, hX⟩ := hX
  rw [hX] at hq hr ⊢
  generalize hQ : X / y = Q at *
  generalize hR : X % y = R at *
  (try (simp only [go_sem, Nat.reduceEqDiff, Nat.reduceAdd, Nat.reduceSub, Nat.reduceMul, Nat.reduceLeDiff, Nat.reduceLT, reduceIte, reduceCtorEq, Nat.succ_ne_zero, elemsC, Int.reduceToNat, Nat.reducePow, hX, hQ, hR])); repeat ((first | (simp (disch := (first | omega | (simp only [AL, List.length_map]; omega))) only [AR, AL, ifT, ifF, take_all, List.length_cons, List.length_nil, Int.reduceToNat, Int.reducePow, Nat.reducePow, hX, hQ, hR]) | (refine wk_intro (by kernel_rfl) ?_) | (refine vp_draw (l := []) (by kernel_rfl) ?_)); try (simp only [go_sem, Nat.reduceEqDiff, Nat.reduceAdd, Nat.reduceSub, Nat.reduceMul, Nat.reduceLeDiff, Nat.reduceLT, reduceIte, reduceCtorEq, Nat.succ_ne_zero, elemsC, Int.reduceToNat, Nat.reducePow, hX, hQ, hR]))
end Go.Proofs.Ytdnmhnjblgkjaaa

/- nat.Sub, in the evaluator. -/
namespace Go.Proofs.Ytdnmhnjblgkjaaa
set_option linter.unusedSimpArgs false
set_option linter.unusedVariables false
set_option maxRecDepth 8000
open Go.Ev
theorem wth_take_le (xs : List Nat) (i : Nat) : wth (xs.take i) ≤ wth xs := by
  conv => rhs; rw [← List.take_append_drop i xs, wth_append]
  omega
theorem nat_Sub (xs ys : List Nat) (hx : okL xs) (hy : okL ys) (hl : xs.length ≤ 1073741824) (hm : ys.length ≤ 1073741824) :
    Go.Ev.Fn CX 93 [natV xs, natV ys] (if wth xs < wth ys then .tup [natV [], .bool false] else .tup [natV (lim (wth xs - wth ys)), .bool true]) := by
  refine Go.Ev.Fn.intro (fn := Try.f93) (body := (Try.f93).body.get!) (by kernel_rfl) (by kernel_rfl) (by kernel_rfl) (fun _ => rfl) (Nat.le_of_ble_eq_true (by kernel_rfl)) ?_; unfold Try.f93; simp only [Option.get!_some]
  have lx := lim_length_le hx
  have ly := lim_length_le hy
  (try (simp only [go_sem, Nat.reduceEqDiff, Nat.reduceAdd, Nat.reduceSub, Nat.reduceMul, Nat.reduceLeDiff, Nat.reduceLT, reduceIte, reduceCtorEq, Nat.succ_ne_zero, elemsC, Int.reduceToNat, Nat.reducePow])); repeat ((first | (simp (disch := (first | omega | (simp only [AL, List.length_map]; omega))) only [AR, AL, ifT, ifF, take_all, List.length_cons, List.length_nil, Int.reduceToNat, Int.reducePow, Nat.reducePow]) | (refine wk_intro (by kernel_rfl) ?_) | (refine vp_draw (l := []) (by kernel_rfl) ?_)); try (simp only [go_sem, Nat.reduceEqDiff, Nat.reduceAdd, Nat.reduceSub, Nat.reduceMul, Nat.reduceLeDiff, Nat.reduceLT, reduceIte, reduceCtorEq, Nat.succ_ne_zero, elemsC, Int.reduceToNat, Nat.reducePow]))
  refine vf_of (nat_Cmp xs ys hx hy (by omega) (by omega)) ?_; (try (simp only [go_sem, Nat.reduceEqDiff, Nat.reduceAdd, Nat.reduceSub, Nat.reduceMul, Nat.reduceLeDiff, Nat.reduceLT, reduceIte, reduceCtorEq, Nat.succ_ne_zero, elemsC, Int.reduceToNat, Nat.reducePow])); repeat ((first | (simp (disch := (first | omega | (simp only [AL, List.length_map]; omega))) only [AR, AL, ifT, ifF, take_all, List.length_cons, List.length_nil, Int.reduceToNat, Int.reducePow, Nat.reducePow]) | (refine wk_intro (by kernel_rfl) ?_) | (refine vp_draw (l := []) (by kernel_rfl) ?_)); try (simp only [go_sem, Nat.reduceEqDiff, Nat.reduceAdd, Nat.reduceSub, Nat.reduceMul, Nat.reduceLeDiff, Nat.reduceLT, reduceIte, reduceCtorEq, Nat.succ_ne_zero, elemsC, Int.reduceToNat, Nat.reducePow]))
  by_cases hlt : wth xs < wth ys
  · rw [if_pos hlt]
    have e : cmpN (wth xs) (wth ys) = -1 := by simp [cmpN, hlt]
    rw [e]
    (try (simp only [go_sem, Nat.reduceEqDiff, Nat.reduceAdd, Nat.reduceSub, Nat.reduceMul, Nat.reduceLeDiff, Nat.reduceLT, reduceIte, reduceCtorEq, Nat.succ_ne_zero, elemsC, Int.reduceToNat, Nat.reducePow])); repeat ((first | (simp (disch := (first | omega | (simp only [AL, List.length_map]; omega))) only [AR, AL, ifT, ifF, take_all, List.length_cons, List.length_nil, Int.reduceToNat, Int.reducePow, Nat.reducePow]) | (refine wk_intro (by kernel_rfl) ?_) | (refine vp_draw (l := []) (by kernel_rfl) ?_)); try (simp only [go_sem, Nat.reduceEqDiff, Nat.reduceAdd, Nat.reduceSub, Nat.reduceMul, Nat.reduceLeDiff, Nat.reduceLT, reduceIte, reduceCtorEq, Nat.succ_ne_zero, elemsC, Int.reduceToNat, Nat.reducePow]))
    rfl
  · rw [if_neg hlt]
    have e : decide (cmpN (wth xs) (wth ys) < 0) = false := by
      unfold cmpN; rw [if_neg hlt]; split <;> rfl
    (try (simp only [go_sem, Nat.reduceEqDiff, Nat.reduceAdd, Nat.reduceSub, Nat.reduceMul, Nat.reduceLeDiff, Nat.reduceLT, reduceIte, reduceCtorEq, Nat.succ_ne_zero, elemsC, Int.reduceToNat, Nat.reducePow, e])); repeat ((first | (simp (disch := (first | omega | (simp only [AL, List.length_map]; omega))) only [AR, AL, ifT, ifF, take_all, List.length_cons, List.length_nil, Int.reduceToNat, Int.reducePow, Nat.reducePow, e]) | (refine wk_intro (by kernel_rfl) ?_) | (refine vp_draw (l := []) (by kernel_rfl) ?_)); try (simp only [go_sem, Nat.reduceEqDiff, Nat.reduceAdd, Nat.reduceSub, Nat.reduceMul, Nat.reduceLeDiff, Nat.reduceLT, reduceIte, reduceCtorEq, Nat.succ_ne_zero, elemsC, Int.reduceToNat, Nat.reducePow, e]))
    refine vf_of (nat_trim xs hx (by omega)) ?_; (try (simp only [go_sem, Nat.reduceEqDiff, Nat.reduceAdd, Nat.reduceSub, Nat.reduceMul, Nat.reduceLeDiff, Nat.reduceLT, reduceIte, reduceCtorEq, Nat.succ_ne_zero, elemsC, Int.reduceToNat, Nat.reducePow])); repeat ((first | (simp (disch := (first | omega | (simp only [AL, List.length_map]; omega))) only [AR, AL, ifT, ifF, take_all, List.length_cons, List.length_nil, Int.reduceToNat, Int.reducePow, Nat.reducePow]) | (refine wk_intro (by kernel_rfl) ?_) | (refine vp_draw (l := []) (by kernel_rfl) ?_)); try (simp only [go_sem, Nat.reduceEqDiff, Nat.reduceAdd, Nat.reduceSub, Nat.reduceMul, Nat.reduceLeDiff, Nat.reduceLT, reduceIte, reduceCtorEq, Nat.succ_ne_zero, elemsC, Int.reduceToNat, Nat.reducePow]))
    refine vf_of (nat_trim ys hy (by omega)) ?_; (try (simp only [go_sem, Nat.reduceEqDiff, Nat.reduceAdd, Nat.reduceSub, Nat.reduceMul, Nat.reduceLeDiff, Nat.reduceLT, reduceIte, reduceCtorEq, Nat.succ_ne_zero, elemsC, Int.reduceToNat, Nat.reducePow])); repeat ((first | (simp (disch := (first | omega | (simp only [AL, List.length_map]; omega))) only [AR, AL, ifT, ifF, take_all, List.length_cons, List.length_nil, Int.reduceToNat, Int.reducePow, Nat.reducePow]) | (refine wk_intro (by kernel_rfl) ?_) | (refine vp_draw (l := []) (by kernel_rfl) ?_)); try (simp only [go_sem, Nat.reduceEqDiff, Nat.reduceAdd, Nat.reduceSub, Nat.reduceMul, Nat.reduceLeDiff, Nat.reduceLT, reduceIte, reduceCtorEq, Nat.succ_ne_zero, elemsC, Int.reduceToNat, Nat.reducePow]))
    have hab : (lim (wth ys)).length ≤ (lim (wth xs)).length := trimL_length (okL_lim _) (okL_lim _) (trimL_lim _) (by rw [wth_lim, wth_lim]; omega)
    have ha := okL_lim (wth xs)
    have hb := okL_lim (wth ys)
    have va := wth_lim (wth xs)
    have vb := wth_lim (wth ys)
    generalize lim (wth xs) = a at *
    generalize lim (wth ys) = b at *
    refine vp_loop_inv (fun s' => s'.tmp 0 = .sv (natV a) ∧ s'.tmp 1 = .sv (natV b) ∧ s'.tmp 6 = .ref 21 0 1 0 a.length ∧ s'.tmp 22 = .sv (natV a) ∧ s'.tmp 23 = .sv (.int .i64 a.length) ∧
        ∃ c : List Nat, ∃ i w : Nat, s'.obj 21 0 = some (c.map limb) ∧ s'.tmp 7 = .sv (.int .u32 w) ∧ s'.tmp 24 = .sv (.int .i64 i) ∧ c.length = a.length ∧ okL c ∧ i ≤ a.length ∧ w ≤ 1 ∧
          wth (c.take i) + wth (b.take i) = wth (a.take i) + 4294967296 ^ i * w)
      (fun s => match s.tmp 24 with | .sv (.int _ i) => a.length - i.toNat | _ => 0) ?_ ?_
    · refine ⟨rfl, rfl, rfl, rfl, rfl, List.replicate a.length 0, 0, 0, rfl, rfl, rfl, List.length_replicate .., okL_replicate _, by omega, by omega, rfl⟩
    rintro s' ⟨i0, i1, i6, i22, i23, c, i, w, iO, i7, i24, hc, hok, hi, hw, hv⟩
    by_cases hend : i = a.length
    · subst hend
      (try (simp only [go_sem, Nat.reduceEqDiff, Nat.reduceAdd, Nat.reduceSub, Nat.reduceMul, Nat.reduceLeDiff, Nat.reduceLT, reduceIte, reduceCtorEq, Nat.succ_ne_zero, elemsC, Int.reduceToNat, Nat.reducePow, i0, i1, i6, i22, i23, iO, i7, i24])); repeat ((first | (simp (disch := (first | omega | (simp only [AL, List.length_map]; omega))) only [AR, AL, ifT, ifF, take_all, List.length_cons, List.length_nil, Int.reduceToNat, Int.reducePow, Nat.reducePow, i0, i1, i6, i22, i23, iO, i7, i24]) | (refine wk_intro (by kernel_rfl) ?_) | (refine vp_draw (l := []) (by kernel_rfl) ?_)); try (simp only [go_sem, Nat.reduceEqDiff, Nat.reduceAdd, Nat.reduceSub, Nat.reduceMul, Nat.reduceLeDiff, Nat.reduceLT, reduceIte, reduceCtorEq, Nat.succ_ne_zero, elemsC, Int.reduceToNat, Nat.reducePow, i0, i1, i6, i22, i23, iO, i7, i24]))
      have e : wth c = wth xs - wth ys := by
        rw [List.take_of_length_le (by omega), List.take_of_length_le hab, List.take_of_length_le (Nat.le_refl _), va, vb] at hv
        have h0 := wth_lt hok
        rw [hc] at h0
        rcases Nat.eq_zero_or_pos w with rfl | hw0
        · omega
        · have : w = 1 := by omega
          subst this
          have := wth_lt ha
          omega
      refine vf_of (fn_natV (nat_trim c hok (by omega)) hc) ?_; (try (simp only [go_sem, Nat.reduceEqDiff, Nat.reduceAdd, Nat.reduceSub, Nat.reduceMul, Nat.reduceLeDiff, Nat.reduceLT, reduceIte, reduceCtorEq, Nat.succ_ne_zero, elemsC, Int.reduceToNat, Nat.reducePow])); repeat ((first | (simp (disch := (first | omega | (simp only [AL, List.length_map]; omega))) only [AR, AL, ifT, ifF, take_all, List.length_cons, List.length_nil, Int.reduceToNat, Int.reducePow, Nat.reducePow]) | (refine wk_intro (by kernel_rfl) ?_) | (refine vp_draw (l := []) (by kernel_rfl) ?_)); try (simp only [go_sem, Nat.reduceEqDiff, Nat.reduceAdd, Nat.reduceSub, Nat.reduceMul, Nat.reduceLeDiff, Nat.reduceLT, reduceIte, reduceCtorEq, Nat.succ_ne_zero, elemsC, Int.reduceToNat, Nat.reducePow]))
      rw [e]
    · have h1 := getD_lt ha i
      have h2 := getD_lt hb i
      have key : ∀ x y v w' : Nat, x = a.getD i 0 → y = b.getD i 0 → v + y + w = x + 4294967296 * w' → wth ((c.set i v).take (i + 1)) + wth (b.take (i + 1)) = wth (a.take (i + 1)) + 4294967296 ^ (i + 1) * w' := by
        intro x y v w' hx' hy' he
        rw [wth_set_take (by omega), wth_take_succ, wth_take_succ, ← hx', ← hy', Nat.pow_succ, Nat.mul_assoc]
        have e1 : 4294967296 ^ i * (v + y + w) = 4294967296 ^ i * (x + 4294967296 * w') := by rw [he]
        rw [Nat.mul_add, Nat.mul_add, Nat.mul_add] at e1
        omega
      by_cases hib : i < b.length
      · (try (simp only [go_sem, Nat.reduceEqDiff, Nat.reduceAdd, Nat.reduceSub, Nat.reduceMul, Nat.reduceLeDiff, Nat.reduceLT, reduceIte, reduceCtorEq, Nat.succ_ne_zero, elemsC, Int.reduceToNat, Nat.reducePow, i0, i1, i6, i22, i23, iO, i7, i24])); repeat ((first | (simp (disch := (first | omega | (simp only [AL, List.length_map]; omega))) only [AR, AL, ifT, ifF, take_all, List.length_cons, List.length_nil, Int.reduceToNat, Int.reducePow, Nat.reducePow, i0, i1, i6, i22, i23, iO, i7, i24]) | (refine wk_intro (by kernel_rfl) ?_) | (refine vp_draw (l := []) (by kernel_rfl) ?_)); try (simp only [go_sem, Nat.reduceEqDiff, Nat.reduceAdd, Nat.reduceSub, Nat.reduceMul, Nat.reduceLeDiff, Nat.reduceLT, reduceIte, reduceCtorEq, Nat.succ_ne_zero, elemsC, Int.reduceToNat, Nat.reducePow, i0, i1, i6, i22, i23, iO, i7, i24]))
        refine vf_of (bits_Sub32 (a.getD i 0) (b.getD i 0) w h1 h2 hw) ?_; (try (simp only [go_sem, Nat.reduceEqDiff, Nat.reduceAdd, Nat.reduceSub, Nat.reduceMul, Nat.reduceLeDiff, Nat.reduceLT, reduceIte, reduceCtorEq, Nat.succ_ne_zero, elemsC, Int.reduceToNat, Nat.reducePow, i0, i1, i6, i22, i23, iO, i7, i24])); repeat ((first | (simp (disch := (first | omega | (simp only [AL, List.length_map]; omega))) only [AR, AL, ifT, ifF, take_all, List.length_cons, List.length_nil, Int.reduceToNat, Int.reducePow, Nat.reducePow, i0, i1, i6, i22, i23, iO, i7, i24]) | (refine wk_intro (by kernel_rfl) ?_) | (refine vp_draw (l := []) (by kernel_rfl) ?_)); try (simp only [go_sem, Nat.reduceEqDiff, Nat.reduceAdd, Nat.reduceSub, Nat.reduceMul, Nat.reduceLeDiff, Nat.reduceLT, reduceIte, reduceCtorEq, Nat.succ_ne_zero, elemsC, Int.reduceToNat, Nat.reducePow, i0, i1, i6, i22, i23, iO, i7, i24]))
        refine ⟨⟨c.set i (((a.getD i 0 + (4294967296 - b.getD i 0)) % 4294967296 + (4294967296 - w)) % 4294967296), i + 1, if a.getD i 0 < b.getD i 0 + w then 1 else 0, rfl, rfl, rfl, by rw [List.length_set]; exact hc, okL_set hok _ _ (by omega), by omega, by split <;> omega, key _ _ _ _ rfl rfl ?_⟩, by omega⟩
        split <;> omega
      · have e0 : b.getD i 0 = 0 := by rw [List.getD_eq_getElem?_getD, List.getElem?_eq_none (by omega)]; rfl
        (try (simp only [go_sem, Nat.reduceEqDiff, Nat.reduceAdd, Nat.reduceSub, Nat.reduceMul, Nat.reduceLeDiff, Nat.reduceLT, reduceIte, reduceCtorEq, Nat.succ_ne_zero, elemsC, Int.reduceToNat, Nat.reducePow, i0, i1, i6, i22, i23, iO, i7, i24])); repeat ((first | (simp (disch := (first | omega | (simp only [AL, List.length_map]; omega))) only [AR, AL, ifT, ifF, take_all, List.length_cons, List.length_nil, Int.reduceToNat, Int.reducePow, Nat.reducePow, i0, i1, i6, i22, i23, iO, i7, i24]) | (refine wk_intro (by kernel_rfl) ?_) | (refine vp_draw (l := []) (by kernel_rfl) ?_)); try (simp only [go_sem, Nat.reduceEqDiff, Nat.reduceAdd, Nat.reduceSub, Nat.reduceMul, Nat.reduceLeDiff, Nat.reduceLT, reduceIte, reduceCtorEq, Nat.succ_ne_zero, elemsC, Int.reduceToNat, Nat.reducePow, i0, i1, i6, i22, i23, iO, i7, i24]))
        refine vf_of (bits_Sub32 (a.getD i 0) 0 w h1 (by omega) hw) ?_; (try (simp only [go_sem, Nat.reduceEqDiff, Nat.reduceAdd, Nat.reduceSub, Nat.reduceMul, Nat.reduceLeDiff, Nat.reduceLT, reduceIte, reduceCtorEq, Nat.succ_ne_zero, elemsC, Int.reduceToNat, Nat.reducePow, i0, i1, i6, i22, i23, iO, i7, i24])); repeat ((first | (simp (disch := (first | omega | (simp only [AL, List.length_map]; omega))) only [AR, AL, ifT, ifF, take_all, List.length_cons, List.length_nil, Int.reduceToNat, Int.reducePow, Nat.reducePow, i0, i1, i6, i22, i23, iO, i7, i24]) | (refine wk_intro (by kernel_rfl) ?_) | (refine vp_draw (l := []) (by kernel_rfl) ?_)); try (simp only [go_sem, Nat.reduceEqDiff, Nat.reduceAdd, Nat.reduceSub, Nat.reduceMul, Nat.reduceLeDiff, Nat.reduceLT, reduceIte, reduceCtorEq, Nat.succ_ne_zero, elemsC, Int.reduceToNat, Nat.reducePow, i0, i1, i6, i22, i23, iO, i7, i24]))
        refine ⟨⟨c.set i (((a.getD i 0 + 4294967296) % 4294967296 + (4294967296 - w)) % 4294967296), i + 1, if a.getD i 0 < w then 1 else 0, rfl, rfl, rfl, by rw [List.length_set]; exact hc, okL_set hok _ _ (by omega), by omega, by split <;> omega, key _ _ _ _ rfl e0.symm ?_⟩, by omega⟩
        split <;> omega
end Go.Proofs.Ytdnmhnjblgkjaaa

/- nat.Mul, in the evaluator. -/
namespace Go.Proofs.Ytdnmhnjblgkjaaa
set_option linter.unusedSimpArgs false
set_option linter.unusedVariables false
set_option maxRecDepth 8000
open Go.Ev
theorem getD_set_ne {xs : List Nat} {i j v : Nat} (h : j ≠ i) : (xs.set i v).getD j 0 = xs.getD j 0 := by
  rw [List.getD_eq_getElem?_getD, List.getD_eq_getElem?_getD, List.getElem?_set_ne (fun e => h e.symm)]
theorem limb_mul {v w : Nat} (hv : v < 4294967296) (hw : w < 4294967296) : v * w ≤ 18446744065119617025 :=
  Nat.le_trans (Nat.mul_le_mul (show v ≤ 4294967295 by omega) (show w ≤ 4294967295 by omega)) (by decide)
theorem nat_Mul (xs ys : List Nat) (hx : okL xs) (hy : okL ys) (hl : xs.length ≤ 1073741824) (hm : ys.length ≤ 1073741824) :
    Go.Ev.Fn CX 76 [natV xs, natV ys] (natV (lim (wth xs * wth ys))) := by
  refine Go.Ev.Fn.intro (fn := Try.f76) (body := (Try.f76).body.get!) (by kernel_rfl) (by kernel_rfl) (by kernel_rfl) (fun _ => rfl) (Nat.le_of_ble_eq_true (by kernel_rfl)) ?_; unfold Try.f76; simp only [Option.get!_some]
  have lx := lim_length_le hx
  have ly := lim_length_le hy
  (try (simp only [go_sem, Nat.reduceEqDiff, Nat.reduceAdd, Nat.reduceSub, Nat.reduceMul, Nat.reduceLeDiff, Nat.reduceLT, reduceIte, reduceCtorEq, Nat.succ_ne_zero, elemsC, Int.reduceToNat, Nat.reducePow])); repeat ((first | (simp (disch := (first | omega | (simp only [AL, List.length_map]; omega))) only [AR, AL, ifT, ifF, take_all, List.length_cons, List.length_nil, Int.reduceToNat, Int.reducePow, Nat.reducePow]) | (refine wk_intro (by kernel_rfl) ?_) | (refine vp_draw (l := []) (by kernel_rfl) ?_)); try (simp only [go_sem, Nat.reduceEqDiff, Nat.reduceAdd, Nat.reduceSub, Nat.reduceMul, Nat.reduceLeDiff, Nat.reduceLT, reduceIte, reduceCtorEq, Nat.succ_ne_zero, elemsC, Int.reduceToNat, Nat.reducePow]))
  refine vf_of (nat_trim xs hx (by omega)) ?_; (try (simp only [go_sem, Nat.reduceEqDiff, Nat.reduceAdd, Nat.reduceSub, Nat.reduceMul, Nat.reduceLeDiff, Nat.reduceLT, reduceIte, reduceCtorEq, Nat.succ_ne_zero, elemsC, Int.reduceToNat, Nat.reducePow])); repeat ((first | (simp (disch := (first | omega | (simp only [AL, List.length_map]; omega))) only [AR, AL, ifT, ifF, take_all, List.length_cons, List.length_nil, Int.reduceToNat, Int.reducePow, Nat.reducePow]) | (refine wk_intro (by kernel_rfl) ?_) | (refine vp_draw (l := []) (by kernel_rfl) ?_)); try (simp only [go_sem, Nat.reduceEqDiff, Nat.reduceAdd, Nat.reduceSub, Nat.reduceMul, Nat.reduceLeDiff, Nat.reduceLT, reduceIte, reduceCtorEq, Nat.succ_ne_zero, elemsC, Int.reduceToNat, Nat.reducePow]))
  refine vf_of (nat_trim ys hy (by omega)) ?_; (try (simp only [go_sem, Nat.reduceEqDiff, Nat.reduceAdd, Nat.reduceSub, Nat.reduceMul, Nat.reduceLeDiff, Nat.reduceLT, reduceIte, reduceCtorEq, Nat.succ_ne_zero, elemsC, Int.reduceToNat, Nat.reducePow])); repeat ((first | (simp (disch := (first | omega | (simp only [AL, List.length_map]; omega))) only [AR, AL, ifT, ifF, take_all, List.length_cons, List.length_nil, Int.reduceToNat, Int.reducePow, Nat.reducePow]) | (refine wk_intro (by kernel_rfl) ?_) | (refine vp_draw (l := []) (by kernel_rfl) ?_)); try (simp only [go_sem, Nat.reduceEqDiff, Nat.reduceAdd, Nat.reduceSub, Nat.reduceMul, Nat.reduceLeDiff, Nat.reduceLT, reduceIte, reduceCtorEq, Nat.succ_ne_zero, elemsC, Int.reduceToNat, Nat.reducePow]))
  have ha := okL_lim (wth xs)
  have hb := okL_lim (wth ys)
  have va := wth_lim (wth xs)
  have vb := wth_lim (wth ys)
  generalize lim (wth xs) = a at *
  generalize lim (wth ys) = b at *
  refine vp_loop_inv (fun s' => s'.tmp 0 = .sv (natV a) ∧ s'.tmp 1 = .sv (natV b) ∧ s'.tmp 5 = .ref 20 0 1 0 (a.length + b.length) ∧ s'.tmp 21 = .sv (natV a) ∧ s'.tmp 22 = .sv (.int .i64 a.length) ∧
      ∃ c : List Nat, ∃ i : Nat, s'.obj 20 0 = some (c.map limb) ∧ s'.tmp 23 = .sv (.int .i64 i) ∧ c.length = a.length + b.length ∧ okL c ∧ i ≤ a.length ∧
        wth (c.take (i + b.length)) = wth (a.take i) * wth b)
    (fun s => match s.tmp 23 with | .sv (.int _ i) => a.length - i.toNat | _ => 0) ?_ ?_
  · refine ⟨rfl, rfl, rfl, rfl, rfl, List.replicate (a.length + b.length) 0, 0, rfl, rfl, List.length_replicate .., okL_replicate _, by omega, ?_⟩
    rw [List.take_replicate, wth_replicate]; simp [wth]
  rintro s' ⟨i0, i1, i5, i21, i22, c0, i, iO, i23, hc0, hok0, hi, hv⟩
  by_cases hend : i = a.length
  · subst hend
    (try (simp only [go_sem, Nat.reduceEqDiff, Nat.reduceAdd, Nat.reduceSub, Nat.reduceMul, Nat.reduceLeDiff, Nat.reduceLT, reduceIte, reduceCtorEq, Nat.succ_ne_zero, elemsC, Int.reduceToNat, Nat.reducePow, i0, i1, i5, i21, i22, iO, i23])); repeat ((first | (simp (disch := (first | omega | (simp only [AL, List.length_map]; omega))) only [AR, AL, ifT, ifF, take_all, List.length_cons, List.length_nil, Int.reduceToNat, Int.reducePow, Nat.reducePow, i0, i1, i5, i21, i22, iO, i23]) | (refine wk_intro (by kernel_rfl) ?_) | (refine vp_draw (l := []) (by kernel_rfl) ?_)); try (simp only [go_sem, Nat.reduceEqDiff, Nat.reduceAdd, Nat.reduceSub, Nat.reduceMul, Nat.reduceLeDiff, Nat.reduceLT, reduceIte, reduceCtorEq, Nat.succ_ne_zero, elemsC, Int.reduceToNat, Nat.reducePow, i0, i1, i5, i21, i22, iO, i23]))
    refine vf_of (fn_natV (nat_trim c0 hok0 (by omega)) hc0) ?_; (try (simp only [go_sem, Nat.reduceEqDiff, Nat.reduceAdd, Nat.reduceSub, Nat.reduceMul, Nat.reduceLeDiff, Nat.reduceLT, reduceIte, reduceCtorEq, Nat.succ_ne_zero, elemsC, Int.reduceToNat, Nat.reducePow])); repeat ((first | (simp (disch := (first | omega | (simp only [AL, List.length_map]; omega))) only [AR, AL, ifT, ifF, take_all, List.length_cons, List.length_nil, Int.reduceToNat, Int.reducePow, Nat.reducePow]) | (refine wk_intro (by kernel_rfl) ?_) | (refine vp_draw (l := []) (by kernel_rfl) ?_)); try (simp only [go_sem, Nat.reduceEqDiff, Nat.reduceAdd, Nat.reduceSub, Nat.reduceMul, Nat.reduceLeDiff, Nat.reduceLT, reduceIte, reduceCtorEq, Nat.succ_ne_zero, elemsC, Int.reduceToNat, Nat.reducePow]))
    have e : wth c0 = wth xs * wth ys := by
      rw [List.take_of_length_le (by omega), List.take_of_length_le (Nat.le_refl _), va, vb] at hv
      exact hv
    rw [e]
  · have h1 := getD_lt ha i
    (try (simp only [go_sem, Nat.reduceEqDiff, Nat.reduceAdd, Nat.reduceSub, Nat.reduceMul, Nat.reduceLeDiff, Nat.reduceLT, reduceIte, reduceCtorEq, Nat.succ_ne_zero, elemsC, Int.reduceToNat, Nat.reducePow, i0, i1, i5, i21, i22, iO, i23])); repeat ((first | (simp (disch := (first | omega | (simp only [AL, List.length_map]; omega))) only [AR, AL, ifT, ifF, take_all, List.length_cons, List.length_nil, Int.reduceToNat, Int.reducePow, Nat.reducePow, i0, i1, i5, i21, i22, iO, i23]) | (refine wk_intro (by kernel_rfl) ?_) | (refine vp_draw (l := []) (by kernel_rfl) ?_)); try (simp only [go_sem, Nat.reduceEqDiff, Nat.reduceAdd, Nat.reduceSub, Nat.reduceMul, Nat.reduceLeDiff, Nat.reduceLT, reduceIte, reduceCtorEq, Nat.succ_ne_zero, elemsC, Int.reduceToNat, Nat.reducePow, i0, i1, i5, i21, i22, iO, i23]))
    generalize hvv : a.getD i 0 = v at *
    refine vp_loop_inv (fun s' => s'.tmp 0 = .sv (natV a) ∧ s'.tmp 1 = .sv (natV b) ∧ s'.tmp 5 = .ref 20 0 1 0 (a.length + b.length) ∧ s'.tmp 21 = .sv (natV a) ∧ s'.tmp 22 = .sv (.int .i64 a.length) ∧ s'.tmp 23 = .sv (.int .i64 i) ∧
        s'.tmp 6 = .sv (.int .i64 i) ∧ s'.tmp 7 = .sv (.int .u32 v) ∧ s'.tmp 28 = .sv (natV b) ∧ s'.tmp 29 = .sv (.int .i64 b.length) ∧
        ∃ c : List Nat, ∃ k carry : Nat, s'.obj 20 0 = some (c.map limb) ∧ s'.tmp 30 = .sv (.int .i64 k) ∧ s'.tmp 8 = .sv (.int .u64 carry) ∧ c.length = a.length + b.length ∧ okL c ∧ k ≤ b.length ∧ carry < 4294967296 ∧
          (∀ j, i + k ≤ j → c.getD j 0 = c0.getD j 0) ∧ wth (c.take (i + k)) + 4294967296 ^ (i + k) * carry = wth (c0.take (i + k)) + 4294967296 ^ i * (v * wth (b.take k)))
      (fun s => match s.tmp 30 with | .sv (.int _ i) => b.length - i.toNat | _ => 0) ?_ ?_
    · refine ⟨i0, i1, i5, i21, i22, i23, rfl, rfl, rfl, rfl, c0, 0, 0, iO, rfl, rfl, hc0, hok0, by omega, by omega, fun _ _ => rfl, ?_⟩
      simp [wth]
    rintro s2 ⟨j0, j1, j5, j21, j22, j23, j6, j7, j28, j29, c, k, carry, jO, j30, j8, hc, hok, hk, hcar, hsame, hw⟩
    by_cases hend2 : k = b.length
    · subst hend2
      (try (simp only [go_sem, Nat.reduceEqDiff, Nat.reduceAdd, Nat.reduceSub, Nat.reduceMul, Nat.reduceLeDiff, Nat.reduceLT, reduceIte, reduceCtorEq, Nat.succ_ne_zero, elemsC, Int.reduceToNat, Nat.reducePow, j0, j1, j5, j21, j22, j23, j6, j7, j28, j29, jO, j30, j8])); repeat ((first | (simp (disch := (first | omega | (simp only [AL, List.length_map]; omega))) only [AR, AL, ifT, ifF, take_all, List.length_cons, List.length_nil, Int.reduceToNat, Int.reducePow, Nat.reducePow, j0, j1, j5, j21, j22, j23, j6, j7, j28, j29, jO, j30, j8]) | (refine wk_intro (by kernel_rfl) ?_) | (refine vp_draw (l := []) (by kernel_rfl) ?_)); try (simp only [go_sem, Nat.reduceEqDiff, Nat.reduceAdd, Nat.reduceSub, Nat.reduceMul, Nat.reduceLeDiff, Nat.reduceLT, reduceIte, reduceCtorEq, Nat.succ_ne_zero, elemsC, Int.reduceToNat, Nat.reducePow, j0, j1, j5, j21, j22, j23, j6, j7, j28, j29, jO, j30, j8]))
      refine ⟨⟨c.set (i + b.length) carry, i + 1, rfl, rfl, by rw [List.length_set]; exact hc, okL_set hok _ _ hcar, by omega, ?_⟩, by omega⟩
      rw [show i + 1 + b.length = i + b.length + 1 by omega, wth_set_take (by omega), hw, hv, wth_take_succ, hvv, List.take_of_length_le (Nat.le_refl _)]
      rw [Nat.add_mul, Nat.mul_assoc]
    · have h2 := getD_lt hb k
      have h3 := getD_lt hok (i + k)
      have h4 := limb_mul h1 h2
      have hs := hsame (i + k) (Nat.le_refl _)
      generalize hww : b.getD k 0 = w at *
      generalize hu : c.getD (i + k) 0 = u at *
      generalize hp : v * w = p at *
      (try (simp only [go_sem, Nat.reduceEqDiff, Nat.reduceAdd, Nat.reduceSub, Nat.reduceMul, Nat.reduceLeDiff, Nat.reduceLT, reduceIte, reduceCtorEq, Nat.succ_ne_zero, elemsC, Int.reduceToNat, Nat.reducePow, j0, j1, j5, j21, j22, j23, j6, j7, j28, j29, jO, j30, j8, hww, hu, hp])); repeat ((first | (simp (disch := (first | omega | (simp only [AL, List.length_map]; omega))) only [AR, AL, ifT, ifF, take_all, List.length_cons, List.length_nil, Int.reduceToNat, Int.reducePow, Nat.reducePow, j0, j1, j5, j21, j22, j23, j6, j7, j28, j29, jO, j30, j8, hww, hu, hp]) | (refine wk_intro (by kernel_rfl) ?_) | (refine vp_draw (l := []) (by kernel_rfl) ?_)); try (simp only [go_sem, Nat.reduceEqDiff, Nat.reduceAdd, Nat.reduceSub, Nat.reduceMul, Nat.reduceLeDiff, Nat.reduceLT, reduceIte, reduceCtorEq, Nat.succ_ne_zero, elemsC, Int.reduceToNat, Nat.reducePow, j0, j1, j5, j21, j22, j23, j6, j7, j28, j29, jO, j30, j8, hww, hu, hp]))
      refine ⟨⟨c.set (i + k) ((carry + (p + u)) % 4294967296), k + 1, (carry + (p + u)) / 4294967296, rfl, rfl, rfl, by rw [List.length_set]; exact hc, okL_set hok _ _ (by omega), by omega, by omega, fun j hj => (getD_set_ne (by omega)).trans (hsame j (by omega)), ?_⟩, by omega⟩
      rw [show i + (k + 1) = i + k + 1 by omega, wth_set_take (by omega), wth_take_succ c0, ← hs, wth_take_succ b, hww]
      generalize hx : carry + (p + u) = x
      have e1 : 4294967296 ^ (i + k) * (x % 4294967296) + 4294967296 ^ (i + k + 1) * (x / 4294967296) = 4294967296 ^ (i + k) * x := by
        rw [Nat.pow_succ, Nat.mul_assoc, ← Nat.mul_add, Nat.mod_add_div]
      have e2 : 4294967296 ^ (i + k) * x = 4294967296 ^ (i + k) * carry + (4294967296 ^ (i + k) * p + 4294967296 ^ (i + k) * u) := by
        rw [← hx, Nat.mul_add, Nat.mul_add]
      have e3 : 4294967296 ^ i * (v * (wth (b.take k) + 4294967296 ^ k * w)) = 4294967296 ^ i * (v * wth (b.take k)) + 4294967296 ^ (i + k) * p := by
        rw [Nat.mul_add, Nat.mul_add, ← hp, Nat.pow_add, Nat.mul_left_comm v, ← Nat.mul_assoc (4294967296 ^ i) (4294967296 ^ k)]
      rw [e3]
      omega
end Go.Proofs.Ytdnmhnjblgkjaaa

/- nat.small, in the evaluator. -/
namespace Go.Proofs.Ytdnmhnjblgkjaaa
set_option linter.unusedSimpArgs false
set_option linter.unusedVariables false
set_option maxRecDepth 8000
open Go.Ev
theorem wth_drop {xs : List Nat} {i : Nat} (h : i < xs.length) : wth (xs.drop i) = xs.getD i 0 + 4294967296 * wth (xs.drop (i + 1)) := by
  rw [List.drop_eq_getElem_cons h, wth_cons, List.getD_eq_getElem?_getD, List.getElem?_eq_getElem h]
  rfl
theorem wth_set_drop {xs : List Nat} {i : Nat} (h : i < xs.length) (v : Nat) : wth ((xs.set i v).drop i) = v + 4294967296 * wth (xs.drop (i + 1)) := by
  rw [wth_drop (by rw [List.length_set]; exact h), List.drop_set_of_lt (by omega)]
  simp [List.getD_eq_getElem?_getD, h]
theorem nat_small (xs : List Nat) (b : Nat) (hx : okL xs) (hl : xs.length ≤ 1073741824) (hb0 : 0 < b) (hb : b < 4294967296) :
    Go.Ev.Fn CX 107 [natV xs, limb b] (.tup [natV (lim (wth xs / b)), limb (wth xs % b)]) := by
  refine Go.Ev.Fn.intro (fn := Try.f107) (body := (Try.f107).body.get!) (by kernel_rfl) (by kernel_rfl) (by kernel_rfl) (fun _ => rfl) (Nat.le_of_ble_eq_true (by kernel_rfl)) ?_; unfold Try.f107; simp only [Option.get!_some]
  (try (simp only [go_sem, Nat.reduceEqDiff, Nat.reduceAdd, Nat.reduceSub, Nat.reduceMul, Nat.reduceLeDiff, Nat.reduceLT, reduceIte, reduceCtorEq, Nat.succ_ne_zero, elemsC, Int.reduceToNat, Nat.reducePow])); repeat ((first | (simp (disch := (first | omega | (simp only [AL, List.length_map]; omega))) only [AR, AL, ifT, ifF, take_all, List.length_cons, List.length_nil, Int.reduceToNat, Int.reducePow, Nat.reducePow]) | (refine wk_intro (by kernel_rfl) ?_)); try (simp only [go_sem, Nat.reduceEqDiff, Nat.reduceAdd, Nat.reduceSub, Nat.reduceMul, Nat.reduceLeDiff, Nat.reduceLT, reduceIte, reduceCtorEq, Nat.succ_ne_zero, elemsC, Int.reduceToNat, Nat.reducePow]))
  refine vp_loop_inv (fun s' => s'.tmp 0 = .sv (natV xs) ∧ s'.tmp 1 = .sv (limb b) ∧ s'.tmp 6 = .ref 11 0 1 0 xs.length ∧
      ∃ q : List Nat, ∃ i rest : Nat, s'.obj 11 0 = some (q.map limb) ∧ s'.tmp 8 = .sv (.int .i64 ((i : Int) - 1)) ∧ s'.tmp 7 = .sv (limb rest) ∧ q.length = xs.length ∧ okL q ∧ i ≤ xs.length ∧ rest < b ∧
        wth (xs.drop i) = b * wth (q.drop i) + rest)
    (fun s => match s.tmp 8 with | .sv (.int _ i) => (i + 1).toNat | _ => 0) ?_ ?_
  · refine ⟨rfl, rfl, rfl, List.replicate xs.length 0, xs.length, 0, rfl, rfl, rfl, List.length_replicate .., okL_replicate _, by omega, hb0, ?_⟩
    rw [List.drop_length, List.drop_of_length_le (by simp)]
    simp [wth]
  rintro s' ⟨i0, i1, i6, q, i, rest, iO, i8, i7, hq, hok, hi, hrest, hv⟩
  rcases Nat.eq_zero_or_pos i with rfl | hi0
  · (try (simp only [go_sem, Nat.reduceEqDiff, Nat.reduceAdd, Nat.reduceSub, Nat.reduceMul, Nat.reduceLeDiff, Nat.reduceLT, reduceIte, reduceCtorEq, Nat.succ_ne_zero, elemsC, Int.reduceToNat, Nat.reducePow, i0, i1, i6, iO, i8, i7])); repeat ((first | (simp (disch := (first | omega | (simp only [AL, List.length_map]; omega))) only [AR, AL, ifT, ifF, take_all, List.length_cons, List.length_nil, Int.reduceToNat, Int.reducePow, Nat.reducePow, i0, i1, i6, iO, i8, i7]) | (refine wk_intro (by kernel_rfl) ?_) | (refine vp_draw (l := []) (by kernel_rfl) ?_)); try (simp only [go_sem, Nat.reduceEqDiff, Nat.reduceAdd, Nat.reduceSub, Nat.reduceMul, Nat.reduceLeDiff, Nat.reduceLT, reduceIte, reduceCtorEq, Nat.succ_ne_zero, elemsC, Int.reduceToNat, Nat.reducePow, i0, i1, i6, iO, i8, i7]))
    rw [List.drop_zero, List.drop_zero] at hv
    have e1 : wth xs / b = wth q := by
      rw [hv, Nat.mul_add_div hb0, Nat.div_eq_of_lt hrest, Nat.add_zero]
    have e2 : wth xs % b = rest := by
      rw [hv, Nat.mul_add_mod, Nat.mod_eq_of_lt hrest]
    refine vf_of (fn_natV (nat_trim q hok (by omega)) hq) ?_; (try (simp only [go_sem, Nat.reduceEqDiff, Nat.reduceAdd, Nat.reduceSub, Nat.reduceMul, Nat.reduceLeDiff, Nat.reduceLT, reduceIte, reduceCtorEq, Nat.succ_ne_zero, elemsC, Int.reduceToNat, Nat.reducePow, i0, i1, i6, iO, i8, i7])); repeat ((first | (simp (disch := (first | omega | (simp only [AL, List.length_map]; omega))) only [AR, AL, ifT, ifF, take_all, List.length_cons, List.length_nil, Int.reduceToNat, Int.reducePow, Nat.reducePow, i0, i1, i6, iO, i8, i7]) | (refine wk_intro (by kernel_rfl) ?_) | (refine vp_draw (l := []) (by kernel_rfl) ?_)); try (simp only [go_sem, Nat.reduceEqDiff, Nat.reduceAdd, Nat.reduceSub, Nat.reduceMul, Nat.reduceLeDiff, Nat.reduceLT, reduceIte, reduceCtorEq, Nat.succ_ne_zero, elemsC, Int.reduceToNat, Nat.reducePow, i0, i1, i6, iO, i8, i7]))
    rw [e1, e2]
    exact ⟨rfl, rfl⟩
  · have h1 := getD_lt hx (i - 1)
    have h5 : (((i - 1 : Nat) : Int)) = (i : Int) - 1 := by omega
    (try (simp only [go_sem, Nat.reduceEqDiff, Nat.reduceAdd, Nat.reduceSub, Nat.reduceMul, Nat.reduceLeDiff, Nat.reduceLT, reduceIte, reduceCtorEq, Nat.succ_ne_zero, elemsC, Int.reduceToNat, Nat.reducePow, i0, i1, i6, iO, i8, i7])); repeat ((first | (simp (disch := (first | omega | (simp only [AL, List.length_map]; omega))) only [AR, AL, ifT, ifF, take_all, List.length_cons, List.length_nil, Int.reduceToNat, Int.reducePow, Nat.reducePow, i0, i1, i6, iO, i8, i7]) | (refine wk_intro (by kernel_rfl) ?_) | (refine vp_draw (l := []) (by kernel_rfl) ?_)); try (simp only [go_sem, Nat.reduceEqDiff, Nat.reduceAdd, Nat.reduceSub, Nat.reduceMul, Nat.reduceLeDiff, Nat.reduceLT, reduceIte, reduceCtorEq, Nat.succ_ne_zero, elemsC, Int.reduceToNat, Nat.reducePow, i0, i1, i6, iO, i8, i7]))
    have hq0 : (rest * 4294967296 + xs.getD (i - 1) 0) / b < 4294967296 := by
      rw [Nat.div_lt_iff_lt_mul hb0]
      have : (rest + 1) * 4294967296 ≤ b * 4294967296 := Nat.mul_le_mul_right _ hrest
      omega
    have hr0 := Nat.mod_lt (rest * 4294967296 + xs.getD (i - 1) 0) hb0
    refine vf_of (bits_Div32 rest (xs.getD (i - 1) 0) b hrest hb h1) ?_; (try (simp only [go_sem, Nat.reduceEqDiff, Nat.reduceAdd, Nat.reduceSub, Nat.reduceMul, Nat.reduceLeDiff, Nat.reduceLT, reduceIte, reduceCtorEq, Nat.succ_ne_zero, elemsC, Int.reduceToNat, Nat.reducePow, i0, i1, i6, iO, i8, i7])); repeat ((first | (simp (disch := (first | omega | (simp only [AL, List.length_map]; omega))) only [AR, AL, ifT, ifF, take_all, List.length_cons, List.length_nil, Int.reduceToNat, Int.reducePow, Nat.reducePow, i0, i1, i6, iO, i8, i7]) | (refine wk_intro (by kernel_rfl) ?_) | (refine vp_draw (l := []) (by kernel_rfl) ?_)); try (simp only [go_sem, Nat.reduceEqDiff, Nat.reduceAdd, Nat.reduceSub, Nat.reduceMul, Nat.reduceLeDiff, Nat.reduceLT, reduceIte, reduceCtorEq, Nat.succ_ne_zero, elemsC, Int.reduceToNat, Nat.reducePow, i0, i1, i6, iO, i8, i7]))
    refine ⟨⟨q.set (i - 1) ((rest * 4294967296 + xs.getD (i - 1) 0) / b), i - 1, (rest * 4294967296 + xs.getD (i - 1) 0) % b, rfl, rfl, rfl, by rw [List.length_set]; exact hq, okL_set hok _ _ hq0, by omega, hr0, ?_⟩, by omega⟩
    rw [wth_set_drop (by omega), wth_drop (by omega), show i - 1 + 1 = i by omega, hv]
    have e1 := Nat.div_add_mod (rest * 4294967296 + xs.getD (i - 1) 0) b
    generalize (rest * 4294967296 + xs.getD (i - 1) 0) / b = Q at *
    generalize (rest * 4294967296 + xs.getD (i - 1) 0) % b = R at *
    rw [Nat.mul_add b, ← Nat.mul_assoc b, Nat.mul_comm b 4294967296, Nat.mul_assoc]
    omega
end Go.Proofs.Ytdnmhnjblgkjaaa

/- bits.Len32, bits.LeadingZeros32; nat.guess, in the evaluator. -/
namespace Go.Proofs.Ytdnmhnjblgkjaaa
set_option linter.unusedSimpArgs false
set_option linter.unusedVariables false
set_option maxRecDepth 8000
open Go.Ev
/-- What a quotient's limb is guessed to be. -/
def guessN (u v : Nat) : Nat := min 4294967295 (u / v)
theorem guess_le (u v : Nat) : guessN u v ≤ 4294967295 := Nat.min_le_left _ _
theorem guess_ge {u v q : Nat} (hv : 0 < v) (hq : q ≤ 4294967295) (h : q * v ≤ u) : q ≤ guessN u v :=
  Nat.le_min.2 ⟨hq, (Nat.le_div_iff_mul_le hv).2 h⟩
theorem guess_lt {u v q : Nat} (hv : 0 < v) (h : u < q * v) : guessN u v ≤ q - 1 :=
  Nat.le_trans (Nat.min_le_right _ _) (Nat.le_sub_one_of_lt ((Nat.div_lt_iff_lt_mul hv).2 h))
theorem guess_parts {q r b1 b2 X low U V : Nat} (hU : X * 4294967296 + low = U) (hV : b1 * 4294967296 + b2 = V) (e : q * b1 + r = X) :
    q * V + (r * 4294967296 + low) = U + q * b2 := by
  subst hU hV e
  rw [Nat.mul_add, Nat.add_mul, ← Nat.mul_assoc]
  generalize q * b1 = a
  generalize q * b2 = b
  omega
theorem guess_first {b1 b2 X low U V Q R : Nat} (hU : X * 4294967296 + low = U) (hV : b1 * 4294967296 + b2 = V) (hlo : low < 4294967296) (hV0 : 0 < V) (hQR : b1 * Q + R = X) (hR : R < b1) : guessN U V ≤ Q := by
  refine guess_lt (q := Q + 1) hV0 ?_
  have e := guess_parts (q := Q) (r := R) hU hV (by rw [Nat.mul_comm]; exact hQR)
  rw [Nat.add_mul]
  generalize Q * V = a at *
  generalize Q * b2 = b at *
  generalize b1 * Q = c at *
  omega
theorem guess_step {q r b1 X : Nat} (e : q * b1 + r = X) (h : 1 ≤ q) : (q - 1) * b1 + (r + b1) = X := by
  obtain ⟨q', rfl⟩ : ∃ q', q = q' + 1 := ⟨q - 1, by omega⟩
  rw [Nat.add_sub_cancel]
  rw [Nat.add_mul, Nat.one_mul] at e
  omega
/-- A quotient that is not too great, where what is left is great. -/
theorem guess_end {q r b1 b2 X low U V : Nat} (hU : X * 4294967296 + low = U) (hV : b1 * 4294967296 + b2 = V) (hV0 : 0 < V) (hb2 : b2 < 4294967296) (e : q * b1 + r = X) (hq : q ≤ 4294967295)
    (h : 4294967296 ≤ r ∨ q * b2 ≤ r * 4294967296 + low) : q ≤ guessN U V := by
  refine guess_ge hV0 hq ?_
  have e1 := guess_parts hU hV e
  have h6 : q * b2 ≤ 18446744065119617025 := limb_mul (by omega) hb2
  generalize q * V = a at *
  generalize q * b2 = b at *
  omega
theorem guess_more {q r b1 b2 X low U V : Nat} (hU : X * 4294967296 + low = U) (hV : b1 * 4294967296 + b2 = V) (hV0 : 0 < V) (e : q * b1 + r = X)
    (h : r * 4294967296 + low < q * b2) : guessN U V ≤ q - 1 := by
  refine guess_lt hV0 ?_
  have e1 := guess_parts hU hV e
  generalize q * V = a at *
  generalize q * b2 = b at *
  omega
theorem guess_small {q r b1 X high mid : Nat} (hX : high * 4294967296 + mid = X) (h1 : high ≤ b1) (hm : mid < 4294967296) (e : q * b1 + r = X) (hr : 4294967296 ≤ r) : q ≤ 4294967295 := by
  rcases Nat.lt_or_ge 4294967295 q with h3 | h3
  · have h4 : 4294967296 * b1 ≤ q * b1 := Nat.mul_le_mul_right _ h3
    generalize q * b1 = a at *
    omega
  · exact h3
theorem guess_fn (high mid low b1 b2 : Nat) (h1 : high ≤ b1) (hb : b1 < 4294967296) (hb' : 2147483648 ≤ b1) (hm : mid < 4294967296) (hlo : low < 4294967296) (hb2 : b2 < 4294967296) :
    Go.Ev.Fn CX 114 [limb high, limb mid, limb low, limb b1, limb b2] (.int .u64 (guessN ((high * 4294967296 + mid) * 4294967296 + low) (b1 * 4294967296 + b2))) := by
  refine Go.Ev.Fn.intro (fn := Try.f114) (body := (Try.f114).body.get!) (by kernel_rfl) (by kernel_rfl) (by kernel_rfl) (fun _ => rfl) (Nat.le_of_ble_eq_true (by kernel_rfl)) ?_; unfold Try.f114; simp only [Option.get!_some]
  have hX : ∃ X, high * 4294967296 + mid = X := ⟨_, rfl⟩
  obtain ⟨X, hX⟩ := hX
  have hX1 : X < 18446744073709551616 := by omega
  rw [hX]
  have hU : ∃ U, X * 4294967296 + low = U := ⟨_, rfl⟩
  obtain ⟨U, hU⟩ := hU
  have hV : ∃ V, b1 * 4294967296 + b2 = V := ⟨_, rfl⟩
  obtain ⟨V, hV⟩ := hV
  have hV0 : 0 < V := by omega
  rw [hU, hV]
  have hq0 : X / b1 ≤ 4294967297 := by
    have h : X < 4294967298 * b1 := by omega
    exact Nat.le_of_lt_succ ((Nat.div_lt_iff_lt_mul (k := b1) (by omega)).2 h)
  have hr0 : X % b1 < b1 := Nat.mod_lt _ (by omega)
  have hqr := Nat.div_add_mod X b1
  generalize hQ : X / b1 = Q at *
  generalize hR : X % b1 = R at *
  have hT0 := guess_first hU hV hlo hV0 hqr hr0
  have hT1 := guess_le U V
  generalize hT : guessN U V = T at *
  (try (simp only [go_sem, Nat.reduceEqDiff, Nat.reduceAdd, Nat.reduceSub, Nat.reduceMul, Nat.reduceLeDiff, Nat.reduceLT, reduceIte, reduceCtorEq, Nat.succ_ne_zero, elemsC, Int.reduceToNat, Nat.reducePow, hX, hQ, hR])); repeat ((first | (simp (disch := (first | omega | (simp only [AL, List.length_map]; omega))) only [AR, AL, ifT, ifF, take_all, List.length_cons, List.length_nil, Int.reduceToNat, Int.reducePow, Nat.reducePow, hX, hQ, hR]) | (refine wk_intro (by kernel_rfl) ?_) | (refine vp_draw (l := []) (by kernel_rfl) ?_)); try (simp only [go_sem, Nat.reduceEqDiff, Nat.reduceAdd, Nat.reduceSub, Nat.reduceMul, Nat.reduceLeDiff, Nat.reduceLT, reduceIte, reduceCtorEq, Nat.succ_ne_zero, elemsC, Int.reduceToNat, Nat.reducePow, hX, hQ, hR]))
  refine vp_loop_inv (fun s' => s'.tmp 2 = .sv (limb low) ∧ s'.tmp 3 = .sv (limb b1) ∧ s'.tmp 4 = .sv (limb b2) ∧
      ∃ q r : Nat, s'.tmp 12 = .sv (.int .u64 q) ∧ s'.tmp 13 = .sv (.int .u64 r) ∧ q * b1 + r = X ∧ r < 4294967296 ∧ T ≤ q ∧ q ≤ 4294967297)
    (fun s => match s.tmp 12 with | .sv (.int _ i) => i.toNat | _ => 0) ?_ ?_
  · exact ⟨rfl, rfl, rfl, Q, R, rfl, rfl, by rw [Nat.mul_comm]; exact hqr, by omega, hT0, hq0⟩
  rintro s' ⟨i2, i3, i4, q, r, i12, i13, e, hr, hTq, hq⟩
  have fin : 1 ≤ q → 4294967296 ≤ r + b1 → T ≤ q - 1 → q - 1 = T := by
    intro hq1 hrB hl
    have e2 := guess_step e hq1
    have := guess_end hU hV hV0 hb2 e2 (guess_small hX h1 hm e2 hrB) (.inl hrB)
    rw [hT] at this
    omega
  by_cases hqB : 4294967296 ≤ q
  · have e2 := guess_step e (by omega)
    by_cases hrB : 4294967296 ≤ r + b1
    · have h5 := fin (by omega) hrB (by omega)
      clear fin e e2 hU hV hqr
      (try (simp only [go_sem, Nat.reduceEqDiff, Nat.reduceAdd, Nat.reduceSub, Nat.reduceMul, Nat.reduceLeDiff, Nat.reduceLT, reduceIte, reduceCtorEq, Nat.succ_ne_zero, elemsC, Int.reduceToNat, Nat.reducePow, i2, i3, i4, i12, i13])); repeat ((first | (simp (disch := (first | omega | (simp only [AL, List.length_map]; omega))) only [AR, AL, ifT, ifF, take_all, List.length_cons, List.length_nil, Int.reduceToNat, Int.reducePow, Nat.reducePow, i2, i3, i4, i12, i13]) | (refine wk_intro (by kernel_rfl) ?_) | (refine vp_draw (l := []) (by kernel_rfl) ?_)); try (simp only [go_sem, Nat.reduceEqDiff, Nat.reduceAdd, Nat.reduceSub, Nat.reduceMul, Nat.reduceLeDiff, Nat.reduceLT, reduceIte, reduceCtorEq, Nat.succ_ne_zero, elemsC, Int.reduceToNat, Nat.reducePow, i2, i3, i4, i12, i13]))
      rw [h5]
    · clear fin e hU hV hqr
      (try (simp only [go_sem, Nat.reduceEqDiff, Nat.reduceAdd, Nat.reduceSub, Nat.reduceMul, Nat.reduceLeDiff, Nat.reduceLT, reduceIte, reduceCtorEq, Nat.succ_ne_zero, elemsC, Int.reduceToNat, Nat.reducePow, i2, i3, i4, i12, i13])); repeat ((first | (simp (disch := (first | omega | (simp only [AL, List.length_map]; omega))) only [AR, AL, ifT, ifF, take_all, List.length_cons, List.length_nil, Int.reduceToNat, Int.reducePow, Nat.reducePow, i2, i3, i4, i12, i13]) | (refine wk_intro (by kernel_rfl) ?_) | (refine vp_draw (l := []) (by kernel_rfl) ?_)); try (simp only [go_sem, Nat.reduceEqDiff, Nat.reduceAdd, Nat.reduceSub, Nat.reduceMul, Nat.reduceLeDiff, Nat.reduceLT, reduceIte, reduceCtorEq, Nat.succ_ne_zero, elemsC, Int.reduceToNat, Nat.reducePow, i2, i3, i4, i12, i13]))
      exact ⟨⟨q - 1, r + b1, rfl, rfl, e2, by omega, by omega, by omega⟩, by omega⟩
  · have hp : q * b2 ≤ 18446744065119617025 := limb_mul (by omega) hb2
    have hub' := guess_end hU hV hV0 hb2 e (by omega)
    have hlb' := guess_more hU hV hV0 e
    rw [hT] at hub' hlb'
    generalize hP : q * b2 = P at *
    have hC : ∃ C, r * 4294967296 + low = C := ⟨_, rfl⟩
    obtain ⟨C, hC⟩ := hC
    have hj : bitsSV .or .u64 ((r * 4294967296 : Nat) : Int) (low : Int) = some (.int .u64 (C : Int)) := by
      rw [b_join (by omega) hlo, hC]
    rw [hC] at hub' hlb'
    by_cases hc : C < P
    · have hq1 : 1 ≤ q := by
        rcases Nat.eq_zero_or_pos q with rfl | h
        · rw [Nat.zero_mul] at hP; omega
        · exact h
      have hl := hlb' hc
      have e2 := guess_step e hq1
      by_cases hrB : 4294967296 ≤ r + b1
      · have h5 := fin hq1 hrB hl
        clear fin hub' hlb' e e2 hU hV hqr hC
        (try (simp only [go_sem, Nat.reduceEqDiff, Nat.reduceAdd, Nat.reduceSub, Nat.reduceMul, Nat.reduceLeDiff, Nat.reduceLT, reduceIte, reduceCtorEq, Nat.succ_ne_zero, elemsC, Int.reduceToNat, Nat.reducePow, i2, i3, i4, i12, i13, hP, hj])); repeat ((first | (simp (disch := (first | omega | (simp only [AL, List.length_map]; omega))) only [AR, AL, ifT, ifF, take_all, List.length_cons, List.length_nil, Int.reduceToNat, Int.reducePow, Nat.reducePow, i2, i3, i4, i12, i13, hP, hj]) | (refine wk_intro (by kernel_rfl) ?_) | (refine vp_draw (l := []) (by kernel_rfl) ?_)); try (simp only [go_sem, Nat.reduceEqDiff, Nat.reduceAdd, Nat.reduceSub, Nat.reduceMul, Nat.reduceLeDiff, Nat.reduceLT, reduceIte, reduceCtorEq, Nat.succ_ne_zero, elemsC, Int.reduceToNat, Nat.reducePow, i2, i3, i4, i12, i13, hP, hj]))
        rw [h5]
      · clear fin hub' hlb' e hU hV hqr hC
        (try (simp only [go_sem, Nat.reduceEqDiff, Nat.reduceAdd, Nat.reduceSub, Nat.reduceMul, Nat.reduceLeDiff, Nat.reduceLT, reduceIte, reduceCtorEq, Nat.succ_ne_zero, elemsC, Int.reduceToNat, Nat.reducePow, i2, i3, i4, i12, i13, hP, hj])); repeat ((first | (simp (disch := (first | omega | (simp only [AL, List.length_map]; omega))) only [AR, AL, ifT, ifF, take_all, List.length_cons, List.length_nil, Int.reduceToNat, Int.reducePow, Nat.reducePow, i2, i3, i4, i12, i13, hP, hj]) | (refine wk_intro (by kernel_rfl) ?_) | (refine vp_draw (l := []) (by kernel_rfl) ?_)); try (simp only [go_sem, Nat.reduceEqDiff, Nat.reduceAdd, Nat.reduceSub, Nat.reduceMul, Nat.reduceLeDiff, Nat.reduceLT, reduceIte, reduceCtorEq, Nat.succ_ne_zero, elemsC, Int.reduceToNat, Nat.reducePow, i2, i3, i4, i12, i13, hP, hj]))
        exact ⟨⟨q - 1, r + b1, rfl, rfl, e2, by omega, by omega, by omega⟩, by omega⟩
    · have h5 := hub' (.inr (by omega))
      clear fin hub' hlb' e hU hV hqr hC
      (try (simp only [go_sem, Nat.reduceEqDiff, Nat.reduceAdd, Nat.reduceSub, Nat.reduceMul, Nat.reduceLeDiff, Nat.reduceLT, reduceIte, reduceCtorEq, Nat.succ_ne_zero, elemsC, Int.reduceToNat, Nat.reducePow, i2, i3, i4, i12, i13, hP, hj])); repeat ((first | (simp (disch := (first | omega | (simp only [AL, List.length_map]; omega))) only [AR, AL, ifT, ifF, take_all, List.length_cons, List.length_nil, Int.reduceToNat, Int.reducePow, Nat.reducePow, i2, i3, i4, i12, i13, hP, hj]) | (refine wk_intro (by kernel_rfl) ?_) | (refine vp_draw (l := []) (by kernel_rfl) ?_)); try (simp only [go_sem, Nat.reduceEqDiff, Nat.reduceAdd, Nat.reduceSub, Nat.reduceMul, Nat.reduceLeDiff, Nat.reduceLT, reduceIte, reduceCtorEq, Nat.succ_ne_zero, elemsC, Int.reduceToNat, Nat.reducePow, i2, i3, i4, i12, i13, hP, hj]))
      rw [Nat.le_antisymm h5 hTq]
end Go.Proofs.Ytdnmhnjblgkjaaa

/- bits.Len32, bits.LeadingZeros32, in the evaluator. -/
namespace Go.Proofs.Ytdnmhnjblgkjaaa
set_option linter.unusedSimpArgs false
set_option linter.unusedVariables false
set_option maxRecDepth 8000
open Go.Ev
/-- How many bits a number takes. -/
def blen (x : Nat) : Nat := if x = 0 then 0 else x.log2 + 1
def tabOk (s : ByteArray) : Bool := (List.range 256).all fun i => match s[i]? with
  | some b => b.toNat == blen i
  | none => false
theorem vo_index_tab {C : Cx} {soft : Bool} {ops : Array Oper} {l : List Oper} {st : St} {Q : St → Prop} {dst : Option Nat} {ty t : TypeId} {pos : String} {af : Array Edge} {s : ByteArray} {x : Operand} {k : IntKind} {i : Nat}
    (hu : C.P.underlying t = some .string) (hs : tabOk s = true) (hx : st.eval x = .sv (.int k (i : Int))) (hi : i < 256) (h : WO C soft ops l (st.putO dst (.sv (.int .u8 (blen i : Nat)))) Q) :
    WO C soft ops (⟨dst, .index t (.const (.string s)) x, ty, pos, af, none⟩ :: l) st Q := by
  rw [vo_index]
  have h1 := List.all_eq_true.1 hs i (List.mem_range.2 hi)
  have e : val C.P st (.index t (.const (.string s)) x) = some (.sv (.int .u8 (blen i : Nat))) := by
    have e0 : st.eval (.const (.string s)) = .sv (.str s) := rfl
    simp only [val, hx, e0, natTV, hu]
    rw [if_pos (by omega)]
    simp only [Int.toNat_natCast]
    split at h1
    · rename_i b hb
      rw [hb]
      simp only
      rw [← eq_of_beq h1]
    · cases h1
  rw [e]
  exact h
theorem blen_shift {x k : Nat} (h : 2 ^ k ≤ x) : blen x = k + blen (x / 2 ^ k) := by
  have hp : 0 < 2 ^ k := Nat.pow_pos (by omega)
  have h0 : x ≠ 0 := by omega
  have h1 : x / 2 ^ k ≠ 0 := by
    have := Nat.div_pos h hp
    omega
  unfold blen
  rw [if_neg h0, if_neg h1]
  have e : x.log2 = k + (x / 2 ^ k).log2 := by
    have h2 := (Nat.le_log2 h0).2 h
    refine (Nat.log2_eq_iff h0).2 ⟨?_, ?_⟩
    · have := Nat.log2_self_le h1
      rw [Nat.pow_add]
      calc 2 ^ k * 2 ^ (x / 2 ^ k).log2 ≤ 2 ^ k * (x / 2 ^ k) := Nat.mul_le_mul_left _ this
        _ ≤ x := Nat.mul_div_le _ _
    · have := Nat.lt_log2_self (n := x / 2 ^ k)
      rw [Nat.div_lt_iff_lt_mul hp] at this
      rw [show k + (x / 2 ^ k).log2 + 1 = (x / 2 ^ k).log2 + 1 + k by omega, Nat.pow_add]
      exact this
  omega
theorem blen_le {x k : Nat} (h : x < 2 ^ k) : blen x ≤ k := by
  unfold blen
  split
  · omega
  · rename_i h0
    have := (Nat.log2_lt h0).2 h
    omega
theorem bits_Len32 (x : Nat) (hx : x < 4294967296) : Go.Ev.Fn CX 117 [limb x] (.int .i64 (blen x : Nat)) := by
  refine Go.Ev.Fn.intro (fn := Try.f117) (body := (Try.f117).body.get!) (by kernel_rfl) (by kernel_rfl) (by kernel_rfl) (fun _ => rfl) (Nat.le_of_ble_eq_true (by kernel_rfl)) ?_; unfold Try.f117; simp only [Option.get!_some]
  (try (simp only [go_sem, Nat.reduceEqDiff, Nat.reduceAdd, Nat.reduceSub, Nat.reduceMul, Nat.reduceLeDiff, Nat.reduceLT, reduceIte, reduceCtorEq, Nat.succ_ne_zero, elemsC, Int.reduceToNat, Nat.reducePow])); repeat ((first | (simp (disch := (first | omega | (simp only [AL, List.length_map]; omega))) only [AR, AL, ifT, ifF, take_all, List.length_cons, List.length_nil, Int.reduceToNat, Int.reducePow, Nat.reducePow]) | (refine wk_intro (by kernel_rfl) ?_) | (refine vp_draw (l := []) (by kernel_rfl) ?_)); try (simp only [go_sem, Nat.reduceEqDiff, Nat.reduceAdd, Nat.reduceSub, Nat.reduceMul, Nat.reduceLeDiff, Nat.reduceLT, reduceIte, reduceCtorEq, Nat.succ_ne_zero, elemsC, Int.reduceToNat, Nat.reducePow]))
  refine vc_cut (Mid := fun s => ∃ y m : Nat, s.tmp 0 = .sv (limb y) ∧ s.tmp 2 = .sv (.int .i64 m) ∧ blen x = m + blen y ∧ y < 65536 ∧ m ≤ 16) ?_ ?_
  · by_cases h : 65536 ≤ x
    · (try (simp only [go_sem, Nat.reduceEqDiff, Nat.reduceAdd, Nat.reduceSub, Nat.reduceMul, Nat.reduceLeDiff, Nat.reduceLT, reduceIte, reduceCtorEq, Nat.succ_ne_zero, elemsC, Int.reduceToNat, Nat.reducePow])); repeat ((first | (simp (disch := (first | omega | (simp only [AL, List.length_map]; omega))) only [AR, AL, ifT, ifF, take_all, List.length_cons, List.length_nil, Int.reduceToNat, Int.reducePow, Nat.reducePow]) | (refine wk_intro (by kernel_rfl) ?_) | (refine vp_draw (l := []) (by kernel_rfl) ?_)); try (simp only [go_sem, Nat.reduceEqDiff, Nat.reduceAdd, Nat.reduceSub, Nat.reduceMul, Nat.reduceLeDiff, Nat.reduceLT, reduceIte, reduceCtorEq, Nat.succ_ne_zero, elemsC, Int.reduceToNat, Nat.reducePow]))
      exact ⟨x / 65536, 16, rfl, rfl, blen_shift (k := 16) h, by omega, by omega⟩
    · (try (simp only [go_sem, Nat.reduceEqDiff, Nat.reduceAdd, Nat.reduceSub, Nat.reduceMul, Nat.reduceLeDiff, Nat.reduceLT, reduceIte, reduceCtorEq, Nat.succ_ne_zero, elemsC, Int.reduceToNat, Nat.reducePow])); repeat ((first | (simp (disch := (first | omega | (simp only [AL, List.length_map]; omega))) only [AR, AL, ifT, ifF, take_all, List.length_cons, List.length_nil, Int.reduceToNat, Int.reducePow, Nat.reducePow]) | (refine wk_intro (by kernel_rfl) ?_) | (refine vp_draw (l := []) (by kernel_rfl) ?_)); try (simp only [go_sem, Nat.reduceEqDiff, Nat.reduceAdd, Nat.reduceSub, Nat.reduceMul, Nat.reduceLeDiff, Nat.reduceLT, reduceIte, reduceCtorEq, Nat.succ_ne_zero, elemsC, Int.reduceToNat, Nat.reducePow]))
      exact ⟨x, 0, rfl, rfl, by omega, by omega, by omega⟩
  rintro s ⟨y, m, g0, g2, hb, hy, hm⟩
  (try (simp only [go_sem, Nat.reduceEqDiff, Nat.reduceAdd, Nat.reduceSub, Nat.reduceMul, Nat.reduceLeDiff, Nat.reduceLT, reduceIte, reduceCtorEq, Nat.succ_ne_zero, elemsC, Int.reduceToNat, Nat.reducePow, g0, g2])); repeat ((first | (simp (disch := (first | omega | (simp only [AL, List.length_map]; omega))) only [AR, AL, ifT, ifF, take_all, List.length_cons, List.length_nil, Int.reduceToNat, Int.reducePow, Nat.reducePow, g0, g2]) | (refine wk_intro (by kernel_rfl) ?_) | (refine vp_draw (l := []) (by kernel_rfl) ?_)); try (simp only [go_sem, Nat.reduceEqDiff, Nat.reduceAdd, Nat.reduceSub, Nat.reduceMul, Nat.reduceLeDiff, Nat.reduceLT, reduceIte, reduceCtorEq, Nat.succ_ne_zero, elemsC, Int.reduceToNat, Nat.reducePow, g0, g2]))
  refine vc_cut (Mid := fun s => ∃ y m : Nat, s.tmp 0 = .sv (limb y) ∧ s.tmp 2 = .sv (.int .i64 m) ∧ blen x = m + blen y ∧ y < 256 ∧ m ≤ 24) ?_ ?_
  · by_cases h : 256 ≤ y
    · (try (simp only [go_sem, Nat.reduceEqDiff, Nat.reduceAdd, Nat.reduceSub, Nat.reduceMul, Nat.reduceLeDiff, Nat.reduceLT, reduceIte, reduceCtorEq, Nat.succ_ne_zero, elemsC, Int.reduceToNat, Nat.reducePow, g0, g2])); repeat ((first | (simp (disch := (first | omega | (simp only [AL, List.length_map]; omega))) only [AR, AL, ifT, ifF, take_all, List.length_cons, List.length_nil, Int.reduceToNat, Int.reducePow, Nat.reducePow, g0, g2]) | (refine wk_intro (by kernel_rfl) ?_) | (refine vp_draw (l := []) (by kernel_rfl) ?_)); try (simp only [go_sem, Nat.reduceEqDiff, Nat.reduceAdd, Nat.reduceSub, Nat.reduceMul, Nat.reduceLeDiff, Nat.reduceLT, reduceIte, reduceCtorEq, Nat.succ_ne_zero, elemsC, Int.reduceToNat, Nat.reducePow, g0, g2]))
      exact ⟨y / 256, m + 8, rfl, rfl, by rw [hb, blen_shift (k := 8) h, Nat.add_assoc], by omega, by omega⟩
    · (try (simp only [go_sem, Nat.reduceEqDiff, Nat.reduceAdd, Nat.reduceSub, Nat.reduceMul, Nat.reduceLeDiff, Nat.reduceLT, reduceIte, reduceCtorEq, Nat.succ_ne_zero, elemsC, Int.reduceToNat, Nat.reducePow, g0, g2])); repeat ((first | (simp (disch := (first | omega | (simp only [AL, List.length_map]; omega))) only [AR, AL, ifT, ifF, take_all, List.length_cons, List.length_nil, Int.reduceToNat, Int.reducePow, Nat.reducePow, g0, g2]) | (refine wk_intro (by kernel_rfl) ?_) | (refine vp_draw (l := []) (by kernel_rfl) ?_)); try (simp only [go_sem, Nat.reduceEqDiff, Nat.reduceAdd, Nat.reduceSub, Nat.reduceMul, Nat.reduceLeDiff, Nat.reduceLT, reduceIte, reduceCtorEq, Nat.succ_ne_zero, elemsC, Int.reduceToNat, Nat.reducePow, g0, g2]))
      exact ⟨y, m, rfl, rfl, hb, by omega, by omega⟩
  clear g0 g2 hb hy hm
  rintro s ⟨y, m, g0, g2, hb, hy, hm⟩
  (try (simp only [go_sem, Nat.reduceEqDiff, Nat.reduceAdd, Nat.reduceSub, Nat.reduceMul, Nat.reduceLeDiff, Nat.reduceLT, reduceIte, reduceCtorEq, Nat.succ_ne_zero, elemsC, Int.reduceToNat, Nat.reducePow, g0, g2])); repeat ((first | (simp (disch := (first | omega | (simp only [AL, List.length_map]; omega))) only [AR, AL, ifT, ifF, take_all, List.length_cons, List.length_nil, Int.reduceToNat, Int.reducePow, Nat.reducePow, g0, g2]) | (refine wk_intro (by kernel_rfl) ?_) | (refine vp_draw (l := []) (by kernel_rfl) ?_)); try (simp only [go_sem, Nat.reduceEqDiff, Nat.reduceAdd, Nat.reduceSub, Nat.reduceMul, Nat.reduceLeDiff, Nat.reduceLT, reduceIte, reduceCtorEq, Nat.succ_ne_zero, elemsC, Int.reduceToNat, Nat.reducePow, g0, g2]))
  refine vo_index_tab (i := y) (by kernel_rfl) (by kernel_rfl) rfl hy ?_
  have hbl : blen y ≤ 8 := blen_le (k := 8) hy
  (try (simp only [go_sem, Nat.reduceEqDiff, Nat.reduceAdd, Nat.reduceSub, Nat.reduceMul, Nat.reduceLeDiff, Nat.reduceLT, reduceIte, reduceCtorEq, Nat.succ_ne_zero, elemsC, Int.reduceToNat, Nat.reducePow, g0, g2])); repeat ((first | (simp (disch := (first | omega | (simp only [AL, List.length_map]; omega))) only [AR, AL, ifT, ifF, take_all, List.length_cons, List.length_nil, Int.reduceToNat, Int.reducePow, Nat.reducePow, g0, g2]) | (refine wk_intro (by kernel_rfl) ?_) | (refine vp_draw (l := []) (by kernel_rfl) ?_)); try (simp only [go_sem, Nat.reduceEqDiff, Nat.reduceAdd, Nat.reduceSub, Nat.reduceMul, Nat.reduceLeDiff, Nat.reduceLT, reduceIte, reduceCtorEq, Nat.succ_ne_zero, elemsC, Int.reduceToNat, Nat.reducePow, g0, g2]))
  rw [hb]
theorem bits_LeadingZeros32 (x : Nat) (hx : x < 4294967296) : Go.Ev.Fn CX 112 [limb x] (.int .i64 ((32 - blen x : Nat) : Int)) := by
  refine Go.Ev.Fn.intro (fn := Try.f112) (body := (Try.f112).body.get!) (by kernel_rfl) (by kernel_rfl) (by kernel_rfl) (fun _ => rfl) (Nat.le_of_ble_eq_true (by kernel_rfl)) ?_; unfold Try.f112; simp only [Option.get!_some]
  have hbl : blen x ≤ 32 := blen_le (k := 32) hx
  (try (simp only [go_sem, Nat.reduceEqDiff, Nat.reduceAdd, Nat.reduceSub, Nat.reduceMul, Nat.reduceLeDiff, Nat.reduceLT, reduceIte, reduceCtorEq, Nat.succ_ne_zero, elemsC, Int.reduceToNat, Nat.reducePow])); repeat ((first | (simp (disch := (first | omega | (simp only [AL, List.length_map]; omega))) only [AR, AL, ifT, ifF, take_all, List.length_cons, List.length_nil, Int.reduceToNat, Int.reducePow, Nat.reducePow]) | (refine wk_intro (by kernel_rfl) ?_) | (refine vp_draw (l := []) (by kernel_rfl) ?_)); try (simp only [go_sem, Nat.reduceEqDiff, Nat.reduceAdd, Nat.reduceSub, Nat.reduceMul, Nat.reduceLeDiff, Nat.reduceLT, reduceIte, reduceCtorEq, Nat.succ_ne_zero, elemsC, Int.reduceToNat, Nat.reducePow]))
  refine vf_of (bits_Len32 x hx) ?_; (try (simp only [go_sem, Nat.reduceEqDiff, Nat.reduceAdd, Nat.reduceSub, Nat.reduceMul, Nat.reduceLeDiff, Nat.reduceLT, reduceIte, reduceCtorEq, Nat.succ_ne_zero, elemsC, Int.reduceToNat, Nat.reducePow])); repeat ((first | (simp (disch := (first | omega | (simp only [AL, List.length_map]; omega))) only [AR, AL, ifT, ifF, take_all, List.length_cons, List.length_nil, Int.reduceToNat, Int.reducePow, Nat.reducePow]) | (refine wk_intro (by kernel_rfl) ?_) | (refine vp_draw (l := []) (by kernel_rfl) ?_)); try (simp only [go_sem, Nat.reduceEqDiff, Nat.reduceAdd, Nat.reduceSub, Nat.reduceMul, Nat.reduceLeDiff, Nat.reduceLT, reduceIte, reduceCtorEq, Nat.succ_ne_zero, elemsC, Int.reduceToNat, Nat.reducePow]))
  rw [Int.natCast_sub hbl]
  rfl
end Go.Proofs.Ytdnmhnjblgkjaaa
