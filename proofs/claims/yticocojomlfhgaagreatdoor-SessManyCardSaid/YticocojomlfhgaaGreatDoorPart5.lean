/- Part 5 of the proof: the evaluator, contracts of functions and their plain laws (joined by program). No condition. -/
import Derived.Test.YticocojomlfhgaaGreatDoorPart4
import Derived.Shelf.Strings.OnBuilder
import Derived.Shelf.Strings.SlTrimAscii
import Derived.Shelf.Strconv.Atoi
import Derived.Test.YticocojomlfhgaaGreatDoorProg
set_option linter.unusedVariables false
set_option linter.unusedSimpArgs false
set_option maxRecDepth 100000
namespace Go.Proofs
open Go.Shelf
def Tryz.lays156_ren : Go.Shelf.Ren := ⟨fun | 156 => 73 | 165 => 106 | 166 => 107 | 169 => 108 | 240 => 133 | 241 => 134 | 276 => 152 | 277 => 153 | n => n, fun | 31 => 39 | 9 => 9 | 3 => 3 | 4 => 4 | 0 => 0 | 20 => 20 | 72 => 128 | 76 => 132 | 70 => 126 | 37 => 38 | 75 => 131 | 127 => 146 | 164 => 160 | 5 => 5 | 80 => 134 | n => n, fun | n => n⟩
theorem Tryz.lays156 : Go.Proofs.Lays.n156 Tryz.prog Tryz.lays156_ren := {
  mixed := by kernel_rfl
  f156 := Tryz.func73.trans (congrArg some (by kernel_rfl))
  f165 := Tryz.func106.trans (congrArg some (by kernel_rfl))
  f166 := Tryz.func107.trans (congrArg some (by kernel_rfl))
  f169 := Tryz.func108.trans (congrArg some (by kernel_rfl))
  f240 := Tryz.func133.trans (congrArg some (by kernel_rfl))
  f241 := Tryz.func134.trans (congrArg some (by kernel_rfl))
  f276 := Tryz.func152.trans (congrArg some (by kernel_rfl))
  f277 := Tryz.func153.trans (congrArg some (by kernel_rfl))
  t0 := Tryz.underlying0
  a0 := Tryz.isAgg0
  z0 := Tryz.sizeOf0
  v0 := Tryz.zeroValue0
  t3 := Tryz.underlying3
  a3 := Tryz.isAgg3
  z3 := Tryz.sizeOf3
  v3 := Tryz.zeroValue3
  t4 := Tryz.underlying4
  a4 := Tryz.isAgg4
  z4 := Tryz.sizeOf4
  v4 := Tryz.zeroValue4
  t9 := Tryz.underlying9
  a9 := Tryz.isAgg9
  z9 := Tryz.sizeOf9
  v9 := Tryz.zeroValue9
  t20 := Tryz.underlying20
  a20 := Tryz.isAgg20
  z20 := Tryz.sizeOf20
  v20 := Tryz.zeroValue20
  t31 := Tryz.underlying39
  a31 := Tryz.isAgg39
  z31 := Tryz.sizeOf39
  v31 := Tryz.zeroValue39
  t37 := Tryz.underlying38
  a37 := Tryz.isAgg38
  z37 := Tryz.sizeOf38
  v37 := Tryz.zeroValue38
  t70 := Tryz.underlying126
  a70 := Tryz.isAgg126
  z70 := Tryz.sizeOf126
  v70 := Tryz.zeroValue126
  t72 := Tryz.underlying128
  a72 := Tryz.isAgg128
  z72 := Tryz.sizeOf128
  v72 := Tryz.zeroValue128
  t75 := Tryz.underlying131
  a75 := Tryz.isAgg131
  z75 := Tryz.sizeOf131
  v75 := Tryz.zeroValue131
  t76 := Tryz.underlying132
  a76 := Tryz.isAgg132
  z76 := Tryz.sizeOf132
  v76 := Tryz.zeroValue132
  t127 := Tryz.underlying146
  a127 := Tryz.isAgg146
  z127 := Tryz.sizeOf146
  v127 := Tryz.zeroValue146
  t164 := Tryz.underlying160
  a164 := Tryz.isAgg160
  z164 := Tryz.sizeOf160
  v164 := Tryz.zeroValue160 }
theorem Tryz.Builder_Extra_156 : Builder.Extra Tryz.prog Tryz.lays156_ren := {
  sizeBuilder := by kernel_rfl
  liesBuilder := by kernel_rfl
  t5 := Tryz.underlying5
  a5 := Tryz.isAgg5
  z5 := Tryz.sizeOf5
  v5 := Tryz.zeroValue5
  infoByte := by kernel_rfl
  cellsByte := by kernel_rfl
  sizeByte := by kernel_rfl
  neB5 := by decide }
def Tryz.lays160_ren : Go.Shelf.Ren := ⟨fun | 160 => 41 | 232 => 57 | 231 => 56 | 227 => 58 | 234 => 60 | 233 => 59 | 236 => 62 | 235 => 61 | 228 => 82 | 271 => 85 | 151 => 84 | 197 => 83 | 120 => 118 | 152 => 117 | 260 => 116 | 137 => 40 | 119 => 139 | 224 => 140 | 225 => 141 | 217 => 55 | 266 => 81 | n => n, fun | 9 => 9 | 4 => 4 | 3 => 3 | 5 => 5 | 117 => 95 | 116 => 94 | 0 => 0 | 124 => 98 | 21 => 21 | 105 => 113 | 46 => 88 | 119 => 148 | 139 => 151 | 138 => 150 | n => n, fun | 3 => 1 | 4 => 2 | n => n⟩
theorem Tryz.lays160 : Go.Proofs.Lays.n160 Tryz.prog Tryz.lays160_ren := {
  mixed := by kernel_rfl
  f119 := Tryz.func139.trans (congrArg some (by kernel_rfl))
  f120 := Tryz.func118.trans (congrArg some (by kernel_rfl))
  f137 := Tryz.func40.trans (congrArg some (by kernel_rfl))
  f151 := Tryz.func84.trans (congrArg some (by kernel_rfl))
  f152 := Tryz.func117.trans (congrArg some (by kernel_rfl))
  f160 := Tryz.func41.trans (congrArg some (by kernel_rfl))
  f197 := Tryz.func83.trans (congrArg some (by kernel_rfl))
  f217 := Tryz.func55.trans (congrArg some (by kernel_rfl))
  f224 := Tryz.func140.trans (congrArg some (by kernel_rfl))
  f225 := Tryz.func141.trans (congrArg some (by kernel_rfl))
  f227 := Tryz.func58.trans (congrArg some (by kernel_rfl))
  f228 := Tryz.func82.trans (congrArg some (by kernel_rfl))
  f231 := Tryz.func56.trans (congrArg some (by kernel_rfl))
  f232 := Tryz.func57.trans (congrArg some (by kernel_rfl))
  f233 := Tryz.func59.trans (congrArg some (by kernel_rfl))
  f234 := Tryz.func60.trans (congrArg some (by kernel_rfl))
  f235 := Tryz.func61.trans (congrArg some (by kernel_rfl))
  f236 := Tryz.func62.trans (congrArg some (by kernel_rfl))
  f260 := Tryz.func116.trans (congrArg some (by kernel_rfl))
  f266 := Tryz.func81.trans (congrArg some (by kernel_rfl))
  f271 := Tryz.func85.trans (congrArg some (by kernel_rfl))
  t0 := Tryz.underlying0
  a0 := Tryz.isAgg0
  z0 := Tryz.sizeOf0
  v0 := Tryz.zeroValue0
  t3 := Tryz.underlying3
  a3 := Tryz.isAgg3
  z3 := Tryz.sizeOf3
  v3 := Tryz.zeroValue3
  t4 := Tryz.underlying4
  a4 := Tryz.isAgg4
  z4 := Tryz.sizeOf4
  v4 := Tryz.zeroValue4
  t5 := Tryz.underlying5
  a5 := Tryz.isAgg5
  z5 := Tryz.sizeOf5
  v5 := Tryz.zeroValue5
  t9 := Tryz.underlying9
  a9 := Tryz.isAgg9
  z9 := Tryz.sizeOf9
  v9 := Tryz.zeroValue9
  t21 := Tryz.underlying21
  a21 := Tryz.isAgg21
  z21 := Tryz.sizeOf21
  v21 := Tryz.zeroValue21
  t46 := Tryz.underlying88
  a46 := Tryz.isAgg88
  z46 := Tryz.sizeOf88
  v46 := Tryz.zeroValue88
  t105 := Tryz.underlying113
  a105 := Tryz.isAgg113
  z105 := Tryz.sizeOf113
  v105 := Tryz.zeroValue113
  t116 := Tryz.underlying94
  a116 := Tryz.isAgg94
  z116 := Tryz.sizeOf94
  t117 := Tryz.underlying95
  a117 := Tryz.isAgg95
  z117 := Tryz.sizeOf95
  v117 := Tryz.zeroValue95
  t119 := Tryz.underlying148
  a119 := Tryz.isAgg148
  z119 := Tryz.sizeOf148
  t124 := Tryz.underlying98
  a124 := Tryz.isAgg98
  z124 := Tryz.sizeOf98
  v124 := Tryz.zeroValue98
  t138 := Tryz.underlying150
  a138 := Tryz.isAgg150
  z138 := Tryz.sizeOf150
  v138 := Tryz.zeroValue150
  t139 := Tryz.underlying151
  a139 := Tryz.isAgg151
  z139 := Tryz.sizeOf151
  v139 := Tryz.zeroValue151
  g3 := by kernel_rfl
  g4 := by kernel_rfl }
def Tryz.lays161_ren : Go.Shelf.Ren := ⟨fun | 161 => 112 | 231 => 56 | 227 => 58 | 233 => 59 | 235 => 61 | 228 => 82 | 197 => 83 | 151 => 84 | 260 => 116 | 152 => 117 | 137 => 40 | 119 => 139 | 224 => 140 | 225 => 141 | 217 => 55 | 266 => 81 | n => n, fun | 9 => 9 | 4 => 4 | 3 => 3 | 5 => 5 | 117 => 95 | 116 => 94 | 0 => 0 | 124 => 98 | 105 => 113 | 21 => 21 | 119 => 148 | 46 => 88 | 139 => 151 | 138 => 150 | n => n, fun | 3 => 1 | 4 => 2 | n => n⟩
theorem Tryz.lays161 : Go.Proofs.Lays.n161 Tryz.prog Tryz.lays161_ren := {
  mixed := by kernel_rfl
  f119 := Tryz.func139.trans (congrArg some (by kernel_rfl))
  f137 := Tryz.func40.trans (congrArg some (by kernel_rfl))
  f151 := Tryz.func84.trans (congrArg some (by kernel_rfl))
  f152 := Tryz.func117.trans (congrArg some (by kernel_rfl))
  f161 := Tryz.func112.trans (congrArg some (by kernel_rfl))
  f197 := Tryz.func83.trans (congrArg some (by kernel_rfl))
  f217 := Tryz.func55.trans (congrArg some (by kernel_rfl))
  f224 := Tryz.func140.trans (congrArg some (by kernel_rfl))
  f225 := Tryz.func141.trans (congrArg some (by kernel_rfl))
  f227 := Tryz.func58.trans (congrArg some (by kernel_rfl))
  f228 := Tryz.func82.trans (congrArg some (by kernel_rfl))
  f231 := Tryz.func56.trans (congrArg some (by kernel_rfl))
  f233 := Tryz.func59.trans (congrArg some (by kernel_rfl))
  f235 := Tryz.func61.trans (congrArg some (by kernel_rfl))
  f260 := Tryz.func116.trans (congrArg some (by kernel_rfl))
  f266 := Tryz.func81.trans (congrArg some (by kernel_rfl))
  t0 := Tryz.underlying0
  a0 := Tryz.isAgg0
  z0 := Tryz.sizeOf0
  v0 := Tryz.zeroValue0
  t3 := Tryz.underlying3
  a3 := Tryz.isAgg3
  z3 := Tryz.sizeOf3
  v3 := Tryz.zeroValue3
  t4 := Tryz.underlying4
  a4 := Tryz.isAgg4
  z4 := Tryz.sizeOf4
  v4 := Tryz.zeroValue4
  t5 := Tryz.underlying5
  a5 := Tryz.isAgg5
  z5 := Tryz.sizeOf5
  v5 := Tryz.zeroValue5
  t9 := Tryz.underlying9
  a9 := Tryz.isAgg9
  z9 := Tryz.sizeOf9
  v9 := Tryz.zeroValue9
  t21 := Tryz.underlying21
  a21 := Tryz.isAgg21
  z21 := Tryz.sizeOf21
  v21 := Tryz.zeroValue21
  t46 := Tryz.underlying88
  a46 := Tryz.isAgg88
  z46 := Tryz.sizeOf88
  v46 := Tryz.zeroValue88
  t105 := Tryz.underlying113
  a105 := Tryz.isAgg113
  z105 := Tryz.sizeOf113
  v105 := Tryz.zeroValue113
  t116 := Tryz.underlying94
  a116 := Tryz.isAgg94
  z116 := Tryz.sizeOf94
  t117 := Tryz.underlying95
  a117 := Tryz.isAgg95
  z117 := Tryz.sizeOf95
  v117 := Tryz.zeroValue95
  t119 := Tryz.underlying148
  a119 := Tryz.isAgg148
  z119 := Tryz.sizeOf148
  t124 := Tryz.underlying98
  a124 := Tryz.isAgg98
  z124 := Tryz.sizeOf98
  v124 := Tryz.zeroValue98
  t138 := Tryz.underlying150
  a138 := Tryz.isAgg150
  z138 := Tryz.sizeOf150
  v138 := Tryz.zeroValue150
  t139 := Tryz.underlying151
  a139 := Tryz.isAgg151
  z139 := Tryz.sizeOf151
  v139 := Tryz.zeroValue151
  g3 := by kernel_rfl
  g4 := by kernel_rfl }
def Tryz.lays172_ren : Go.Shelf.Ren := ⟨fun | 172 => 113 | 244 => 137 | 245 => 138 | 247 => 155 | 279 => 156 | 280 => 157 | 281 => 158 | 282 => 159 | 287 => 164 | 316 => 165 | 171 => 167 | 205 => 166 | 321 => 168 | 322 => 169 | 243 => 170 | 246 => 171 | 283 => 172 | 284 => 173 | 285 => 174 | 286 => 175 | 129 => 177 | 317 => 176 | 318 => 178 | 319 => 179 | 320 => 180 | 337 => 181 | 338 => 182 | n => n, fun | 9 => 9 | 3 => 3 | 75 => 131 | 76 => 132 | 4 => 4 | 5 => 5 | 167 => 163 | 37 => 38 | 0 => 0 | 85 => 164 | 2 => 2 | 168 => 166 | 53 => 73 | 175 => 170 | 46 => 88 | 210 => 173 | 127 => 146 | 145 => 179 | 143 => 177 | 21 => 21 | 171 => 181 | 173 => 184 | 212 => 187 | 51 => 31 | 20 => 20 | 213 => 188 | 232 => 190 | 233 => 191 | 80 => 134 | n => n, fun | 15 => 4 | 16 => 5 | 17 => 6 | 18 => 7 | 19 => 8 | n => n⟩
theorem Tryz.lays172 : Go.Proofs.Lays.n172 Tryz.prog Tryz.lays172_ren := {
  mixed := by kernel_rfl
  f129 := Tryz.func177.trans (congrArg some (by kernel_rfl))
  f171 := Tryz.func167.trans (congrArg some (by kernel_rfl))
  f172 := Tryz.func113.trans (congrArg some (by kernel_rfl))
  f205 := Tryz.func166.trans (congrArg some (by kernel_rfl))
  f243 := Tryz.func170.trans (congrArg some (by kernel_rfl))
  f244 := Tryz.func137.trans (congrArg some (by kernel_rfl))
  f245 := Tryz.func138.trans (congrArg some (by kernel_rfl))
  f246 := Tryz.func171.trans (congrArg some (by kernel_rfl))
  f247 := Tryz.func155.trans (congrArg some (by kernel_rfl))
  f279 := Tryz.func156.trans (congrArg some (by kernel_rfl))
  f280 := Tryz.func157.trans (congrArg some (by kernel_rfl))
  f281 := Tryz.func158.trans (congrArg some (by kernel_rfl))
  f282 := Tryz.func159.trans (congrArg some (by kernel_rfl))
  f283 := Tryz.func172.trans (congrArg some (by kernel_rfl))
  f284 := Tryz.func173.trans (congrArg some (by kernel_rfl))
  f285 := Tryz.func174.trans (congrArg some (by kernel_rfl))
  f286 := Tryz.func175.trans (congrArg some (by kernel_rfl))
  f287 := Tryz.func164.trans (congrArg some (by kernel_rfl))
  f316 := Tryz.func165.trans (congrArg some (by kernel_rfl))
  f317 := Tryz.func176.trans (congrArg some (by kernel_rfl))
  f318 := Tryz.func178.trans (congrArg some (by kernel_rfl))
  f319 := Tryz.func179.trans (congrArg some (by kernel_rfl))
  f320 := Tryz.func180.trans (congrArg some (by kernel_rfl))
  f321 := Tryz.func168.trans (congrArg some (by kernel_rfl))
  f322 := Tryz.func169.trans (congrArg some (by kernel_rfl))
  f337 := Tryz.func181.trans (congrArg some (by kernel_rfl))
  f338 := Tryz.func182.trans (congrArg some (by kernel_rfl))
  t0 := Tryz.underlying0
  a0 := Tryz.isAgg0
  z0 := Tryz.sizeOf0
  v0 := Tryz.zeroValue0
  t2 := Tryz.underlying2
  a2 := Tryz.isAgg2
  z2 := Tryz.sizeOf2
  v2 := Tryz.zeroValue2
  t3 := Tryz.underlying3
  a3 := Tryz.isAgg3
  z3 := Tryz.sizeOf3
  v3 := Tryz.zeroValue3
  t4 := Tryz.underlying4
  a4 := Tryz.isAgg4
  z4 := Tryz.sizeOf4
  v4 := Tryz.zeroValue4
  t5 := Tryz.underlying5
  a5 := Tryz.isAgg5
  z5 := Tryz.sizeOf5
  v5 := Tryz.zeroValue5
  t9 := Tryz.underlying9
  a9 := Tryz.isAgg9
  z9 := Tryz.sizeOf9
  v9 := Tryz.zeroValue9
  t20 := Tryz.underlying20
  a20 := Tryz.isAgg20
  z20 := Tryz.sizeOf20
  v20 := Tryz.zeroValue20
  t21 := Tryz.underlying21
  a21 := Tryz.isAgg21
  z21 := Tryz.sizeOf21
  v21 := Tryz.zeroValue21
  t37 := Tryz.underlying38
  a37 := Tryz.isAgg38
  z37 := Tryz.sizeOf38
  v37 := Tryz.zeroValue38
  t46 := Tryz.underlying88
  a46 := Tryz.isAgg88
  z46 := Tryz.sizeOf88
  v46 := Tryz.zeroValue88
  t51 := Tryz.underlying31
  a51 := Tryz.isAgg31
  z51 := Tryz.sizeOf31
  v51 := Tryz.zeroValue31
  t53 := Tryz.underlying73
  a53 := Tryz.isAgg73
  z53 := Tryz.sizeOf73
  v53 := Tryz.zeroValue73
  t75 := Tryz.underlying131
  a75 := Tryz.isAgg131
  z75 := Tryz.sizeOf131
  v75 := Tryz.zeroValue131
  t76 := Tryz.underlying132
  a76 := Tryz.isAgg132
  z76 := Tryz.sizeOf132
  v76 := Tryz.zeroValue132
  t85 := Tryz.underlying164
  a85 := Tryz.isAgg164
  z85 := Tryz.sizeOf164
  v85 := Tryz.zeroValue164
  t127 := Tryz.underlying146
  a127 := Tryz.isAgg146
  z127 := Tryz.sizeOf146
  v127 := Tryz.zeroValue146
  t143 := Tryz.underlying177
  a143 := Tryz.isAgg177
  z143 := Tryz.sizeOf177
  v143 := Tryz.zeroValue177
  t145 := Tryz.underlying179
  a145 := Tryz.isAgg179
  z145 := Tryz.sizeOf179
  v145 := Tryz.zeroValue179
  t167 := Tryz.underlying163
  a167 := Tryz.isAgg163
  z167 := Tryz.sizeOf163
  v167 := Tryz.zeroValue163
  t168 := Tryz.underlying166
  a168 := Tryz.isAgg166
  z168 := Tryz.sizeOf166
  v168 := Tryz.zeroValue166
  t171 := Tryz.underlying181
  a171 := Tryz.isAgg181
  z171 := Tryz.sizeOf181
  v171 := Tryz.zeroValue181
  t173 := Tryz.underlying184
  a173 := Tryz.isAgg184
  z173 := Tryz.sizeOf184
  v173 := Tryz.zeroValue184
  t175 := Tryz.underlying170
  a175 := Tryz.isAgg170
  z175 := Tryz.sizeOf170
  v175 := Tryz.zeroValue170
  t210 := Tryz.underlying173
  a210 := Tryz.isAgg173
  z210 := Tryz.sizeOf173
  v210 := Tryz.zeroValue173
  t212 := Tryz.underlying187
  a212 := Tryz.isAgg187
  z212 := Tryz.sizeOf187
  v212 := Tryz.zeroValue187
  t213 := Tryz.underlying188
  a213 := Tryz.isAgg188
  z213 := Tryz.sizeOf188
  t232 := Tryz.underlying190
  a232 := Tryz.isAgg190
  z232 := Tryz.sizeOf190
  v232 := Tryz.zeroValue190
  t233 := Tryz.underlying191
  a233 := Tryz.isAgg191
  z233 := Tryz.sizeOf191
  v233 := Tryz.zeroValue191
  g15 := by kernel_rfl
  g16 := by kernel_rfl
  g17 := by kernel_rfl
  g18 := by kernel_rfl
  g19 := by kernel_rfl }
end Go.Proofs
namespace Go.Proofs.YticocojomlfhgaaGreatDoor
open Go.Ev Go.RowKit
noncomputable def C0 : Cx := { P := Tryz.prog, X := fun _ _ => none, mu := fun _ => false, good := fun _ => false }
theorem C0_P : C0.P = Tryz.prog := rfl
theorem clone_ok0 : CallOk Tryz.prog (cloneX 125) := by
  refine cloneX_ok (f := 125) (fn := Tryz.f125) (e := (31, 1, 4)) (by kernel_rfl) (by kernel_rfl) rfl (Nat.lt_of_lt_of_le (Nat.lt_succ_self 4) (Nat.le_of_ble_eq_true (by kernel_rfl))) (by kernel_rfl) fun n cs => ?_
  refine ⟨20, _, rfl, rfl, ⟨20, _, rfl, rfl⟩, fun h1 h2 h3 => ?_⟩
  have hC : ∀ m, CallAll Tryz.prog (callN C0.P C0.X C0.mu C0.good m) := fun m => callN_all (fun g args r exps h => by cases h) (fun f fn h => by cases h) _ m
  suffices h : ∀ {c : Code} {st : St}, WP C0 c st (fun e s => e = .ret ∧ retOf Tryz.prog s Tryz.f125.results.toList = some (.sv (.sl n cs))) → ∃ call mu k st', CallAll Tryz.prog call ∧ exec Tryz.prog call mu k c st = some (.ret, st') ∧ retOf Tryz.prog st' Tryz.f125.results.toList = some (.sv (.sl n cs)) by
    refine h ?_
    have hlen : (List.length cs : Nat) = n * 1 := by omega
    have h2' : cs.all SV.one = true := h2
    have h5 : (5 < N0) = True := by simp [N0]
    have hr : Tryz.f125.results.toList = [.tmp 2] := by kernel_rfl
    rcases Nat.eq_zero_or_pos n with rfl | hn
    · have : cs = [] := List.eq_nil_of_length_eq_zero h1
      subst this
      simp only [go_sem, C0_P, h1, h2, h2', h3, h5, hr, elemsC, Nat.zero_le, Nat.mul_one, Nat.zero_mul, Nat.zero_add, retOf, resTV, outSV]
    · have hn0 : ¬ n = 0 := by omega
      simp only [go_sem, C0_P, h1, h2, h2', h3, h5, hn0, hr, elemsC, Nat.zero_le, Nat.mul_one, Nat.zero_mul, Nat.zero_add, retOf, resTV, outSV]
      rw [List.take_of_length_le (by omega)]
  rintro c st ⟨m, e, s, he, rfl, hr⟩
  exact ⟨_, _, m, s, hC m, he, hr⟩
theorem xS_ok : CallOk Tryz.prog xS := by
  intro g args r exps h
  unfold xS at h
  split at h
  · rename_i hg
    rw [show g = 81 from Nat.eq_of_beq_eq_true hg]
    exact index_at (fn := Tryz.f81) (by kernel_rfl) (by kernel_rfl) (by kernel_rfl) (by kernel_rfl) (by kernel_rfl) h
  split at h
  · rename_i hg
    rw [show g = 98 from Nat.eq_of_beq_eq_true hg]
    exact cmp_at (fn := Tryz.f98) (by kernel_rfl) (by kernel_rfl) (by kernel_rfl) (by kernel_rfl) (by kernel_rfl) h
  split at h
  · rename_i hg
    rw [show g = 150 from Nat.eq_of_beq_eq_true hg]
    exact count_at (fn := Tryz.f150) (by kernel_rfl) (by kernel_rfl) (by kernel_rfl) (by kernel_rfl) (by kernel_rfl) h
  split at h
  · rename_i hg
    rw [show g = 41 from Nat.eq_of_beq_eq_true hg]
    exact trim_at (enters_of (fn := Tryz.f41) (c := (Tryz.f41).body.get!) (by kernel_rfl) (by kernel_rfl) (by kernel_rfl)) (fun s c w h1 h2 h3 => Any.strings_Trim_laid Tryz.lays160 (by kernel_rfl) s c w h1 h2 h3) h
  split at h
  · rename_i hg
    rw [show g = 112 from Nat.eq_of_beq_eq_true hg]
    exact trimLeft_at (enters_of (fn := Tryz.f112) (c := (Tryz.f112).body.get!) (by kernel_rfl) (by kernel_rfl) (by kernel_rfl)) (fun s c w h2 h3 => Any.strings_TrimLeft_laid Tryz.lays161 (by kernel_rfl) s c w h2 h3) h
  split at h
  · rename_i hg
    rw [show g = 73 from Nat.eq_of_beq_eq_true hg]
    exact join_at (enters_of (fn := Tryz.f73) (c := (Tryz.f73).body.get!) (by kernel_rfl) (by kernel_rfl) (by kernel_rfl)) (fun a c sep w => Any.strings_Join_none Tryz.lays156 Tryz.Builder_Extra_156 a c sep w) (fun bk o c xs sep w h1 h2 h3 h4 h5 => Any.strings_Join Tryz.lays156 Tryz.Builder_Extra_156 bk o c xs sep w h1 h2 h3 h4 h5) h
  split at h
  · rename_i hg
    rw [show g = 113 from Nat.eq_of_beq_eq_true hg]
    exact atoi_at (enters_of (fn := Tryz.f113) (c := (Tryz.f113).body.get!) (by kernel_rfl) (by kernel_rfl) (by kernel_rfl)) (fun s v w h1 h2 => (Any.strconv_Atoi Tryz.lays172 s v h1 h2 w).mono (by rintro e w' ⟨h3, t, rfl⟩; exact ⟨h3, ⟨rfl, rfl, rfl, by rw [Lib.bytesWorld_size]; omega, fun k hk => Lib.bytesWorld_at_old w _ t k hk⟩⟩)) h
  exact clone_ok0 g args r exps h
end Go.Proofs.YticocojomlfhgaaGreatDoor
namespace Go.Ev
def natP (l : List UInt8) : Option Nat := if l = [] ∨ 400 < l.length ∨ digs l = false then none else some (natD l)
def frontL (c : UInt8) (l : List UInt8) : List UInt8 := l.takeWhile (· != c)
def backL (c : UInt8) (l : List UInt8) : List UInt8 := (l.dropWhile (· != c)).tail
def negP (l : List UInt8) : Bool := l.head? == some 45
def absP (l : List UInt8) : List UInt8 := if negP l then l.tail else l
def decP (l : List UInt8) : Option Rat :=
  if (absP l).contains 46 then
    if frontL 46 (absP l) = [] then none else
    match natP (backL 46 (absP l)), natP (frontL 46 (absP l) ++ backL 46 (absP l)) with
    | some _, some n => some (mkRat (sgn (negP l) n) (10 ^ (backL 46 (absP l)).length))
    | _, _ => none
  else
    match natP (frontL 47 (absP l)), natP (if (absP l).contains 47 then backL 47 (absP l) else [49]) with
    | some n, some d => if d = 0 then none else some (mkRat (sgn (negP l) n) d)
    | _, _ => none
def isPM (b : UInt8) : Bool := b == 43 || b == 45
def expP (l : List UInt8) : Option Int :=
  if l.length - (l.dropWhile isPM).length > 1 ∨ (l.dropWhile isPM).length < 1 ∨ (l.dropWhile isPM).length > 2 ∨ digs (l.dropWhile isPM) = false then none else
  if natD (l.dropWhile isPM) ≤ 30 then some (if l.head? = some 45 then - (natD (l.dropWhile isPM) : Int) else (natD (l.dropWhile isPM) : Int)) else none
def tenR (k : Int) : Rat := if k < 0 then 1 / (10 : Rat) ^ k.natAbs else (10 : Rat) ^ k.natAbs
def numP (l : List UInt8) : Nat × Rat :=
  if 60 < l.length then (3, 0) else
  if l.contains 101 then
    match decP (frontL 101 l), expP (backL 101 l) with
    | some q, some k => if l.contains 47 then (2, 0) else (0, q * tenR k)
    | _, _ => (2, 0)
  else match decP l with
    | some q => (0, q)
    | none => (2, 0)
def gapB (b : UInt8) : Bool := b == 32 || b == 44 || b == 10
def toks : List UInt8 → List UInt8 → List (List UInt8)
  | cur, [] => if cur = [] then [] else [cur.reverse]
  | cur, b :: r => if gapB b then (if cur = [] then toks [] r else cur.reverse :: toks [] r) else toks (b :: cur) r
def plainL : Bool → List UInt8 → List UInt8
  | _, [] => []
  | off, b :: r => if b == 10 then 10 :: plainL false r else if off || b == 35 then plainL true r else b :: plainL false r
def runP : List (List UInt8) → Nat × List Rat
  | [] => (0, [])
  | t :: r => match numP t with
    | (0, q) => match runP r with
      | (0, l) => (0, q :: l)
      | (e, _) => (e, [])
    | (e, _) => (e, [])
def parseP (l : List UInt8) : Nat × List Rat :=
  match runP (toks [] (plainL false l)) with
  | (0, x) => if 256 < x.length then (3, []) else (0, x)
  | (e, _) => (e, [])
def joinW : List (List UInt8) → List UInt8
  | [] => []
  | [t] => t
  | t :: u :: r => t ++ 32 :: joinW (u :: r)
theorem join_cons (t : List UInt8) (r : List (List UInt8)) : joinW (t :: r) = t ++ (r.map fun x => [32] ++ x).flatten := by
  induction r generalizing t with
  | nil => simp [joinW]
  | cons u r ih => rw [joinW, ih u]; simp
    
end Go.Ev
namespace Go.Proofs.YticocojomlfhgaaGreatDoor
open Go.Ev
theorem idxB_bs {l : List UInt8} {i : Nat} : idxB (bs l) i = (l[i]?).map (fun b => .sv (.int .u8 (b.toNat : Int))) := by
  unfold idxB
  rw [bs_get]
  cases l[i]? <;> rfl
theorem mk_bs {l : List UInt8} : ByteArray.mk l.toArray = bs l := _root_.id rfl
theorem beq_nil {α : Type} [BEq α] {a : α} {l : List α} : ((a :: l) == []) = false := _root_.id rfl
theorem nil_beq {α : Type} [BEq α] : (([] : List α) == []) = true := _root_.id rfl
theorem u8_back (b : UInt8) : ((b.toNat : Int)).toNat.toUInt8 = b := by simp
theorem index_cases (c : UInt8) (l : List UInt8) : (l.contains c = false ∧ Lib.indexByte l c = -1 ∧ frontL c l = l ∧ backL c l = []) ∨
    ∃ i : Nat, l.contains c = true ∧ Lib.indexByte l c = (i : Int) ∧ i < l.length ∧ l.take i = frontL c l ∧ l.drop (i + 1) = backL c l := by
  induction l with
  | nil => exact .inl ⟨rfl, rfl, rfl, rfl⟩
  | cons b l ih =>
    by_cases hb : b = c
    · subst hb
      refine .inr ⟨0, by simp, ?_, by simp, by simp [frontL], by simp [backL]⟩
      unfold Lib.indexByte
      simp
    · have hb' : (b == c) = false := by simpa using hb
      have hn : (b != c) = true := by simpa using hb
      have hcb : (c == b) = false := by simpa using fun e : c = b => hb e.symm
      have hf : frontL c (b :: l) = b :: frontL c l := by unfold frontL; rw [List.takeWhile_cons, hn]; rfl
      have hk : backL c (b :: l) = backL c l := by unfold backL; rw [List.dropWhile_cons, hn]; rfl
      have hc : (b :: l).contains c = l.contains c := by rw [List.contains_cons, hcb, Bool.false_or]
      rcases ih with ⟨h1, h2, h3, h4⟩ | ⟨i, h1, h2, h3, h4, h5⟩
      · refine .inl ⟨hc.trans h1, ?_, by rw [hf, h3], hk.trans h4⟩
        unfold Lib.indexByte
        simp [hb', h2]
      · refine .inr ⟨i + 1, hc.trans h1, ?_, by simpa using h3, by rw [hf, List.take_succ_cons, h4], by rw [hk, List.drop_succ_cons, h5]⟩
        unfold Lib.indexByte
        have : ((i : Int) == -1) = false := by rw [beq_eq_false_iff_ne]; omega
        simp only [hb', h2, this, Bool.false_eq_true, if_false]
        omega
structure StrCx (C : Cx) : Prop where
  P : C.P = Tryz.prog
  good : C.good = good
  x1 : ∀ s c, C.X 81 [.sv (.str s), .sv (.int .u8 c)] = some (.sv (.int .i64 (Lib.indexByte s.data.toList c.toNat.toUInt8)), List.replicate 2 none)
  x2 : ∀ s c, C.X 150 [.sv (.str s), .sv (.int .u8 c)] = some (.sv (.int .i64 (Lib.countByte s.data.toList c.toNat.toUInt8)), List.replicate 2 none)
  n1 : ∀ ars, C.X 55 ars = none
  n2 : ∀ ars, C.X 132 ars = none
  n3 : ∀ ars, C.X 114 ars = none
  n4 : ∀ ars, C.X 131 ars = none
  n5 : ∀ ars, C.X 105 ars = none
  n6 : ∀ ars, C.X 72 ars = none
theorem CB_str : StrCx CB := ⟨rfl, rfl, fun _ _ => rfl, fun _ _ => rfl, fun _ => rfl, fun _ => rfl, fun _ => rfl, fun _ => rfl, fun _ => rfl, fun _ => rfl⟩
theorem CX_str : StrCx CX := ⟨rfl, rfl, fun _ _ => rfl, fun _ _ => rfl, fun _ => rfl, fun _ => rfl, fun _ => rfl, fun _ => rfl, fun _ => rfl, fun _ => rfl⟩
section
variable {C : Cx}
theorem x_index (h : StrCx C) (s : ByteArray) (c : UInt8) : Go.Ev.Fn C 81 [.str s, .int .u8 (c.toNat : Int)] (.int .i64 (Lib.indexByte s.data.toList c)) := by
  refine ⟨1, List.replicate 2 none, ?_⟩
  have := h.x1 s (c.toNat : Int)
  rw [u8_back] at this
  show (match C.X _ _ with | some r => some r | none => _) = _
  rw [show ([SV.str s, SV.int .u8 (c.toNat : Int)].map Arg.sv) = [.sv (.str s), .sv (.int .u8 (c.toNat : Int))] from rfl, this]
theorem x_count (h : StrCx C) (s : ByteArray) (c : UInt8) : Go.Ev.Fn C 150 [.str s, .int .u8 (c.toNat : Int)] (.int .i64 (Lib.countByte s.data.toList c)) := by
  refine ⟨1, List.replicate 2 none, ?_⟩
  have := h.x2 s (c.toNat : Int)
  rw [u8_back] at this
  show (match C.X _ _ with | some r => some r | none => _) = _
  rw [show ([SV.str s, SV.int .u8 (c.toNat : Int)].map Arg.sv) = [.sv (.str s), .sv (.int .u8 (c.toNat : Int))] from rfl, this]
theorem lite_IndexByte (h : StrCx C) (s : ByteArray) (c : UInt8) : Go.Ev.Fn C 55 [.str s, .int .u8 (c.toNat : Int)] (.int .i64 (Lib.indexByte s.data.toList c)) := by
  have hx := x_index h s c
  obtain ⟨P, X, mu, gd⟩ := C
  obtain ⟨rfl, rfl, _, _, n1, n2, n3, n4, n5, n6⟩ := h
  refine Go.Ev.Fn.intro (fn := Tryz.f55) (body := (Tryz.f55).body.get!) (by kernel_rfl) (by kernel_rfl) (by kernel_rfl) n1 (Nat.le_of_ble_eq_true (by kernel_rfl)) ?_; unfold Tryz.f55; simp only [Option.get!_some]
  simp only [go_sem]
  refine vf_of (hx) ?_; simp only [go_sem]
theorem lite_Index (h : StrCx C) (l : List UInt8) (c : UInt8) : Go.Ev.Fn C 132 [.str (bs l), .str (bs [c])] (.int .i64 (Lib.indexByte l c)) := by
  have hx := lite_IndexByte h (bs l) c
  rw [bs_toList] at hx
  obtain ⟨P, X, mu, gd⟩ := C
  obtain ⟨rfl, rfl, _, _, n1, n2, n3, n4, n5, n6⟩ := h
  refine Go.Ev.Fn.intro (fn := Tryz.f132) (body := (Tryz.f132).body.get!) (by kernel_rfl) (by kernel_rfl) (by kernel_rfl) n2 (Nat.le_of_ble_eq_true (by kernel_rfl)) ?_; unfold Tryz.f132; simp only [Option.get!_some]
  by_cases he : [c] = l
  · subst he
    have : Lib.indexByte [c] c = 0 := by unfold Lib.indexByte; simp
    rw [this]
    repeat (first | (simp only [go_sem, bs_size, bs_eq, BEq.rfl]) | (simp (disch := (first | omega | (simp only [AL, List.length_map]; omega))) only [AR, AL, ifT, ifF, take_all, List.length_cons, List.length_nil, Int.reduceToNat, Int.reducePow, Nat.reducePow, bs_size, bs_eq, BEq.rfl]) | (refine wk_intro (by kernel_rfl) ?_) | (refine vp_draw (l := []) (by kernel_rfl) ?_))
  · have he : ([c] == l) = false := by simpa using he
    repeat (first | (simp only [go_sem, bs_size, vo_ix, idxB_bs, bs_eq, he]) | (simp (disch := (first | omega | (simp only [AL, List.length_map]; omega))) only [AR, AL, ifT, ifF, take_all, List.length_cons, List.length_nil, Int.reduceToNat, Int.reducePow, Nat.reducePow, bs_size, vo_ix, idxB_bs, bs_eq, he]) | (refine wk_intro (by kernel_rfl) ?_) | (refine vp_draw (l := []) (by kernel_rfl) ?_) | (refine vf_of (by first | exact hx) ?_))
theorem str_Index (h : StrCx C) (l : List UInt8) (c : UInt8) : Go.Ev.Fn C 114 [.str (bs l), .str (bs [c])] (.int .i64 (Lib.indexByte l c)) := by
  have hx := lite_Index h l c
  obtain ⟨P, X, mu, gd⟩ := C
  obtain ⟨rfl, rfl, _, _, n1, n2, n3, n4, n5, n6⟩ := h
  refine Go.Ev.Fn.intro (fn := Tryz.f114) (body := (Tryz.f114).body.get!) (by kernel_rfl) (by kernel_rfl) (by kernel_rfl) n3 (Nat.le_of_ble_eq_true (by kernel_rfl)) ?_; unfold Tryz.f114; simp only [Option.get!_some]
  simp only [go_sem]
  refine vf_of (hx) ?_; simp only [go_sem]
theorem str_Count (h : StrCx C) (l : List UInt8) (c : UInt8) : Go.Ev.Fn C 131 [.str (bs l), .str (bs [c])] (.int .i64 (l.count c)) := by
  have hx := x_count h (bs l) c
  rw [bs_toList, show Lib.countByte l c = l.count c from rfl] at hx
  obtain ⟨P, X, mu, gd⟩ := C
  obtain ⟨rfl, rfl, _, _, n1, n2, n3, n4, n5, n6⟩ := h
  refine Go.Ev.Fn.intro (fn := Tryz.f131) (body := (Tryz.f131).body.get!) (by kernel_rfl) (by kernel_rfl) (by kernel_rfl) n4 (Nat.le_of_ble_eq_true (by kernel_rfl)) ?_; unfold Tryz.f131; simp only [Option.get!_some]
  repeat (first | (simp only [go_sem, bs_size, vo_ix, idxB_bs]) | (simp (disch := (first | omega | (simp only [AL, List.length_map]; omega))) only [AR, AL, ifT, ifF, take_all, List.length_cons, List.length_nil, Int.reduceToNat, Int.reducePow, Nat.reducePow, bs_size, vo_ix, idxB_bs]) | (refine wk_intro (by kernel_rfl) ?_) | (refine vp_draw (l := []) (by kernel_rfl) ?_))
  refine vf_of (hx) ?_; simp only [go_sem]
theorem lite_Cut (h : StrCx C) (l : List UInt8) (c : UInt8) (hl : l.length ≤ 1099511627776) : Go.Ev.Fn C 105 [.str (bs l), .str (bs [c])] (.tup [.str (bs (frontL c l)), .str (bs (backL c l)), .bool (l.contains c)]) := by
  have hx := lite_Index h l c
  obtain ⟨P, X, mu, gd⟩ := C
  obtain ⟨rfl, rfl, _, _, n1, n2, n3, n4, n5, n6⟩ := h
  refine Go.Ev.Fn.intro (fn := Tryz.f105) (body := (Tryz.f105).body.get!) (by kernel_rfl) (by kernel_rfl) (by kernel_rfl) n5 (Nat.le_of_ble_eq_true (by kernel_rfl)) ?_; unfold Tryz.f105; simp only [Option.get!_some]
  rcases index_cases c l with ⟨h1, h2, h3, h4⟩ | ⟨i, h1, h2, h3, h4, h5⟩
  · rw [h2] at hx
    rw [h1, h3, h4]
    repeat (first | (simp only [go_sem, bs_size]) | (simp (disch := (first | omega | (simp only [AL, List.length_map]; omega))) only [AR, AL, ifT, ifF, take_all, List.length_cons, List.length_nil, Int.reduceToNat, Int.reducePow, Nat.reducePow, bs_size]) | (refine wk_intro (by kernel_rfl) ?_) | (refine vp_draw (l := []) (by kernel_rfl) ?_) | (refine vf_of (by first | exact hx) ?_))
    rfl
  · rw [h2] at hx
    rw [h1, ← h4, ← h5]
    repeat (first | (simp only [go_sem, bs_size, bs_extract]) | (simp (disch := (first | omega | (simp only [AL, List.length_map]; omega))) only [AR, AL, ifT, ifF, take_all, List.length_cons, List.length_nil, Int.reduceToNat, Int.reducePow, Nat.reducePow, bs_size, bs_extract]) | (refine wk_intro (by kernel_rfl) ?_) | (refine vp_draw (l := []) (by kernel_rfl) ?_) | (refine vf_of (by first | exact hx) ?_))
    rw [List.take_of_length_le (by simp)]
theorem str_Cut (h : StrCx C) (l : List UInt8) (c : UInt8) (hl : l.length ≤ 1099511627776) : Go.Ev.Fn C 72 [.str (bs l), .str (bs [c])] (.tup [.str (bs (frontL c l)), .str (bs (backL c l)), .bool (l.contains c)]) := by
  have hx := lite_Cut h l c hl
  obtain ⟨P, X, mu, gd⟩ := C
  obtain ⟨rfl, rfl, _, _, n1, n2, n3, n4, n5, n6⟩ := h
  refine Go.Ev.Fn.intro (fn := Tryz.f72) (body := (Tryz.f72).body.get!) (by kernel_rfl) (by kernel_rfl) (by kernel_rfl) n6 (Nat.le_of_ble_eq_true (by kernel_rfl)) ?_; unfold Tryz.f72; simp only [Option.get!_some]
  simp only [go_sem]
  refine vf_of (hx) ?_; simp only [go_sem]
end
end Go.Proofs.YticocojomlfhgaaGreatDoor
namespace Go.Proofs.YticocojomlfhgaaGreatDoor
open Go.Ev
theorem split_none {c : UInt8} {l : List UInt8} (h : l.contains c = false) : splitB c l = [l] := by
  induction l with
  | nil => rfl
  | cons b l ih =>
    rw [List.contains_cons, Bool.or_eq_false_iff] at h
    have hb : (b == c) = false := by
      have := h.1
      simp only [beq_eq_false_iff_ne] at this ⊢
      exact fun e => this e.symm
    unfold splitB
    rw [hb, ih h.2]
    rfl
theorem split_some {c : UInt8} {l : List UInt8} (h : l.contains c = true) : splitB c l = frontL c l :: splitB c (backL c l) := by
  induction l with
  | nil => simp at h
  | cons b l ih =>
    by_cases hb : b = c
    · subst hb
      rw [show frontL b (b :: l) = [] by simp [frontL], show backL b (b :: l) = l by simp [backL], splitB]
      simp
    · have hb' : (b == c) = false := by simpa using hb
      have hn : (b != c) = true := by simpa using hb
      have hcb : (c == b) = false := by simpa using fun e : c = b => hb e.symm
      rw [List.contains_cons, hcb, Bool.false_or] at h
      have hf : frontL c (b :: l) = b :: frontL c l := by unfold frontL; rw [List.takeWhile_cons, hn]; rfl
      have hk : backL c (b :: l) = backL c l := by unfold backL; rw [List.dropWhile_cons, hn]; rfl
      rw [hf, hk, splitB, hb', ih h]
      rfl
theorem split_len (c : UInt8) (l : List UInt8) : (splitB c l).length = l.count c + 1 := by
  induction l with
  | nil => rfl
  | cons b l ih =>
    unfold splitB
    rw [List.count_cons]
    cases h : b == c with
    | true => simp [ih]
    | false =>
      simp only [Bool.false_eq_true, if_false, Nat.add_zero]
      cases hs : splitB c l with
      | nil => rw [hs] at ih; simp at ih
      | cons x xs => rw [hs] at ih; exact ih
theorem count_le {c : UInt8} {l : List UInt8} : l.count c ≤ l.length := List.count_le_length
theorem back_len {c : UInt8} {l : List UInt8} : (backL c l).length ≤ l.length := by
  unfold backL
  rw [List.length_tail]
  have := (List.dropWhile_sublist (l := l) (fun x => x != c)).length_le
  omega
theorem gen_row (l : List UInt8) (c : UInt8) (hl : l.length ≤ 1048576) :
    ∃ n, rowN CB.P CB.X CB.mu CB.good n 104 ([.str (bs l), .str (bs [c]), .int .i64 0, .int .i64 (-1)].map Arg.sv) = some (.row ((splitB c l).map strC) 1 0 (splitB c l).length, List.replicate 4 none) := by
  have hc := str_Count CB_str l c
  have hlen := split_len c l
  have hcl := count_le (c := c) (l := l)
  refine row_intro (fn := Tryz.f104) (body := (Tryz.f104).body.get!) (by kernel_rfl) (by kernel_rfl) (by kernel_rfl) (Nat.le_of_ble_eq_true (by kernel_rfl)) ?_
  unfold Tryz.f104
  simp only [Option.get!_some]
  generalize hm : l.count c = m at *
  repeat (first | (simp only [go_sem, bs_size, bs_list, mk_bs, beq_nil]) | (simp (disch := (first | omega | (simp only [AL, List.length_map]; omega))) only [AR, AL, ifT, ifF, take_all, List.length_cons, List.length_nil, Int.reduceToNat, Int.reducePow, Nat.reducePow, bs_size, bs_list, mk_bs, beq_nil]) | (refine wk_intro (by kernel_rfl) ?_) | (refine vp_draw (l := []) (by kernel_rfl) ?_) | (refine vf_of (by first | exact hc) ?_))
  refine vp_loop_inv (fun s => s.tmp 1 = .sv (.str (bs [c])) ∧ s.tmp 2 = .sv (.int .i64 0) ∧ s.tmp 3 = .sv (.int .i64 (m : Int)) ∧ s.tmp 9 = .ref 31 0 1 0 (m + 1) ∧
      ∃ (i : Nat) (r : List UInt8) (cs : List SV), s.tmp 10 = .sv (.int .i64 (i : Int)) ∧ s.tmp 0 = .sv (.str (bs r)) ∧ s.obj 31 0 = some cs ∧ i ≤ m ∧ r.length ≤ l.length ∧ splitB c r = (splitB c l).drop i ∧ cs.length = m + 1 ∧ cs.take i = ((splitB c l).take i).map strC)
    (fun s => match s.tmp 10 with | .sv (.int _ i) => m - i.toNat | _ => 0) ?_ ?_
  · refine ⟨rfl, rfl, rfl, rfl, 0, l, _, rfl, rfl, rfl, by omega, by omega, rfl, by simp, rfl⟩
  rintro s2 ⟨i1, i2, i3, i9, i, r, cs, i10, i0, iO, hi, hr, hs, hcs, ht⟩
  by_cases hend : i = m
  · subst hend
    have h1 : (splitB c r).length = 1 := by rw [hs, List.length_drop, hlen]; omega
    have hnc : r.contains c = false := by
      cases hb : r.contains c with
      | false => rfl
      | true =>
        rw [split_some hb] at h1
        have := split_len c (backL c r)
        simp at h1
        rw [h1] at this
        simp at this
    have hl1 : (splitB c l).drop i = [r] := by rw [← hs, split_none hnc]
    have hall : cs.take i ++ [strC r] ++ cs.drop (i + 1) = (splitB c l).map strC := by
      rw [ht, List.drop_of_length_le (by omega), List.append_nil]
      have := List.take_append_drop i (splitB c l)
      rw [hl1] at this
      have e := congrArg (List.map strC) this
      rw [List.map_append] at e
      exact e
    unfold strC at hall
    repeat (first | (simp only [go_sem, i1, i2, i3, i9, i10, i0, iO, bs_size, hcs, hall, hlen]) | (simp (disch := (first | omega | (simp only [AL, List.length_map]; omega))) only [AR, AL, ifT, ifF, take_all, List.length_cons, List.length_nil, Int.reduceToNat, Int.reducePow, Nat.reducePow, i1, i2, i3, i9, i10, i0, iO, bs_size, hcs, hall, hlen]) | (refine wk_intro (by kernel_rfl) ?_) | (refine vp_draw (l := []) (by kernel_rfl) ?_))
    rfl
  · have hlt : i < m := by omega
    have h1 : (splitB c r).length = m + 1 - i := by rw [hs, List.length_drop, hlen]
    have hct : r.contains c = true := by
      cases hb : r.contains c with
      | true => rfl
      | false =>
        rw [split_none hb] at h1
        simp at h1
        omega
    have hix := str_Index CB_str r c
    rcases index_cases c r with ⟨h2, _⟩ | ⟨k, _, h3, h4, h5, h6⟩
    · rw [hct] at h2; cases h2
    rw [h3] at hix
    rw [split_some hct] at hs
    have hd : (splitB c l).drop (i + 1) = splitB c (backL c r) := by
      rw [← List.drop_drop, ← hs]
      rfl
    have hg : (splitB c l)[i]? = some (frontL c r) := by
      have := congrArg (fun x => x[0]?) hs
      simpa using this.symm
    have hn : cs.take i ++ [SV.str (bs (frontL c r))] ++ cs.drop (i + 1) = cs.set i (.str (bs (frontL c r))) := by
      rw [List.set_eq_take_append_cons_drop, if_pos (by omega)]
      simp
    have hbl := back_len (c := c) (l := r)
    repeat (first | (simp only [go_sem, i1, i2, i3, i9, i10, i0, iO, bs_size, hcs, bs_list, mk_bs, Int.add_zero, Int.toNat_natCast, bs_extract, List.drop_zero, Nat.sub_zero, h5, h6, hn]) | (simp (disch := (first | omega | (simp only [AL, List.length_map]; omega))) only [AR, AL, ifT, ifF, take_all, List.length_cons, List.length_nil, Int.reduceToNat, Int.reducePow, Nat.reducePow, i1, i2, i3, i9, i10, i0, iO, bs_size, hcs, bs_list, mk_bs, Int.add_zero, Int.toNat_natCast, bs_extract, List.drop_zero, Nat.sub_zero, h5, h6, hn]) | (refine wk_intro (by kernel_rfl) ?_) | (refine vp_draw (l := []) (by kernel_rfl) ?_) | (refine vf_of (by first | exact hix) ?_))
    refine ⟨⟨i + 1, backL c r, cs.set i (.str (bs (frontL c r))), rfl, ?_, rfl, by omega, by omega, hd.symm, by rw [List.length_set]; exact hcs, ?_⟩, by omega⟩
    · rw [← h6]
      congr 3
      rw [List.take_of_length_le (by rw [List.length_drop]; omega)]
    · rw [List.take_add_one, List.take_add_one, List.map_append, List.take_set_of_le (Nat.le_refl _), ht, List.getElem?_set_self (by omega), hg]
      rfl
theorem xT_ok (hS : CallOk Tryz.prog xS) : CallOk Tryz.prog xT := by
  refine tab_row_ok (mu := CB.mu) (good := good) hS good_ok xT fun g args r exps hx => ?_
  unfold xT at hx
  split at hx
  · rename_i hg
    have hg : g = 104 := Nat.eq_of_beq_eq_true hg
    subst hg
    unfold xGenSplit at hx
    split at hx
    · rename_i s sep
      split at hx
      · rename_i c hc
        split at hx
        · rename_i hl
          cases hx
          have e1 : s = bs s.data.toList := rfl
          have e2 : sep = bs [c] := by rw [← hc]; rfl
          rw [e2]
          have hl' : s.data.toList.length ≤ 1048576 := by rw [← bs_size]; exact hl
          exact .inr (gen_row s.data.toList c hl')
        · cases hx
      · cases hx
    · cases hx
  · exact .inl hx
theorem split_row (l : List UInt8) (c : UInt8) (hl : l.length ≤ 1048576) :
    ∃ n, rowN CZ.P CZ.X CZ.mu CZ.good n 71 ([.str (bs l), .str (bs [c])].map Arg.sv) = some (.row ((splitB c l).map strC) 1 0 (splitB c l).length, List.replicate 2 none) := by
  refine row_intro (fn := Tryz.f71) (body := (Tryz.f71).body.get!) (by kernel_rfl) (by kernel_rfl) (by kernel_rfl) (Nat.le_of_ble_eq_true (by kernel_rfl)) ?_
  unfold Tryz.f71
  simp only [Option.get!_some]
  have hg : FnR CZ 104 [.str (bs l), .str (bs [c]), .int .i64 0, .int .i64 (-1)] ((splitB c l).map strC) 1 0 (splitB c l).length := by
    refine ⟨1, List.replicate 4 none, ?_⟩
    have h : xT 104 [.sv (.str (bs l)), .sv (.str (bs [c])), .sv (.int .i64 0), .sv (.int .i64 (-1))] = some (.row ((splitB c l).map strC) 1 0 (splitB c l).length, List.replicate 4 none) := by
      unfold xT
      rw [if_pos (by rfl)]
      unfold xGenSplit
      simp only [bs_toList]
      rw [if_pos (by rw [bs_size]; exact hl)]
    unfold callN
    have h4 : CZ.X 104 ([SV.str (bs l), .str (bs [c]), .int .i64 0, .int .i64 (-1)].map Arg.sv) = some (.row ((splitB c l).map strC) 1 0 (splitB c l).length, List.replicate 4 none) := h
    rw [stq_sv, h4]
  simp only [go_sem]
  refine vf_row hg ?_
  simp only [go_sem]
end Go.Proofs.YticocojomlfhgaaGreatDoor
namespace Go.Proofs.YticocojomlfhgaaGreatDoor
open Go.Ev
theorem clone_ok : CallOk Tryz.prog CZ.X := xT_ok xS_ok
end Go.Proofs.YticocojomlfhgaaGreatDoor
namespace Go.Proofs.YticocojomlfhgaaGreatDoor
open Go.Ev
theorem or_low {h k m : Nat} (hh : h < 2 ^ k) : h ||| 2 ^ k * m = h + 2 ^ k * m := by
  rw [Nat.or_comm, ← Nat.two_pow_add_eq_or_of_lt hh, Nat.add_comm]
theorem mod_shift {v k : Nat} (hk : k < 32) : v * 2 ^ k % 4294967296 = 2 ^ k * (v % 2 ^ (32 - k)) := by
  rw [Nat.mul_comm v, show 4294967296 = 2 ^ k * 2 ^ (32 - k) by rw [← Nat.pow_add, show k + (32 - k) = 32 by omega], Nat.mul_mod_mul_left]
theorem getD_set_self {xs : List Nat} {i v : Nat} (h : i < xs.length) : (xs.set i v).getD i 0 = v := by
  simp [List.getD_eq_getElem?_getD, h]
theorem getD_set_ne' {xs : List Nat} {i j v : Nat} (h : j ≠ i) : (xs.set i v).getD j 0 = xs.getD j 0 := by
  rw [List.getD_eq_getElem?_getD, List.getD_eq_getElem?_getD, List.getElem?_set_ne (fun e => h e.symm)]
theorem left_row (xs : List Nat) (k n : Nat) (hx : okL xs) (hl : xs.length ≤ 1073741824) (hk : k < 32) (hn : xs.length ≤ n) (hn' : n ≤ xs.length + 1) :
    ∃ m, rowN CZ.P CZ.X CZ.mu CZ.good m 145 ([natV xs, .int .u64 k, .int .i64 n].map Arg.sv) = some (.row ((limN n (wth xs * 2 ^ k)).map limb) 1 0 n, [none, none, none]) := by
  refine row_intro (fn := Tryz.f145) (body := (Tryz.f145).body.get!) (by kernel_rfl) (by kernel_rfl) (by kernel_rfl) (Nat.le_of_ble_eq_true (by kernel_rfl)) ?_
  unfold Tryz.f145
  simp only [Option.get!_some]
  repeat (first | (simp only [go_sem]) | (simp (disch := (first | omega | (simp only [AL, List.length_map]; omega))) only [AR, AL, ifT, ifF, take_all, List.length_cons, List.length_nil, Int.reduceToNat, Int.reducePow, Nat.reducePow]) | (refine wk_intro (by kernel_rfl) ?_))
  have hD1 : 2 ^ k ≤ 2 ^ 31 := Nat.pow_le_pow_right (by omega) (by omega)
  refine vp_loop_inv (fun s' => s'.tmp 1 = .sv (.int .u64 k) ∧ s'.tmp 2 = .sv (.int .i64 n) ∧ s'.tmp 7 = .ref 12 0 1 0 n ∧ s'.tmp 13 = .sv (natV xs) ∧ s'.tmp 14 = .sv (.int .i64 xs.length) ∧
      ∃ c : List Nat, ∃ i h : Nat, s'.obj 12 0 = some (c.map limb) ∧ s'.tmp 15 = .sv (.int .i64 i) ∧ c.length = n ∧ okL c ∧ i ≤ xs.length ∧ h < 2 ^ k ∧ wth (xs.take i) * 2 ^ k = wth (c.take i) + 4294967296 ^ i * h ∧
        (i < n → c.getD i 0 = h) ∧ ∀ j, i < j → c.getD j 0 = 0)
    (fun s => match s.tmp 15 with | .sv (.int _ i) => xs.length - i.toNat | _ => 0) ?_ ?_
  · refine ⟨rfl, rfl, rfl, rfl, rfl, List.replicate n 0, 0, 0, rfl, rfl, List.length_replicate .., okL_replicate _, by omega, Nat.pow_pos (by omega), by simp [wth], fun _ => ?_, fun j _ => ?_⟩ <;>
    · simp only [List.getD_eq_getElem?_getD, List.getElem?_replicate]
      split <;> rfl
  rintro s' ⟨i1, i2, i7, i13, i14, c, i, h, iO, i15, hc, hok, hi, hh, hv, hci, hz⟩
  by_cases hend : i = xs.length
  · subst hend
    have e : c = limN n (wth xs * 2 ^ k) := by
      refine limN_unique hok hc ?_
      rw [List.take_of_length_le (Nat.le_refl _)] at hv
      rcases Nat.lt_or_ge xs.length n with h1 | h1
      · have e1 : wth c = wth (c.take (xs.length + 1)) := by rw [List.take_of_length_le (by omega)]
        rw [wth_take_succ, hci h1, ← hv] at e1
        have := wth_lt hok
        rw [hc] at this
        rw [Nat.mod_eq_of_lt (by omega), e1]
      · have hn2 : n = xs.length := by omega
        subst hn2
        rw [hv, List.take_of_length_le (by omega), Nat.add_mul_mod_self_left]
        have := wth_lt hok
        rw [hc] at this
        rw [Nat.mod_eq_of_lt this]
    repeat (first | (simp only [go_sem, i1, i2, i7, i13, i14, iO, i15]) | (simp (disch := (first | omega | (simp only [AL, List.length_map]; omega))) only [AR, AL, ifT, ifF, take_all, List.length_cons, List.length_nil, Int.reduceToNat, Int.reducePow, Nat.reducePow, i1, i2, i7, i13, i14, iO, i15]) | (refine wk_intro (by kernel_rfl) ?_) | (refine vp_draw (l := []) (by kernel_rfl) ?_))
    rw [e]
  · have h1 := getD_lt hx i
    have hin : i < n := by omega
    have hci := hci hin
    generalize hvv : xs.getD i 0 = v at *
    have hw1 : v * 2 ^ k < 18446744073709551616 := by
      have : v * 2 ^ k ≤ 4294967295 * 2 ^ 31 := Nat.mul_le_mul (by omega) hD1
      omega
    have hwq : v * 2 ^ k / 4294967296 < 2 ^ k := by
      rw [Nat.div_lt_iff_lt_mul (by omega), Nat.mul_comm (2 ^ k)]
      exact Nat.mul_lt_mul_of_pos_right h1 (Nat.pow_pos (by omega))
    have hor : h ||| v * 2 ^ k % 4294967296 = h + v * 2 ^ k % 4294967296 := by
      rw [mod_shift hk]; exact or_low hh
    have hsum : h + v * 2 ^ k % 4294967296 < 4294967296 := by
      rw [mod_shift hk]
      have e1 : v % 2 ^ (32 - k) + 1 ≤ 2 ^ (32 - k) := Nat.mod_lt _ (Nat.pow_pos (by omega))
      have e2 : 2 ^ k * (v % 2 ^ (32 - k) + 1) ≤ 2 ^ k * 2 ^ (32 - k) := Nat.mul_le_mul_left _ e1
      rw [← Nat.pow_add, show k + (32 - k) = 32 by omega, Nat.mul_add, Nat.mul_one] at e2
      omega
    have hval : wth (xs.take (i + 1)) * 2 ^ k = (wth (c.take i) + 4294967296 ^ i * (h + v * 2 ^ k % 4294967296)) + 4294967296 ^ (i + 1) * (v * 2 ^ k / 4294967296) := by
      rw [wth_take_succ, hvv, Nat.add_mul, hv, Nat.mul_add, Nat.pow_succ, Nat.mul_assoc (4294967296 ^ i) 4294967296, Nat.mul_assoc (4294967296 ^ i) v]
      have := Nat.mod_add_div (v * 2 ^ k) 4294967296
      have e3 : 4294967296 ^ i * (v * 2 ^ k) = 4294967296 ^ i * (v * 2 ^ k % 4294967296) + 4294967296 ^ i * (4294967296 * (v * 2 ^ k / 4294967296)) := by
        rw [← Nat.mul_add, this]
      omega
    generalize hD : 2 ^ k = D at *
    generalize hW : v * D = w at *
    by_cases hin2 : i + 1 < n
    · repeat (first | (simp only [go_sem, i1, i2, i7, i13, i14, iO, i15, hci, hvv, hD, hW, hor]) | (simp (disch := (first | omega | (simp only [AL, List.length_map]; omega))) only [AR, AL, ifT, ifF, take_all, List.length_cons, List.length_nil, Int.reduceToNat, Int.reducePow, Nat.reducePow, i1, i2, i7, i13, i14, iO, i15, hci, hvv, hD, hW, hor]) | (refine wk_intro (by kernel_rfl) ?_) | (refine vp_draw (l := []) (by kernel_rfl) ?_))
      refine ⟨⟨(c.set i (h + w % 4294967296)).set (i + 1) (w / 4294967296), i + 1, w / 4294967296, rfl, rfl, by rw [List.length_set, List.length_set]; exact hc, okL_set (okL_set hok _ _ hsum) _ _ (by omega), by omega, hwq, ?_, fun _ => getD_set_self (by rw [List.length_set]; omega), fun j hj => ?_⟩, by omega⟩
      · rw [List.take_set_of_le (Nat.le_refl _), wth_set_take (by omega), hval]
      · rw [getD_set_ne' (by omega), getD_set_ne' (by omega)]
        exact hz j (by omega)
    · repeat (first | (simp only [go_sem, i1, i2, i7, i13, i14, iO, i15, hci, hvv, hD, hW, hor]) | (simp (disch := (first | omega | (simp only [AL, List.length_map]; omega))) only [AR, AL, ifT, ifF, take_all, List.length_cons, List.length_nil, Int.reduceToNat, Int.reducePow, Nat.reducePow, i1, i2, i7, i13, i14, iO, i15, hci, hvv, hD, hW, hor]) | (refine wk_intro (by kernel_rfl) ?_) | (refine vp_draw (l := []) (by kernel_rfl) ?_))
      refine ⟨⟨c.set i (h + w % 4294967296), i + 1, w / 4294967296, rfl, rfl, by rw [List.length_set]; exact hc, okL_set hok _ _ hsum, by omega, hwq, ?_, fun hlt => absurd hlt hin2, fun j hj => ?_⟩, by omega⟩
      · rw [wth_set_take (by omega), hval]
      · rw [getD_set_ne' (by omega)]
        exact hz j (by omega)
theorem XL_ok : CallOk Tryz.prog CX.X := by
  refine tab_row_ok (mu := CZ.mu) (good := good) clone_ok good_ok XL fun g args r exps hx => ?_
  unfold XL at hx
  split at hx
  · rename_i hg
    have hg : g = 145 := Nat.eq_of_beq_eq_true hg
    subst hg
    split at hx
    · rename_i s k n
      split at hx
      · rename_i xs hd
        split at hx
        · rename_i hc
          obtain ⟨rfl, h1, h2⟩ := decV_some hd
          cases hx
          exact .inr (left_row xs k n h1 h2 hc.1 hc.2.1 hc.2.2)
        · cases hx
      · cases hx
    · cases hx
  split at hx
  · rename_i hg
    have hg : g = 71 := Nat.eq_of_beq_eq_true hg
    subst hg
    unfold xSplit at hx
    split at hx
    · rename_i s sep
      split at hx
      · rename_i c hc
        split at hx
        · rename_i hl
          cases hx
          have e2 : sep = bs [c] := by rw [← hc]; rfl
          rw [e2]
          have hl' : s.data.toList.length ≤ 1048576 := by rw [← bs_size]; exact hl
          exact .inr (split_row s.data.toList c hl')
        · cases hx
      · cases hx
    · cases hx
  · exact .inl hx
theorem nat_left (xs : List Nat) (k n : Nat) (hx : okL xs) (hl : xs.length ≤ 1073741824) (hk : k < 32) (hn : xs.length ≤ n) (hn' : n ≤ xs.length + 1) :
    FnR CX 145 [natV xs, .int .u64 k, .int .i64 n] ((limN n (wth xs * 2 ^ k)).map limb) 1 0 n := by
  refine ⟨1, [none, none, none], ?_⟩
  have h : XL 145 [.sv (natV xs), .sv (.int .u64 (.ofNat k)), .sv (.int .i64 (.ofNat n))] = some (.row ((limN n (wth xs * 2 ^ k)).map limb) 1 0 n, [none, none, none]) := by
    unfold XL
    rw [if_pos (by rfl)]
    simp only [decV_nat hx hl]
    rw [if_pos ⟨hk, hn, hn'⟩]
  unfold callN
  have h4 : CX.X 145 ([natV xs, .int .u64 k, .int .i64 n].map Arg.sv) = some (.row ((limN n (wth xs * 2 ^ k)).map limb) 1 0 n, [none, none, none]) := h
  rw [stq_sv, h4]
end Go.Proofs.YticocojomlfhgaaGreatDoor
namespace Go.Proofs.YticocojomlfhgaaGreatDoor
open Go.Ev
theorem split_cons (c : UInt8) (l : List UInt8) : ∃ x xs, splitB c l = x :: xs := by
  cases h : splitB c l with
  | nil => have := split_len c l; rw [h] at this; simp at this
  | cons x xs => exact ⟨x, xs, rfl⟩
theorem plain_split : ∀ (l : List UInt8) (x : List UInt8) (xs : List (List UInt8)), splitB 10 l = x :: xs →
    plainL false l = frontL 35 x ++ Lib.joinTail [10] (xs.map (frontL 35)) ∧ plainL true l = Lib.joinTail [10] (xs.map (frontL 35)) := by
  intro l
  induction l with
  | nil =>
    intro x xs h
    simp [splitB] at h
    obtain ⟨rfl, rfl⟩ := h
    exact ⟨rfl, rfl⟩
  | cons b l ih =>
    intro x xs h
    obtain ⟨y, ys, hy⟩ := split_cons 10 l
    obtain ⟨h1, h2⟩ := ih y ys hy
    by_cases hb : b = 10
    · subst hb
      rw [splitB] at h
      simp only [BEq.rfl, if_true] at h
      injection h with e1 e2
      subst e1
      rw [← e2, hy, plainL, plainL]
      simp only [BEq.rfl, if_true]
      rw [h1]
      unfold Lib.joinTail
      simp [frontL]
    · have hb' : (b == 10) = false := by simpa using hb
      rw [splitB, hb', hy] at h
      simp only [Bool.false_eq_true, if_false] at h
      injection h with e1 e2
      subst e1 e2
      rw [plainL, plainL, hb']
      simp only [Bool.false_eq_true, if_false, Bool.false_or, Bool.true_or, if_true]
      refine ⟨?_, h2⟩
      by_cases hc : b = 35
      · subst hc
        simp only [BEq.rfl, if_true]
        rw [h2]
        simp [frontL]
      · have hc' : (b == 35) = false := by simpa using hc
        have hn : (b != 35) = true := by simpa using hc
        rw [hc']
        simp only [Bool.false_eq_true, if_false]
        rw [h1, show frontL 35 (b :: y) = b :: frontL 35 y by unfold frontL; rw [List.takeWhile_cons, hn]; rfl]
        rfl
theorem plain_join (l : List UInt8) : Lib.join ((splitB 10 l).map (frontL 35)) [10] = plainL false l := by
  obtain ⟨x, xs, h⟩ := split_cons 10 l
  rw [(plain_split l x xs h).1, h, List.map_cons, Lib.join_cons]
theorem plain_len (l : List UInt8) : ∀ off, (plainL off l).length ≤ l.length := by
  induction l with
  | nil => intro off; cases off <;> simp [plainL]
  | cons b l ih =>
    intro off
    have h1 := ih false
    have h2 := ih true
    rw [plainL]
    split
    · simpa using h1
    · split
      · simp; omega
      · simpa using h1
theorem x_join {xs : List (List UInt8)} {n : Nat} (sep : List UInt8) (hn : xs.length = n) (h1 : n ≤ 140737488355328) (h2 : (Lib.join xs sep).length ≤ 140737488355328) :
    Go.Ev.Fn CX 73 [.sl n (xs.map strC), .str (bs sep)] (.str (bs (Lib.join xs sep))) := by
  refine ⟨1, List.replicate 2 none, ?_⟩
  have e : ∀ ys : List (List UInt8), strsOf (ys.map strC) = some ys := by
    intro ys
    induction ys with
    | nil => rfl
    | cons y ys ih =>
      rw [List.map_cons]
      show (match strsOf (ys.map strC) with | some l => some ((bs y).data.toList :: l) | none => none) = _
      rw [ih, bs_toList]
  have h : xJoin [.sv (.sl n (xs.map strC)), .sv (.str (bs sep))] = some (.sv (.str (bs (Lib.join xs sep))), List.replicate 2 none) := by
    unfold xJoin
    simp only [e, bs_toList]
    rw [if_pos ⟨hn, h1, h2⟩]
  have h4 : CX.X 73 ([SV.sl n (xs.map strC), .str (bs sep)].map Arg.sv) = some (.sv (.str (bs (Lib.join xs sep))), List.replicate 2 none) := h
  unfold callN
  rw [stq_sv, h4]
theorem str_Split (l : List UInt8) (c : UInt8) (hl : l.length ≤ 1048576) :
    FnR CX 71 [.str (bs l), .str (bs [c])] ((splitB c l).map strC) 1 0 (splitB c l).length := by
  refine ⟨1, List.replicate 2 none, ?_⟩
  have h : xSplit [.sv (.str (bs l)), .sv (.str (bs [c]))] = some (.row ((splitB c l).map strC) 1 0 (splitB c l).length, List.replicate 2 none) := by
    unfold xSplit
    simp only [bs_toList]
    rw [if_pos (by rw [bs_size]; exact hl)]
  have h4 : CX.X 71 ([SV.str (bs l), .str (bs [c])].map Arg.sv) = some (.row ((splitB c l).map strC) 1 0 (splitB c l).length, List.replicate 2 none) := h
  unfold callN
  rw [stq_sv, h4]
theorem data_plain (l : List UInt8) (hl : l.length ≤ 1048576) : Go.Ev.Fn CX 53 [.str (bs l)] (.str (bs (plainL false l))) := by
  have hsp := str_Split l 10 hl
  have hlen := split_len 10 l
  have hcl := count_le (c := 10) (l := l)
  have hj := x_join (xs := (splitB 10 l).map (frontL 35)) (n := (splitB 10 l).length) [10] (by rw [List.length_map]) (by omega) (by rw [plain_join]; have := plain_len l false; omega)
  rw [plain_join] at hj
  have hlin : ∀ x ∈ splitB 10 l, x.length ≤ 1099511627776 := by
    have key : ∀ (l : List UInt8), ∀ x ∈ splitB 10 l, x.length ≤ l.length := by
      intro l
      induction l with
      | nil => intro x hx; simp [splitB] at hx; subst hx; simp
      | cons b l ih =>
        intro x hx
        obtain ⟨y, ys, hy⟩ := split_cons 10 l
        rw [splitB, hy] at hx
        split at hx
        · rcases List.mem_cons.1 hx with h | h
          · subst h; simp
          · have := ih x (by rw [hy]; exact h)
            simp; omega
        · rcases List.mem_cons.1 hx with h | h
          · subst h
            have := ih y (by rw [hy]; exact List.mem_cons_self)
            simp; omega
          · have := ih x (by rw [hy]; exact List.mem_cons_of_mem _ h)
            simp; omega
    intro x hx
    have := key l x hx
    omega
  generalize hL : splitB 10 l = L at *
  generalize hn : L.length = n at *
  refine Go.Ev.Fn.intro (fn := Tryz.f53) (body := (Tryz.f53).body.get!) (by kernel_rfl) (by kernel_rfl) (by kernel_rfl) (fun _ => rfl) (Nat.le_of_ble_eq_true (by kernel_rfl)) ?_; unfold Tryz.f53; simp only [Option.get!_some]
  repeat (first | (simp only [go_sem, mk_bs]) | (simp (disch := (first | omega | (simp only [AL, List.length_map]; omega))) only [AR, AL, ifT, ifF, take_all, List.length_cons, List.length_nil, Int.reduceToNat, Int.reducePow, Nat.reducePow, mk_bs]) | (refine wk_intro (by kernel_rfl) ?_))
  refine vf_row hsp ?_
  repeat (first | (simp only [go_sem]) | (simp (disch := (first | omega | (simp only [AL, List.length_map]; omega))) only [AR, AL, ifT, ifF, take_all, List.length_cons, List.length_nil, Int.reduceToNat, Int.reducePow, Nat.reducePow]) | (refine wk_intro (by kernel_rfl) ?_))
  refine vp_loop_inv (fun s => s.tmp 3 = .ref 7 0 1 0 n ∧ s.tmp 8 = .ref 7 0 1 0 n ∧ s.tmp 9 = .sv (.int .i64 (n : Int)) ∧
      ∃ (i : Nat) (cs : List SV), s.tmp 10 = .sv (.int .i64 (i : Int)) ∧ s.obj 7 0 = some cs ∧ i ≤ n ∧ cs.length = n ∧ cs.take i = ((L.map (frontL 35)).take i).map strC ∧ cs.drop i = (L.drop i).map strC)
    (fun s => match s.tmp 10 with | .sv (.int _ i) => n - i.toNat | _ => 0) ?_ ?_
  · exact ⟨rfl, rfl, rfl, 0, _, rfl, rfl, by omega, by rw [List.length_map]; exact hn, rfl, rfl⟩
  rintro s2 ⟨i3, i8, i9, i, cs, i10, iO, hi, hcs, ht, hd⟩
  by_cases hend : i = n
  · subst hend
    have e : cs = (L.map (frontL 35)).map strC := by
      rw [List.take_of_length_le (by omega), List.take_of_length_le (by rw [List.length_map]; omega)] at ht
      exact ht
    have e2 : cs.take i = (L.map (frontL 35)).map strC := by rw [← e, List.take_of_length_le (by omega)]
    repeat (first | (simp only [go_sem, i3, i8, i9, i10, iO, mk_bs, e2]) | (simp (disch := (first | omega | (simp only [AL, List.length_map]; omega))) only [AR, AL, ifT, ifF, take_all, List.length_cons, List.length_nil, Int.reduceToNat, Int.reducePow, Nat.reducePow, i3, i8, i9, i10, iO, mk_bs, e2]) | (refine wk_intro (by kernel_rfl) ?_) | (refine vf_of (by first | exact hj) ?_))
  · have hlt : i < L.length := by omega
    have hx := str_Cut CX_str L[i] 35 (hlin _ (List.getElem_mem hlt))
    have hh : (cs.drop i).head? = some (.str (bs L[i])) := by
      rw [hd, List.drop_eq_getElem_cons hlt]
      rfl
    have hn2 : cs.take i ++ [SV.str (bs (frontL 35 L[i]))] ++ cs.drop (i + 1) = cs.set i (.str (bs (frontL 35 L[i]))) := by
      rw [List.set_eq_take_append_cons_drop, if_pos (by omega)]
      simp
    repeat (first | (simp only [go_sem, i3, i8, i9, i10, iO, mk_bs, hh, hcs, hn2]) | (simp (disch := (first | omega | (simp only [AL, List.length_map]; omega))) only [AR, AL, ifT, ifF, take_all, List.length_cons, List.length_nil, Int.reduceToNat, Int.reducePow, Nat.reducePow, i3, i8, i9, i10, iO, mk_bs, hh, hcs, hn2]) | (refine wk_intro (by kernel_rfl) ?_) | (refine vf_of (by first | exact hx) ?_))
    refine ⟨⟨i + 1, cs.set i (.str (bs (frontL 35 L[i]))), rfl, rfl, by omega, by rw [List.length_set]; exact hcs, ?_, ?_⟩, by omega⟩
    · rw [List.take_add_one, List.take_add_one, List.map_append, List.take_set_of_le (Nat.le_refl _), ht, List.getElem?_set_self (by omega), List.getElem?_map, List.getElem?_eq_getElem hlt]
      rfl
    · have := congrArg (List.drop 1) hd
      rw [List.drop_drop, ← List.map_drop, List.drop_drop] at this
      rw [List.drop_set_of_lt (by omega)]
      exact this
end Go.Proofs.YticocojomlfhgaaGreatDoor
namespace Go.Proofs.YticocojomlfhgaaGreatDoor
open Go.Ev
theorem nat_Is (xs : List Nat) (hl : xs.length ≤ 1099511627776) : Go.Ev.Fn CX 142 [natV xs] (.bool (isT xs)) := by
  refine Go.Ev.Fn.intro (fn := Tryz.f142) (body := (Tryz.f142).body.get!) (by kernel_rfl) (by kernel_rfl) (by kernel_rfl) (fun _ => rfl) (Nat.le_of_ble_eq_true (by kernel_rfl)) ?_; unfold Tryz.f142; simp only [Option.get!_some]
  by_cases h0 : xs.length = 0
  · have e : isT xs = true := by simp [isT, h0]
    rw [e]
    repeat (first | (simp only [go_sem]) | (simp (disch := (first | omega | (simp only [AL, List.length_map]; omega))) only [AR, AL, ifT, ifF, take_all, List.length_cons, List.length_nil, Int.reduceToNat, Int.reducePow, Nat.reducePow]) | (refine wk_intro (by kernel_rfl) ?_) | (refine vp_draw (l := []) (by kernel_rfl) ?_))
  · have e : isT xs = (xs.getD (xs.length - 1) 0 != 0) := by simp [isT, h0]
    rw [e]
    repeat (first | (simp only [go_sem]) | (simp (disch := (first | omega | (simp only [AL, List.length_map]; omega))) only [AR, AL, ifT, ifF, take_all, List.length_cons, List.length_nil, Int.reduceToNat, Int.reducePow, Nat.reducePow]) | (refine wk_intro (by kernel_rfl) ?_) | (refine vp_draw (l := []) (by kernel_rfl) ?_))
    rw [bne_nat]
theorem lim_dropLast {xs : List Nat} (h : isT xs = false) : xs.length ≠ 0 ∧ lim (wth (xs.take (xs.length - 1))) = lim (wth xs) := by
  unfold isT at h
  simp only [Bool.or_eq_false_iff, beq_eq_false_iff_ne, bne_eq_false_iff_eq] at h
  refine ⟨h.1, ?_⟩
  rcases xs.eq_nil_or_concat with rfl | ⟨ys, z, rfl⟩
  · rfl
  · rw [List.concat_eq_append] at h ⊢
    have e : z = 0 := by simpa using h.2
    subst e
    simp [lim_snoc0]
theorem nat_trim (xs : List Nat) (hx : okL xs) (hl : xs.length ≤ 1099511627776) : Go.Ev.Fn CX 126 [natV xs] (natV (lim (wth xs))) := by
  refine Go.Ev.Fn.intro (fn := Tryz.f126) (body := (Tryz.f126).body.get!) (by kernel_rfl) (by kernel_rfl) (by kernel_rfl) (fun _ => rfl) (Nat.le_of_ble_eq_true (by kernel_rfl)) ?_; unfold Tryz.f126; simp only [Option.get!_some]
  simp only [go_sem]
  refine vp_loop_inv (fun s => ∃ ys, s.tmp 0 = .sv (natV ys) ∧ okL ys ∧ ys.length ≤ xs.length ∧ lim (wth ys) = lim (wth xs)) (fun s => (lenTV (s.tmp 0)).getD 0) ⟨xs, rfl, hx, Nat.le_refl _, rfl⟩ ?_
  rintro s ⟨ys, h0, hy, hle, he⟩
  repeat (first | (simp only [go_sem, h0]) | (simp (disch := (first | omega | (simp only [AL, List.length_map]; omega))) only [AR, AL, ifT, ifF, take_all, List.length_cons, List.length_nil, Int.reduceToNat, Int.reducePow, Nat.reducePow, h0]) | (refine wk_intro (by kernel_rfl) ?_) | (refine vp_draw (l := []) (by kernel_rfl) ?_))
  refine vf_of (nat_Is ys (by omega)) ?_; simp only [go_sem, h0]
  by_cases hT : isT ys = true
  · repeat (first | (simp only [go_sem, h0, hT, Bool.not_true]) | (simp (disch := (first | omega | (simp only [AL, List.length_map]; omega))) only [AR, AL, ifT, ifF, take_all, List.length_cons, List.length_nil, Int.reduceToNat, Int.reducePow, Nat.reducePow, h0, hT, Bool.not_true]) | (refine wk_intro (by kernel_rfl) ?_) | (refine vp_draw (l := []) (by kernel_rfl) ?_))
    rw [← he, ← lim_unique hy (isT_iff.1 hT)]
  · have hT : isT ys = false := by simpa using hT
    obtain ⟨h1, h2⟩ := lim_dropLast hT
    repeat (first | (simp only [go_sem, h0, hT, Bool.not_false]) | (simp (disch := (first | omega | (simp only [AL, List.length_map]; omega))) only [AR, AL, ifT, ifF, take_all, List.length_cons, List.length_nil, Int.reduceToNat, Int.reducePow, Nat.reducePow, h0, hT, Bool.not_false]) | (refine wk_intro (by kernel_rfl) ?_) | (refine vp_draw (l := []) (by kernel_rfl) ?_))
    refine ⟨⟨ys.take (ys.length - 1), ?_, okL_take hy _, ?_, h2.trans he⟩, ?_⟩
    · rw [natV_cut (by omega)]
    · rw [List.length_take]; omega
    · simp only [lenTV, Option.getD_some]; omega
theorem nat_Trim (xs : List Nat) (hx : okL xs) (hl : xs.length ≤ 274877906944) : Go.Ev.Fn CX 100 [natV xs] (natV (lim (wth xs))) := by
  have hc : Go.Ev.Fn CX 125 [natV (lim (wth xs))] (natV (lim (wth xs))) := by
    refine ⟨1, [none], ?_⟩
    have h1 := lim_length_le hx
    have h2 := natV_one (lim (wth xs))
    have h3 : cloneX 125 125 [.sv (natV (lim (wth xs)))] = some (.sv (natV (lim (wth xs))), [none]) := by
      simp only [cloneX, if_true]
      rw [if_pos ⟨natV_len _, h2, by omega⟩]
    have h4 : CX.X 125 [.sv (natV (lim (wth xs)))] = some (.sv (natV (lim (wth xs))), [none]) := h3
    unfold callN
    rw [stq_sv, List.map_cons, List.map_nil, h4]
  refine Go.Ev.Fn.intro (fn := Tryz.f100) (body := (Tryz.f100).body.get!) (by kernel_rfl) (by kernel_rfl) (by kernel_rfl) (fun _ => rfl) (Nat.le_of_ble_eq_true (by kernel_rfl)) ?_; unfold Tryz.f100; simp only [Option.get!_some]
  simp only [go_sem]
  refine vf_of (nat_trim xs hx (by omega)) ?_; simp only [go_sem]
  refine vf_of (hc) ?_; simp only [go_sem]
theorem nat_Of (n : Nat) (hn : n < 18446744073709551616) : Go.Ev.Fn CX 101 [.int .u64 n] (natV (lim n)) := by
  refine Go.Ev.Fn.intro (fn := Tryz.f101) (body := (Tryz.f101).body.get!) (by kernel_rfl) (by kernel_rfl) (by kernel_rfl) (fun _ => rfl) (Nat.le_of_ble_eq_true (by kernel_rfl)) ?_; unfold Tryz.f101; simp only [Option.get!_some]
  repeat (first | (simp only [go_sem]) | (simp (disch := (first | omega | (simp only [AL, List.length_map]; omega))) only [AR, AL, ifT, ifF, take_all, List.length_cons, List.length_nil, Int.reduceToNat, Int.reducePow, Nat.reducePow]) | (refine wk_intro (by kernel_rfl) ?_) | (refine vp_draw (l := []) (by kernel_rfl) ?_))
  have e : wth [n % 4294967296, n / 4294967296] = n := by simp only [wth]; omega
  refine vf_of (nat_trim [n % 4294967296, n / 4294967296] (by simp [okL]; omega) (by simp)) ?_; repeat (first | (simp only [go_sem]) | (simp (disch := (first | omega | (simp only [AL, List.length_map]; omega))) only [AR, AL, ifT, ifF, take_all, List.length_cons, List.length_nil, Int.reduceToNat, Int.reducePow, Nat.reducePow]) | (refine wk_intro (by kernel_rfl) ?_) | (refine vp_draw (l := []) (by kernel_rfl) ?_))
  rw [e]
end Go.Proofs.YticocojomlfhgaaGreatDoor
namespace Go.Proofs.YticocojomlfhgaaGreatDoor
open Go.Ev
def cmpN (a b : Nat) : Int := if a < b then -1 else if a = b then 0 else 1
theorem wth_lt_of {xs ys : List Nat} (hx : okL xs) (hy : okL ys) (hl : xs.length = ys.length) {i : Nat} (hi : i < xs.length) (hd : xs.drop (i + 1) = ys.drop (i + 1)) (h : xs.getD i 0 < ys.getD i 0) : wth xs < wth ys := by
  have h1 : ∀ (zs : List Nat), i < zs.length → wth zs = wth (zs.take i) + 4294967296 ^ i * (zs.getD i 0 + 4294967296 * wth (zs.drop (i + 1))) := by
    intro zs hz
    conv => lhs; rw [← List.take_append_drop i zs]
    rw [wth_append, List.length_take, Nat.min_eq_left (by omega), List.drop_eq_getElem_cons hz, wth_cons, List.getD_eq_getElem?_getD, List.getElem?_eq_getElem hz]
    rfl
  rw [h1 xs hi, h1 ys (by omega), hd]
  have h2 := wth_lt (okL_take hx i)
  rw [List.length_take, Nat.min_eq_left (by omega)] at h2
  have h3 : 4294967296 ^ i * (xs.getD i 0 + 4294967296 * wth (ys.drop (i + 1)) + 1) ≤ 4294967296 ^ i * (ys.getD i 0 + 4294967296 * wth (ys.drop (i + 1))) := Nat.mul_le_mul_left _ (by omega)
  rw [Nat.mul_add _ _ 1, Nat.mul_one] at h3
  omega
theorem lim_length_lt {a b : Nat} (h : (lim a).length < (lim b).length) : a < b := by
  rcases Nat.lt_or_ge a b with h1 | h1
  · exact h1
  · have := trimL_length (okL_lim b) (okL_lim a) (trimL_lim b) (by rw [wth_lim, wth_lim]; exact h1)
    omega
theorem nat_Cmp (xs ys : List Nat) (hx : okL xs) (hy : okL ys) (hl : xs.length ≤ 1099511627776) (hm : ys.length ≤ 1099511627776) : Go.Ev.Fn CX 127 [natV xs, natV ys] (.int .i64 (cmpN (wth xs) (wth ys))) := by
  refine Go.Ev.Fn.intro (fn := Tryz.f127) (body := (Tryz.f127).body.get!) (by kernel_rfl) (by kernel_rfl) (by kernel_rfl) (fun _ => rfl) (Nat.le_of_ble_eq_true (by kernel_rfl)) ?_; unfold Tryz.f127; simp only [Option.get!_some]
  have lx := lim_length_le hx
  have ly := lim_length_le hy
  repeat (first | (simp only [go_sem]) | (simp (disch := (first | omega | (simp only [AL, List.length_map]; omega))) only [AR, AL, ifT, ifF, take_all, List.length_cons, List.length_nil, Int.reduceToNat, Int.reducePow, Nat.reducePow]) | (refine wk_intro (by kernel_rfl) ?_) | (refine vp_draw (l := []) (by kernel_rfl) ?_))
  refine vf_of (nat_trim xs hx (by omega)) ?_; repeat (first | (simp only [go_sem]) | (simp (disch := (first | omega | (simp only [AL, List.length_map]; omega))) only [AR, AL, ifT, ifF, take_all, List.length_cons, List.length_nil, Int.reduceToNat, Int.reducePow, Nat.reducePow]) | (refine wk_intro (by kernel_rfl) ?_) | (refine vp_draw (l := []) (by kernel_rfl) ?_))
  refine vf_of (nat_trim ys hy (by omega)) ?_; repeat (first | (simp only [go_sem]) | (simp (disch := (first | omega | (simp only [AL, List.length_map]; omega))) only [AR, AL, ifT, ifF, take_all, List.length_cons, List.length_nil, Int.reduceToNat, Int.reducePow, Nat.reducePow]) | (refine wk_intro (by kernel_rfl) ?_) | (refine vp_draw (l := []) (by kernel_rfl) ?_))
  by_cases h1 : (lim (wth xs)).length = (lim (wth ys)).length
  · repeat (first | (simp only [go_sem]) | (simp (disch := (first | omega | (simp only [AL, List.length_map]; omega))) only [AR, AL, ifT, ifF, take_all, List.length_cons, List.length_nil, Int.reduceToNat, Int.reducePow, Nat.reducePow]) | (refine wk_intro (by kernel_rfl) ?_))
    refine vp_loop_inv (fun s => s.tmp 0 = .sv (natV (lim (wth xs))) ∧ s.tmp 1 = .sv (natV (lim (wth ys))) ∧ ∃ i : Nat, s.tmp 5 = .sv (.int .i64 ((i : Int) - 1)) ∧ i ≤ (lim (wth xs)).length ∧ (lim (wth xs)).drop i = (lim (wth ys)).drop i)
      (fun s => match s.tmp 5 with | .sv (.int _ i) => (i + 1).toNat | _ => 0) ⟨rfl, rfl, (lim (wth xs)).length, rfl, Nat.le_refl _, ?_⟩ ?_
    · rw [List.drop_length, h1, List.drop_length]
    rintro s ⟨g0, g1, i, g5, hi, hd⟩
    rcases Nat.eq_zero_or_pos i with rfl | hi0
    · have e : cmpN (wth xs) (wth ys) = 0 := by
        have := congrArg wth hd
        rw [List.drop_zero, List.drop_zero, wth_lim, wth_lim] at this
        rw [this]
        simp [cmpN]
      rw [e]
      repeat (first | (simp only [go_sem, g0, g1, g5]) | (simp (disch := (first | omega | (simp only [AL, List.length_map]; omega))) only [AR, AL, ifT, ifF, take_all, List.length_cons, List.length_nil, Int.reduceToNat, Int.reducePow, Nat.reducePow, g0, g1, g5]) | (refine wk_intro (by kernel_rfl) ?_) | (refine vp_draw (l := []) (by kernel_rfl) ?_))
    · repeat (first | (simp only [go_sem, g0, g1, g5]) | (simp (disch := (first | omega | (simp only [AL, List.length_map]; omega))) only [AR, AL, ifT, ifF, take_all, List.length_cons, List.length_nil, Int.reduceToNat, Int.reducePow, Nat.reducePow, g0, g1, g5]) | (refine wk_intro (by kernel_rfl) ?_) | (refine vp_draw (l := []) (by kernel_rfl) ?_))
      have hdr : ∀ zs : List Nat, i ≤ zs.length → zs.drop (i - 1) = zs.getD (i - 1) 0 :: zs.drop i := by
        intro zs hz
        rw [List.drop_eq_getElem_cons (show i - 1 < zs.length by omega), List.getD_eq_getElem?_getD, List.getElem?_eq_getElem (show i - 1 < zs.length by omega), show i - 1 + 1 = i by omega]
        rfl
      rcases Nat.lt_trichotomy ((lim (wth xs)).getD (i - 1) 0) ((lim (wth ys)).getD (i - 1) 0) with hc | hc | hc
      · have := wth_lt_of (okL_lim _) (okL_lim _) h1 (i := i - 1) (by omega) (by rw [show i - 1 + 1 = i by omega]; exact hd) hc
        rw [wth_lim, wth_lim] at this
        have e : cmpN (wth xs) (wth ys) = -1 := by simp [cmpN, this]
        rw [e]
        repeat (first | (simp only [go_sem, g0, g1, g5]) | (simp (disch := (first | omega | (simp only [AL, List.length_map]; omega))) only [AR, AL, ifT, ifF, take_all, List.length_cons, List.length_nil, Int.reduceToNat, Int.reducePow, Nat.reducePow, g0, g1, g5]) | (refine wk_intro (by kernel_rfl) ?_) | (refine vp_draw (l := []) (by kernel_rfl) ?_))
      · repeat (first | (simp only [go_sem, g0, g1, g5]) | (simp (disch := (first | omega | (simp only [AL, List.length_map]; omega))) only [AR, AL, ifT, ifF, take_all, List.length_cons, List.length_nil, Int.reduceToNat, Int.reducePow, Nat.reducePow, g0, g1, g5]) | (refine wk_intro (by kernel_rfl) ?_) | (refine vp_draw (l := []) (by kernel_rfl) ?_))
        refine ⟨⟨i - 1, ?_, by omega, ?_⟩, by omega⟩
        · simp only [Int.natCast_sub hi0]
        · rw [hdr _ hi, hdr _ (by omega), hc, hd]
      · have := wth_lt_of (okL_lim _) (okL_lim _) h1.symm (i := i - 1) (by omega) (by rw [show i - 1 + 1 = i by omega]; exact hd.symm) hc
        rw [wth_lim, wth_lim] at this
        have e : cmpN (wth xs) (wth ys) = 1 := by unfold cmpN; rw [if_neg (by omega), if_neg (by omega)]
        rw [e]
        repeat (first | (simp only [go_sem, g0, g1, g5]) | (simp (disch := (first | omega | (simp only [AL, List.length_map]; omega))) only [AR, AL, ifT, ifF, take_all, List.length_cons, List.length_nil, Int.reduceToNat, Int.reducePow, Nat.reducePow, g0, g1, g5]) | (refine wk_intro (by kernel_rfl) ?_) | (refine vp_draw (l := []) (by kernel_rfl) ?_))
  · by_cases h2 : (lim (wth xs)).length < (lim (wth ys)).length
    · have := lim_length_lt h2
      have e : cmpN (wth xs) (wth ys) = -1 := by simp [cmpN, this]
      rw [e]
      repeat (first | (simp only [go_sem]) | (simp (disch := (first | omega | (simp only [AL, List.length_map]; omega))) only [AR, AL, ifT, ifF, take_all, List.length_cons, List.length_nil, Int.reduceToNat, Int.reducePow, Nat.reducePow]) | (refine wk_intro (by kernel_rfl) ?_) | (refine vp_draw (l := []) (by kernel_rfl) ?_))
    · have := lim_length_lt (a := wth ys) (b := wth xs) (by omega)
      have e : cmpN (wth xs) (wth ys) = 1 := by unfold cmpN; rw [if_neg (by omega), if_neg (by omega)]
      rw [e]
      repeat (first | (simp only [go_sem]) | (simp (disch := (first | omega | (simp only [AL, List.length_map]; omega))) only [AR, AL, ifT, ifF, take_all, List.length_cons, List.length_nil, Int.reduceToNat, Int.reducePow, Nat.reducePow]) | (refine wk_intro (by kernel_rfl) ?_) | (refine vp_draw (l := []) (by kernel_rfl) ?_))
end Go.Proofs.YticocojomlfhgaaGreatDoor
namespace Go.Proofs.YticocojomlfhgaaGreatDoor
open Go.Ev
theorem nat_Add (xs ys : List Nat) (hx : okL xs) (hy : okL ys) (hl : xs.length ≤ 1073741824) (hm : ys.length ≤ 1073741824) : Go.Ev.Fn CX 136 [natV xs, natV ys] (natV (lim (wth xs + wth ys))) := by
  refine Go.Ev.Fn.intro (fn := Tryz.f136) (body := (Tryz.f136).body.get!) (by kernel_rfl) (by kernel_rfl) (by kernel_rfl) (fun _ => rfl) (Nat.le_of_ble_eq_true (by kernel_rfl)) ?_; unfold Tryz.f136; simp only [Option.get!_some]
  have lx := lim_length_le hx
  have ly := lim_length_le hy
  repeat (first | (simp only [go_sem]) | (simp (disch := (first | omega | (simp only [AL, List.length_map]; omega))) only [AR, AL, ifT, ifF, take_all, List.length_cons, List.length_nil, Int.reduceToNat, Int.reducePow, Nat.reducePow]) | (refine wk_intro (by kernel_rfl) ?_) | (refine vp_draw (l := []) (by kernel_rfl) ?_))
  refine vf_of (nat_trim xs hx (by omega)) ?_; repeat (first | (simp only [go_sem]) | (simp (disch := (first | omega | (simp only [AL, List.length_map]; omega))) only [AR, AL, ifT, ifF, take_all, List.length_cons, List.length_nil, Int.reduceToNat, Int.reducePow, Nat.reducePow]) | (refine wk_intro (by kernel_rfl) ?_) | (refine vp_draw (l := []) (by kernel_rfl) ?_))
  refine vf_of (nat_trim ys hy (by omega)) ?_; repeat (first | (simp only [go_sem]) | (simp (disch := (first | omega | (simp only [AL, List.length_map]; omega))) only [AR, AL, ifT, ifF, take_all, List.length_cons, List.length_nil, Int.reduceToNat, Int.reducePow, Nat.reducePow]) | (refine wk_intro (by kernel_rfl) ?_) | (refine vp_draw (l := []) (by kernel_rfl) ?_))
  refine vc_cut (Mid := fun s => ∃ a b, s.tmp 0 = .sv (natV a) ∧ s.tmp 1 = .sv (natV b) ∧ okL a ∧ okL b ∧ b.length ≤ a.length ∧ a.length ≤ 1073741824 ∧ wth a + wth b = wth xs + wth ys) ?_ ?_
  · by_cases h1 : (lim (wth xs)).length < (lim (wth ys)).length
    · repeat (first | (simp only [go_sem]) | (simp (disch := (first | omega | (simp only [AL, List.length_map]; omega))) only [AR, AL, ifT, ifF, take_all, List.length_cons, List.length_nil, Int.reduceToNat, Int.reducePow, Nat.reducePow]) | (refine wk_intro (by kernel_rfl) ?_) | (refine vp_draw (l := []) (by kernel_rfl) ?_))
      exact ⟨_, _, rfl, rfl, okL_lim _, okL_lim _, by omega, by omega, by rw [wth_lim, wth_lim]; omega⟩
    · repeat (first | (simp only [go_sem]) | (simp (disch := (first | omega | (simp only [AL, List.length_map]; omega))) only [AR, AL, ifT, ifF, take_all, List.length_cons, List.length_nil, Int.reduceToNat, Int.reducePow, Nat.reducePow]) | (refine wk_intro (by kernel_rfl) ?_) | (refine vp_draw (l := []) (by kernel_rfl) ?_))
      exact ⟨_, _, rfl, rfl, okL_lim _, okL_lim _, by omega, by omega, by rw [wth_lim, wth_lim]⟩
  rintro s ⟨a, b, g0, g1, ha, hb, hab, hla, hsum⟩
  repeat (first | (simp only [go_sem, g0, g1]) | (simp (disch := (first | omega | (simp only [AL, List.length_map]; omega))) only [AR, AL, ifT, ifF, take_all, List.length_cons, List.length_nil, Int.reduceToNat, Int.reducePow, Nat.reducePow, g0, g1]) | (refine wk_intro (by kernel_rfl) ?_))
  generalize hg : s.gen 23 = g
  refine vp_loop_inv (fun s' => s'.tmp 0 = .sv (natV a) ∧ s'.tmp 1 = .sv (natV b) ∧ s'.tmp 5 = .ref 23 g 1 0 (a.length + 1) ∧ s'.tmp 24 = .sv (natV a) ∧ s'.tmp 25 = .sv (.int .i64 a.length) ∧
      ∃ c : List Nat, ∃ i carry : Nat, s'.obj 23 g = some (c.map limb) ∧ s'.tmp 6 = .sv (.int .u64 carry) ∧ s'.tmp 26 = .sv (.int .i64 i) ∧ c.length = a.length + 1 ∧ okL c ∧ i ≤ a.length ∧ carry ≤ 1 ∧
        wth (c.take i) + 4294967296 ^ i * carry = wth (a.take i) + wth (b.take i))
    (fun s => match s.tmp 26 with | .sv (.int _ i) => a.length - i.toNat | _ => 0) ?_ ?_
  · refine ⟨g0, g1, rfl, rfl, rfl, List.replicate (a.length + 1) 0, 0, 0, ?_, rfl, rfl, List.length_replicate .., okL_replicate _, by omega, by omega, rfl⟩
    simp [St.put, St.new, hg]
  rintro s' ⟨i0, i1, i5, i24, i25, c, i, carry, iO, i6, i26, hc, hok, hi, hcar, hw⟩
  by_cases hend : i = a.length
  · subst hend
    repeat (first | (simp only [go_sem, i0, i1, i5, i24, i25, iO, i6, i26]) | (simp (disch := (first | omega | (simp only [AL, List.length_map]; omega))) only [AR, AL, ifT, ifF, take_all, List.length_cons, List.length_nil, Int.reduceToNat, Int.reducePow, Nat.reducePow, i0, i1, i5, i24, i25, iO, i6, i26]) | (refine wk_intro (by kernel_rfl) ?_) | (refine vp_draw (l := []) (by kernel_rfl) ?_))
    refine vf_of (fn_natV (nat_trim (c.set a.length carry) (okL_set hok _ _ (by omega)) (by rw [List.length_set]; omega)) (by rw [List.length_set]; omega)) ?_; repeat (first | (simp only [go_sem]) | (simp (disch := (first | omega | (simp only [AL, List.length_map]; omega))) only [AR, AL, ifT, ifF, take_all, List.length_cons, List.length_nil, Int.reduceToNat, Int.reducePow, Nat.reducePow]) | (refine wk_intro (by kernel_rfl) ?_) | (refine vp_draw (l := []) (by kernel_rfl) ?_))
    have e : wth (c.set a.length carry) = wth xs + wth ys := by
      rw [← List.take_of_length_le (l := c.set a.length carry) (i := a.length + 1) (by rw [List.length_set]; omega), wth_set_take (by omega), hw, List.take_of_length_le (Nat.le_refl _), List.take_of_length_le hab, hsum]
    rw [e]
  · have h1 := getD_lt ha i
    have h2 := getD_lt hb i
    have key : ∀ x : Nat, x = carry + a.getD i 0 + b.getD i 0 → wth ((c.set i (x % 4294967296)).take (i + 1)) + 4294967296 ^ (i + 1) * (x / 4294967296) = wth (a.take (i + 1)) + wth (b.take (i + 1)) := by
      intro x hx
      rw [wth_set_take (by omega), wth_take_succ, wth_take_succ]
      have e1 : 4294967296 ^ i * (x % 4294967296) + 4294967296 ^ (i + 1) * (x / 4294967296) = 4294967296 ^ i * x := by
        rw [Nat.pow_succ, Nat.mul_assoc, ← Nat.mul_add, Nat.mod_add_div]
      have e2 : 4294967296 ^ i * x = 4294967296 ^ i * carry + 4294967296 ^ i * a.getD i 0 + 4294967296 ^ i * b.getD i 0 := by
        rw [hx, Nat.mul_add, Nat.mul_add]
      omega
    by_cases hib : i < b.length
    · repeat (first | (simp only [go_sem, i0, i1, i5, i24, i25, iO, i6, i26]) | (simp (disch := (first | omega | (simp only [AL, List.length_map]; omega))) only [AR, AL, ifT, ifF, take_all, List.length_cons, List.length_nil, Int.reduceToNat, Int.reducePow, Nat.reducePow, i0, i1, i5, i24, i25, iO, i6, i26]) | (refine wk_intro (by kernel_rfl) ?_) | (refine vp_draw (l := []) (by kernel_rfl) ?_))
      exact ⟨⟨c.set i ((carry + a.getD i 0 + b.getD i 0) % 4294967296), i + 1, (carry + a.getD i 0 + b.getD i 0) / 4294967296, rfl, rfl, rfl, by rw [List.length_set]; exact hc, okL_set hok _ _ (by omega), by omega, by omega, key _ rfl⟩, by omega⟩
    · have e0 : b.getD i 0 = 0 := by rw [List.getD_eq_getElem?_getD, List.getElem?_eq_none (by omega)]; rfl
      repeat (first | (simp only [go_sem, i0, i1, i5, i24, i25, iO, i6, i26]) | (simp (disch := (first | omega | (simp only [AL, List.length_map]; omega))) only [AR, AL, ifT, ifF, take_all, List.length_cons, List.length_nil, Int.reduceToNat, Int.reducePow, Nat.reducePow, i0, i1, i5, i24, i25, iO, i6, i26]) | (refine wk_intro (by kernel_rfl) ?_) | (refine vp_draw (l := []) (by kernel_rfl) ?_))
      exact ⟨⟨c.set i ((carry + a.getD i 0) % 4294967296), i + 1, (carry + a.getD i 0) / 4294967296, rfl, rfl, rfl, by rw [List.length_set]; exact hc, okL_set hok _ _ (by omega), by omega, by omega, key _ (by omega)⟩, by omega⟩
end Go.Proofs.YticocojomlfhgaaGreatDoor
namespace Go.Proofs.YticocojomlfhgaaGreatDoor
open Go.Ev
theorem bits_Add32 (x y c : Nat) (hx : x < 4294967296) (hy : y < 4294967296) (hc : c < 4294967296) :
    Go.Ev.Fn CX 162 [limb x, limb y, limb c] (.tup [limb ((x + y + c) % 4294967296), limb ((x + y + c) / 4294967296)]) := by
  refine Go.Ev.Fn.intro (fn := Tryz.f162) (body := (Tryz.f162).body.get!) (by kernel_rfl) (by kernel_rfl) (by kernel_rfl) (fun _ => rfl) (Nat.le_of_ble_eq_true (by kernel_rfl)) ?_; unfold Tryz.f162; simp only [Option.get!_some]
  repeat (first | (simp only [go_sem]) | (simp (disch := (first | omega | (simp only [AL, List.length_map]; omega))) only [AR, AL, ifT, ifF, take_all, List.length_cons, List.length_nil, Int.reduceToNat, Int.reducePow, Nat.reducePow]) | (refine wk_intro (by kernel_rfl) ?_) | (refine vp_draw (l := []) (by kernel_rfl) ?_))
theorem bits_Sub32 (x y b : Nat) (hx : x < 4294967296) (hy : y < 4294967296) (hb : b ≤ 1) :
    Go.Ev.Fn CX 161 [limb x, limb y, limb b] (.tup [limb (((x + (4294967296 - y)) % 4294967296 + (4294967296 - b)) % 4294967296), limb (if x < y + b then 1 else 0)]) := by
  refine Go.Ev.Fn.intro (fn := Tryz.f161) (body := (Tryz.f161).body.get!) (by kernel_rfl) (by kernel_rfl) (by kernel_rfl) (fun _ => rfl) (Nat.le_of_ble_eq_true (by kernel_rfl)) ?_; unfold Tryz.f161; simp only [Option.get!_some]
  have hd : ∃ d, d = ((x + (4294967296 - y)) % 4294967296 + (4294967296 - b)) % 4294967296 := ⟨_, rfl⟩
  obtain ⟨d, hd⟩ := hd
  rw [← hd, ← sub32_bit hx hy hb hd]
  have hd' : d < 4294967296 := by omega
  have h0 : 4294967295 ^^^ x < 4294967296 := Nat.xor_lt_two_pow (n := 32) (by decide) hx
  have h1 : (4294967295 ^^^ x) &&& y < 4294967296 := Nat.lt_of_le_of_lt Nat.and_le_right hy
  have h2 : x ^^^ y < 4294967296 := Nat.xor_lt_two_pow (n := 32) hx hy
  have h3 : 4294967295 ^^^ (x ^^^ y) < 4294967296 := Nat.xor_lt_two_pow (n := 32) (by decide) h2
  have h4 : (4294967295 ^^^ (x ^^^ y)) &&& d < 4294967296 := Nat.lt_of_le_of_lt Nat.and_le_right hd'
  repeat (first | (simp only [go_sem, u32_sub, ← hd]) | (simp (disch := (first | omega | (simp only [AL, List.length_map]; omega))) only [AR, AL, ifT, ifF, take_all, List.length_cons, List.length_nil, Int.reduceToNat, Int.reducePow, Nat.reducePow, u32_sub, ← hd]) | (refine wk_intro (by kernel_rfl) ?_) | (refine vp_draw (l := []) (by kernel_rfl) ?_))
theorem bits_Div32 (hi lo y : Nat) (h : hi < y) (hy : y < 4294967296) (hlo : lo < 4294967296) :
    Go.Ev.Fn CX 143 [limb hi, limb lo, limb y] (.tup [limb ((hi * 4294967296 + lo) / y), limb ((hi * 4294967296 + lo) % y)]) := by
  refine Go.Ev.Fn.intro (fn := Tryz.f143) (body := (Tryz.f143).body.get!) (by kernel_rfl) (by kernel_rfl) (by kernel_rfl) (fun _ => rfl) (Nat.le_of_ble_eq_true (by kernel_rfl)) ?_; unfold Tryz.f143; simp only [Option.get!_some]
  have hq : (hi * 4294967296 + lo) / y < 4294967296 := by
    rw [Nat.div_lt_iff_lt_mul (by omega)]
    have : (hi + 1) * 4294967296 ≤ y * 4294967296 := Nat.mul_le_mul_right _ h
    omega
  have hr : (hi * 4294967296 + lo) % y < 4294967296 := Nat.lt_trans (Nat.mod_lt _ (by omega)) hy
  have hX : ∃ X, hi * 4294967296 + lo = X := ⟨_, rfl⟩
  obtain ⟨X, hX⟩ := hX
  rw [hX] at hq hr ⊢
  generalize hQ : X / y = Q at *
  generalize hR : X % y = R at *
  repeat (first | (simp only [go_sem, hX, hQ, hR]) | (simp (disch := (first | omega | (simp only [AL, List.length_map]; omega))) only [AR, AL, ifT, ifF, take_all, List.length_cons, List.length_nil, Int.reduceToNat, Int.reducePow, Nat.reducePow, hX, hQ, hR]) | (refine wk_intro (by kernel_rfl) ?_) | (refine vp_draw (l := []) (by kernel_rfl) ?_))
end Go.Proofs.YticocojomlfhgaaGreatDoor
namespace Go.Proofs.YticocojomlfhgaaGreatDoor
open Go.Ev
end Go.Proofs.YticocojomlfhgaaGreatDoor
namespace Go.Proofs.YticocojomlfhgaaGreatDoor
open Go.Ev
theorem getD_set_ne {xs : List Nat} {i j v : Nat} (h : j ≠ i) : (xs.set i v).getD j 0 = xs.getD j 0 := by
  rw [List.getD_eq_getElem?_getD, List.getD_eq_getElem?_getD, List.getElem?_set_ne (fun e => h e.symm)]
theorem limb_mul {v w : Nat} (hv : v < 4294967296) (hw : w < 4294967296) : v * w ≤ 18446744065119617025 :=
  Nat.le_trans (Nat.mul_le_mul (show v ≤ 4294967295 by omega) (show w ≤ 4294967295 by omega)) (by decide)
theorem nat_Mul (xs ys : List Nat) (hx : okL xs) (hy : okL ys) (hl : xs.length ≤ 1073741824) (hm : ys.length ≤ 1073741824) :
    Go.Ev.Fn CX 115 [natV xs, natV ys] (natV (lim (wth xs * wth ys))) := by
  refine Go.Ev.Fn.intro (fn := Tryz.f115) (body := (Tryz.f115).body.get!) (by kernel_rfl) (by kernel_rfl) (by kernel_rfl) (fun _ => rfl) (Nat.le_of_ble_eq_true (by kernel_rfl)) ?_; unfold Tryz.f115; simp only [Option.get!_some]
  have lx := lim_length_le hx
  have ly := lim_length_le hy
  repeat (first | (simp only [go_sem]) | (simp (disch := (first | omega | (simp only [AL, List.length_map]; omega))) only [AR, AL, ifT, ifF, take_all, List.length_cons, List.length_nil, Int.reduceToNat, Int.reducePow, Nat.reducePow]) | (refine wk_intro (by kernel_rfl) ?_) | (refine vp_draw (l := []) (by kernel_rfl) ?_))
  refine vf_of (nat_trim xs hx (by omega)) ?_; repeat (first | (simp only [go_sem]) | (simp (disch := (first | omega | (simp only [AL, List.length_map]; omega))) only [AR, AL, ifT, ifF, take_all, List.length_cons, List.length_nil, Int.reduceToNat, Int.reducePow, Nat.reducePow]) | (refine wk_intro (by kernel_rfl) ?_) | (refine vp_draw (l := []) (by kernel_rfl) ?_))
  refine vf_of (nat_trim ys hy (by omega)) ?_; repeat (first | (simp only [go_sem]) | (simp (disch := (first | omega | (simp only [AL, List.length_map]; omega))) only [AR, AL, ifT, ifF, take_all, List.length_cons, List.length_nil, Int.reduceToNat, Int.reducePow, Nat.reducePow]) | (refine wk_intro (by kernel_rfl) ?_) | (refine vp_draw (l := []) (by kernel_rfl) ?_))
  have ha := okL_lim (wth xs)
  have hb := okL_lim (wth ys)
  have va := wth_lim (wth xs)
  have vb := wth_lim (wth ys)
  generalize lim (wth xs) = a at *
  generalize lim (wth ys) = b at *
  refine vp_loop_inv (fun s' => s'.tmp 0 = .sv (natV a) ∧ s'.tmp 1 = .sv (natV b) ∧ s'.tmp 5 = .ref 20 0 1 0 (a.length + b.length) ∧ s'.tmp 21 = .sv (natV a) ∧ s'.tmp 22 = .sv (.int .i64 a.length) ∧
      ∃ c : List Nat, ∃ i : Nat, s'.obj 20 0 = some (c.map limb) ∧ s'.tmp 23 = .sv (.int .i64 i) ∧ c.length = a.length + b.length ∧ okL c ∧ i ≤ a.length ∧
        wth (c.take (i + b.length)) = wth (a.take i) * wth b)
    (fun s => match s.tmp 23 with | .sv (.int _ i) => a.length - i.toNat | _ => 0) ?_ ?_
  · refine ⟨rfl, rfl, rfl, rfl, rfl, List.replicate (a.length + b.length) 0, 0, rfl, rfl, List.length_replicate .., okL_replicate _, by omega, ?_⟩
    rw [List.take_replicate, wth_replicate]; simp [wth]
  rintro s' ⟨i0, i1, i5, i21, i22, c0, i, iO, i23, hc0, hok0, hi, hv⟩
  by_cases hend : i = a.length
  · subst hend
    repeat (first | (simp only [go_sem, i0, i1, i5, i21, i22, iO, i23]) | (simp (disch := (first | omega | (simp only [AL, List.length_map]; omega))) only [AR, AL, ifT, ifF, take_all, List.length_cons, List.length_nil, Int.reduceToNat, Int.reducePow, Nat.reducePow, i0, i1, i5, i21, i22, iO, i23]) | (refine wk_intro (by kernel_rfl) ?_) | (refine vp_draw (l := []) (by kernel_rfl) ?_))
    refine vf_of (fn_natV (nat_trim c0 hok0 (by omega)) hc0) ?_; repeat (first | (simp only [go_sem]) | (simp (disch := (first | omega | (simp only [AL, List.length_map]; omega))) only [AR, AL, ifT, ifF, take_all, List.length_cons, List.length_nil, Int.reduceToNat, Int.reducePow, Nat.reducePow]) | (refine wk_intro (by kernel_rfl) ?_) | (refine vp_draw (l := []) (by kernel_rfl) ?_))
    have e : wth c0 = wth xs * wth ys := by
      rw [List.take_of_length_le (by omega), List.take_of_length_le (Nat.le_refl _), va, vb] at hv
      exact hv
    rw [e]
  · have h1 := getD_lt ha i
    repeat (first | (simp only [go_sem, i0, i1, i5, i21, i22, iO, i23]) | (simp (disch := (first | omega | (simp only [AL, List.length_map]; omega))) only [AR, AL, ifT, ifF, take_all, List.length_cons, List.length_nil, Int.reduceToNat, Int.reducePow, Nat.reducePow, i0, i1, i5, i21, i22, iO, i23]) | (refine wk_intro (by kernel_rfl) ?_) | (refine vp_draw (l := []) (by kernel_rfl) ?_))
    generalize hvv : a.getD i 0 = v at *
    refine vp_loop_inv (fun s' => s'.tmp 0 = .sv (natV a) ∧ s'.tmp 1 = .sv (natV b) ∧ s'.tmp 5 = .ref 20 0 1 0 (a.length + b.length) ∧ s'.tmp 21 = .sv (natV a) ∧ s'.tmp 22 = .sv (.int .i64 a.length) ∧ s'.tmp 23 = .sv (.int .i64 i) ∧
        s'.tmp 6 = .sv (.int .i64 i) ∧ s'.tmp 7 = .sv (.int .u32 v) ∧ s'.tmp 28 = .sv (natV b) ∧ s'.tmp 29 = .sv (.int .i64 b.length) ∧
        ∃ c : List Nat, ∃ k carry : Nat, s'.obj 20 0 = some (c.map limb) ∧ s'.tmp 30 = .sv (.int .i64 k) ∧ s'.tmp 8 = .sv (.int .u64 carry) ∧ c.length = a.length + b.length ∧ okL c ∧ k ≤ b.length ∧ carry < 4294967296 ∧
          (∀ j, i + k ≤ j → c.getD j 0 = c0.getD j 0) ∧ wth (c.take (i + k)) + 4294967296 ^ (i + k) * carry = wth (c0.take (i + k)) + 4294967296 ^ i * (v * wth (b.take k)))
      (fun s => match s.tmp 30 with | .sv (.int _ i) => b.length - i.toNat | _ => 0) ?_ ?_
    · refine ⟨i0, i1, i5, i21, i22, i23, rfl, rfl, rfl, rfl, c0, 0, 0, iO, rfl, rfl, hc0, hok0, by omega, by omega, fun _ _ => rfl, ?_⟩
      simp [wth]
    rintro s2 ⟨j0, j1, j5, j21, j22, j23, j6, j7, j28, j29, c, k, carry, jO, j30, j8, hc, hok, hk, hcar, hsame, hw⟩
    by_cases hend2 : k = b.length
    · subst hend2
      repeat (first | (simp only [go_sem, j0, j1, j5, j21, j22, j23, j6, j7, j28, j29, jO, j30, j8]) | (simp (disch := (first | omega | (simp only [AL, List.length_map]; omega))) only [AR, AL, ifT, ifF, take_all, List.length_cons, List.length_nil, Int.reduceToNat, Int.reducePow, Nat.reducePow, j0, j1, j5, j21, j22, j23, j6, j7, j28, j29, jO, j30, j8]) | (refine wk_intro (by kernel_rfl) ?_) | (refine vp_draw (l := []) (by kernel_rfl) ?_))
      refine ⟨⟨c.set (i + b.length) carry, i + 1, rfl, rfl, by rw [List.length_set]; exact hc, okL_set hok _ _ hcar, by omega, ?_⟩, by omega⟩
      rw [show i + 1 + b.length = i + b.length + 1 by omega, wth_set_take (by omega), hw, hv, wth_take_succ, hvv, List.take_of_length_le (Nat.le_refl _)]
      rw [Nat.add_mul, Nat.mul_assoc]
    · have h2 := getD_lt hb k
      have h3 := getD_lt hok (i + k)
      have h4 := limb_mul h1 h2
      have hs := hsame (i + k) (Nat.le_refl _)
      generalize hww : b.getD k 0 = w at *
      generalize hu : c.getD (i + k) 0 = u at *
      generalize hp : v * w = p at *
      repeat (first | (simp only [go_sem, j0, j1, j5, j21, j22, j23, j6, j7, j28, j29, jO, j30, j8, hww, hu, hp]) | (simp (disch := (first | omega | (simp only [AL, List.length_map]; omega))) only [AR, AL, ifT, ifF, take_all, List.length_cons, List.length_nil, Int.reduceToNat, Int.reducePow, Nat.reducePow, j0, j1, j5, j21, j22, j23, j6, j7, j28, j29, jO, j30, j8, hww, hu, hp]) | (refine wk_intro (by kernel_rfl) ?_) | (refine vp_draw (l := []) (by kernel_rfl) ?_))
      refine ⟨⟨c.set (i + k) ((carry + (p + u)) % 4294967296), k + 1, (carry + (p + u)) / 4294967296, rfl, rfl, rfl, by rw [List.length_set]; exact hc, okL_set hok _ _ (by omega), by omega, by omega, fun j hj => (getD_set_ne (by omega)).trans (hsame j (by omega)), ?_⟩, by omega⟩
      rw [show i + (k + 1) = i + k + 1 by omega, wth_set_take (by omega), wth_take_succ c0, ← hs, wth_take_succ b, hww]
      generalize hx : carry + (p + u) = x
      have e1 : 4294967296 ^ (i + k) * (x % 4294967296) + 4294967296 ^ (i + k + 1) * (x / 4294967296) = 4294967296 ^ (i + k) * x := by
        rw [Nat.pow_succ, Nat.mul_assoc, ← Nat.mul_add, Nat.mod_add_div]
      have e2 : 4294967296 ^ (i + k) * x = 4294967296 ^ (i + k) * carry + (4294967296 ^ (i + k) * p + 4294967296 ^ (i + k) * u) := by
        rw [← hx, Nat.mul_add, Nat.mul_add]
      have e3 : 4294967296 ^ i * (v * (wth (b.take k) + 4294967296 ^ k * w)) = 4294967296 ^ i * (v * wth (b.take k)) + 4294967296 ^ (i + k) * p := by
        rw [Nat.mul_add, Nat.mul_add, ← hp, Nat.pow_add, Nat.mul_left_comm v, ← Nat.mul_assoc (4294967296 ^ i) (4294967296 ^ k)]
      rw [e3]
      omega
end Go.Proofs.YticocojomlfhgaaGreatDoor
namespace Go.Proofs.YticocojomlfhgaaGreatDoor
open Go.Ev
theorem wth_drop {xs : List Nat} {i : Nat} (h : i < xs.length) : wth (xs.drop i) = xs.getD i 0 + 4294967296 * wth (xs.drop (i + 1)) := by
  rw [List.drop_eq_getElem_cons h, wth_cons, List.getD_eq_getElem?_getD, List.getElem?_eq_getElem h]
  rfl
theorem wth_set_drop {xs : List Nat} {i : Nat} (h : i < xs.length) (v : Nat) : wth ((xs.set i v).drop i) = v + 4294967296 * wth (xs.drop (i + 1)) := by
  rw [wth_drop (by rw [List.length_set]; exact h), List.drop_set_of_lt (by omega)]
  simp [List.getD_eq_getElem?_getD, h]
theorem nat_small (xs : List Nat) (b : Nat) (hx : okL xs) (hl : xs.length ≤ 1073741824) (hb0 : 0 < b) (hb : b < 4294967296) :
    Go.Ev.Fn CX 128 [natV xs, limb b] (.tup [natV (lim (wth xs / b)), limb (wth xs % b)]) := by
  refine Go.Ev.Fn.intro (fn := Tryz.f128) (body := (Tryz.f128).body.get!) (by kernel_rfl) (by kernel_rfl) (by kernel_rfl) (fun _ => rfl) (Nat.le_of_ble_eq_true (by kernel_rfl)) ?_; unfold Tryz.f128; simp only [Option.get!_some]
  repeat (first | (simp only [go_sem]) | (simp (disch := (first | omega | (simp only [AL, List.length_map]; omega))) only [AR, AL, ifT, ifF, take_all, List.length_cons, List.length_nil, Int.reduceToNat, Int.reducePow, Nat.reducePow]) | (refine wk_intro (by kernel_rfl) ?_))
  refine vp_loop_inv (fun s' => s'.tmp 0 = .sv (natV xs) ∧ s'.tmp 1 = .sv (limb b) ∧ s'.tmp 6 = .ref 11 0 1 0 xs.length ∧
      ∃ q : List Nat, ∃ i rest : Nat, s'.obj 11 0 = some (q.map limb) ∧ s'.tmp 8 = .sv (.int .i64 ((i : Int) - 1)) ∧ s'.tmp 7 = .sv (limb rest) ∧ q.length = xs.length ∧ okL q ∧ i ≤ xs.length ∧ rest < b ∧
        wth (xs.drop i) = b * wth (q.drop i) + rest)
    (fun s => match s.tmp 8 with | .sv (.int _ i) => (i + 1).toNat | _ => 0) ?_ ?_
  · refine ⟨rfl, rfl, rfl, List.replicate xs.length 0, xs.length, 0, rfl, rfl, rfl, List.length_replicate .., okL_replicate _, by omega, hb0, ?_⟩
    rw [List.drop_length, List.drop_of_length_le (by simp)]
    simp [wth]
  rintro s' ⟨i0, i1, i6, q, i, rest, iO, i8, i7, hq, hok, hi, hrest, hv⟩
  rcases Nat.eq_zero_or_pos i with rfl | hi0
  · repeat (first | (simp only [go_sem, i0, i1, i6, iO, i8, i7]) | (simp (disch := (first | omega | (simp only [AL, List.length_map]; omega))) only [AR, AL, ifT, ifF, take_all, List.length_cons, List.length_nil, Int.reduceToNat, Int.reducePow, Nat.reducePow, i0, i1, i6, iO, i8, i7]) | (refine wk_intro (by kernel_rfl) ?_) | (refine vp_draw (l := []) (by kernel_rfl) ?_))
    rw [List.drop_zero, List.drop_zero] at hv
    have e1 : wth xs / b = wth q := by
      rw [hv, Nat.mul_add_div hb0, Nat.div_eq_of_lt hrest, Nat.add_zero]
    have e2 : wth xs % b = rest := by
      rw [hv, Nat.mul_add_mod, Nat.mod_eq_of_lt hrest]
    refine vf_of (fn_natV (nat_trim q hok (by omega)) hq) ?_; repeat (first | (simp only [go_sem, i0, i1, i6, iO, i8, i7]) | (simp (disch := (first | omega | (simp only [AL, List.length_map]; omega))) only [AR, AL, ifT, ifF, take_all, List.length_cons, List.length_nil, Int.reduceToNat, Int.reducePow, Nat.reducePow, i0, i1, i6, iO, i8, i7]) | (refine wk_intro (by kernel_rfl) ?_) | (refine vp_draw (l := []) (by kernel_rfl) ?_))
    rw [e1, e2]
    exact ⟨rfl, rfl⟩
  · have h1 := getD_lt hx (i - 1)
    have h5 : (((i - 1 : Nat) : Int)) = (i : Int) - 1 := by omega
    repeat (first | (simp only [go_sem, i0, i1, i6, iO, i8, i7]) | (simp (disch := (first | omega | (simp only [AL, List.length_map]; omega))) only [AR, AL, ifT, ifF, take_all, List.length_cons, List.length_nil, Int.reduceToNat, Int.reducePow, Nat.reducePow, i0, i1, i6, iO, i8, i7]) | (refine wk_intro (by kernel_rfl) ?_) | (refine vp_draw (l := []) (by kernel_rfl) ?_))
    have hq0 : (rest * 4294967296 + xs.getD (i - 1) 0) / b < 4294967296 := by
      rw [Nat.div_lt_iff_lt_mul hb0]
      have : (rest + 1) * 4294967296 ≤ b * 4294967296 := Nat.mul_le_mul_right _ hrest
      omega
    have hr0 := Nat.mod_lt (rest * 4294967296 + xs.getD (i - 1) 0) hb0
    refine vf_of (bits_Div32 rest (xs.getD (i - 1) 0) b hrest hb h1) ?_; repeat (first | (simp only [go_sem, i0, i1, i6, iO, i8, i7]) | (simp (disch := (first | omega | (simp only [AL, List.length_map]; omega))) only [AR, AL, ifT, ifF, take_all, List.length_cons, List.length_nil, Int.reduceToNat, Int.reducePow, Nat.reducePow, i0, i1, i6, iO, i8, i7]) | (refine wk_intro (by kernel_rfl) ?_) | (refine vp_draw (l := []) (by kernel_rfl) ?_))
    refine ⟨⟨q.set (i - 1) ((rest * 4294967296 + xs.getD (i - 1) 0) / b), i - 1, (rest * 4294967296 + xs.getD (i - 1) 0) % b, rfl, rfl, rfl, by rw [List.length_set]; exact hq, okL_set hok _ _ hq0, by omega, hr0, ?_⟩, by omega⟩
    rw [wth_set_drop (by omega), wth_drop (by omega), show i - 1 + 1 = i by omega, hv]
    have e1 := Nat.div_add_mod (rest * 4294967296 + xs.getD (i - 1) 0) b
    generalize (rest * 4294967296 + xs.getD (i - 1) 0) / b = Q at *
    generalize (rest * 4294967296 + xs.getD (i - 1) 0) % b = R at *
    rw [Nat.mul_add b, ← Nat.mul_assoc b, Nat.mul_comm b 4294967296, Nat.mul_assoc]
    omega
end Go.Proofs.YticocojomlfhgaaGreatDoor
namespace Go.Proofs.YticocojomlfhgaaGreatDoor
open Go.Ev
def guessN (u v : Nat) : Nat := min 4294967295 (u / v)
theorem guess_le (u v : Nat) : guessN u v ≤ 4294967295 := Nat.min_le_left _ _
theorem guess_ge {u v q : Nat} (hv : 0 < v) (hq : q ≤ 4294967295) (h : q * v ≤ u) : q ≤ guessN u v :=
  Nat.le_min.2 ⟨hq, (Nat.le_div_iff_mul_le hv).2 h⟩
theorem guess_lt {u v q : Nat} (hv : 0 < v) (h : u < q * v) : guessN u v ≤ q - 1 :=
  Nat.le_trans (Nat.min_le_right _ _) (Nat.le_sub_one_of_lt ((Nat.div_lt_iff_lt_mul hv).2 h))
theorem guess_parts {q r b1 b2 X low U V : Nat} (hU : X * 4294967296 + low = U) (hV : b1 * 4294967296 + b2 = V) (e : q * b1 + r = X) :
    q * V + (r * 4294967296 + low) = U + q * b2 := by
  subst hU hV e
  rw [Nat.mul_add, Nat.add_mul, ← Nat.mul_assoc]
  generalize q * b1 = a
  generalize q * b2 = b
  omega
theorem guess_first {b1 b2 X low U V Q R : Nat} (hU : X * 4294967296 + low = U) (hV : b1 * 4294967296 + b2 = V) (hlo : low < 4294967296) (hV0 : 0 < V) (hQR : b1 * Q + R = X) (hR : R < b1) : guessN U V ≤ Q := by
  refine guess_lt (q := Q + 1) hV0 ?_
  have e := guess_parts (q := Q) (r := R) hU hV (by rw [Nat.mul_comm]; exact hQR)
  rw [Nat.add_mul]
  generalize Q * V = a at *
  generalize Q * b2 = b at *
  generalize b1 * Q = c at *
  omega
theorem guess_step {q r b1 X : Nat} (e : q * b1 + r = X) (h : 1 ≤ q) : (q - 1) * b1 + (r + b1) = X := by
  obtain ⟨q', rfl⟩ : ∃ q', q = q' + 1 := ⟨q - 1, by omega⟩
  rw [Nat.add_sub_cancel]
  rw [Nat.add_mul, Nat.one_mul] at e
  omega
theorem guess_end {q r b1 b2 X low U V : Nat} (hU : X * 4294967296 + low = U) (hV : b1 * 4294967296 + b2 = V) (hV0 : 0 < V) (hb2 : b2 < 4294967296) (e : q * b1 + r = X) (hq : q ≤ 4294967295)
    (h : 4294967296 ≤ r ∨ q * b2 ≤ r * 4294967296 + low) : q ≤ guessN U V := by
  refine guess_ge hV0 hq ?_
  have e1 := guess_parts hU hV e
  have h6 : q * b2 ≤ 18446744065119617025 := limb_mul (by omega) hb2
  generalize q * V = a at *
  generalize q * b2 = b at *
  omega
theorem guess_more {q r b1 b2 X low U V : Nat} (hU : X * 4294967296 + low = U) (hV : b1 * 4294967296 + b2 = V) (hV0 : 0 < V) (e : q * b1 + r = X)
    (h : r * 4294967296 + low < q * b2) : guessN U V ≤ q - 1 := by
  refine guess_lt hV0 ?_
  have e1 := guess_parts hU hV e
  generalize q * V = a at *
  generalize q * b2 = b at *
  omega
theorem guess_small {q r b1 X high mid : Nat} (hX : high * 4294967296 + mid = X) (h1 : high ≤ b1) (hm : mid < 4294967296) (e : q * b1 + r = X) (hr : 4294967296 ≤ r) : q ≤ 4294967295 := by
  rcases Nat.lt_or_ge 4294967295 q with h3 | h3
  · have h4 : 4294967296 * b1 ≤ q * b1 := Nat.mul_le_mul_right _ h3
    generalize q * b1 = a at *
    omega
  · exact h3
theorem guess_fn (high mid low b1 b2 : Nat) (h1 : high ≤ b1) (hb : b1 < 4294967296) (hb' : 2147483648 ≤ b1) (hm : mid < 4294967296) (hlo : low < 4294967296) (hb2 : b2 < 4294967296) :
    Go.Ev.Fn CX 146 [limb high, limb mid, limb low, limb b1, limb b2] (.int .u64 (guessN ((high * 4294967296 + mid) * 4294967296 + low) (b1 * 4294967296 + b2))) := by
  refine Go.Ev.Fn.intro (fn := Tryz.f146) (body := (Tryz.f146).body.get!) (by kernel_rfl) (by kernel_rfl) (by kernel_rfl) (fun _ => rfl) (Nat.le_of_ble_eq_true (by kernel_rfl)) ?_; unfold Tryz.f146; simp only [Option.get!_some]
  have hX : ∃ X, high * 4294967296 + mid = X := ⟨_, rfl⟩
  obtain ⟨X, hX⟩ := hX
  have hX1 : X < 18446744073709551616 := by omega
  rw [hX]
  have hU : ∃ U, X * 4294967296 + low = U := ⟨_, rfl⟩
  obtain ⟨U, hU⟩ := hU
  have hV : ∃ V, b1 * 4294967296 + b2 = V := ⟨_, rfl⟩
  obtain ⟨V, hV⟩ := hV
  have hV0 : 0 < V := by omega
  rw [hU, hV]
  have hq0 : X / b1 ≤ 4294967297 := by
    have h : X < 4294967298 * b1 := by omega
    exact Nat.le_of_lt_succ ((Nat.div_lt_iff_lt_mul (k := b1) (by omega)).2 h)
  have hr0 : X % b1 < b1 := Nat.mod_lt _ (by omega)
  have hqr := Nat.div_add_mod X b1
  generalize hQ : X / b1 = Q at *
  generalize hR : X % b1 = R at *
  have hT0 := guess_first hU hV hlo hV0 hqr hr0
  have hT1 := guess_le U V
  generalize hT : guessN U V = T at *
  repeat (first | (simp only [go_sem, hX, hQ, hR]) | (simp (disch := (first | omega | (simp only [AL, List.length_map]; omega))) only [AR, AL, ifT, ifF, take_all, List.length_cons, List.length_nil, Int.reduceToNat, Int.reducePow, Nat.reducePow, hX, hQ, hR]) | (refine wk_intro (by kernel_rfl) ?_) | (refine vp_draw (l := []) (by kernel_rfl) ?_))
  refine vp_loop_inv (fun s' => s'.tmp 2 = .sv (limb low) ∧ s'.tmp 3 = .sv (limb b1) ∧ s'.tmp 4 = .sv (limb b2) ∧
      ∃ q r : Nat, s'.tmp 12 = .sv (.int .u64 q) ∧ s'.tmp 13 = .sv (.int .u64 r) ∧ q * b1 + r = X ∧ r < 4294967296 ∧ T ≤ q ∧ q ≤ 4294967297)
    (fun s => match s.tmp 12 with | .sv (.int _ i) => i.toNat | _ => 0) ?_ ?_
  · exact ⟨rfl, rfl, rfl, Q, R, rfl, rfl, by rw [Nat.mul_comm]; exact hqr, by omega, hT0, hq0⟩
  rintro s' ⟨i2, i3, i4, q, r, i12, i13, e, hr, hTq, hq⟩
  have fin : 1 ≤ q → 4294967296 ≤ r + b1 → T ≤ q - 1 → q - 1 = T := by
    intro hq1 hrB hl
    have e2 := guess_step e hq1
    have := guess_end hU hV hV0 hb2 e2 (guess_small hX h1 hm e2 hrB) (.inl hrB)
    rw [hT] at this
    omega
  by_cases hqB : 4294967296 ≤ q
  · have e2 := guess_step e (by omega)
    by_cases hrB : 4294967296 ≤ r + b1
    · have h5 := fin (by omega) hrB (by omega)
      clear fin e e2 hU hV hqr
      repeat (first | (simp only [go_sem, i2, i3, i4, i12, i13]) | (simp (disch := (first | omega | (simp only [AL, List.length_map]; omega))) only [AR, AL, ifT, ifF, take_all, List.length_cons, List.length_nil, Int.reduceToNat, Int.reducePow, Nat.reducePow, i2, i3, i4, i12, i13]) | (refine wk_intro (by kernel_rfl) ?_) | (refine vp_draw (l := []) (by kernel_rfl) ?_))
      rw [h5]
    · clear fin e hU hV hqr
      repeat (first | (simp only [go_sem, i2, i3, i4, i12, i13]) | (simp (disch := (first | omega | (simp only [AL, List.length_map]; omega))) only [AR, AL, ifT, ifF, take_all, List.length_cons, List.length_nil, Int.reduceToNat, Int.reducePow, Nat.reducePow, i2, i3, i4, i12, i13]) | (refine wk_intro (by kernel_rfl) ?_) | (refine vp_draw (l := []) (by kernel_rfl) ?_))
      exact ⟨⟨q - 1, r + b1, rfl, rfl, e2, by omega, by omega, by omega⟩, by omega⟩
  · have hp : q * b2 ≤ 18446744065119617025 := limb_mul (by omega) hb2
    have hub' := guess_end hU hV hV0 hb2 e (by omega)
    have hlb' := guess_more hU hV hV0 e
    rw [hT] at hub' hlb'
    generalize hP : q * b2 = P at *
    have hC : ∃ C, r * 4294967296 + low = C := ⟨_, rfl⟩
    obtain ⟨C, hC⟩ := hC
    have hj : bitsSV .or .u64 ((r * 4294967296 : Nat) : Int) (low : Int) = some (.int .u64 (C : Int)) := by
      rw [b_join (by omega) hlo, hC]
    rw [hC] at hub' hlb'
    by_cases hc : C < P
    · have hq1 : 1 ≤ q := by
        rcases Nat.eq_zero_or_pos q with rfl | h
        · rw [Nat.zero_mul] at hP; omega
        · exact h
      have hl := hlb' hc
      have e2 := guess_step e hq1
      by_cases hrB : 4294967296 ≤ r + b1
      · have h5 := fin hq1 hrB hl
        clear fin hub' hlb' e e2 hU hV hqr hC
        repeat (first | (simp only [go_sem, i2, i3, i4, i12, i13, hP, hj]) | (simp (disch := (first | omega | (simp only [AL, List.length_map]; omega))) only [AR, AL, ifT, ifF, take_all, List.length_cons, List.length_nil, Int.reduceToNat, Int.reducePow, Nat.reducePow, i2, i3, i4, i12, i13, hP, hj]) | (refine wk_intro (by kernel_rfl) ?_) | (refine vp_draw (l := []) (by kernel_rfl) ?_))
        rw [h5]
      · clear fin hub' hlb' e hU hV hqr hC
        repeat (first | (simp only [go_sem, i2, i3, i4, i12, i13, hP, hj]) | (simp (disch := (first | omega | (simp only [AL, List.length_map]; omega))) only [AR, AL, ifT, ifF, take_all, List.length_cons, List.length_nil, Int.reduceToNat, Int.reducePow, Nat.reducePow, i2, i3, i4, i12, i13, hP, hj]) | (refine wk_intro (by kernel_rfl) ?_) | (refine vp_draw (l := []) (by kernel_rfl) ?_))
        exact ⟨⟨q - 1, r + b1, rfl, rfl, e2, by omega, by omega, by omega⟩, by omega⟩
    · have h5 := hub' (.inr (by omega))
      clear fin hub' hlb' e hU hV hqr hC
      repeat (first | (simp only [go_sem, i2, i3, i4, i12, i13, hP, hj]) | (simp (disch := (first | omega | (simp only [AL, List.length_map]; omega))) only [AR, AL, ifT, ifF, take_all, List.length_cons, List.length_nil, Int.reduceToNat, Int.reducePow, Nat.reducePow, i2, i3, i4, i12, i13, hP, hj]) | (refine wk_intro (by kernel_rfl) ?_) | (refine vp_draw (l := []) (by kernel_rfl) ?_))
      rw [Nat.le_antisymm h5 hTq]
end Go.Proofs.YticocojomlfhgaaGreatDoor
namespace Go.Proofs.YticocojomlfhgaaGreatDoor
open Go.Ev
def blen (x : Nat) : Nat := if x = 0 then 0 else x.log2 + 1
def tabOk (s : ByteArray) : Bool := (List.range 256).all fun i => match s[i]? with
  | some b => b.toNat == blen i
  | none => false
theorem vo_index_tab {C : Cx} {soft : Bool} {ops : Array Oper} {l : List Oper} {st : St} {Q : St → Prop} {dst : Option Nat} {ty t : TypeId} {pos : String} {af : Array Edge} {s : ByteArray} {x : Operand} {k : IntKind} {i : Nat}
    (hu : C.P.underlying t = some .string) (hs : tabOk s = true) (hx : st.eval x = .sv (.int k (i : Int))) (hi : i < 256) (h : WO C soft ops l (st.putO dst (.sv (.int .u8 (blen i : Nat)))) Q) :
    WO C soft ops (⟨dst, .index t (.const (.string s)) x, ty, pos, af, none⟩ :: l) st Q := by
  rw [vo_index]
  have h1 := List.all_eq_true.1 hs i (List.mem_range.2 hi)
  have e : val C.P st (.index t (.const (.string s)) x) = some (.sv (.int .u8 (blen i : Nat))) := by
    have e0 : st.eval (.const (.string s)) = .sv (.str s) := rfl
    simp only [val, hx, e0, natTV, hu]
    rw [if_pos (by omega)]
    simp only [Int.toNat_natCast]
    split at h1
    · rename_i b hb
      rw [hb]
      simp only
      rw [← eq_of_beq h1]
    · cases h1
  rw [e]
  exact h
theorem blen_shift {x k : Nat} (h : 2 ^ k ≤ x) : blen x = k + blen (x / 2 ^ k) := by
  have hp : 0 < 2 ^ k := Nat.pow_pos (by omega)
  have h0 : x ≠ 0 := by omega
  have h1 : x / 2 ^ k ≠ 0 := by
    have := Nat.div_pos h hp
    omega
  unfold blen
  rw [if_neg h0, if_neg h1]
  have e : x.log2 = k + (x / 2 ^ k).log2 := by
    have h2 := (Nat.le_log2 h0).2 h
    refine (Nat.log2_eq_iff h0).2 ⟨?_, ?_⟩
    · have := Nat.log2_self_le h1
      rw [Nat.pow_add]
      calc 2 ^ k * 2 ^ (x / 2 ^ k).log2 ≤ 2 ^ k * (x / 2 ^ k) := Nat.mul_le_mul_left _ this
        _ ≤ x := Nat.mul_div_le _ _
    · have := Nat.lt_log2_self (n := x / 2 ^ k)
      rw [Nat.div_lt_iff_lt_mul hp] at this
      rw [show k + (x / 2 ^ k).log2 + 1 = (x / 2 ^ k).log2 + 1 + k by omega, Nat.pow_add]
      exact this
  omega
theorem blen_le {x k : Nat} (h : x < 2 ^ k) : blen x ≤ k := by
  unfold blen
  split
  · omega
  · rename_i h0
    have := (Nat.log2_lt h0).2 h
    omega
theorem bits_Len32 (x : Nat) (hx : x < 4294967296) : Go.Ev.Fn CX 160 [limb x] (.int .i64 (blen x : Nat)) := by
  refine Go.Ev.Fn.intro (fn := Tryz.f160) (body := (Tryz.f160).body.get!) (by kernel_rfl) (by kernel_rfl) (by kernel_rfl) (fun _ => rfl) (Nat.le_of_ble_eq_true (by kernel_rfl)) ?_; unfold Tryz.f160; simp only [Option.get!_some]
  repeat (first | (simp only [go_sem]) | (simp (disch := (first | omega | (simp only [AL, List.length_map]; omega))) only [AR, AL, ifT, ifF, take_all, List.length_cons, List.length_nil, Int.reduceToNat, Int.reducePow, Nat.reducePow]) | (refine wk_intro (by kernel_rfl) ?_) | (refine vp_draw (l := []) (by kernel_rfl) ?_))
  refine vc_cut (Mid := fun s => ∃ y m : Nat, s.tmp 0 = .sv (limb y) ∧ s.tmp 2 = .sv (.int .i64 m) ∧ blen x = m + blen y ∧ y < 65536 ∧ m ≤ 16) ?_ ?_
  · by_cases h : 65536 ≤ x
    · repeat (first | (simp only [go_sem]) | (simp (disch := (first | omega | (simp only [AL, List.length_map]; omega))) only [AR, AL, ifT, ifF, take_all, List.length_cons, List.length_nil, Int.reduceToNat, Int.reducePow, Nat.reducePow]) | (refine wk_intro (by kernel_rfl) ?_) | (refine vp_draw (l := []) (by kernel_rfl) ?_))
      exact ⟨x / 65536, 16, rfl, rfl, blen_shift (k := 16) h, by omega, by omega⟩
    · repeat (first | (simp only [go_sem]) | (simp (disch := (first | omega | (simp only [AL, List.length_map]; omega))) only [AR, AL, ifT, ifF, take_all, List.length_cons, List.length_nil, Int.reduceToNat, Int.reducePow, Nat.reducePow]) | (refine wk_intro (by kernel_rfl) ?_) | (refine vp_draw (l := []) (by kernel_rfl) ?_))
      exact ⟨x, 0, rfl, rfl, by omega, by omega, by omega⟩
  rintro s ⟨y, m, g0, g2, hb, hy, hm⟩
  repeat (first | (simp only [go_sem, g0, g2]) | (simp (disch := (first | omega | (simp only [AL, List.length_map]; omega))) only [AR, AL, ifT, ifF, take_all, List.length_cons, List.length_nil, Int.reduceToNat, Int.reducePow, Nat.reducePow, g0, g2]) | (refine wk_intro (by kernel_rfl) ?_) | (refine vp_draw (l := []) (by kernel_rfl) ?_))
  refine vc_cut (Mid := fun s => ∃ y m : Nat, s.tmp 0 = .sv (limb y) ∧ s.tmp 2 = .sv (.int .i64 m) ∧ blen x = m + blen y ∧ y < 256 ∧ m ≤ 24) ?_ ?_
  · by_cases h : 256 ≤ y
    · repeat (first | (simp only [go_sem, g0, g2]) | (simp (disch := (first | omega | (simp only [AL, List.length_map]; omega))) only [AR, AL, ifT, ifF, take_all, List.length_cons, List.length_nil, Int.reduceToNat, Int.reducePow, Nat.reducePow, g0, g2]) | (refine wk_intro (by kernel_rfl) ?_) | (refine vp_draw (l := []) (by kernel_rfl) ?_))
      exact ⟨y / 256, m + 8, rfl, rfl, by rw [hb, blen_shift (k := 8) h, Nat.add_assoc], by omega, by omega⟩
    · repeat (first | (simp only [go_sem, g0, g2]) | (simp (disch := (first | omega | (simp only [AL, List.length_map]; omega))) only [AR, AL, ifT, ifF, take_all, List.length_cons, List.length_nil, Int.reduceToNat, Int.reducePow, Nat.reducePow, g0, g2]) | (refine wk_intro (by kernel_rfl) ?_) | (refine vp_draw (l := []) (by kernel_rfl) ?_))
      exact ⟨y, m, rfl, rfl, hb, by omega, by omega⟩
  clear g0 g2 hb hy hm
  rintro s ⟨y, m, g0, g2, hb, hy, hm⟩
  repeat (first | (simp only [go_sem, g0, g2]) | (simp (disch := (first | omega | (simp only [AL, List.length_map]; omega))) only [AR, AL, ifT, ifF, take_all, List.length_cons, List.length_nil, Int.reduceToNat, Int.reducePow, Nat.reducePow, g0, g2]) | (refine wk_intro (by kernel_rfl) ?_) | (refine vp_draw (l := []) (by kernel_rfl) ?_))
  refine vo_index_tab (i := y) (by kernel_rfl) (by kernel_rfl) rfl hy ?_
  have hbl : blen y ≤ 8 := blen_le (k := 8) hy
  repeat (first | (simp only [go_sem, g0, g2]) | (simp (disch := (first | omega | (simp only [AL, List.length_map]; omega))) only [AR, AL, ifT, ifF, take_all, List.length_cons, List.length_nil, Int.reduceToNat, Int.reducePow, Nat.reducePow, g0, g2]) | (refine wk_intro (by kernel_rfl) ?_) | (refine vp_draw (l := []) (by kernel_rfl) ?_))
  rw [hb]
theorem bits_LeadingZeros32 (x : Nat) (hx : x < 4294967296) : Go.Ev.Fn CX 144 [limb x] (.int .i64 ((32 - blen x : Nat) : Int)) := by
  refine Go.Ev.Fn.intro (fn := Tryz.f144) (body := (Tryz.f144).body.get!) (by kernel_rfl) (by kernel_rfl) (by kernel_rfl) (fun _ => rfl) (Nat.le_of_ble_eq_true (by kernel_rfl)) ?_; unfold Tryz.f144; simp only [Option.get!_some]
  have hbl : blen x ≤ 32 := blen_le (k := 32) hx
  repeat (first | (simp only [go_sem]) | (simp (disch := (first | omega | (simp only [AL, List.length_map]; omega))) only [AR, AL, ifT, ifF, take_all, List.length_cons, List.length_nil, Int.reduceToNat, Int.reducePow, Nat.reducePow]) | (refine wk_intro (by kernel_rfl) ?_) | (refine vp_draw (l := []) (by kernel_rfl) ?_))
  refine vf_of (bits_Len32 x hx) ?_; repeat (first | (simp only [go_sem]) | (simp (disch := (first | omega | (simp only [AL, List.length_map]; omega))) only [AR, AL, ifT, ifF, take_all, List.length_cons, List.length_nil, Int.reduceToNat, Int.reducePow, Nat.reducePow]) | (refine wk_intro (by kernel_rfl) ?_) | (refine vp_draw (l := []) (by kernel_rfl) ?_))
  rw [Int.natCast_sub hbl]
  rfl
end Go.Proofs.YticocojomlfhgaaGreatDoor
namespace Go.Proofs.YticocojomlfhgaaGreatDoor
open Go.Ev
def seg (c : List Nat) (i k : Nat) : Nat := wth ((c.drop i).take k)
theorem seg_zero (c : List Nat) (i : Nat) : seg c i 0 = 0 := by simp [seg, wth]
theorem seg_succ (c : List Nat) (i k : Nat) : seg c i (k + 1) = seg c i k + 4294967296 ^ k * c.getD (i + k) 0 := by
  unfold seg
  rw [wth_take_succ]
  congr 2
  simp [List.getD_eq_getElem?_getD, List.getElem?_drop]
theorem seg_set_ge (c : List Nat) {i k j v : Nat} (h : i + k ≤ j) : seg (c.set j v) i k = seg c i k := by
  unfold seg
  congr 1
  refine List.ext_getElem? fun n => ?_
  rw [List.getElem?_take, List.getElem?_take]
  split
  · rw [List.getElem?_drop, List.getElem?_drop, List.getElem?_set_ne (by omega)]
  · rfl
theorem seg_lt {c : List Nat} (h : okL c) (i k : Nat) : seg c i k < 4294967296 ^ k := by
  unfold seg
  have h1 := wth_lt (okL_take (okL_drop h i) k)
  refine Nat.lt_of_lt_of_le h1 (Nat.pow_le_pow_right (by omega) ?_)
  rw [List.length_take]
  exact Nat.min_le_left _ _
theorem seg_set_self (c : List Nat) {i k v : Nat} (h : i + k < c.length) : seg (c.set (i + k) v) i (k + 1) = seg c i k + 4294967296 ^ k * v := by
  rw [seg_succ, seg_set_ge c (Nat.le_refl _), getD_set_self h]
theorem exp_takes {s : St} {cs ds : List SV} {o1 n1 o2 n2 : Nat} {x : SV} : expOf s [.impref cs 1 o1 n1, .impref ds 1 o2 n2, .sv x] = [s.obj 1000000 0, s.obj 1000001 0, none] := rfl
theorem sub_limb {u y w : Nat} (hu : u < 4294967296) (hy : y < 4294967296) (hw : w ≤ 1) :
    ((u + (4294967296 - y)) % 4294967296 + (4294967296 - w)) % 4294967296 + y + w = u + 4294967296 * (if u < y + w then 1 else 0) := by
  split <;> omega
def Takes (us ds : List Nat) (i x : Nat) (us' : List Nat) (b : Bool) : Prop :=
  us'.length = us.length ∧ okL us' ∧ (∀ j, j < i ∨ i + ds.length < j → us'.getD j 0 = us.getD j 0) ∧
    (x * wth ds ≤ seg us i (ds.length + 1) → b = false ∧ seg us' i (ds.length + 1) + x * wth ds = seg us i (ds.length + 1)) ∧
    (seg us i (ds.length + 1) < x * wth ds → x * wth ds ≤ seg us i (ds.length + 1) + wth ds → b = true ∧ seg us' i (ds.length + 1) + x * wth ds = seg us i (ds.length + 1) + wth ds)
theorem takes_fn (us ds : List Nat) (i x : Nat) (hu : okL us) (hd : okL ds) (hi : i + ds.length < us.length) (hul : us.length ≤ 2147483648) (hx : x ≤ 4294967295) :
    ∃ r exps, (∃ us' b, Takes us ds i x us' b ∧ r = .bool b ∧ exps = [some (us'.map limb), some (ds.map limb), none]) ∧
      FnI CX 147 [.impref (us.map limb) 1 i (ds.length + 1), .impref (ds.map limb) 1 0 ds.length, .sv (.int .u64 x)] r exps := by
  refine FnI_of (fn := Tryz.f147) (body := (Tryz.f147).body.get!) (by kernel_rfl) (by kernel_rfl) (by kernel_rfl) (fun _ => rfl) (Nat.le_of_ble_eq_true (by kernel_rfl)) ?_
  unfold Tryz.f147
  simp only [Option.get!_some, exp_takes]
  repeat (first | (simp only [go_sem, N0]) | (simp (disch := (first | omega | (simp only [AL, List.length_map]; omega))) only [AR, AL, ifT, ifF, take_all, List.length_cons, List.length_nil, Int.reduceToNat, Int.reducePow, Nat.reducePow, N0]) | (refine wk_intro (by kernel_rfl) ?_))
  refine vp_loop_inv (fun s' => s'.tmp 0 = .ref 1000000 0 1 i (ds.length + 1) ∧ s'.tmp 1 = .ref 1000001 0 1 0 ds.length ∧ s'.tmp 2 = .sv (.int .u64 x) ∧ s'.obj 1000001 0 = some (ds.map limb) ∧ s'.tmp 14 = .ref 1000001 0 1 0 ds.length ∧ s'.tmp 15 = .sv (.int .i64 ds.length) ∧
      ∃ c : List Nat, ∃ k carry w : Nat, s'.obj 1000000 0 = some (c.map limb) ∧ s'.tmp 16 = .sv (.int .i64 k) ∧ s'.tmp 7 = .sv (.int .u64 carry) ∧ s'.tmp 8 = .sv (limb w) ∧ c.length = us.length ∧ okL c ∧ k ≤ ds.length ∧ carry < 4294967296 ∧ w ≤ 1 ∧
        (∀ j, j < i ∨ i + k ≤ j → c.getD j 0 = us.getD j 0) ∧ seg c i k + x * wth (ds.take k) = seg us i k + 4294967296 ^ k * (carry + w))
    (fun s => match s.tmp 16 with | .sv (.int _ i) => ds.length - i.toNat | _ => 0) ?_ ?_
  · refine ⟨rfl, rfl, rfl, rfl, rfl, rfl, us, 0, 0, 0, rfl, rfl, rfl, rfl, rfl, hu, by omega, by omega, by omega, fun _ _ => rfl, ?_⟩
    simp [seg_zero, wth]
  rintro s' ⟨i0, i1, i2, iD, i14, i15, c, k, carry, w, iO, i16, i7, i8, hc, hok, hk, hcar, hw, hsame, hv⟩
  have e10 : (1000001 : Nat) ≠ 1000000 := by decide
  by_cases hend : k = ds.length
  · subst hend
    have h2 := getD_lt hok (i + ds.length)
    have hs0 := hsame (i + ds.length) (.inr (Nat.le_refl _))
    rw [List.take_of_length_le (Nat.le_refl _)] at hv
    generalize huk : c.getD (i + ds.length) 0 = u at *
    have hsl := sub_limb h2 hcar hw
    repeat (first | (simp only [go_sem, i0, i1, i2, iD, i14, i15, iO, i16, i7, i8, huk]) | (simp (disch := (first | omega | (simp only [AL, List.length_map]; omega))) only [AR, AL, ifT, ifF, take_all, List.length_cons, List.length_nil, Int.reduceToNat, Int.reducePow, Nat.reducePow, i0, i1, i2, iD, i14, i15, iO, i16, i7, i8, huk]) | (refine wk_intro (by kernel_rfl) ?_) | (refine vp_draw (l := []) (by kernel_rfl) ?_))
    refine vf_of (bits_Sub32 u carry w h2 hcar hw) ?_; repeat (first | (simp only [go_sem, i0, i1, i2, iD, i14, i15, iO, i16, i7, i8, huk]) | (simp (disch := (first | omega | (simp only [AL, List.length_map]; omega))) only [AR, AL, ifT, ifF, take_all, List.length_cons, List.length_nil, Int.reduceToNat, Int.reducePow, Nat.reducePow, i0, i1, i2, iD, i14, i15, iO, i16, i7, i8, huk]) | (refine wk_intro (by kernel_rfl) ?_) | (refine vp_draw (l := []) (by kernel_rfl) ?_))
    have hv' : ∃ v, ((u + (4294967296 - carry)) % 4294967296 + (4294967296 - w)) % 4294967296 = v := ⟨_, rfl⟩
    obtain ⟨v, hvv⟩ := hv'
    have hvl : v < 4294967296 := by rw [← hvv]; exact Nat.mod_lt _ (by omega)
    rw [hvv] at hsl ⊢
    have hE : seg (c.set (i + ds.length) v) i (ds.length + 1) + x * wth ds = seg us i (ds.length + 1) + 4294967296 ^ (ds.length + 1) * (if u < carry + w then 1 else 0) := by
      rw [seg_set_self c (by omega), seg_succ us, ← hs0]
      generalize (if u < carry + w then 1 else 0) = w' at *
      have e1 : 4294967296 ^ ds.length * (carry + w) + 4294967296 ^ ds.length * v = 4294967296 ^ ds.length * u + 4294967296 ^ (ds.length + 1) * w' := by
        rw [Nat.pow_succ, Nat.mul_assoc, ← Nat.mul_add, ← Nat.mul_add]
        congr 1
        omega
      omega
    have hc1 : (c.set (i + ds.length) v).length = us.length := by rw [List.length_set]; exact hc
    have hok1 : okL (c.set (i + ds.length) v) := okL_set hok _ _ hvl
    have hsame1 : ∀ j, j < i ∨ i + ds.length < j → (c.set (i + ds.length) v).getD j 0 = us.getD j 0 := fun j hj => (getD_set_ne (by omega)).trans (hsame j (by omega))
    generalize hc1' : c.set (i + ds.length) v = c1 at *
    by_cases hb : u < carry + w
    · rw [if_pos hb] at hE ⊢
      have hgt : seg us i (ds.length + 1) < x * wth ds := by
        have := seg_lt hok1 i (ds.length + 1)
        omega
      clear hv hsl hs0 hb huk hvv hvl hsame hok hc
      repeat (first | (simp only [go_sem, i0, i1, i2, iD, i14, i15, iO, i16, i7, i8]) | (simp (disch := (first | omega | (simp only [AL, List.length_map]; omega))) only [AR, AL, ifT, ifF, take_all, List.length_cons, List.length_nil, Int.reduceToNat, Int.reducePow, Nat.reducePow, i0, i1, i2, iD, i14, i15, iO, i16, i7, i8]) | (refine wk_intro (by kernel_rfl) ?_) | (refine vp_draw (l := []) (by kernel_rfl) ?_))
      refine vp_loop_inv (fun s' => s'.tmp 0 = .ref 1000000 0 1 i (ds.length + 1) ∧ s'.tmp 1 = .ref 1000001 0 1 0 ds.length ∧ s'.obj 1000001 0 = some (ds.map limb) ∧ s'.tmp 62 = .ref 1000001 0 1 0 ds.length ∧ s'.tmp 63 = .sv (.int .i64 ds.length) ∧
          ∃ c2 : List Nat, ∃ k more : Nat, s'.obj 1000000 0 = some (c2.map limb) ∧ s'.tmp 64 = .sv (.int .i64 k) ∧ s'.tmp 11 = .sv (limb more) ∧ c2.length = us.length ∧ okL c2 ∧ k ≤ ds.length ∧ more ≤ 1 ∧
            (∀ j, j < i ∨ i + k ≤ j → c2.getD j 0 = c1.getD j 0) ∧ seg c2 i k + 4294967296 ^ k * more = seg c1 i k + wth (ds.take k))
        (fun s => match s.tmp 64 with | .sv (.int _ i) => ds.length - i.toNat | _ => 0) ?_ ?_
      · refine ⟨i0, i1, iD, rfl, rfl, c1, 0, 0, rfl, rfl, rfl, hc1, hok1, by omega, by omega, fun _ _ => rfl, ?_⟩
        · simp [seg_zero, wth]
      clear i0 i1 i2 iD i14 i15 iO i16 i7 i8
      rintro s2 ⟨j0, j1, jD, j62, j63, c2, k, more, jO, j64, j11, hc2, hok2, hk2, hmore, hsame2, hv2⟩
      by_cases hend2 : k = ds.length
      · subst hend2
        have h3 := getD_lt hok2 (i + ds.length)
        have hs2 := hsame2 (i + ds.length) (.inr (Nat.le_refl _))
        rw [List.take_of_length_le (Nat.le_refl _)] at hv2
        generalize hak : c2.getD (i + ds.length) 0 = a at *
        have hv' : ∃ m, (a + more) % 4294967296 = m := ⟨_, rfl⟩
        obtain ⟨m, hm⟩ := hv'
        have hml : m < 4294967296 := by rw [← hm]; exact Nat.mod_lt _ (by omega)
        have hmd : m + 4294967296 * ((a + more) / 4294967296) = a + more := by rw [← hm]; omega
        have hmq : (a + more) / 4294967296 ≤ 1 := by omega
        generalize (a + more) / 4294967296 = q at *
        repeat (first | (simp only [go_sem, j0, j1, jD, j62, j63, jO, j64, j11, hak, hm]) | (simp (disch := (first | omega | (simp only [AL, List.length_map]; omega))) only [AR, AL, ifT, ifF, take_all, List.length_cons, List.length_nil, Int.reduceToNat, Int.reducePow, Nat.reducePow, j0, j1, jD, j62, j63, jO, j64, j11, hak, hm]) | (refine wk_intro (by kernel_rfl) ?_) | (refine vp_draw (l := []) (by kernel_rfl) ?_))
        refine ⟨_, _, ⟨c2.set (i + ds.length) m, true, ⟨by rw [List.length_set]; exact hc2, okL_set hok2 _ _ hml, fun j hj => (getD_set_ne (by omega)).trans ((hsame2 j (by omega)).trans (hsame1 j hj)), fun h => absurd h (by omega), fun _ hle => ⟨rfl, ?_⟩⟩, rfl, rfl⟩, ?_, rfl⟩
        · have hE2 : seg (c2.set (i + ds.length) m) i (ds.length + 1) + 4294967296 ^ (ds.length + 1) * q = seg c1 i (ds.length + 1) + wth ds := by
            rw [seg_set_self c2 (by omega), seg_succ c1, ← hs2]
            have e1 : 4294967296 ^ ds.length * m + 4294967296 ^ (ds.length + 1) * q = 4294967296 ^ ds.length * a + 4294967296 ^ ds.length * more := by
              rw [Nat.pow_succ, Nat.mul_assoc, ← Nat.mul_add, ← Nat.mul_add, hmd]
            omega
          have hlt := seg_lt (okL_set hok2 (i + ds.length) m hml) i (ds.length + 1)
          rcases Nat.eq_zero_or_pos q with rfl | hq
          · omega
          · have : q = 1 := by omega
            subst this
            omega
        · rfl
      · have h1 := getD_lt hd k
        have h2 := getD_lt hok2 (i + k)
        have hs2 := hsame2 (i + k) (.inr (Nat.le_refl _))
        generalize hdk : ds.getD k 0 = y at *
        generalize hak : c2.getD (i + k) 0 = a at *
        repeat (first | (simp only [go_sem, j0, j1, jD, j62, j63, jO, j64, j11, hdk, hak]) | (simp (disch := (first | omega | (simp only [AL, List.length_map]; omega))) only [AR, AL, ifT, ifF, take_all, List.length_cons, List.length_nil, Int.reduceToNat, Int.reducePow, Nat.reducePow, j0, j1, jD, j62, j63, jO, j64, j11, hdk, hak]) | (refine wk_intro (by kernel_rfl) ?_) | (refine vp_draw (l := []) (by kernel_rfl) ?_))
        refine vf_of (bits_Add32 a y more h2 h1 (by omega)) ?_; repeat (first | (simp only [go_sem, j0, j1, jD, j62, j63, jO, j64, j11, hdk, hak]) | (simp (disch := (first | omega | (simp only [AL, List.length_map]; omega))) only [AR, AL, ifT, ifF, take_all, List.length_cons, List.length_nil, Int.reduceToNat, Int.reducePow, Nat.reducePow, j0, j1, jD, j62, j63, jO, j64, j11, hdk, hak]) | (refine wk_intro (by kernel_rfl) ?_) | (refine vp_draw (l := []) (by kernel_rfl) ?_))
        refine ⟨⟨c2.set (i + k) ((a + y + more) % 4294967296), k + 1, (a + y + more) / 4294967296, rfl, rfl, rfl, by rw [List.length_set]; exact hc2, okL_set hok2 _ _ (Nat.mod_lt _ (by omega)), by omega, by omega, fun j hj => (getD_set_ne (by omega)).trans (hsame2 j (by omega)), ?_⟩, by omega⟩
        rw [seg_set_self c2 (by omega), seg_succ c1, ← hs2, wth_take_succ, hdk]
        have e1 : 4294967296 ^ k * ((a + y + more) % 4294967296) + 4294967296 ^ (k + 1) * ((a + y + more) / 4294967296) = 4294967296 ^ k * a + (4294967296 ^ k * y + 4294967296 ^ k * more) := by
          rw [Nat.pow_succ, Nat.mul_assoc, ← Nat.mul_add, Nat.mod_add_div, ← Nat.mul_add, ← Nat.mul_add, Nat.add_assoc]
        omega
    · rw [if_neg hb, Nat.mul_zero, Nat.add_zero] at hE
      rw [if_neg hb]
      have hT : Takes us ds i x c1 false := ⟨hc1, hok1, hsame1, fun _ => ⟨rfl, hE⟩, fun h => absurd hE (Nat.ne_of_gt (Nat.lt_of_lt_of_le h (Nat.le_add_left _ _)))⟩
      clear hv hsl hs0 hb huk hvv hvl hsame hok hc hE hc1 hok1 hsame1
      repeat (first | (simp only [go_sem, i0, i1, i2, iD, i14, i15, iO, i16, i7, i8]) | (simp (disch := (first | omega | (simp only [AL, List.length_map]; omega))) only [AR, AL, ifT, ifF, take_all, List.length_cons, List.length_nil, Int.reduceToNat, Int.reducePow, Nat.reducePow, i0, i1, i2, iD, i14, i15, iO, i16, i7, i8]) | (refine wk_intro (by kernel_rfl) ?_) | (refine vp_draw (l := []) (by kernel_rfl) ?_))
      exact ⟨_, _, ⟨c1, false, hT, rfl, rfl⟩, rfl, rfl⟩
  · have h1 := getD_lt hd k
    have h2 := getD_lt hok (i + k)
    have h4 := limb_mul (v := x) (w := ds.getD k 0) (by omega) h1
    have hs0 := hsame (i + k) (.inr (Nat.le_refl _))
    generalize hdk : ds.getD k 0 = y at *
    generalize huk : c.getD (i + k) 0 = u at *
    generalize hp : x * y = p at *
    have hP : (carry + p) % 4294967296 < 4294967296 := Nat.mod_lt _ (by omega)
    have hsl := sub_limb h2 hP hw
    repeat (first | (simp only [go_sem, i0, i1, i2, iD, i14, i15, iO, i16, i7, i8, hdk, huk, hp]) | (simp (disch := (first | omega | (simp only [AL, List.length_map]; omega))) only [AR, AL, ifT, ifF, take_all, List.length_cons, List.length_nil, Int.reduceToNat, Int.reducePow, Nat.reducePow, i0, i1, i2, iD, i14, i15, iO, i16, i7, i8, hdk, huk, hp]) | (refine wk_intro (by kernel_rfl) ?_) | (refine vp_draw (l := []) (by kernel_rfl) ?_))
    refine vf_of (bits_Sub32 u ((carry + p) % 4294967296) w h2 hP hw) ?_; repeat (first | (simp only [go_sem, i0, i1, i2, iD, i14, i15, iO, i16, i7, i8, hdk, huk, hp]) | (simp (disch := (first | omega | (simp only [AL, List.length_map]; omega))) only [AR, AL, ifT, ifF, take_all, List.length_cons, List.length_nil, Int.reduceToNat, Int.reducePow, Nat.reducePow, i0, i1, i2, iD, i14, i15, iO, i16, i7, i8, hdk, huk, hp]) | (refine wk_intro (by kernel_rfl) ?_) | (refine vp_draw (l := []) (by kernel_rfl) ?_))
    have hv' : ∃ v, ((u + (4294967296 - (carry + p) % 4294967296)) % 4294967296 + (4294967296 - w)) % 4294967296 = v := ⟨_, rfl⟩
    obtain ⟨v, hvv⟩ := hv'
    have hvl : v < 4294967296 := by rw [← hvv]; exact Nat.mod_lt _ (by omega)
    rw [hvv] at hsl ⊢
    refine ⟨⟨c.set (i + k) v, k + 1, (carry + p) / 4294967296, if u < (carry + p) % 4294967296 + w then 1 else 0, rfl, rfl, rfl, rfl, by rw [List.length_set]; exact hc, okL_set hok _ _ hvl, by omega, by omega, by split <;> omega, fun j hj => (getD_set_ne (by omega)).trans (hsame j (by omega)), ?_⟩, by omega⟩
    rw [seg_set_self c (by omega), seg_succ us, ← hs0, wth_take_succ, hdk, Nat.mul_add x, Nat.mul_left_comm x, hp]
    generalize (if u < (carry + p) % 4294967296 + w then 1 else 0) = w' at *
    have e1 : 4294967296 ^ k * (carry + w) + (4294967296 ^ k * v + 4294967296 ^ k * p) = 4294967296 ^ k * u + 4294967296 ^ (k + 1) * ((carry + p) / 4294967296 + w') := by
      rw [Nat.pow_succ, Nat.mul_assoc, ← Nat.mul_add, ← Nat.mul_add, ← Nat.mul_add]
      congr 1
      omega
    omega
end Go.Proofs.YticocojomlfhgaaGreatDoor
namespace Go.Ev
theorem long_guess {B M D U v u x : Nat} (hv : v * M ≤ D) (hv' : D < (v + 1) * M) (hu : u * M ≤ U) (hu' : U < (u + 1) * M) (hBM : B * M ≤ D) (hB : 0 < B) (hUD : U < D * B) (hv0 : 0 < v)
    (hx1 : x ≤ B - 1) (hx2 : x ≤ u / v) (hx3 : ∀ q, q ≤ B - 1 → q ≤ u / v → q ≤ x) : U / D ≤ x ∧ x * D ≤ U + D := by
  have hM : 0 < M := by
    rcases Nat.eq_zero_or_pos M with h | h
    · subst h; omega
    · exact h
  have hD : 0 < D := Nat.lt_of_lt_of_le (Nat.mul_pos hB hM) hBM
  constructor
  · refine hx3 _ ?_ ?_
    · have : U / D < B := (Nat.div_lt_iff_lt_mul hD).2 (by rw [Nat.mul_comm]; exact hUD)
      omega
    · rw [Nat.le_div_iff_mul_le hv0]
      have h1 : U / D * (v * M) ≤ U / D * D := Nat.mul_le_mul_left _ hv
      have h2 : U / D * D ≤ U := Nat.div_mul_le_self _ _
      have h3 : U / D * v * M < (u + 1) * M := by rw [Nat.mul_assoc]; omega
      have := Nat.lt_of_mul_lt_mul_right h3
      omega
  · have h1 : x * v ≤ u := (Nat.le_div_iff_mul_le hv0).1 hx2
    have h2 : x * D ≤ x * ((v + 1) * M) := Nat.mul_le_mul_left _ (Nat.le_of_lt hv')
    have h3 : x * ((v + 1) * M) = x * v * M + x * M := by rw [Nat.add_mul, Nat.one_mul, Nat.mul_add, Nat.mul_assoc]
    have h4 : x * v * M ≤ u * M := Nat.mul_le_mul_right _ h1
    have h5 : x * M ≤ B * M := Nat.mul_le_mul_right _ (by omega)
    omega
theorem long_step {P B D U low W A q us : Nat} (hA : A = D * (P * B * W) + us) (hus : us = U * P + low) (hlow : low < P) (hD : 0 < D) (hq : q = U / D) :
    A = D * (P * (q + B * W)) + ((U - q * D) * P + low) ∧ (U - q * D) * P + low < D * P := by
  subst hq
  have h1 : U - U / D * D = U % D := by
    have := Nat.mod_add_div U D
    rw [Nat.mul_comm D] at this
    omega
  rw [h1]
  constructor
  · have h2 := Nat.mod_add_div U D
    rw [hA, hus]
    have h3 : U * P = U % D * P + D * (P * (U / D)) := by
      conv => lhs; rw [← h2]
      rw [Nat.add_mul, Nat.mul_assoc, Nat.mul_comm (U / D) P]
    rw [Nat.mul_add P, Nat.mul_add D, h3, Nat.mul_assoc P B W]
    omega
  · have h2 : U % D + 1 ≤ D := Nat.mod_lt _ hD
    have h3 : (U % D + 1) * P ≤ D * P := Nat.mul_le_mul_right _ h2
    rw [Nat.add_mul, Nat.one_mul] at h3
    omega
end Go.Ev
namespace Go.Proofs.YticocojomlfhgaaGreatDoor
open Go.Ev
theorem tdiv32 (m : Nat) : (m : Int).tdiv 32 = ((m / 32 : Nat) : Int) := _root_.id rfl
theorem tmod32 (m : Nat) : (m : Int).tmod 32 = ((m % 32 : Nat) : Int) := _root_.id rfl
theorem shift_up (xs : List Nat) (m : Nat) (hx : okL xs) (hl : xs.length ≤ 1073741824) (s : Int) (hs : s = (m : Int)) (hm : m ≤ 4096) :
    Go.Ev.Fn CX 148 [natV xs, .int .i64 s] (natV (lim (wth xs * 2 ^ m))) := by
  refine Go.Ev.Fn.intro (fn := Tryz.f148) (body := (Tryz.f148).body.get!) (by kernel_rfl) (by kernel_rfl) (by kernel_rfl) (fun _ => rfl) (Nat.le_of_ble_eq_true (by kernel_rfl)) ?_; unfold Tryz.f148; simp only [Option.get!_some]
  have lx := lim_length_le hx
  subst hs
  have e1 : (if (-4096 : Int) > (m : Int) then (-4096 : Int) else (m : Int)) = (m : Int) := if_neg (by omega)
  have e2 : (if (4096 : Int) < (m : Int) then (4096 : Int) else (m : Int)) = (m : Int) := if_neg (by omega)
  repeat (first | (simp only [go_sem, e1, e2]) | (simp (disch := (first | omega | (simp only [AL, List.length_map]; omega))) only [AR, AL, ifT, ifF, take_all, List.length_cons, List.length_nil, Int.reduceToNat, Int.reducePow, Nat.reducePow, e1, e2]) | (refine wk_intro (by kernel_rfl) ?_) | (refine vp_draw (l := []) (by kernel_rfl) ?_))
  have ha := okL_lim (wth xs)
  refine vf_of (nat_trim xs hx (by omega)) ?_; repeat (first | (simp only [go_sem, e1, e2, tdiv32, tmod32]) | (simp (disch := (first | omega | (simp only [AL, List.length_map]; omega))) only [AR, AL, ifT, ifF, take_all, List.length_cons, List.length_nil, Int.reduceToNat, Int.reducePow, Nat.reducePow, e1, e2, tdiv32, tmod32]) | (refine wk_intro (by kernel_rfl) ?_))
  refine vp_draw (l := [0]) (by kernel_rfl) ?_; repeat (first | (simp only [go_sem, tdiv32, tmod32]) | (simp (disch := (first | omega | (simp only [AL, List.length_map]; omega))) only [AR, AL, ifT, ifF, take_all, List.length_cons, List.length_nil, Int.reduceToNat, Int.reducePow, Nat.reducePow, tdiv32, tmod32]) | (refine wk_intro (by kernel_rfl) ?_) | (refine vp_draw (l := []) (by kernel_rfl) ?_))
  have va := wth_lim (wth xs)
  generalize lim (wth xs) = a at *
  have h32 : m % 32 < 32 := Nat.mod_lt _ (by omega)
  refine vf_rowS (nat_left a (m % 32) (a.length + 1) ha (by omega) h32 (by omega) (by omega)) ?_
  have e5 : (((limN (a.length + 1) (wth a * 2 ^ (m % 32))).map limb).drop 0).take ((a.length + 1) * 1) = (limN (a.length + 1) (wth a * 2 ^ (m % 32))).map limb := by
    rw [List.drop_zero, Nat.mul_one, List.take_of_length_le (by rw [List.length_map, limN_length]; omega)]
  rw [e5]
  have hr := okL_limN (a.length + 1) (wth a * 2 ^ (m % 32))
  have hrl := limN_length (a.length + 1) (wth a * 2 ^ (m % 32))
  have hrv := wth_limN (a.length + 1) (wth a * 2 ^ (m % 32))
  generalize limN (a.length + 1) (wth a * 2 ^ (m % 32)) = r at *
  repeat (first | (simp only [go_sem, hrl]) | (simp (disch := (first | omega | (simp only [AL, List.length_map]; omega))) only [AR, AL, ifT, ifF, take_all, List.length_cons, List.length_nil, Int.reduceToNat, Int.reducePow, Nat.reducePow, hrl]) | (refine wk_intro (by kernel_rfl) ?_) | (refine vp_draw (l := []) (by kernel_rfl) ?_))
  have e6 : List.take (m / 32 + a.length + 1) (List.map limb (List.take (m / 32) (List.replicate (m / 32 + a.length + 1) 0)) ++ List.map limb r ++ List.map limb (List.drop (m / 32 + (a.length + 1)) (List.replicate (m / 32 + a.length + 1) 0))) = (List.replicate (m / 32) 0 ++ r).map limb := by
    rw [List.take_replicate, List.drop_replicate, show m / 32 + a.length + 1 - (m / 32 + (a.length + 1)) = 0 by omega, Nat.min_eq_left (by omega), List.replicate_zero, List.map_nil, List.append_nil, ← List.map_append]
    exact List.take_of_length_le (by rw [List.length_map, List.length_append, List.length_replicate]; omega)
  rw [e6]
  refine vf_of (fn_natV (nat_trim (List.replicate (m / 32) 0 ++ r) (okL_append.2 ⟨okL_replicate _, hr⟩) (by rw [List.length_append, List.length_replicate]; omega)) (by rw [List.length_append, List.length_replicate]; omega)) ?_; repeat (first | (simp only [go_sem]) | (simp (disch := (first | omega | (simp only [AL, List.length_map]; omega))) only [AR, AL, ifT, ifF, take_all, List.length_cons, List.length_nil, Int.reduceToNat, Int.reducePow, Nat.reducePow]) | (refine wk_intro (by kernel_rfl) ?_) | (refine vp_draw (l := []) (by kernel_rfl) ?_))
  have e7 : wth (List.replicate (m / 32) 0 ++ r) = wth xs * 2 ^ m := by
    rw [wth_append, wth_replicate, Nat.zero_add, List.length_replicate, hrv, va, Nat.mod_eq_of_lt]
    · have : (4294967296 : Nat) ^ (m / 32) * 2 ^ (m % 32) = 2 ^ m := by
        rw [show (4294967296 : Nat) = 2 ^ 32 by rfl, ← Nat.pow_mul, ← Nat.pow_add, Nat.div_add_mod]
      rw [← this, Nat.mul_left_comm]
    · have h1 := wth_lt ha
      rw [va] at h1
      have h2 : (2 : Nat) ^ (m % 32) ≤ 2 ^ 32 := Nat.pow_le_pow_right (by omega) (by omega)
      rw [Nat.pow_succ]
      exact Nat.lt_of_lt_of_le (Nat.mul_lt_mul_of_pos_right h1 (Nat.pow_pos (by omega))) (Nat.mul_le_mul_left _ h2)
  rw [e7]
end Go.Proofs.YticocojomlfhgaaGreatDoor
namespace Go.Proofs.YticocojomlfhgaaGreatDoor
open Go.Ev
theorem shift_down (xs : List Nat) (m : Nat) (hx : okL xs) (hl : xs.length ≤ 1073741824) (s : Int) (hs : s = -(m : Int)) (hm : m ≤ 4096) (hm0 : 0 < m) :
    Go.Ev.Fn CX 148 [natV xs, .int .i64 s] (natV (lim (wth xs / 2 ^ m))) := by
  refine Go.Ev.Fn.intro (fn := Tryz.f148) (body := (Tryz.f148).body.get!) (by kernel_rfl) (by kernel_rfl) (by kernel_rfl) (fun _ => rfl) (Nat.le_of_ble_eq_true (by kernel_rfl)) ?_; unfold Tryz.f148; simp only [Option.get!_some]
  have lx := lim_length_le hx
  have e1 : (if (-4096 : Int) > s then (-4096 : Int) else s) = s := if_neg (by omega)
  have e2 : (if (4096 : Int) < s then (4096 : Int) else s) = s := if_neg (by omega)
  have e3 : IntKind.i64.wrap (0 - s) = (m : Int) := by rw [wI64 (by omega)]; omega
  have hs0 : decide (s < 0) = true := by simp; omega
  repeat (first | (simp only [go_sem, e1, e2, e3]) | (simp (disch := (first | omega | (simp only [AL, List.length_map]; omega))) only [AR, AL, ifT, ifF, take_all, List.length_cons, List.length_nil, Int.reduceToNat, Int.reducePow, Nat.reducePow, e1, e2, e3]) | (refine wk_intro (by kernel_rfl) ?_) | (refine vp_draw (l := []) (by kernel_rfl) ?_))
  have ha := okL_lim (wth xs)
  refine vf_of (nat_trim xs hx (by omega)) ?_; repeat (first | (simp only [go_sem, e1, e2, e3, tdiv32, tmod32, hs0]) | (simp (disch := (first | omega | (simp only [AL, List.length_map]; omega))) only [AR, AL, ifT, ifF, take_all, List.length_cons, List.length_nil, Int.reduceToNat, Int.reducePow, Nat.reducePow, e1, e2, e3, tdiv32, tmod32, hs0]) | (refine wk_intro (by kernel_rfl) ?_))
  have va := wth_lim (wth xs)
  generalize lim (wth xs) = a at *
  have hk : m % 32 < 32 := Nat.mod_lt _ (by omega)
  have hpow : 2 ^ m = 4294967296 ^ (m / 32) * 2 ^ (m % 32) := by
    rw [show (4294967296 : Nat) = 2 ^ 32 by rfl, ← Nat.pow_mul, ← Nat.pow_add, Nat.div_add_mod]
  have hdiv : wth xs / 2 ^ m = wth (a.drop (m / 32)) / 2 ^ (m % 32) := by
    rw [← va, hpow, ← Nat.div_div_eq_div_mul]
    congr 1
    conv => lhs; rw [← List.take_append_drop (m / 32) a, wth_append]
    have h1 := wth_lt (okL_take ha (m / 32))
    rw [List.length_take] at h1 ⊢
    rcases Nat.lt_or_ge a.length (m / 32) with h2 | h2
    · rw [List.drop_of_length_le (by omega)]
      simp only [wth, Nat.mul_zero, Nat.add_zero]
      refine Nat.div_eq_of_lt (Nat.lt_of_lt_of_le h1 (Nat.pow_le_pow_right (by omega) (Nat.min_le_left _ _)))
    · rw [Nat.min_eq_left h2] at h1 ⊢
      rw [Nat.add_comm, Nat.mul_add_div (Nat.pow_pos (by omega)), Nat.div_eq_of_lt h1, Nat.add_zero]
  rw [hdiv]
  by_cases hlen : a.length ≤ m / 32
  · rw [List.drop_of_length_le hlen]
    have e0 : lim (wth [] / 2 ^ (m % 32)) = [] := by simp [wth, lim_zero]
    rw [e0]
    repeat (first | (simp only [go_sem, e3, tdiv32, tmod32]) | (simp (disch := (first | omega | (simp only [AL, List.length_map]; omega))) only [AR, AL, ifT, ifF, take_all, List.length_cons, List.length_nil, Int.reduceToNat, Int.reducePow, Nat.reducePow, e3, tdiv32, tmod32]) | (refine wk_intro (by kernel_rfl) ?_))
    rfl
  · repeat (first | (simp only [go_sem, e3, tdiv32, tmod32]) | (simp (disch := (first | omega | (simp only [AL, List.length_map]; omega))) only [AR, AL, ifT, ifF, take_all, List.length_cons, List.length_nil, Int.reduceToNat, Int.reducePow, Nat.reducePow, e3, tdiv32, tmod32]) | (refine wk_intro (by kernel_rfl) ?_))
    have hbl : (a.drop (m / 32)).length = a.length - m / 32 := List.length_drop ..
    have hb := okL_drop ha (m / 32)
    have hnl : a.length - m / 32 ≤ 1073741824 := by omega
    generalize a.drop (m / 32) = b at *
    generalize a.length - m / 32 = n at *
    subst hbl
    have hDE : 2 ^ (m % 32) * 2 ^ (32 - m % 32) = 4294967296 := by rw [← Nat.pow_add, show m % 32 + (32 - m % 32) = 32 by omega]
    generalize m % 32 = k at *
    have hD0 : 0 < 2 ^ k := Nat.pow_pos (by omega)
    have hE0 : 0 < 2 ^ (32 - k) := Nat.pow_pos (by omega)
    refine vp_loop_inv (fun s' => s'.tmp 6 = .sv (.int .u64 k) ∧ s'.tmp 7 = .ref 35 0 1 0 b.length ∧ s'.tmp 38 = .sv (natV b) ∧ s'.tmp 39 = .sv (.int .i64 b.length) ∧
        ∃ c : List Nat, ∃ i : Nat, s'.obj 35 0 = some (c.map limb) ∧ s'.tmp 40 = .sv (.int .i64 i) ∧ c.length = b.length ∧ okL c ∧ i ≤ b.length ∧ (∀ j, i ≤ j → c.getD j 0 = 0) ∧ (1 ≤ i → c.getD (i - 1) 0 < 2 ^ (32 - k)) ∧
          ∃ e, e < 4294967296 ∧ wth (b.take i) * 2 ^ (32 - k) = 4294967296 * wth (c.take i) + e)
      (fun s => match s.tmp 40 with | .sv (.int _ i) => b.length - i.toNat | _ => 0) ?_ ?_
    · refine ⟨rfl, rfl, rfl, rfl, List.replicate b.length 0, 0, rfl, rfl, List.length_replicate .., okL_replicate _, by omega, fun j _ => ?_, fun h => absurd h (by omega), 0, by omega, by simp [wth]⟩
      simp only [List.getD_eq_getElem?_getD, List.getElem?_replicate]
      split <;> rfl
    clear e1 e2 e3 hs0 hpow hdiv va lx hx hl
    rintro s' ⟨i6, i7, i38, i39, c, i, iO, i40, hc, hok, hi, hz, hlow, e, he, hv⟩
    by_cases hend : i = b.length
    · subst hend
      have e7 : wth c = wth b / 2 ^ k := by
        rw [List.take_of_length_le (Nat.le_refl _), List.take_of_length_le (by omega)] at hv
        rw [← Nat.mul_div_mul_right _ _ hE0, hDE, hv, Nat.mul_add_div (by omega), Nat.div_eq_of_lt he, Nat.add_zero]
      repeat (first | (simp only [go_sem, i6, i7, i38, i39, iO, i40]) | (simp (disch := (first | omega | (simp only [AL, List.length_map]; omega))) only [AR, AL, ifT, ifF, take_all, List.length_cons, List.length_nil, Int.reduceToNat, Int.reducePow, Nat.reducePow, i6, i7, i38, i39, iO, i40]) | (refine wk_intro (by kernel_rfl) ?_) | (refine vp_draw (l := []) (by kernel_rfl) ?_))
      refine vf_of (fn_natV (nat_trim c hok (by omega)) hc) ?_; repeat (first | (simp only [go_sem, i6, i7, i38, i39, iO, i40]) | (simp (disch := (first | omega | (simp only [AL, List.length_map]; omega))) only [AR, AL, ifT, ifF, take_all, List.length_cons, List.length_nil, Int.reduceToNat, Int.reducePow, Nat.reducePow, i6, i7, i38, i39, iO, i40]) | (refine wk_intro (by kernel_rfl) ?_) | (refine vp_draw (l := []) (by kernel_rfl) ?_))
      rw [e7]
    · have h1 := getD_lt hb i
      have hz0 := hz i (Nat.le_refl _)
      have ht := wth_take_succ b i
      generalize hvv : b.getD i 0 = v at *
      have hw : v * 4294967296 / 2 ^ k = v * 2 ^ (32 - k) := by
        rw [← hDE, Nat.mul_left_comm, Nat.mul_div_cancel_left _ hD0]
      have hmod : v * 2 ^ (32 - k) % 4294967296 = 2 ^ (32 - k) * (v % 2 ^ k) := by
        conv => lhs; rw [← hDE]
        rw [Nat.mul_comm v, Nat.mul_comm (2 ^ k), Nat.mul_mod_mul_left]
      have hhi : v * 2 ^ (32 - k) / 4294967296 < 2 ^ (32 - k) := by
        rw [Nat.div_lt_iff_lt_mul (by omega), Nat.mul_comm (2 ^ (32 - k))]
        exact Nat.mul_lt_mul_of_pos_right h1 hE0
      have hE1 : 2 ^ (32 - k) ≤ 4294967296 := by
        have := Nat.pow_le_pow_right (n := 2) (by omega) (show 32 - k ≤ 32 by omega)
        omega
      have hor : ∀ h, h < 2 ^ (32 - k) → h ||| v * 2 ^ (32 - k) % 4294967296 = h + v * 2 ^ (32 - k) % 4294967296 := fun h hh => by rw [hmod]; exact or_low hh
      have hsum : ∀ h, h < 2 ^ (32 - k) → h + v * 2 ^ (32 - k) % 4294967296 < 4294967296 := fun h hh => by
        rw [hmod]
        have e1 : v % 2 ^ k + 1 ≤ 2 ^ k := Nat.mod_lt _ hD0
        have e2 : 2 ^ (32 - k) * (v % 2 ^ k + 1) ≤ 2 ^ (32 - k) * 2 ^ k := Nat.mul_le_mul_left _ e1
        rw [Nat.mul_comm (2 ^ (32 - k)) (2 ^ k), hDE, Nat.mul_add, Nat.mul_one] at e2
        omega
      have hW1 : v * 2 ^ (32 - k) < 18446744073709551616 := by
        have : v * 2 ^ (32 - k) ≤ 4294967295 * 4294967296 := Nat.mul_le_mul (by omega) hE1
        omega
      clear hmod
      generalize hE : 2 ^ (32 - k) = E at *
      generalize hWW : v * E = W at *
      have hsplit := Nat.mod_add_div W 4294967296
      have hlo : W % 4294967296 < 4294967296 := Nat.mod_lt _ (by omega)
      generalize hL : W % 4294967296 = lo at *
      generalize hH : W / 4294967296 = hh at *
      by_cases hi0 : 1 ≤ i
      rotate_left
      · clear hor hsum
        repeat (first | (simp only [go_sem, i6, i7, i38, i39, iO, i40, hvv, hw, hL, hH, hz0, Nat.zero_or]) | (simp (disch := (first | omega | (simp only [AL, List.length_map]; omega))) only [AR, AL, ifT, ifF, take_all, List.length_cons, List.length_nil, Int.reduceToNat, Int.reducePow, Nat.reducePow, i6, i7, i38, i39, iO, i40, hvv, hw, hL, hH, hz0, Nat.zero_or]) | (refine wk_intro (by kernel_rfl) ?_) | (refine vp_draw (l := []) (by kernel_rfl) ?_))
        obtain rfl : i = 0 := by omega
        refine ⟨⟨c.set 0 hh, 1, rfl, rfl, by rw [List.length_set]; exact hc, okL_set hok _ _ (by omega), by omega, fun j hj => (getD_set_ne (by omega)).trans (hz j (by omega)), fun _ => ?_, lo, hlo, ?_⟩, by omega⟩
        · rw [getD_set_self (by omega)]; exact hhi
        · have e1 := wth_set_take (xs := c) (i := 0) (by omega) hh
          rw [Nat.zero_add] at e1 ht
          rw [ht, e1, List.take_zero, List.take_zero, Nat.pow_zero, Nat.one_mul, Nat.one_mul]
          simp only [wth, Nat.zero_add]
          rw [hWW]
          omega
      · have hlow' := hlow hi0
        have hor' := hor _ hlow'
        have hsum' := hsum _ hlow'
        generalize hq : c.getD (i - 1) 0 = q at *
        generalize hqq : q + lo = qq at *
        clear hor hsum
        have hset : (c.set i hh).getD (i - 1) 0 = q := by rw [getD_set_ne (by omega), hq]
        repeat (first | (simp only [go_sem, i6, i7, i38, i39, iO, i40, hvv, hw, hL, hH, hz0, Nat.zero_or, hset, hor']) | (simp (disch := (first | omega | (simp only [AL, List.length_map]; omega))) only [AR, AL, ifT, ifF, take_all, List.length_cons, List.length_nil, Int.reduceToNat, Int.reducePow, Nat.reducePow, i6, i7, i38, i39, iO, i40, hvv, hw, hL, hH, hz0, Nat.zero_or, hset, hor']) | (refine wk_intro (by kernel_rfl) ?_) | (refine vp_draw (l := []) (by kernel_rfl) ?_))
        have hpw : 4294967296 * 4294967296 ^ (i - 1) = 4294967296 ^ i := by
          rw [← Nat.pow_succ', show (i - 1).succ = i by omega]
        have hc1 : wth (c.take i) = wth (c.take (i - 1)) + 4294967296 ^ (i - 1) * q := by
          have := wth_take_succ c (i - 1)
          rw [show i - 1 + 1 = i by omega, hq] at this
          exact this
        have hc2 : wth (((c.set i hh).set (i - 1) qq).take (i + 1)) = wth (c.take (i - 1)) + 4294967296 ^ (i - 1) * qq + 4294967296 ^ i * hh := by
          have e2 := wth_set_take (xs := c.set i hh) (i := i - 1) (by rw [List.length_set]; omega) qq
          have e5 : (c.set i hh).take (i - 1) = c.take (i - 1) := List.take_set_of_le (by omega)
          rw [show i - 1 + 1 = i by omega, e5] at e2
          rw [wth_take_succ, e2, getD_set_ne (by omega), getD_set_self (by omega)]
        refine ⟨⟨(c.set i hh).set (i - 1) qq, i + 1, rfl, rfl, by rw [List.length_set, List.length_set]; exact hc, okL_set (okL_set hok _ _ (by omega)) _ _ (by omega), by omega, fun j hj => ?_, fun _ => ?_, e, he, ?_⟩, by omega⟩
        · rw [getD_set_ne (by omega), getD_set_ne (by omega)]; exact hz j (by omega)
        · rw [Nat.add_sub_cancel, getD_set_ne (by omega), getD_set_self (by omega)]; exact hhi
        · rw [ht, hc2, Nat.add_mul, hv, hc1, ← hqq, Nat.mul_assoc, hWW, ← hsplit, Nat.mul_add (4294967296 ^ i), Nat.mul_add (4294967296 ^ (i - 1))]
          have e3 : 4294967296 * (4294967296 ^ (i - 1) * lo) = 4294967296 ^ i * lo := by rw [← Nat.mul_assoc, hpw]
          have e4 : 4294967296 ^ i * (4294967296 * hh) = 4294967296 * (4294967296 ^ i * hh) := Nat.mul_left_comm ..
          generalize 4294967296 ^ (i - 1) * lo = x1 at *
          generalize 4294967296 ^ (i - 1) * q = x2 at *
          generalize 4294967296 ^ i * lo = x3 at *
          omega
end Go.Proofs.YticocojomlfhgaaGreatDoor
