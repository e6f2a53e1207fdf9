/- IsaNames: the row and the card, out of the closed runs. Printed by mkrow10.py. -/
import Derived.Test.YtfgdoliihmjnoaaDoorCards
import Derived.Test.YtfgdoliihmjnoaaDoorTie
import Derived.Test.YtfgdoliihmjnoaaDoorERn0
import Derived.Test.YtfgdoliihmjnoaaDoorERn1
import Derived.Test.YtfgdoliihmjnoaaDoorERn2
import Derived.Test.YtfgdoliihmjnoaaDoorERn3
import Derived.Test.YtfgdoliihmjnoaaDoorERn4
import Derived.Test.YtfgdoliihmjnoaaDoorERn5
import Derived.Test.YtfgdoliihmjnoaaDoorERn6
import Derived.Test.YtfgdoliihmjnoaaDoorERn7
import Derived.ProofKit
import Derived.OpenShut
import Derived.LaidMore
import Derived.Lay
import Derived.SevenTiedAt
import Derived.Stop.Joined
import Derived.LaidLaws
import Derived.LaidHandle
import Derived.ChangeOld
import Derived.Below
import Derived.SizedLaws
import Derived.ChangeVars
import Derived.JoinedOf
import Derived.RowKit
import Derived.RowKitTokens
import Derived.WalkKit
import Derived.ShutString
namespace Go.Proofs.YtfgdoliihmjnoaaDoor.isaNames
open Go Go.ChangeShapes Go.WideShapes Go.ChangeAt Go.RowKit Go.E Go.Proofs.YtfgdoliihmjnoaaDoorE
set_option maxRecDepth 100000
set_option linter.unusedVariables false
theorem own : ownKnob Tryd.prog.godebug = none := by kernel_rfl
theorem neg (n : Nat) : okTrue (runF Tryd.prog LkN 300 13 [.int .i64 (.negSucc n)] st0) = true := by kernel_rfl
theorem big (n : Nat) : okTrue (runF Tryd.prog LkN 300 13 [.int .i64 (.ofNat (n + 256))] st0) = true := by kernel_rfl
theorem run (low : Int) : ∃ n st', runE Tryd.prog LkN n 13 [.int .i64 low] st0 = some (.bool true, st') ∧ st'.log = [] := by
  have key : ∀ n v, okTrue (runF Tryd.prog LkN n 13 [.int .i64 v] st0) = true → ∃ n st', runE Tryd.prog LkN n 13 [.int .i64 v] st0 = some (.bool true, st') ∧ st'.log = [] := fun n v h => by
    obtain ⟨st', h1, h2⟩ := okTrue_some h
    exact ⟨n, st', runF_le LkN_ok h1, h2⟩
  cases low with
  | negSucc n => exact key _ _ (neg n)
  | ofNat m =>
    match m with
    | 0 => exact key _ _ nm0
    | 1 => exact key _ _ nm1
    | 2 => exact key _ _ nm2
    | 3 => exact key _ _ nm3
    | 4 => exact key _ _ nm4
    | 5 => exact key _ _ nm5
    | 6 => exact key _ _ nm6
    | 7 => exact key _ _ nm7
    | 8 => exact key _ _ nm8
    | 9 => exact key _ _ nm9
    | 10 => exact key _ _ nm10
    | 11 => exact key _ _ nm11
    | 12 => exact key _ _ nm12
    | 13 => exact key _ _ nm13
    | 14 => exact key _ _ nm14
    | 15 => exact key _ _ nm15
    | 16 => exact key _ _ nm16
    | 17 => exact key _ _ nm17
    | 18 => exact key _ _ nm18
    | 19 => exact key _ _ nm19
    | 20 => exact key _ _ nm20
    | 21 => exact key _ _ nm21
    | 22 => exact key _ _ nm22
    | 23 => exact key _ _ nm23
    | 24 => exact key _ _ nm24
    | 25 => exact key _ _ nm25
    | 26 => exact key _ _ nm26
    | 27 => exact key _ _ nm27
    | 28 => exact key _ _ nm28
    | 29 => exact key _ _ nm29
    | 30 => exact key _ _ nm30
    | 31 => exact key _ _ nm31
    | 32 => exact key _ _ nm32
    | 33 => exact key _ _ nm33
    | 34 => exact key _ _ nm34
    | 35 => exact key _ _ nm35
    | 36 => exact key _ _ nm36
    | 37 => exact key _ _ nm37
    | 38 => exact key _ _ nm38
    | 39 => exact key _ _ nm39
    | 40 => exact key _ _ nm40
    | 41 => exact key _ _ nm41
    | 42 => exact key _ _ nm42
    | 43 => exact key _ _ nm43
    | 44 => exact key _ _ nm44
    | 45 => exact key _ _ nm45
    | 46 => exact key _ _ nm46
    | 47 => exact key _ _ nm47
    | 48 => exact key _ _ nm48
    | 49 => exact key _ _ nm49
    | 50 => exact key _ _ nm50
    | 51 => exact key _ _ nm51
    | 52 => exact key _ _ nm52
    | 53 => exact key _ _ nm53
    | 54 => exact key _ _ nm54
    | 55 => exact key _ _ nm55
    | 56 => exact key _ _ nm56
    | 57 => exact key _ _ nm57
    | 58 => exact key _ _ nm58
    | 59 => exact key _ _ nm59
    | 60 => exact key _ _ nm60
    | 61 => exact key _ _ nm61
    | 62 => exact key _ _ nm62
    | 63 => exact key _ _ nm63
    | 64 => exact key _ _ nm64
    | 65 => exact key _ _ nm65
    | 66 => exact key _ _ nm66
    | 67 => exact key _ _ nm67
    | 68 => exact key _ _ nm68
    | 69 => exact key _ _ nm69
    | 70 => exact key _ _ nm70
    | 71 => exact key _ _ nm71
    | 72 => exact key _ _ nm72
    | 73 => exact key _ _ nm73
    | 74 => exact key _ _ nm74
    | 75 => exact key _ _ nm75
    | 76 => exact key _ _ nm76
    | 77 => exact key _ _ nm77
    | 78 => exact key _ _ nm78
    | 79 => exact key _ _ nm79
    | 80 => exact key _ _ nm80
    | 81 => exact key _ _ nm81
    | 82 => exact key _ _ nm82
    | 83 => exact key _ _ nm83
    | 84 => exact key _ _ nm84
    | 85 => exact key _ _ nm85
    | 86 => exact key _ _ nm86
    | 87 => exact key _ _ nm87
    | 88 => exact key _ _ nm88
    | 89 => exact key _ _ nm89
    | 90 => exact key _ _ nm90
    | 91 => exact key _ _ nm91
    | 92 => exact key _ _ nm92
    | 93 => exact key _ _ nm93
    | 94 => exact key _ _ nm94
    | 95 => exact key _ _ nm95
    | 96 => exact key _ _ nm96
    | 97 => exact key _ _ nm97
    | 98 => exact key _ _ nm98
    | 99 => exact key _ _ nm99
    | 100 => exact key _ _ nm100
    | 101 => exact key _ _ nm101
    | 102 => exact key _ _ nm102
    | 103 => exact key _ _ nm103
    | 104 => exact key _ _ nm104
    | 105 => exact key _ _ nm105
    | 106 => exact key _ _ nm106
    | 107 => exact key _ _ nm107
    | 108 => exact key _ _ nm108
    | 109 => exact key _ _ nm109
    | 110 => exact key _ _ nm110
    | 111 => exact key _ _ nm111
    | 112 => exact key _ _ nm112
    | 113 => exact key _ _ nm113
    | 114 => exact key _ _ nm114
    | 115 => exact key _ _ nm115
    | 116 => exact key _ _ nm116
    | 117 => exact key _ _ nm117
    | 118 => exact key _ _ nm118
    | 119 => exact key _ _ nm119
    | 120 => exact key _ _ nm120
    | 121 => exact key _ _ nm121
    | 122 => exact key _ _ nm122
    | 123 => exact key _ _ nm123
    | 124 => exact key _ _ nm124
    | 125 => exact key _ _ nm125
    | 126 => exact key _ _ nm126
    | 127 => exact key _ _ nm127
    | 128 => exact key _ _ nm128
    | 129 => exact key _ _ nm129
    | 130 => exact key _ _ nm130
    | 131 => exact key _ _ nm131
    | 132 => exact key _ _ nm132
    | 133 => exact key _ _ nm133
    | 134 => exact key _ _ nm134
    | 135 => exact key _ _ nm135
    | 136 => exact key _ _ nm136
    | 137 => exact key _ _ nm137
    | 138 => exact key _ _ nm138
    | 139 => exact key _ _ nm139
    | 140 => exact key _ _ nm140
    | 141 => exact key _ _ nm141
    | 142 => exact key _ _ nm142
    | 143 => exact key _ _ nm143
    | 144 => exact key _ _ nm144
    | 145 => exact key _ _ nm145
    | 146 => exact key _ _ nm146
    | 147 => exact key _ _ nm147
    | 148 => exact key _ _ nm148
    | 149 => exact key _ _ nm149
    | 150 => exact key _ _ nm150
    | 151 => exact key _ _ nm151
    | 152 => exact key _ _ nm152
    | 153 => exact key _ _ nm153
    | 154 => exact key _ _ nm154
    | 155 => exact key _ _ nm155
    | 156 => exact key _ _ nm156
    | 157 => exact key _ _ nm157
    | 158 => exact key _ _ nm158
    | 159 => exact key _ _ nm159
    | 160 => exact key _ _ nm160
    | 161 => exact key _ _ nm161
    | 162 => exact key _ _ nm162
    | 163 => exact key _ _ nm163
    | 164 => exact key _ _ nm164
    | 165 => exact key _ _ nm165
    | 166 => exact key _ _ nm166
    | 167 => exact key _ _ nm167
    | 168 => exact key _ _ nm168
    | 169 => exact key _ _ nm169
    | 170 => exact key _ _ nm170
    | 171 => exact key _ _ nm171
    | 172 => exact key _ _ nm172
    | 173 => exact key _ _ nm173
    | 174 => exact key _ _ nm174
    | 175 => exact key _ _ nm175
    | 176 => exact key _ _ nm176
    | 177 => exact key _ _ nm177
    | 178 => exact key _ _ nm178
    | 179 => exact key _ _ nm179
    | 180 => exact key _ _ nm180
    | 181 => exact key _ _ nm181
    | 182 => exact key _ _ nm182
    | 183 => exact key _ _ nm183
    | 184 => exact key _ _ nm184
    | 185 => exact key _ _ nm185
    | 186 => exact key _ _ nm186
    | 187 => exact key _ _ nm187
    | 188 => exact key _ _ nm188
    | 189 => exact key _ _ nm189
    | 190 => exact key _ _ nm190
    | 191 => exact key _ _ nm191
    | 192 => exact key _ _ nm192
    | 193 => exact key _ _ nm193
    | 194 => exact key _ _ nm194
    | 195 => exact key _ _ nm195
    | 196 => exact key _ _ nm196
    | 197 => exact key _ _ nm197
    | 198 => exact key _ _ nm198
    | 199 => exact key _ _ nm199
    | 200 => exact key _ _ nm200
    | 201 => exact key _ _ nm201
    | 202 => exact key _ _ nm202
    | 203 => exact key _ _ nm203
    | 204 => exact key _ _ nm204
    | 205 => exact key _ _ nm205
    | 206 => exact key _ _ nm206
    | 207 => exact key _ _ nm207
    | 208 => exact key _ _ nm208
    | 209 => exact key _ _ nm209
    | 210 => exact key _ _ nm210
    | 211 => exact key _ _ nm211
    | 212 => exact key _ _ nm212
    | 213 => exact key _ _ nm213
    | 214 => exact key _ _ nm214
    | 215 => exact key _ _ nm215
    | 216 => exact key _ _ nm216
    | 217 => exact key _ _ nm217
    | 218 => exact key _ _ nm218
    | 219 => exact key _ _ nm219
    | 220 => exact key _ _ nm220
    | 221 => exact key _ _ nm221
    | 222 => exact key _ _ nm222
    | 223 => exact key _ _ nm223
    | 224 => exact key _ _ nm224
    | 225 => exact key _ _ nm225
    | 226 => exact key _ _ nm226
    | 227 => exact key _ _ nm227
    | 228 => exact key _ _ nm228
    | 229 => exact key _ _ nm229
    | 230 => exact key _ _ nm230
    | 231 => exact key _ _ nm231
    | 232 => exact key _ _ nm232
    | 233 => exact key _ _ nm233
    | 234 => exact key _ _ nm234
    | 235 => exact key _ _ nm235
    | 236 => exact key _ _ nm236
    | 237 => exact key _ _ nm237
    | 238 => exact key _ _ nm238
    | 239 => exact key _ _ nm239
    | 240 => exact key _ _ nm240
    | 241 => exact key _ _ nm241
    | 242 => exact key _ _ nm242
    | 243 => exact key _ _ nm243
    | 244 => exact key _ _ nm244
    | 245 => exact key _ _ nm245
    | 246 => exact key _ _ nm246
    | 247 => exact key _ _ nm247
    | 248 => exact key _ _ nm248
    | 249 => exact key _ _ nm249
    | 250 => exact key _ _ nm250
    | 251 => exact key _ _ nm251
    | 252 => exact key _ _ nm252
    | 253 => exact key _ _ nm253
    | 254 => exact key _ _ nm254
    | 255 => exact key _ _ nm255
    | n + 256 => exact key _ _ (big n)

theorem table {W : World} (h : laidMetH Tryd.prog Rows.isaNamesRow.laid W) : ∃ obj, W.heap[0]? = some obj ∧ ∀ β, OR β ⟨0, 0, 0, 0⟩ obj (.table (space.map (Value.int .u8))) := by
  rw [MakeChecks.laidMetH_plain _ _ _ (by kernel_rfl)] at h
  exact laid_ints h (n := "strings.asciiSpace") (ds := space.map fun m => .lit (.int .u8 m)) (List.mem_cons_of_mem _ (List.mem_cons_of_mem _ (List.mem_cons_self ..))) (g := 0) (t := 92) (e := 5) (k := 256) (by kernel_rfl) (by kernel_rfl) Tryd.underlying92 Tryd.underlying5 (by kernel_rfl) space rfl
theorem walk (low : Int) (W : World) (h : laidMetH Tryd.prog Rows.isaNamesRow.laid W) : Calls Tryd.prog 13 #[.int .i64 low] W fun e W' => e = .returned (.bool true) ∧ RowKit.Below W.heap.size W W' := by
  obtain ⟨n, st', h1, h2⟩ := run low
  obtain ⟨obj, h3, h4⟩ := table h
  have h5 : LkN.func 13 = some (13, Tryd.f13) := by kernel_rfl
  exact law_calls LkN_ok conN_ok h5 (l := tab0) (nx := 20) h1 rfl h2 (fun x hx => by simp at hx; subst hx; rfl) (fun x hx => by
    have : x = (0, .table (space.map (Value.int .u8))) := by simpa [tab0] using hx
    subst this
    exact ⟨obj, h3, h4 _⟩) (fun g hg => by
    have hg' : Nat.beq g 0 = true := hg
    have : g = 0 := Nat.eq_of_beq_eq_true hg'
    subst this; simp [tab0]) (fun x hx => by
    have : x = (0, .table (space.map (Value.int .u8))) := by simpa [tab0] using hx
    subst this; decide)

theorem lifted (os : Os) (started : os.Started) (H : Type) (enc : TypeId × Value → H) :
    ReturnsInHanded {} Tryd.checked os 13 .any (fun w args => (Rows.isaNamesSpec.pre enc Tryd.prog Tryd.f13 [] false w args ∧ laidMetH Tryd.prog Rows.isaNamesRow.laid w) ∧ sizedMet enc Tryd.prog Tryd.f13 (OpenSpec.ofChange Rows.isaNamesSpec) false w args)
      (Rows.isaNamesSpec.post enc Tryd.prog Tryd.f13 false true false false) := by
  refine returnsInHanded_of_change_and (C := Tryd.checked) (X := fun w _ => laidMetH Tryd.prog Rows.isaNamesRow.laid w) (fun _ _ _ hh h => h.of_heap hh) own started (by kernel_rfl) Tryd.func13
    (ChangeSpec.witness_shaped (enc := enc) (C := Tryd.checked) (os := os) (X := fun w _ => laidMetH Tryd.prog Rows.isaNamesRow.laid w) false (World.laidAll Tryd.prog os Rows.isaNamesRow.laid) #[.int .i64 0] 8 (World.laidAll_os _ _ _)
      (World.shaped_of_ZipB (by kernel_rfl) (by kernel_rfl)) (by kernel_rfl) (by kernel_rfl) (by kernel_rfl)
      (by rw [MakeChecks.laidMetH_plain _ _ _ (by kernel_rfl)]; exact laidMet_laidAll _ (by kernel_rfl) (by kernel_rfl))) ?_
  intro W base args ds gs before hval0 hW _ _ hL _
  have hval : ∀ (j : Nat) t v, Tryd.f13.params[j]? = some t → args[j]? = some v → Value.okWide Tryd.prog W .any base t v := hval0
  have hW' := hW
  obtain ⟨p, q, hA0, hV, rfl, hfz, hnd⟩ := hW
  have hA : DataW.TrodAll enc Tryd.prog W 0 (fun _ => true) true Tryd.f13.params.toList args.toList ds p := hA0
  rw [Tryd.params13] at hA hval
  obtain ⟨v0, d0, rfl, rfl, h0⟩ := trodAll_one hA
  obtain ⟨rfl, rfl⟩ := trodVars_none hV
  obtain ⟨n, rfl, rfl, rfl, wn⟩ := open_int Tryd.underlying3 (hval 0 3 v0 rfl rfl) h0
  clear hA0 hval0
  refine (walk n W hL).mono fun e W' ⟨he, bel⟩ => ?_
  subst he
  exact ⟨_, rfl, _, _, _, [], _, [], hW', trodAll_mk1 (shut_bool Tryd.underlying4 _), trodAll_mk1 (shut_int Tryd.underlying3 wn), rfl, bel.frame _, fun h => by cases h⟩
theorem holds : Rows.IsaNamesSaid :=
  OpenClaim.holds_of_wide 13 Tryd.f13 rfl rfl rfl rfl rfl rfl rfl ⟨rfl, rfl, rfl, rfl, rfl⟩ rfl rfl rfl rfl rfl (by kernel_rfl) Tryd.func13 (by kernel_rfl)
    (of_decide_eq_true (by kernel_rfl)) (by unfold Func.isWrapper; first | (rw [if_pos (by decide +kernel)]; kernel_rfl) | (rw [if_neg (by decide +kernel)]; exact ⟨rfl, rfl⟩))
    (fun os started H enc _ => lifted os started H enc)
theorem card_holds : Rows.IsaNamesCardSaid :=
  Claim7.holds_tied_plain_at .later [] [.data, .listed, .data, .pinned, .pinned] true (true, "1e1e248acc660a677998e05a53df8622417f417e7bf64ebac2106d3cebcb75fa") true holds (fun _ h => by cases h) (by kernel_rfl) (fun _ h => by cases h) isaNames_row_tie rfl ⟨rfl, rfl⟩ (by kernel_rfl) rfl
    (fun f fn hf hfn => by
      obtain rfl : f = 13 := Option.some.inj ((show Tryd.prog.funcNamed "camshaft/camshaftlaw10.IsaNames" = some 13 by kernel_rfl).symm.trans hf) |>.symm
      obtain rfl : fn = Tryd.f13 := (Option.some.inj (Tryd.func13.symm.trans hfn)).symm
      exact ⟨by kernel_rfl, fun j t ht => by
        rw [Tryd.params13] at ht
        have hm : t ∈ [3] := by simpa using Array.mem_of_getElem? ht
        have hall : ([3].all fun u => !Tryd.prog.wantsStandIn u) = true := by kernel_rfl
        exact (show Tryd.prog.wantsStandIn t = false by simpa using List.all_eq_true.1 hall t hm)⟩)
    (by kernel_rfl)
#print axioms card_holds
end Go.Proofs.YtfgdoliihmjnoaaDoor.isaNames
namespace Go.Proofs.YtfgdoliihmjnoaaDoor
/-- The card, under a short name, for the claim. -/
theorem isaNames_card : Rows.IsaNamesCardSaid := isaNames.card_holds
end Go.Proofs.YtfgdoliihmjnoaaDoor
