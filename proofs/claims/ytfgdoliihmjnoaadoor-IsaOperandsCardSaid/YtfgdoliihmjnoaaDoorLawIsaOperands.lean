/- IsaOperands: the row and the card, out of the closed runs. Printed by mkrow10.py. -/
import Derived.Test.YtfgdoliihmjnoaaDoorCards
import Derived.Test.YtfgdoliihmjnoaaDoorTie
import Derived.Test.YtfgdoliihmjnoaaDoorERo0
import Derived.Test.YtfgdoliihmjnoaaDoorERo1
import Derived.Test.YtfgdoliihmjnoaaDoorERo2
import Derived.Test.YtfgdoliihmjnoaaDoorERo3
import Derived.Test.YtfgdoliihmjnoaaDoorERo4
import Derived.Test.YtfgdoliihmjnoaaDoorERo5
import Derived.Test.YtfgdoliihmjnoaaDoorERo6
import Derived.Test.YtfgdoliihmjnoaaDoorERo7
import Derived.ProofKit
import Derived.OpenShut
import Derived.LaidMore
import Derived.Lay
import Derived.SevenTiedAt
import Derived.Stop.Joined
import Derived.LaidLaws
import Derived.LaidHandle
import Derived.ChangeOld
import Derived.Below
import Derived.SizedLaws
import Derived.ChangeVars
import Derived.JoinedOf
import Derived.RowKit
import Derived.RowKitTokens
import Derived.WalkKit
import Derived.ShutString
namespace Go.Proofs.YtfgdoliihmjnoaaDoor.isaOperands
open Go Go.ChangeShapes Go.WideShapes Go.ChangeAt Go.RowKit Go.E Go.Proofs.YtfgdoliihmjnoaaDoorE
set_option maxRecDepth 100000
set_option linter.unusedVariables false
theorem own : ownKnob Tryd.prog.godebug = none := by kernel_rfl
theorem neg (n : Nat) : okTrue (runF Tryd.prog Lk0 300 3 [.int .i64 (.negSucc n)] st0) = true := by kernel_rfl
theorem big (n : Nat) : okTrue (runF Tryd.prog Lk0 300 3 [.int .i64 (.ofNat (n + 256))] st0) = true := by kernel_rfl
theorem run (low : Int) : ∃ n st', runE Tryd.prog Lk0 n 3 [.int .i64 low] st0 = some (.bool true, st') ∧ st'.log = [] := by
  have key : ∀ n v, okTrue (runF Tryd.prog Lk0 n 3 [.int .i64 v] st0) = true → ∃ n st', runE Tryd.prog Lk0 n 3 [.int .i64 v] st0 = some (.bool true, st') ∧ st'.log = [] := fun n v h => by
    obtain ⟨st', h1, h2⟩ := okTrue_some h
    exact ⟨n, st', runF_le Lk0_ok h1, h2⟩
  cases low with
  | negSucc n => exact key _ _ (neg n)
  | ofNat m =>
    match m with
    | 0 => exact key _ _ op0
    | 1 => exact key _ _ op1
    | 2 => exact key _ _ op2
    | 3 => exact key _ _ op3
    | 4 => exact key _ _ op4
    | 5 => exact key _ _ op5
    | 6 => exact key _ _ op6
    | 7 => exact key _ _ op7
    | 8 => exact key _ _ op8
    | 9 => exact key _ _ op9
    | 10 => exact key _ _ op10
    | 11 => exact key _ _ op11
    | 12 => exact key _ _ op12
    | 13 => exact key _ _ op13
    | 14 => exact key _ _ op14
    | 15 => exact key _ _ op15
    | 16 => exact key _ _ op16
    | 17 => exact key _ _ op17
    | 18 => exact key _ _ op18
    | 19 => exact key _ _ op19
    | 20 => exact key _ _ op20
    | 21 => exact key _ _ op21
    | 22 => exact key _ _ op22
    | 23 => exact key _ _ op23
    | 24 => exact key _ _ op24
    | 25 => exact key _ _ op25
    | 26 => exact key _ _ op26
    | 27 => exact key _ _ op27
    | 28 => exact key _ _ op28
    | 29 => exact key _ _ op29
    | 30 => exact key _ _ op30
    | 31 => exact key _ _ op31
    | 32 => exact key _ _ op32
    | 33 => exact key _ _ op33
    | 34 => exact key _ _ op34
    | 35 => exact key _ _ op35
    | 36 => exact key _ _ op36
    | 37 => exact key _ _ op37
    | 38 => exact key _ _ op38
    | 39 => exact key _ _ op39
    | 40 => exact key _ _ op40
    | 41 => exact key _ _ op41
    | 42 => exact key _ _ op42
    | 43 => exact key _ _ op43
    | 44 => exact key _ _ op44
    | 45 => exact key _ _ op45
    | 46 => exact key _ _ op46
    | 47 => exact key _ _ op47
    | 48 => exact key _ _ op48
    | 49 => exact key _ _ op49
    | 50 => exact key _ _ op50
    | 51 => exact key _ _ op51
    | 52 => exact key _ _ op52
    | 53 => exact key _ _ op53
    | 54 => exact key _ _ op54
    | 55 => exact key _ _ op55
    | 56 => exact key _ _ op56
    | 57 => exact key _ _ op57
    | 58 => exact key _ _ op58
    | 59 => exact key _ _ op59
    | 60 => exact key _ _ op60
    | 61 => exact key _ _ op61
    | 62 => exact key _ _ op62
    | 63 => exact key _ _ op63
    | 64 => exact key _ _ op64
    | 65 => exact key _ _ op65
    | 66 => exact key _ _ op66
    | 67 => exact key _ _ op67
    | 68 => exact key _ _ op68
    | 69 => exact key _ _ op69
    | 70 => exact key _ _ op70
    | 71 => exact key _ _ op71
    | 72 => exact key _ _ op72
    | 73 => exact key _ _ op73
    | 74 => exact key _ _ op74
    | 75 => exact key _ _ op75
    | 76 => exact key _ _ op76
    | 77 => exact key _ _ op77
    | 78 => exact key _ _ op78
    | 79 => exact key _ _ op79
    | 80 => exact key _ _ op80
    | 81 => exact key _ _ op81
    | 82 => exact key _ _ op82
    | 83 => exact key _ _ op83
    | 84 => exact key _ _ op84
    | 85 => exact key _ _ op85
    | 86 => exact key _ _ op86
    | 87 => exact key _ _ op87
    | 88 => exact key _ _ op88
    | 89 => exact key _ _ op89
    | 90 => exact key _ _ op90
    | 91 => exact key _ _ op91
    | 92 => exact key _ _ op92
    | 93 => exact key _ _ op93
    | 94 => exact key _ _ op94
    | 95 => exact key _ _ op95
    | 96 => exact key _ _ op96
    | 97 => exact key _ _ op97
    | 98 => exact key _ _ op98
    | 99 => exact key _ _ op99
    | 100 => exact key _ _ op100
    | 101 => exact key _ _ op101
    | 102 => exact key _ _ op102
    | 103 => exact key _ _ op103
    | 104 => exact key _ _ op104
    | 105 => exact key _ _ op105
    | 106 => exact key _ _ op106
    | 107 => exact key _ _ op107
    | 108 => exact key _ _ op108
    | 109 => exact key _ _ op109
    | 110 => exact key _ _ op110
    | 111 => exact key _ _ op111
    | 112 => exact key _ _ op112
    | 113 => exact key _ _ op113
    | 114 => exact key _ _ op114
    | 115 => exact key _ _ op115
    | 116 => exact key _ _ op116
    | 117 => exact key _ _ op117
    | 118 => exact key _ _ op118
    | 119 => exact key _ _ op119
    | 120 => exact key _ _ op120
    | 121 => exact key _ _ op121
    | 122 => exact key _ _ op122
    | 123 => exact key _ _ op123
    | 124 => exact key _ _ op124
    | 125 => exact key _ _ op125
    | 126 => exact key _ _ op126
    | 127 => exact key _ _ op127
    | 128 => exact key _ _ op128
    | 129 => exact key _ _ op129
    | 130 => exact key _ _ op130
    | 131 => exact key _ _ op131
    | 132 => exact key _ _ op132
    | 133 => exact key _ _ op133
    | 134 => exact key _ _ op134
    | 135 => exact key _ _ op135
    | 136 => exact key _ _ op136
    | 137 => exact key _ _ op137
    | 138 => exact key _ _ op138
    | 139 => exact key _ _ op139
    | 140 => exact key _ _ op140
    | 141 => exact key _ _ op141
    | 142 => exact key _ _ op142
    | 143 => exact key _ _ op143
    | 144 => exact key _ _ op144
    | 145 => exact key _ _ op145
    | 146 => exact key _ _ op146
    | 147 => exact key _ _ op147
    | 148 => exact key _ _ op148
    | 149 => exact key _ _ op149
    | 150 => exact key _ _ op150
    | 151 => exact key _ _ op151
    | 152 => exact key _ _ op152
    | 153 => exact key _ _ op153
    | 154 => exact key _ _ op154
    | 155 => exact key _ _ op155
    | 156 => exact key _ _ op156
    | 157 => exact key _ _ op157
    | 158 => exact key _ _ op158
    | 159 => exact key _ _ op159
    | 160 => exact key _ _ op160
    | 161 => exact key _ _ op161
    | 162 => exact key _ _ op162
    | 163 => exact key _ _ op163
    | 164 => exact key _ _ op164
    | 165 => exact key _ _ op165
    | 166 => exact key _ _ op166
    | 167 => exact key _ _ op167
    | 168 => exact key _ _ op168
    | 169 => exact key _ _ op169
    | 170 => exact key _ _ op170
    | 171 => exact key _ _ op171
    | 172 => exact key _ _ op172
    | 173 => exact key _ _ op173
    | 174 => exact key _ _ op174
    | 175 => exact key _ _ op175
    | 176 => exact key _ _ op176
    | 177 => exact key _ _ op177
    | 178 => exact key _ _ op178
    | 179 => exact key _ _ op179
    | 180 => exact key _ _ op180
    | 181 => exact key _ _ op181
    | 182 => exact key _ _ op182
    | 183 => exact key _ _ op183
    | 184 => exact key _ _ op184
    | 185 => exact key _ _ op185
    | 186 => exact key _ _ op186
    | 187 => exact key _ _ op187
    | 188 => exact key _ _ op188
    | 189 => exact key _ _ op189
    | 190 => exact key _ _ op190
    | 191 => exact key _ _ op191
    | 192 => exact key _ _ op192
    | 193 => exact key _ _ op193
    | 194 => exact key _ _ op194
    | 195 => exact key _ _ op195
    | 196 => exact key _ _ op196
    | 197 => exact key _ _ op197
    | 198 => exact key _ _ op198
    | 199 => exact key _ _ op199
    | 200 => exact key _ _ op200
    | 201 => exact key _ _ op201
    | 202 => exact key _ _ op202
    | 203 => exact key _ _ op203
    | 204 => exact key _ _ op204
    | 205 => exact key _ _ op205
    | 206 => exact key _ _ op206
    | 207 => exact key _ _ op207
    | 208 => exact key _ _ op208
    | 209 => exact key _ _ op209
    | 210 => exact key _ _ op210
    | 211 => exact key _ _ op211
    | 212 => exact key _ _ op212
    | 213 => exact key _ _ op213
    | 214 => exact key _ _ op214
    | 215 => exact key _ _ op215
    | 216 => exact key _ _ op216
    | 217 => exact key _ _ op217
    | 218 => exact key _ _ op218
    | 219 => exact key _ _ op219
    | 220 => exact key _ _ op220
    | 221 => exact key _ _ op221
    | 222 => exact key _ _ op222
    | 223 => exact key _ _ op223
    | 224 => exact key _ _ op224
    | 225 => exact key _ _ op225
    | 226 => exact key _ _ op226
    | 227 => exact key _ _ op227
    | 228 => exact key _ _ op228
    | 229 => exact key _ _ op229
    | 230 => exact key _ _ op230
    | 231 => exact key _ _ op231
    | 232 => exact key _ _ op232
    | 233 => exact key _ _ op233
    | 234 => exact key _ _ op234
    | 235 => exact key _ _ op235
    | 236 => exact key _ _ op236
    | 237 => exact key _ _ op237
    | 238 => exact key _ _ op238
    | 239 => exact key _ _ op239
    | 240 => exact key _ _ op240
    | 241 => exact key _ _ op241
    | 242 => exact key _ _ op242
    | 243 => exact key _ _ op243
    | 244 => exact key _ _ op244
    | 245 => exact key _ _ op245
    | 246 => exact key _ _ op246
    | 247 => exact key _ _ op247
    | 248 => exact key _ _ op248
    | 249 => exact key _ _ op249
    | 250 => exact key _ _ op250
    | 251 => exact key _ _ op251
    | 252 => exact key _ _ op252
    | 253 => exact key _ _ op253
    | 254 => exact key _ _ op254
    | 255 => exact key _ _ op255
    | n + 256 => exact key _ _ (big n)

theorem table {W : World} (h : laidMetH Tryd.prog Rows.isaOperandsRow.laid W) : ∃ obj, W.heap[0]? = some obj ∧ ∀ β, OR β ⟨0, 0, 0, 0⟩ obj (.table (space.map (Value.int .u8))) := by
  rw [MakeChecks.laidMetH_plain _ _ _ (by kernel_rfl)] at h
  exact laid_ints h (n := "strings.asciiSpace") (ds := space.map fun m => .lit (.int .u8 m)) (List.mem_cons_of_mem _ (List.mem_cons_of_mem _ (List.mem_cons_self ..))) (g := 0) (t := 92) (e := 5) (k := 256) (by kernel_rfl) (by kernel_rfl) Tryd.underlying92 Tryd.underlying5 (by kernel_rfl) space rfl
theorem walk (low : Int) (W : World) (h : laidMetH Tryd.prog Rows.isaOperandsRow.laid W) : Calls Tryd.prog 3 #[.int .i64 low] W fun e W' => e = .returned (.bool true) ∧ RowKit.Below W.heap.size W W' := by
  obtain ⟨n, st', h1, h2⟩ := run low
  obtain ⟨obj, h3, h4⟩ := table h
  have h5 : Lk0.func 3 = some (3, Tryd.f3) := by kernel_rfl
  exact law_calls Lk0_ok h5 (l := tab0) (nx := 20) h1 rfl h2 (fun x hx => by simp at hx; subst hx; rfl) (fun x hx => by
    have : x = (0, .table (space.map (Value.int .u8))) := by simpa [tab0] using hx
    subst this
    exact ⟨obj, h3, h4 _⟩) (fun g hg => by
    have hg' : Nat.beq g 0 = true := hg
    have : g = 0 := Nat.eq_of_beq_eq_true hg'
    subst this; simp [tab0]) (fun x hx => by
    have : x = (0, .table (space.map (Value.int .u8))) := by simpa [tab0] using hx
    subst this; decide)

theorem lifted (os : Os) (started : os.Started) (H : Type) (enc : TypeId × Value → H) :
    ReturnsInHanded {} Tryd.checked os 3 .any (fun w args => (Rows.isaOperandsSpec.pre enc Tryd.prog Tryd.f3 [] false w args ∧ laidMetH Tryd.prog Rows.isaOperandsRow.laid w) ∧ sizedMet enc Tryd.prog Tryd.f3 (OpenSpec.ofChange Rows.isaOperandsSpec) false w args)
      (Rows.isaOperandsSpec.post enc Tryd.prog Tryd.f3 false true false false) := by
  refine returnsInHanded_of_change_and (C := Tryd.checked) (X := fun w _ => laidMetH Tryd.prog Rows.isaOperandsRow.laid w) (fun _ _ _ hh h => h.of_heap hh) own started (by kernel_rfl) Tryd.func3
    (ChangeSpec.witness_shaped (enc := enc) (C := Tryd.checked) (os := os) (X := fun w _ => laidMetH Tryd.prog Rows.isaOperandsRow.laid w) false (World.laidAll Tryd.prog os Rows.isaOperandsRow.laid) #[.int .i64 0] 8 (World.laidAll_os _ _ _)
      (World.shaped_of_ZipB (by kernel_rfl) (by kernel_rfl)) (by kernel_rfl) (by kernel_rfl) (by kernel_rfl)
      (by rw [MakeChecks.laidMetH_plain _ _ _ (by kernel_rfl)]; exact laidMet_laidAll _ (by kernel_rfl) (by kernel_rfl))) ?_
  intro W base args ds gs before hval0 hW _ _ hL _
  have hval : ∀ (j : Nat) t v, Tryd.f3.params[j]? = some t → args[j]? = some v → Value.okWide Tryd.prog W .any base t v := hval0
  have hW' := hW
  obtain ⟨p, q, hA0, hV, rfl, hfz, hnd⟩ := hW
  have hA : DataW.TrodAll enc Tryd.prog W 0 (fun _ => true) true Tryd.f3.params.toList args.toList ds p := hA0
  rw [Tryd.params3] at hA hval
  obtain ⟨v0, d0, rfl, rfl, h0⟩ := trodAll_one hA
  obtain ⟨rfl, rfl⟩ := trodVars_none hV
  obtain ⟨n, rfl, rfl, rfl, wn⟩ := open_int Tryd.underlying3 (hval 0 3 v0 rfl rfl) h0
  clear hA0 hval0
  refine (walk n W hL).mono fun e W' ⟨he, bel⟩ => ?_
  subst he
  exact ⟨_, rfl, _, _, _, [], _, [], hW', trodAll_mk1 (shut_bool Tryd.underlying4 _), trodAll_mk1 (shut_int Tryd.underlying3 wn), rfl, bel.frame _, fun h => by cases h⟩
theorem holds : Rows.IsaOperandsSaid :=
  OpenClaim.holds_of_wide 3 Tryd.f3 rfl rfl rfl rfl rfl rfl rfl ⟨rfl, rfl, rfl, rfl, rfl⟩ rfl rfl rfl rfl rfl (by kernel_rfl) Tryd.func3 (by kernel_rfl)
    (of_decide_eq_true (by kernel_rfl)) (by unfold Func.isWrapper; first | (rw [if_pos (by decide +kernel)]; kernel_rfl) | (rw [if_neg (by decide +kernel)]; exact ⟨rfl, rfl⟩))
    (fun os started H enc _ => lifted os started H enc)
theorem card_holds : Rows.IsaOperandsCardSaid :=
  Claim7.holds_tied_plain_at .later [] [.data, .listed, .data, .pinned, .pinned] true (true, "1e1e248acc660a677998e05a53df8622417f417e7bf64ebac2106d3cebcb75fa") true holds (fun _ h => by cases h) (by kernel_rfl) (fun _ h => by cases h) isaOperands_row_tie rfl ⟨rfl, rfl⟩ (by kernel_rfl) rfl
    (fun f fn hf hfn => by
      obtain rfl : f = 3 := Option.some.inj ((show Tryd.prog.funcNamed "camshaft/camshaftlaw10.IsaOperands" = some 3 by kernel_rfl).symm.trans hf) |>.symm
      obtain rfl : fn = Tryd.f3 := (Option.some.inj (Tryd.func3.symm.trans hfn)).symm
      exact ⟨by kernel_rfl, fun j t ht => by
        rw [Tryd.params3] at ht
        have hm : t ∈ [3] := by simpa using Array.mem_of_getElem? ht
        have hall : ([3].all fun u => !Tryd.prog.wantsStandIn u) = true := by kernel_rfl
        exact (show Tryd.prog.wantsStandIn t = false by simpa using List.all_eq_true.1 hall t hm)⟩)
    (by kernel_rfl)
#print axioms card_holds
end Go.Proofs.YtfgdoliihmjnoaaDoor.isaOperands
namespace Go.Proofs.YtfgdoliihmjnoaaDoor
/-- The card, under a short name, for the claim. -/
theorem isaOperands_card : Rows.IsaOperandsCardSaid := isaOperands.card_holds
end Go.Proofs.YtfgdoliihmjnoaaDoor
