/- IsaOf: the row and the card, out of the closed runs. Printed by mkrow10.py. -/
import Derived.Test.YtfgdoliihmjnoaaDoorCards
import Derived.Test.YtfgdoliihmjnoaaDoorTie
import Derived.Test.YtfgdoliihmjnoaaDoorERf0
import Derived.Test.YtfgdoliihmjnoaaDoorERf1
import Derived.Test.YtfgdoliihmjnoaaDoorERf2
import Derived.Test.YtfgdoliihmjnoaaDoorERf3
import Derived.Test.YtfgdoliihmjnoaaDoorERf4
import Derived.Test.YtfgdoliihmjnoaaDoorERf5
import Derived.Test.YtfgdoliihmjnoaaDoorERf6
import Derived.Test.YtfgdoliihmjnoaaDoorERf7
import Derived.ProofKit
import Derived.OpenShut
import Derived.LaidMore
import Derived.Lay
import Derived.SevenTiedAt
import Derived.Stop.Joined
import Derived.LaidLaws
import Derived.LaidHandle
import Derived.ChangeOld
import Derived.Below
import Derived.SizedLaws
import Derived.ChangeVars
import Derived.JoinedOf
import Derived.RowKit
import Derived.RowKitTokens
import Derived.WalkKit
import Derived.ShutString
namespace Go.Proofs.YtfgdoliihmjnoaaDoor.isaOf
open Go Go.ChangeShapes Go.WideShapes Go.ChangeAt Go.RowKit Go.E Go.Proofs.YtfgdoliihmjnoaaDoorE
set_option maxRecDepth 100000
set_option linter.unusedVariables false
theorem own : ownKnob Tryd.prog.godebug = none := by kernel_rfl
theorem code (x : Int) : okC (.int .i64 x) := by
  cases x with
  | negSucc n => exact ofneg n
  | ofNat m =>
    match m with
    | 0 => exact of0
    | 1 => exact of1
    | 2 => exact of2
    | 3 => exact of3
    | 4 => exact of4
    | 5 => exact of5
    | 6 => exact of6
    | 7 => exact of7
    | 8 => exact of8
    | 9 => exact of9
    | 10 => exact of10
    | 11 => exact of11
    | 12 => exact of12
    | 13 => exact of13
    | 14 => exact of14
    | 15 => exact of15
    | 16 => exact of16
    | 17 => exact of17
    | 18 => exact of18
    | 19 => exact of19
    | 20 => exact of20
    | 21 => exact of21
    | 22 => exact of22
    | 23 => exact of23
    | 24 => exact of24
    | 25 => exact of25
    | 26 => exact of26
    | 27 => exact of27
    | 28 => exact of28
    | 29 => exact of29
    | 30 => exact of30
    | 31 => exact of31
    | 32 => exact of32
    | 33 => exact of33
    | 34 => exact of34
    | 35 => exact of35
    | 36 => exact of36
    | 37 => exact of37
    | 38 => exact of38
    | 39 => exact of39
    | 40 => exact of40
    | 41 => exact of41
    | 42 => exact of42
    | 43 => exact of43
    | 44 => exact of44
    | 45 => exact of45
    | 46 => exact of46
    | 47 => exact of47
    | 48 => exact of48
    | 49 => exact of49
    | 50 => exact of50
    | 51 => exact of51
    | 52 => exact of52
    | 53 => exact of53
    | 54 => exact of54
    | 55 => exact of55
    | 56 => exact of56
    | 57 => exact of57
    | 58 => exact of58
    | 59 => exact of59
    | 60 => exact of60
    | 61 => exact of61
    | 62 => exact of62
    | 63 => exact of63
    | 64 => exact of64
    | 65 => exact of65
    | 66 => exact of66
    | 67 => exact of67
    | 68 => exact of68
    | 69 => exact of69
    | 70 => exact of70
    | 71 => exact of71
    | 72 => exact of72
    | 73 => exact of73
    | 74 => exact of74
    | 75 => exact of75
    | 76 => exact of76
    | 77 => exact of77
    | 78 => exact of78
    | 79 => exact of79
    | 80 => exact of80
    | 81 => exact of81
    | 82 => exact of82
    | 83 => exact of83
    | 84 => exact of84
    | 85 => exact of85
    | 86 => exact of86
    | 87 => exact of87
    | 88 => exact of88
    | 89 => exact of89
    | 90 => exact of90
    | 91 => exact of91
    | 92 => exact of92
    | 93 => exact of93
    | 94 => exact of94
    | 95 => exact of95
    | 96 => exact of96
    | 97 => exact of97
    | 98 => exact of98
    | 99 => exact of99
    | 100 => exact of100
    | 101 => exact of101
    | 102 => exact of102
    | 103 => exact of103
    | 104 => exact of104
    | 105 => exact of105
    | 106 => exact of106
    | 107 => exact of107
    | 108 => exact of108
    | 109 => exact of109
    | 110 => exact of110
    | 111 => exact of111
    | 112 => exact of112
    | 113 => exact of113
    | 114 => exact of114
    | 115 => exact of115
    | 116 => exact of116
    | 117 => exact of117
    | 118 => exact of118
    | 119 => exact of119
    | 120 => exact of120
    | 121 => exact of121
    | 122 => exact of122
    | 123 => exact of123
    | 124 => exact of124
    | 125 => exact of125
    | 126 => exact of126
    | 127 => exact of127
    | 128 => exact of128
    | 129 => exact of129
    | 130 => exact of130
    | 131 => exact of131
    | 132 => exact of132
    | 133 => exact of133
    | 134 => exact of134
    | 135 => exact of135
    | 136 => exact of136
    | 137 => exact of137
    | 138 => exact of138
    | 139 => exact of139
    | 140 => exact of140
    | 141 => exact of141
    | 142 => exact of142
    | 143 => exact of143
    | 144 => exact of144
    | 145 => exact of145
    | 146 => exact of146
    | 147 => exact of147
    | 148 => exact of148
    | 149 => exact of149
    | 150 => exact of150
    | 151 => exact of151
    | 152 => exact of152
    | 153 => exact of153
    | 154 => exact of154
    | 155 => exact of155
    | 156 => exact of156
    | 157 => exact of157
    | 158 => exact of158
    | 159 => exact of159
    | 160 => exact of160
    | 161 => exact of161
    | 162 => exact of162
    | 163 => exact of163
    | 164 => exact of164
    | 165 => exact of165
    | 166 => exact of166
    | 167 => exact of167
    | 168 => exact of168
    | 169 => exact of169
    | 170 => exact of170
    | 171 => exact of171
    | 172 => exact of172
    | 173 => exact of173
    | 174 => exact of174
    | 175 => exact of175
    | 176 => exact of176
    | 177 => exact of177
    | 178 => exact of178
    | 179 => exact of179
    | 180 => exact of180
    | 181 => exact of181
    | 182 => exact of182
    | 183 => exact of183
    | 184 => exact of184
    | 185 => exact of185
    | 186 => exact of186
    | 187 => exact of187
    | 188 => exact of188
    | 189 => exact of189
    | 190 => exact of190
    | 191 => exact of191
    | 192 => exact of192
    | 193 => exact of193
    | 194 => exact of194
    | 195 => exact of195
    | 196 => exact of196
    | 197 => exact of197
    | 198 => exact of198
    | 199 => exact of199
    | 200 => exact of200
    | 201 => exact of201
    | 202 => exact of202
    | 203 => exact of203
    | 204 => exact of204
    | 205 => exact of205
    | 206 => exact of206
    | 207 => exact of207
    | 208 => exact of208
    | 209 => exact of209
    | 210 => exact of210
    | 211 => exact of211
    | 212 => exact of212
    | 213 => exact of213
    | 214 => exact of214
    | 215 => exact of215
    | 216 => exact of216
    | 217 => exact of217
    | 218 => exact of218
    | 219 => exact of219
    | 220 => exact of220
    | 221 => exact of221
    | 222 => exact of222
    | 223 => exact of223
    | 224 => exact of224
    | 225 => exact of225
    | 226 => exact of226
    | 227 => exact of227
    | 228 => exact of228
    | 229 => exact of229
    | 230 => exact of230
    | 231 => exact of231
    | 232 => exact of232
    | 233 => exact of233
    | 234 => exact of234
    | 235 => exact of235
    | 236 => exact of236
    | 237 => exact of237
    | 238 => exact of238
    | 239 => exact of239
    | 240 => exact of240
    | 241 => exact of241
    | 242 => exact of242
    | 243 => exact of243
    | 244 => exact of244
    | 245 => exact of245
    | 246 => exact of246
    | 247 => exact of247
    | 248 => exact of248
    | 249 => exact of249
    | 250 => exact of250
    | 251 => exact of251
    | 252 => exact of252
    | 253 => exact of253
    | 254 => exact of254
    | 255 => exact of255
    | n + 256 => exact ofbig n
theorem table [Sym] {W : World} (h : laidMetH Tryd.prog Rows.isaOfRow.laid W) : ∃ obj, W.heap[0]? = some obj ∧ ∀ β, OR β ⟨0, 0, 0, 0⟩ obj (.table (space.map (Value.int .u8))) := by
  rw [MakeChecks.laidMetH_plain _ _ _ (by kernel_rfl)] at h
  exact laid_ints h (n := "strings.asciiSpace") (ds := space.map fun m => .lit (.int .u8 m)) (List.mem_cons_of_mem _ (List.mem_cons_of_mem _ (List.mem_cons_self ..))) (g := 0) (t := 92) (e := 5) (k := 256) (by kernel_rfl) (by kernel_rfl) Tryd.underlying92 Tryd.underlying5 (by kernel_rfl) space rfl
theorem walk (x y : Int) (W : World) (h : laidMetH Tryd.prog Rows.isaOfRow.laid W) : Calls Tryd.prog 5 #[.int .i64 x, .int .i64 y] W fun e W' => e = .returned (.bool true) ∧ RowKit.Below W.heap.size W W' := by
  obtain ⟨r, st', hok, h1, h2⟩ := (code x).run y
  letI : Sym := symI y
  obtain ⟨obj, h3, h4⟩ := table h
  have h5 : (LkC r).func 5 = some (5, Tryd.f5) := by kernel_rfl
  have hs : VR (startB tab0) (.map (some 0)) (.int .i64 y) := VR.sym 0
  exact law_calls' hok (LkC_con r) h5 (l := tab0) (nx := 20) (args' := [.int .i64 x, .int .i64 y]) h1 rfl h2 (VRs.cons (.int _ _) (VRs.cons hs VRs.nil)) (fun z hz => by
    have : z = (0, .table (space.map (Value.int .u8))) := by simpa [tab0] using hz
    subst this
    exact ⟨obj, h3, h4 _⟩) globIn (tabLt (by decide))

theorem lifted (os : Os) (started : os.Started) (H : Type) (enc : TypeId × Value → H) :
    ReturnsInHanded {} Tryd.checked os 5 .any (fun w args => (Rows.isaOfSpec.pre enc Tryd.prog Tryd.f5 [] false w args ∧ laidMetH Tryd.prog Rows.isaOfRow.laid w) ∧ sizedMet enc Tryd.prog Tryd.f5 (OpenSpec.ofChange Rows.isaOfSpec) false w args)
      (Rows.isaOfSpec.post enc Tryd.prog Tryd.f5 false true false false) := by
  refine returnsInHanded_of_change_and (C := Tryd.checked) (X := fun w _ => laidMetH Tryd.prog Rows.isaOfRow.laid w) (fun _ _ _ hh h => h.of_heap hh) own started (by kernel_rfl) Tryd.func5
    (ChangeSpec.witness_shaped (enc := enc) (C := Tryd.checked) (os := os) (X := fun w _ => laidMetH Tryd.prog Rows.isaOfRow.laid w) false (World.laidAll Tryd.prog os Rows.isaOfRow.laid) #[.int .i64 0, .int .i64 0] 8 (World.laidAll_os _ _ _)
      (World.shaped_of_ZipB (by kernel_rfl) (by kernel_rfl)) (by kernel_rfl) (by kernel_rfl) (by kernel_rfl)
      (by rw [MakeChecks.laidMetH_plain _ _ _ (by kernel_rfl)]; exact laidMet_laidAll _ (by kernel_rfl) (by kernel_rfl))) ?_
  intro W base args ds gs before hval0 hW _ _ hL _
  have hval : ∀ (j : Nat) t v, Tryd.f5.params[j]? = some t → args[j]? = some v → Value.okWide Tryd.prog W .any base t v := hval0
  have hW' := hW
  obtain ⟨p, q, hA0, hV, rfl, hfz, hnd⟩ := hW
  have hA : DataW.TrodAll enc Tryd.prog W 0 (fun _ => true) true Tryd.f5.params.toList args.toList ds p := hA0
  rw [Tryd.params5] at hA hval
  obtain ⟨v0, vs0, d0, ds0, p0, q0, hargs, rfl, rfl, h0, r0⟩ := trodAll_cons hA
  obtain ⟨v1, vs1, d1, ds1, p1, q1, rfl, rfl, rfl, h1, r1⟩ := trodAll_cons r0
  obtain ⟨rfl, rfl, rfl⟩ := trodAll_nil r1
  obtain rfl : args = #[v0, v1] := by cases args; simp_all
  obtain ⟨rfl, rfl⟩ := trodVars_none hV
  obtain ⟨n, rfl, rfl, rfl, wn⟩ := open_int Tryd.underlying3 (hval 0 3 v0 rfl rfl) h0
  obtain ⟨m, rfl, rfl, rfl, wm⟩ := open_int Tryd.underlying3 (hval 1 3 v1 rfl rfl) h1
  clear hA0 hval0
  refine (walk n m W hL).mono fun e W' ⟨he, bel⟩ => ?_
  subst he
  exact ⟨_, rfl, _, _, _, [], _, [], hW', trodAll_mk1 (shut_bool Tryd.underlying4 _), (trodAll_cons_mk (shut_int Tryd.underlying3 wn) (trodAll_cons_mk (shut_int Tryd.underlying3 wm) trodAll_mk0)), rfl, bel.frame _, fun h => by cases h⟩
theorem holds : Rows.IsaOfSaid :=
  OpenClaim.holds_of_wide 5 Tryd.f5 rfl rfl rfl rfl rfl rfl rfl ⟨rfl, rfl, rfl, rfl, rfl⟩ rfl rfl rfl rfl rfl (by kernel_rfl) Tryd.func5 (by kernel_rfl)
    (of_decide_eq_true (by kernel_rfl)) (by unfold Func.isWrapper; first | (rw [if_pos (by decide +kernel)]; kernel_rfl) | (rw [if_neg (by decide +kernel)]; exact ⟨rfl, rfl⟩))
    (fun os started H enc _ => lifted os started H enc)
theorem card_holds : Rows.IsaOfCardSaid :=
  Claim7.holds_tied_plain_at .later [] [.data, .listed, .data, .pinned, .pinned] true (true, "1e1e248acc660a677998e05a53df8622417f417e7bf64ebac2106d3cebcb75fa") true holds (fun _ h => by cases h) (by kernel_rfl) (fun _ h => by cases h) isaOf_row_tie rfl ⟨rfl, rfl⟩ (by kernel_rfl) rfl
    (fun f fn hf hfn => by
      obtain rfl : f = 5 := Option.some.inj ((show Tryd.prog.funcNamed "camshaft/camshaftlaw10.IsaOf" = some 5 by kernel_rfl).symm.trans hf) |>.symm
      obtain rfl : fn = Tryd.f5 := (Option.some.inj (Tryd.func5.symm.trans hfn)).symm
      exact ⟨by kernel_rfl, fun j t ht => by
        rw [Tryd.params5] at ht
        have hm : t ∈ [3] := by simpa using Array.mem_of_getElem? ht
        have hall : ([3].all fun u => !Tryd.prog.wantsStandIn u) = true := by kernel_rfl
        exact (show Tryd.prog.wantsStandIn t = false by simpa using List.all_eq_true.1 hall t hm)⟩)
    (by kernel_rfl)
#print axioms card_holds
end Go.Proofs.YtfgdoliihmjnoaaDoor.isaOf
namespace Go.Proofs.YtfgdoliihmjnoaaDoor
/-- The card, under a short name, for the claim. -/
theorem isaOf_card : Rows.IsaOfCardSaid := isaOf.card_holds
end Go.Proofs.YtfgdoliihmjnoaaDoor
