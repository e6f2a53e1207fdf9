/- Parts of the proof of UasmReaches, packed by a program: an evaluator over the given code, functions as plain texts, their laws. -/
import Derived.KernelRfl
import Derived.Test.YtifploedaacedaaGreatDoorPRB
set_option linter.unusedVariables false
set_option linter.unusedSimpArgs false
namespace Go.E
open Go
def PT.vals {α:Type}:PT α→(Nat→Nat)→List (Nat×α)
 | .nil,_=>[]
 | .node l v r,f=>(match v with | some x=>[(f 0,x)] | none=>[])++(l.vals (fun k=>f (2*k+1))++r.vals (fun k=>f (2*k+2)))
theorem PT.all_vals {α:Type} {p:Nat→α→Prop}:∀ (t:PT α) (f:Nat→Nat),(∀ x∈t.vals f,p x.1 x.2)→t.All p f
 | .nil,_,_=>trivial
 | .node l v r,f,h=>⟨fun x hx=>by
   subst hx
   exact h (f 0,x) (by simp [PT.vals]),PT.all_vals l _ fun x hx=>h x (by simp [PT.vals,hx]),PT.all_vals r _ fun x hx=>h x (by simp [PT.vals,hx])⟩
theorem PT.all_map {α β:Type} {p:Nat→α→Prop} {g h:Nat×α→β} {t:PT α} (hp:∀ x:Nat×α,g x=h x→p x.1 x.2) (e:(t.vals fun k=>k).map g=(t.vals fun k=>k).map h):t.All p fun k=>k:=
 PT.all_vals t _ fun x hx=>hp x (List.map_inj_left.1 e x hx)
noncomputable def zL {α:Type} (x:α):PT α:=.node .nil (some x) .nil
noncomputable def zN {α:Type} (l:PT α) (x:α) (r:PT α):PT α:=.node l (some x) r
end Go.E
namespace Go.Proofs.YtifploedaacedaaGreatDoorE
open Go Go.E Go.Proofs
set_option maxRecDepth 100000
open Tryz in
noncomputable def tyT:PT TypeInfo:=zN (zN (zN (zN (zN (zN (zN (zN (zL t255) t127 .nil) t63 (zL t191)) t31 (zN (zN (zL t287) t159 .nil) t95 (zL t223))) t15 (zN (zN (zN (zL t271) t143 .nil) t79 (zL t207)) t47 (zN (zL t175)
 t111 (zL t239)))) t7 (zN (zN (zN (zN (zL t263) t135 .nil) t71 (zL t199)) t39 (zN (zL t167) t103 (zL t231))) t23 (zN (zN (zN (zL t279) t151 .nil) t87 (zL t215)) t55 (zN (zL t183) t119 (zL t247))))) t3 (zN (zN (zN (zN (zN (zL t259) t131
 .nil) t67 (zL t195)) t35 (zN (zL t163) t99 (zL t227))) t19 (zN (zN (zN (zL t275) t147 .nil) t83 (zL t211)) t51 (zN (zL t179) t115 (zL t243)))) t11 (zN (zN (zN (zN (zL t267) t139 .nil) t75 (zL t203)) t43 (zN (zL t171) t107 (zL t235))) t27
 (zN (zN (zN (zL t283) t155 .nil) t91 (zL t219)) t59 (zN (zL t187) t123 (zL t251)))))) t1 (zN (zN (zN (zN (zN (zN (zL t257) t129 .nil) t65 (zL t193)) t33 (zN (zL t161) t97 (zL t225))) t17 (zN (zN (zN (zL t273) t145 .nil) t81 (zL t209)) t49
 (zN (zL t177) t113 (zL t241)))) t9 (zN (zN (zN (zN (zL t265) t137 .nil) t73 (zL t201)) t41 (zN (zL t169) t105 (zL t233))) t25 (zN (zN (zN (zL t281) t153 .nil) t89 (zL t217)) t57 (zN (zL t185) t121 (zL t249))))) t5 (zN (zN (zN (zN (zN (zL
 t261) t133 .nil) t69 (zL t197)) t37 (zN (zL t165) t101 (zL t229))) t21 (zN (zN (zN (zL t277) t149 .nil) t85 (zL t213)) t53 (zN (zL t181) t117 (zL t245)))) t13 (zN (zN (zN (zN (zL t269) t141 .nil) t77 (zL t205)) t45 (zN (zL t173) t109 (zL
 t237))) t29 (zN (zN (zN (zL t285) t157 .nil) t93 (zL t221)) t61 (zN (zL t189) t125 (zL t253))))))) t0 (zN (zN (zN (zN (zN (zN (zN (zL t256) t128 .nil) t64 (zL t192)) t32 (zN (zL t160) t96 (zL t224))) t16 (zN (zN (zN (zL t272) t144 .nil)
 t80 (zL t208)) t48 (zN (zL t176) t112 (zL t240)))) t8 (zN (zN (zN (zN (zL t264) t136 .nil) t72 (zL t200)) t40 (zN (zL t168) t104 (zL t232))) t24 (zN (zN (zN (zL t280) t152 .nil) t88 (zL t216)) t56 (zN (zL t184) t120 (zL t248))))) t4 (zN
 (zN (zN (zN (zN (zL t260) t132 .nil) t68 (zL t196)) t36 (zN (zL t164) t100 (zL t228))) t20 (zN (zN (zN (zL t276) t148 .nil) t84 (zL t212)) t52 (zN (zL t180) t116 (zL t244)))) t12 (zN (zN (zN (zN (zL t268) t140 .nil) t76 (zL t204)) t44 (zN
 (zL t172) t108 (zL t236))) t28 (zN (zN (zN (zL t284) t156 .nil) t92 (zL t220)) t60 (zN (zL t188) t124 (zL t252)))))) t2 (zN (zN (zN (zN (zN (zN (zL t258) t130 .nil) t66 (zL t194)) t34 (zN (zL t162) t98 (zL t226))) t18 (zN (zN (zN (zL t274)
 t146 .nil) t82 (zL t210)) t50 (zN (zL t178) t114 (zL t242)))) t10 (zN (zN (zN (zN (zL t266) t138 .nil) t74 (zL t202)) t42 (zN (zL t170) t106 (zL t234))) t26 (zN (zN (zN (zL t282) t154 .nil) t90 (zL t218)) t58 (zN (zL t186) t122 (zL
 t250))))) t6 (zN (zN (zN (zN (zN (zL t262) t134 .nil) t70 (zL t198)) t38 (zN (zL t166) t102 (zL t230))) t22 (zN (zN (zN (zL t278) t150 .nil) t86 (zL t214)) t54 (zN (zL t182) t118 (zL t246)))) t14 (zN (zN (zN (zN (zL t270) t142 .nil) t78
 (zL t206)) t46 (zN (zL t174) t110 (zL t238))) t30 (zN (zN (zN (zL t286) t158 .nil) t94 (zL t222)) t62 (zN (zL t190) t126 (zL t254)))))))
open Tryz in
noncomputable def unT:PT TypeDesc:=zN (zN (zN (zN (zN (zN (zN (zN (zL t255.desc) t126.desc .nil) t63.desc (zL t191.desc)) t31.desc (zN (zN (zL t287.desc) t159.desc .nil) t94.desc (zL t223.desc))) t15.desc (zN (zN (zN (zL
 t271.desc) t143.desc .nil) t79.desc (zL t207.desc)) t46.desc (zN (zL t175.desc) t111.desc (zL t239.desc)))) t7.desc (zN (zN (zN (zN (zL t262.desc) t134.desc .nil) t71.desc (zL t198.desc)) t38.desc (zN (zL t167.desc) t103.desc (zL
 t231.desc))) t23.desc (zN (zN (zN (zL t278.desc) t151.desc .nil) t87.desc (zL t215.desc)) t55.desc (zN (zL t183.desc) t119.desc (zL t247.desc))))) t3.desc (zN (zN (zN (zN (zN (zL t258.desc) t131.desc .nil) t67.desc (zL t195.desc)) t34.desc
 (zN (zL t163.desc) t99.desc (zL t227.desc))) t18.desc (zN (zN (zN (zL t275.desc) t146.desc .nil) t83.desc (zL t211.desc)) t51.desc (zN (zL t179.desc) t115.desc (zL t243.desc)))) t9.desc (zN (zN (zN (zN (zL t267.desc) t138.desc .nil)
 t75.desc (zL t203.desc)) t43.desc (zN (zL t171.desc) t106.desc (zL t235.desc))) t27.desc (zN (zN (zN (zL t21.desc) t155.desc .nil) t91.desc (zL t219.desc)) t59.desc (zN (zL t187.desc) t123.desc (zL t251.desc)))))) t1.desc (zN (zN (zN (zN
 (zN (zN (zL t257.desc) t129.desc .nil) t65.desc (zL t193.desc)) t33.desc (zN (zL t161.desc) t27.desc (zL t225.desc))) t17.desc (zN (zN (zN (zL t273.desc) t145.desc .nil) t81.desc (zL t209.desc)) t49.desc (zN (zL t177.desc) t113.desc (zL
 t241.desc)))) t9.desc (zN (zN (zN (zN (zL t265.desc) t137.desc .nil) t73.desc (zL t201.desc)) t41.desc (zN (zL t169.desc) t105.desc (zL t233.desc))) t25.desc (zN (zN (zN (zL t5.desc) t153.desc .nil) t89.desc (zL t217.desc)) t57.desc (zN
 (zL t185.desc) t120.desc (zL t249.desc))))) t5.desc (zN (zN (zN (zN (zN (zL t261.desc) t133.desc .nil) t69.desc (zL t197.desc)) t37.desc (zN (zL t165.desc) t101.desc (zL t229.desc))) t21.desc (zN (zN (zN (zL t277.desc) t149.desc .nil)
 t85.desc (zL t213.desc)) t53.desc (zN (zL t181.desc) t117.desc (zL t245.desc)))) t13.desc (zN (zN (zN (zN (zL t268.desc) t141.desc .nil) t76.desc (zL t205.desc)) t45.desc (zN (zL t173.desc) t108.desc (zL t237.desc))) t29.desc (zN (zN (zN
 (zL t285.desc) t157.desc .nil) t93.desc (zL t221.desc)) t61.desc (zN (zL t189.desc) t125.desc (zL t253.desc))))))) t0.desc (zN (zN (zN (zN (zN (zN (zN (zL t256.desc) t128.desc .nil) t64.desc (zL t192.desc)) t32.desc (zN (zL t160.desc)
 t96.desc (zL t224.desc))) t16.desc (zN (zN (zN (zL t272.desc) t144.desc .nil) t79.desc (zL t207.desc)) t48.desc (zN (zL t176.desc) t112.desc (zL t240.desc)))) t7.desc (zN (zN (zN (zN (zL t264.desc) t136.desc .nil) t72.desc (zL t200.desc))
 t40.desc (zN (zL t168.desc) t104.desc (zL t232.desc))) t24.desc (zN (zN (zN (zL t5.desc) t152.desc .nil) t88.desc (zL t216.desc)) t56.desc (zN (zL t184.desc) t120.desc (zL t247.desc))))) t4.desc (zN (zN (zN (zN (zN (zL t260.desc) t132.desc
 .nil) t68.desc (zL t196.desc)) t36.desc (zN (zL t164.desc) t100.desc (zL t3.desc))) t20.desc (zN (zN (zN (zL t275.desc) t148.desc .nil) t84.desc (zL t212.desc)) t52.desc (zN (zL t180.desc) t116.desc (zL t244.desc)))) t12.desc (zN (zN (zN
 (zN (zL t268.desc) t140.desc .nil) t76.desc (zL t204.desc)) t44.desc (zN (zL t172.desc) t108.desc (zL t236.desc))) t3.desc (zN (zN (zN (zL t21.desc) t106.desc .nil) t91.desc (zL t220.desc)) t60.desc (zN (zL t188.desc) t124.desc (zL
 t251.desc)))))) t2.desc (zN (zN (zN (zN (zN (zN (zL t258.desc) t130.desc .nil) t66.desc (zL t194.desc)) t34.desc (zN (zL t162.desc) t98.desc (zL t226.desc))) t18.desc (zN (zN (zN (zL t274.desc) t146.desc .nil) t82.desc (zL t210.desc))
 t50.desc (zN (zL t178.desc) t114.desc (zL t241.desc)))) t9.desc (zN (zN (zN (zN (zL t265.desc) t138.desc .nil) t74.desc (zL t202.desc)) t42.desc (zN (zL t170.desc) t106.desc (zL t234.desc))) t25.desc (zN (zN (zN (zL t282.desc) t153.desc
 .nil) t90.desc (zL t218.desc)) t58.desc (zN (zL t186.desc) t122.desc (zL t250.desc))))) t5.desc (zN (zN (zN (zN (zN (zL t262.desc) t134.desc .nil) t70.desc (zL t198.desc)) t38.desc (zN (zL t166.desc) t101.desc (zL t230.desc))) t22.desc (zN
 (zN (zN (zL t278.desc) t120.desc .nil) t86.desc (zL t214.desc)) t54.desc (zN (zL t182.desc) t118.desc (zL t246.desc)))) t13.desc (zN (zN (zN (zN (zL t270.desc) t142.desc .nil) t78.desc (zL t206.desc)) t46.desc (zN (zL t174.desc) t110.desc
 (zL t238.desc))) t30.desc (zN (zN (zN (zL t285.desc) t157.desc .nil) t94.desc (zL t222.desc)) t62.desc (zN (zL t190.desc) t126.desc (zL t254.desc)))))))
open Tryz in
noncomputable def fnT:PT (FuncId×Func):=(.node (.node (zN (zN (zN (zN (zN (zL (127,f127)) (63,f63) .nil) (31,f31) (zN (zL (159,f159)) (95,f95) .nil)) (15,f15) (zN (zL (79,f79)) (47,f47) (zN (zL (175,f175)) (111,
 f111) .nil))) (7,f7) (zN (zN (zN (zL (135,f135)) (71,f71) .nil) (39,f39) (zN (zL (167,f167)) (103,f103) .nil)) (23,f23) (zN (zN (zL (151,f151)) (87,f87) .nil) (55,f55) (zL (119,f119))))) (3,f3) (zN (zN (zN (zN (zL (131,f131))
 (67,f67) .nil) (35,f35) (zN (zL (163,f163)) (99,f99) .nil)) (19,f19) (zN (zN (zL (147,f147)) (83,f83) .nil) (51,f51) (zN (zL (179,f179)) (115,f115) .nil))) (11,f11) (zN (zN (zN (zL (139,f139)) (75,f75) .nil) (43,f43) (zN (zL
 (171,f171)) (107,f107) .nil)) (27,f27) (zN (zN (zL (155,f155)) (91,f91) .nil) (59,f59) (zL (123,f123)))))) none (zN (zN (zN (zN (zN (zL (129,f129)) (65,f65) .nil) (33,f33) (zN (zL (161,f161)) (97,f97) .nil)) (17,f17) (zN (zN
 (zL (145,f145)) (81,f81) .nil) (49,f49) (zN (zL (177,f177)) (113,f113) .nil))) (9,f9) (zN (zN (zN (zL (137,f137)) (73,f73) .nil) (41,f41) (zN (zL (169,f169)) (105,f105) .nil)) (25,f25) (zN (zN (zL (153,f153)) (89,f89) .nil)
 (57,f57) (zL (121,f121))))) (5,f5) (zN (zN (zN (zN (zL (133,f133)) (69,f69) .nil) (37,f37) (zN (zL (165,f165)) (101,f101) .nil)) (21,f21) (zN (zN (zL (149,f149)) (85,f85) .nil) (53,f53) (zN (zL (181,f181)) (117,f117) .nil)))
 (13,f13) (zN (zN (zN (zL (141,f141)) (77,f77) .nil) (45,f45) (zN (zL (173,f173)) (109,f109) .nil)) (29,f29) (zN (zL (93,f93)) (61,f61) (zL (125,f125))))))) none (zN (zN (zN (zN (zN (zN (zL (128,f128)) (64,f64) .nil) (32,f32)
 (zN (zL (160,f160)) (96,f96) .nil)) (16,f16) (zN (zN (zL (144,f144)) (80,f80) .nil) (48,f48) (zN (zL (176,f176)) (112,f112) .nil))) (8,f8) (zN (zN (zN (zL (136,f136)) (72,f72) .nil) (40,f40) (zN (zL (168,f168)) (104,f104)
 .nil)) (24,f24) (zN (zN (zL (152,f152)) (88,f88) .nil) (56,f56) (zL (120,f120))))) (4,f4) (zN (zN (zN (zN (zL (132,f132)) (68,f68) .nil) (36,f36) (zN (zL (164,f164)) (100,f100) .nil)) (20,f20) (zN (zL (84,f84)) (52,f52) (zN
 (zL (180,f180)) (116,f116) .nil))) (12,f12) (zN (zN (zN (zL (140,f140)) (76,f76) .nil) (44,f44) (zN (zL (172,f172)) (108,f108) .nil)) (28,f28) (zN (zN (zL (156,f156)) (92,f92) .nil) (60,f60) (zL (124,f124)))))) (2,f2) (zN (zN
 (zN (zN (zN (zL (130,f130)) (66,f66) .nil) (34,f34) (zN (zL (162,f162)) (98,f98) .nil)) (18,f18) (zN (zN (zL (146,f146)) (82,f82) .nil) (50,f50) (zN (zL (178,f178)) (114,f114) .nil))) (10,f10) (zN (zN (zN (zL (138,f138)) (74,
 f74) .nil) (42,f42) (zN (zL (170,f170)) (106,f106) .nil)) (26,f26) (zN (zN (zL (154,f154)) (90,f90) (zL (218,f218))) (58,f58) (zL (122,f122))))) (6,f6) (zN (zN (zN (zN (zL (134,f134)) (70,f70) .nil) (38,f38) (zN (zL (166,
 f166)) (102,f102) .nil)) (22,f22) (zN (zN (zL (150,f150)) (86,f86) .nil) (54,f54) (zN (zL (182,f182)) (118,f118) .nil))) (14,f14) (zN (zN (zN (zL (142,f142)) (78,f78) .nil) (46,f46) (zN (zL (174,f174)) (110,f110) .nil)) (30,
 f30) (zN (zN (zL (158,f158)) (94,f94) .nil) (62,f62) (zL (126,f126))))))))
theorem tyT_ok:tyT.All (InfP Tryz.prog) (fun k=>k):=PT.all_map (g:=fun x=>Tryz.prog.info? x.1) (h:=fun x=>some x.2) (fun _ e=>e) (by kernel_rfl)
theorem unT_ok:unT.All (UndP Tryz.prog) (fun k=>k):=PT.all_map (g:=fun x=>Tryz.prog.underlying x.1) (h:=fun x=>some x.2) (fun _ e=>e) (by kernel_rfl)
theorem fnT_ok:fnT.All (FnP Tryz.prog) (fun k=>k):=PT.all_map (g:=fun x=>(fun args w=>(callFunc x.1 args).run Tryz.prog w,Tryz.prog.funcs[x.2.1]?)) (h:=fun x=>(fun args w=>.ok (.enter x.2.1 args) w,some x.2.2)) (fun _ e=>⟨fun args w=>congrFun (congrFun (congrArg Prod.fst e) args) w,congrArg Prod.snd e⟩) (by kernel_rfl)
def zca:List (List UInt8×Nat):=[([97,108,117],5),([97],6),([98],6),([100],6),([108,105,116],8),([115,105,122,101],2),([99,99],2),([109,101,109],4),([115,101,113],3),([99,111,110,100],5),([116,111],11),([109,105,115,99],6)]
def fieldsC:List Value:=zca.flatMap fun x=>[.string ⟨⟨x.1⟩⟩,.int .i64 x.2]
def asciiC:List Value:=Lib.asciiSpaceTab.map fun z=>.int .u8 z
def zqG (f:Nat):Bool:=Nat.beq f 110||Nat.beq f 132
def zqH (f:Nat) (vs:List Value):Option Value:=
 cond (zqG f) (match vs with
  | [.string s,.int .u8 c]=>some (.int .i64 (Lib.indexByte s.data.toList c.toNat.toUInt8))
  | _=>none)
 (cond (Nat.beq f 128) (match vs with
  | [.string s,.string t]=>(match t.data.toList with
    | [c]=>some (.int .i64 (Lib.countByte s.data.toList c))
    | _=>none)
  | _=>none)
 (cond (Nat.beq f 129) (match vs with
  | [.string s,.string t]=>(match t.data.toList with
    | [c]=>some (.int .i64 (Lib.indexByte s.data.toList c))
    | _=>none)
  | _=>none) none))
def extF (f:Nat) (vs:List Value):Option Value:=
 cond (Nat.beq f 102) (match vs with
  | [.int .i64 n]=>cond (decide (0≤n)&&decide (n<100)) (some (.string ⟨(Lib.decDigits n.toNat).toArray⟩)) none
  | _=>none) (zqH f vs)
def zeY (nx g:Nat):Con:=⟨nx,nx+1,[(g,.table [.chan (some g)])],[],.iface 230 (.pointer (some ⟨nx,0,none⟩))⟩
def zlS (f:Nat) (vs:List Value) (nx:Nat):Option Con:=
 cond (Nat.beq f 147) (match vs with
  | [.string _,.string s,.int .i64 _,.int .i64 _,.iface t (.int .i64 k)]=>cond (Nat.ble s.size 281474976710656&&Nat.beq t 228) (cond (decide (k=2)) (some (zeY nx 6)) (cond (decide (k=1)) (some (zeY nx 7)) none)) none
  | _=>none) none
def pureL:List Nat:=[107,109,69,91,81,82,112,113,133,47,46,75,22,18,77,34,56,98,115,100,118,101,73,20,135,134,116,96,114,97,99,72,15,25]
noncomputable def Lk0:Lk where
 info t:=tyT.get t
 und t:=unT.get t
 func f:=fnT.get f
 glob g:=Nat.beq g 6||Nat.beq g 7||Nat.beq g 0||Nat.beq g 2
 ext:=extF
 con:=zlS
 pureF f:=pureL.any (Nat.beq f)
theorem znV {t:ByteArray} {c:UInt8} (h:t.data.toList=[c]):t=⟨#[c]⟩:=by
 cases t with
 | mk d=>cases d with
   | mk l=>simp only at h;rw [h]
theorem zs3 {f:Nat} {vs:List Value} {v:Value} (h:zqH f vs=some v):(∀ x∈vs,flat3 x=true)∧flat3 v=true∧∀ w,
  ∃ j,(∀ bs w,(callFunc f bs).run Tryz.prog w=.ok (.enter j bs) w)∧Calls Tryz.prog j vs.toArray w fun e w'=>e=.returned v∧RowKit.Below w.heap.size w w':=by
 have still:∀ (w w':World),w'=w→RowKit.Below w.heap.size w w':=fun w w' e=>by subst e;exact ⟨rfl,rfl,rfl,zlr _,fun _ _=>rfl⟩
 unfold zqH at h
 cases hi:zqG f with
 | true=>
   rw [hi] at h
   simp only [zct] at h
   split at h
   ·rename_i s c
    cases h
    refine ⟨fun x hx=>by simp at hx;rcases hx with rfl | rfl<;>rfl,rfl,fun w=>?_⟩
    unfold zqG at hi
    simp only [Bool.or_eq_true,zaC,decide_eq_true_eq] at hi
    rcases hi with rfl | rfl
    ·exact ⟨110,Tryz.call110,(Tryz.strings_IndexByte s c w).mono fun e w' ⟨h1,h2⟩=>⟨h1,still w w' h2⟩⟩
    ·exact ⟨132,Tryz.call132,(Tryz.stringslite_IndexByte s c w).mono fun e w' ⟨h1,h2⟩=>⟨h1,still w w' h2⟩⟩
   ·cases h
 | false=>
   rw [hi] at h
   simp only [zcf] at h
   cases h59:Nat.beq f 128 with
   | true=>
     rw [h59] at h
     have:=beq_true h59
     subst this
     simp only [zct] at h
     split at h
     ·rename_i s t
      split at h
      ·rename_i c hc
       cases h
       have:=znV hc
       subst this
       exact ⟨fun x hx=>by simp at hx;rcases hx with rfl | rfl<;>rfl,rfl,fun w=>⟨128,Tryz.call128,(Tryz.strings_Count_one s c w).mono fun e w' ⟨h1,h2⟩=>⟨h1,still w w' h2⟩⟩⟩
      ·cases h
     ·cases h
   | false=>
     rw [h59] at h
     simp only [zcf] at h
     cases h60:Nat.beq f 129 with
     | true=>
       rw [h60] at h
       have:=beq_true h60
       subst this
       simp only [zct] at h
       split at h
       ·rename_i s t
        split at h
        ·rename_i c hc
         cases h
         have:=znV hc
         subst this
         exact ⟨fun x hx=>by simp at hx;rcases hx with rfl | rfl<;>rfl,rfl,fun w=>⟨129,Tryz.call129,(Tryz.strings_Index_one s c w).mono fun e w' ⟨h1,h2⟩=>⟨h1,still w w' h2⟩⟩⟩
        ·cases h
       ·cases h
     | false=>rw [h60] at h;cases h
theorem zt5 {f:Nat} {vs:List Value} {v:Value} (h:extF f vs=some v):(∀ x∈vs,flat3 x=true)∧flat3 v=true∧∀ w,
  ∃ j,(∀ bs w,(callFunc f bs).run Tryz.prog w=.ok (.enter j bs) w)∧Calls Tryz.prog j vs.toArray w fun e w'=>e=.returned v∧RowKit.Below w.heap.size w w':=by
 have still:∀ (w w':World),w'=w→RowKit.Below w.heap.size w w':=fun w w' e=>by subst e;exact ⟨rfl,rfl,rfl,zlr _,fun _ _=>rfl⟩
 unfold extF at h
 cases hi:Nat.beq f 102 with
 | false=>rw [hi] at h;exact zs3 h
 | true=>
   rw [hi] at h
   simp only [zct] at h
   have hf:f=102:=by rw [zaC] at hi;exact of_decide_eq_true hi
   subst hf
   split at h
   ·rename_i n
    cases hc:(decide (0≤n)&&decide (n<100)) with
    | false=>rw [hc] at h;cases h
    | true=>
      rw [hc] at h
      simp only [zct] at h
      cases h
      simp only [zae,decide_eq_true_eq] at hc
      refine ⟨fun x hx=>by simp at hx;subst hx;rfl,rfl,fun w=>⟨102,Tryz.call102,?_⟩⟩
      have hn:(n.toNat:Int)=n:=Int.toNat_of_nonneg hc.1
      have:=Tryz.strconv_Itoa_small n.toNat (by omega) w
      rw [hn] at this
      exact this.mono fun e w' ⟨h1,h2⟩=>⟨h1,still w w' h2⟩
   ·cases h
theorem zai [Sym]:Lk0.Ok Tryz.prog where
 symOp _ _ _ _ _ h:=by cases h
 symLen _ _ h:=by cases h
 info t i h:=PT.all_get tyT _ tyT_ok t i h
 und t d h:=PT.all_get unT _ unT_ok t d h
 func f j fn h:=PT.all_get fnT _ fnT_ok f (j,fn) h
 mixed:=by kernel_rfl
 ext f vs v h:=by
  obtain ⟨h1,h2,h3⟩:=zt5 h
  exact ⟨h1,h2,fun w=>.inl (h3 w)⟩
theorem zaq:LkS Lk0:=⟨fun _ _ _ _=>rfl⟩
structure ErrSym [Sym]:Prop where
 e4:∃ t u,Sym.v 6=.iface t u
 e5:∃ t u,Sym.v 7=.iface t u
theorem zp1 [Sym] {g nx:Nat} {fn s:ByteArray} {base bits k:Int} (hs:s.size≤281474976710656) (he:∃ t u,Sym.v g=.iface t u)
  (hc:∀ (ev:Value) (w:World),w.cell? ⟨g,0,none⟩=some ev→(ev=.nilIface∨∃ te pe,ev=.iface te pe)→
   Calls Tryz.prog 147 #[.string fn,.string s,.int .i64 base,.int .i64 bits,.iface 228 (.int .i64 k)] w fun e w'=>∃ N,e=.returned (.iface 230 (.pointer (some ⟨N,0,none⟩)))∧w.heap.size≤N∧w'.heap[N]?=some (.cells #[.string fn,.string s,ev] 248 (0,0))∧RowKit.Below w.heap.size w w'):
  ConFact Tryz.prog 147 [.string fn,.string s,.int .i64 base,.int .i64 bits,.iface 228 (.int .i64 k)] (zeY nx g):=by
 refine ⟨fun x hx=>by simp at hx;rcases hx with rfl | rfl | rfl | rfl | rfl<;>rfl,147,Tryz.call147,fun w pl hob=>?_⟩
 obtain ⟨hb,hoo,obj,hobj,arr,T,fr,rfl,hcells⟩:=hob (g,.table [.chan (some g)]) (by simp [zeY])
 obtain ⟨v',hv',hvr⟩:=hcells 0 (.chan (some g)) rfl
 have hv2:v'=Sym.v g:=by cases hvr;rfl
 subst hv2
 have hcell:w.cell? ⟨g,0,none⟩=some (Sym.v g):=by
  unfold World.cell?
  simp only [hobj]
  rw [hoo] at hv'
  simpa using hv'
 refine (hc (Sym.v g) w hcell (.inr he)).mono fun e w' ⟨N,h1,h2,h3,h4⟩=>?_
 refine ⟨_,fun i=>if i=nx then some ⟨N,0,3,0⟩ else none,h1,?_⟩
 have hN:N<w'.heap.size:=(Array.getElem?_eq_some_iff.1 h3).1
 refine ⟨.iface (.ptr (p:=⟨N,0,3,0⟩) (by simp)),h4,fun i p hp=>?_,fun i p hp=>?_,fun i p ob hp ho=>by simp [zeY] at ho,fun i j p q hp hq hi=>by simp [zeY] at hi⟩
 ·split at hp
  ·rename_i e;cases hp;subst e
   exact .inr ⟨zlr _,Nat.lt_succ_self _,h2⟩
  ·cases hp
 ·split at hp
  ·cases hp;exact hN
  ·cases hp
theorem zt6 [Sym] (hE:ErrSym):zkQ Tryz.prog Lk0:=by
 intro f vs nx c h
 have h0:zlS f vs nx=some c:=h
 clear h
 unfold zlS at h0
 obtain ⟨hf,h1⟩:=zaV h0
 clear h0
 have:=beq_true hf
 subst this
 split at h1
 ·rename_i fn s base bits t k
  obtain ⟨hq,h2⟩:=zaV h1
  clear h1
  simp only [zae,Nat.ble_eq] at hq
  have:=beq_true hq.2
  subst this
  cases k2:decide (k=2) with
  | true=>
    rw [k2] at h2;cases h2
    have:=of_decide_eq_true k2
    subst this
    exact zp1 hq.1 hE.e4 fun ev w hv hev=>Tryz.toError_syntax _ _ _ _ ev w hq.1 hv hev
  | false=>
    rw [k2] at h2
    cases k1:decide (k=1) with
    | true=>
      rw [k1] at h2;cases h2
      have:=of_decide_eq_true k1
      subst this
      exact zp1 hq.1 hE.e5 fun ev w hv hev=>Tryz.toError_range _ _ _ _ ev w hq.1 hv hev
    | false=>rw [k1] at h2;cases h2
 ·cases h1
noncomputable abbrev cc:zak:=cS Tryz.prog Lk0
end Go.Proofs.YtifploedaacedaaGreatDoorE
namespace Go.Proofs.YtifploedaacedaaGreatDoorE
set_option maxRecDepth 20000
open Go Go.E Go.Proofs
noncomputable def zlx (cf:zak) (lf:zac) (c':Int) (st:SS):Option (Value×SS):=
 cond (decide (97≤c')) (
 cond (decide (c'≤122)) (
 some (.bool true,st)) (
 cond (decide (65≤c')) (
 cond (decide (c'≤90)) (
 some (.bool true,st)) (
 some (.bool (decide (c'=95)),st))) (
 some (.bool (decide (c'=95)),st)))) (
 cond (decide (65≤c')) (
 cond (decide (c'≤90)) (
 some (.bool true,st)) (
 some (.bool (decide (c'=95)),st))) (
 some (.bool (decide (c'=95)),st)))
noncomputable abbrev znp:zac:=lS Tryz.prog Lk0 Tryz.f106 zaG
theorem znq:Lk0.func 106=some (106,Tryz.f106):=by kernel_rfl
theorem znr [Sym] (c':Int) (st:SS) {r:Value×SS} (h:zlx cc znp c' st=some r):cc 106 [.int .u8 c'] st=some r:=
 zah (li:=zaG) zai zaq znq rfl (fun _=>rfl) (.trans (by kernel_rfl) h)
noncomputable def zmJ (cf:zak) (lf:zac) (c':Int) (st:SS):Option (Value×SS):=
 cond (decide (48≤c')) (
 some (.bool (decide (c'≤57)),st)) (
 some (.bool false,st))
noncomputable abbrev zoe:zac:=lS Tryz.prog Lk0 Tryz.f108 zaG
theorem zof:Lk0.func 108=some (108,Tryz.f108):=by kernel_rfl
theorem zog [Sym] (c':Int) (st:SS) {r:Value×SS} (h:zmJ cc zoe c' st=some r):cc 108 [.int .u8 c'] st=some r:=
 zah (li:=zaG) zai zaq zof rfl (fun _=>rfl) (.trans (by kernel_rfl) h)
def zkq:LoopI:=⟨[(0,.str),(6,.any)],[(.exit 0,[(0,.str)]),(.ret,[(2,.int .i64)])]⟩
def zly (n:Nat):Option LoopI:=cond (Nat.beq n 2) (some zkq) (none)
noncomputable def zlT (cf:zak) (lf:zac) (s':ByteArray) (st:SS):Option (Value×SS):=
 let a:SS:=(st.ro st.next).new (.iter s' 0)
 (lf 2 [.string s',ptr ((st.ro st.next).next) 0] a).bind fun b=>
 cond (Nat.beq b.1 0) (
 ((b.2.1[0]?).bind asS).bind fun c=>
 some (.int .i64 (c.size:Int),st.adv b.2.2.next)) (
 ((b.2.1[0]?).bind (asI .i64)).bind fun d=>
 some (.int .i64 d,st.adv b.2.2.next))
noncomputable abbrev zgA:zac:=lS Tryz.prog Lk0 Tryz.f107 zly
theorem zpA:Lk0.func 107=some (107,Tryz.f107):=by kernel_rfl
theorem zpB [Sym] (s':ByteArray) (st:SS) {r:Value×SS} (h:zlT cc zgA s' st=some r):cc 107 [.string s'] st=some r:=
 zah (li:=zly) zai zaq zpA rfl (fun _=>rfl) (.trans (by kernel_rfl) h)
noncomputable def zd7 (cf:zak) (lf:zac) (s':ByteArray) (t6':Value) (st:SS):Option (Nat×List Value×SS):=
 (addr? t6').bind fun a=>
 cond (Nat.beq a.2 0) (
 (st.iterG a.1).bind fun q2=>
 cond (Nat.ble st.lim a.1) (
 cond (decide (q2.2<q2.1.size)) (
 let b:SS:=st.set a.1 (some (.iter q2.1 (q2.2+(Utf8.decode q2.1 q2.2).2)))
 cond (decide (128≤((Utf8.decode q2.1 q2.2).1:Int))) (
 some (1,[.int .i64 (q2.2:Int)],b)) (
 let c:Int:=IntKind.wrap .u8 ((Utf8.decode q2.1 q2.2).1:Int)
 (cf 106 [.int .u8 c] b).bind fun d=>
 ((some d.1).bind asB).bind fun e=>
 cond (!e) (
 let f:Int:=IntKind.wrap .u8 ((Utf8.decode q2.1 q2.2).1:Int)
 (cf 108 [.int .u8 f] d.2).bind fun g=>
 ((some g.1).bind asB).bind fun h=>
 cond (!h) (
 some (1,[.int .i64 (q2.2:Int)],g.2)) (
 lf 2 [.string s',t6'] g.2)) (
 lf 2 [.string s',t6'] d.2))) (
 some (0,[.string s'],st))) none) none
theorem zeE [Sym] (s':ByteArray) (t6':Value) (st:SS) {r:Nat×List Value×SS} (h:zd7 cc zgA s' t6' st=some r):zgA 2 [.string s',t6'] st=some r:=
 zax zai zaq (key:=2) (I:=zkq) rfl (by kernel_rfl) (by kernel_rfl) rfl rfl (.trans (by kernel_rfl) h)
def zfr:LoopI:=⟨[(0,.str),(1,.int .u8),(5,.any),(6,.int .i64),(7,.int .i64)],[(.exit 0,[(5,.any)])]⟩
def zfL (n:Nat):Option LoopI:=cond (Nat.beq n 4) (some zfr) (none)
noncomputable def zgQ (cf:zak) (lf:zac) (s':ByteArray) (c':Int) (st:SS):Option (Value×SS):=
 (lf 4 [.string s',.int .u8 c',.slice none 0 0,.int .i64 0,.int .i64 0] st).bind fun a=>
 (a.2.1[0]?).bind fun b=>
 some (b,a.2.2)
noncomputable abbrev zbG:zac:=lS Tryz.prog Lk0 Tryz.f50 zfL
theorem zjo:Lk0.func 50=some (50,Tryz.f50):=by kernel_rfl
theorem zjq [Sym] (s':ByteArray) (c':Int) (st:SS) {r:Value×SS} (h:zgQ cc zbG s' c' st=some r):cc 50 [.string s',.int .u8 c'] st=some r:=
 zah (li:=zfL) zai zaq zjo rfl (fun _=>rfl) (.trans (by kernel_rfl) h)
noncomputable def zb7 (cf:zak) (lf:zac) (s':ByteArray) (c':Int) (out':Value) (from0':Int) (i':Int) (st:SS):Option (Nat×List Value×SS):=
 cond (decide (i'≤(s'.size:Int))) (
 cond (decide (i'=(s'.size:Int))) (
 (zbk s' from0' i').bind fun a=>
 let b:SS:=st.new (.cells ([.string a]) 1)
 (b.app 1 16 out' (.slice (some ⟨st.next,0,none⟩) 1 1)).bind fun c=>
 let d:Int:=IntKind.wrap .i64 (i'+1)
 let e:Int:=IntKind.wrap .i64 (i'+1)
 lf 4 [.string s',.int .u8 c',c.1,.int .i64 d,.int .i64 e] c.2) (
 ((zdu s' i').bind (asI .u8)).bind fun f=>
 cond (decide (f=c')) (
 (zbk s' from0' i').bind fun g=>
 let h:SS:=st.new (.cells ([.string g]) 1)
 (h.app 1 16 out' (.slice (some ⟨st.next,0,none⟩) 1 1)).bind fun i=>
 let j:Int:=IntKind.wrap .i64 (i'+1)
 let k:Int:=IntKind.wrap .i64 (i'+1)
 lf 4 [.string s',.int .u8 c',i.1,.int .i64 j,.int .i64 k] i.2) (
 let l:Int:=IntKind.wrap .i64 (i'+1)
 lf 4 [.string s',.int .u8 c',out',.int .i64 from0',.int .i64 l] st))) (
 some (0,[out'],st))
theorem zcg [Sym] (s':ByteArray) (c':Int) (out':Value) (from0':Int) (i':Int) (st:SS) {r:Nat×List Value×SS} (h:zb7 cc zbG s' c' out' from0' i' st=some r):zbG 4 [.string s',.int .u8 c',out',.int .i64 from0',.int .i64 i'] st=some r:=
 zax zai zaq (key:=4) (I:=zfr) rfl (by kernel_rfl) (by kernel_rfl) rfl rfl (.trans (by kernel_rfl) h)
end Go.Proofs.YtifploedaacedaaGreatDoorE
namespace Go.Proofs.YtifploedaacedaaGreatDoorE
open Go Go.E Go.Proofs
def zcb (c:Int):Bool:=(decide (97≤c)&&decide (c≤122))||(decide (65≤c)&&decide (c≤90))||decide (c=95)
def zdd (c:Int):Bool:=decide (48≤c)&&decide (c≤57)
theorem zhV [Sym] (c:Int) (st:SS):cc 106 [.int .u8 c] st=some (.bool (zcb c),st):=by
 refine znr c st ?_
 unfold zlx zcb
 cases decide (97≤c)<;>cases decide (c≤122)<;>cases decide (65≤c)<;>cases decide (c≤90)<;>simp
theorem digit_ok [Sym] (c:Int) (st:SS):cc 108 [.int .u8 c] st=some (.bool (zdd c),st):=by
 refine zog c st ?_
 unfold zmJ zdd
 cases decide (48≤c)<;>cases decide (c≤57)<;>simp
def nameB (b:UInt8):Bool:=zcb b.toNat||zdd b.toNat
theorem zs4 {b:UInt8} (h:nameB b=true):b.toNat<128:=by
 unfold nameB zcb zdd at h
 simp only [Bool.or_eq_true,zae,decide_eq_true_eq] at h
 omega
def zay (l:List UInt8):Nat:=(l.takeWhile nameB).length
theorem get!_of {s:ByteArray} {i:Nat} {b:UInt8} (h:(bl s)[i]?=some b):s.get! i=b:=by
 unfold bl at h
 rw [Array.getElem?_toList] at h
 show s.data[i]! =b
 rw [getElem!_def,h]
theorem zoX {s:ByteArray} {i:Nat} {b:UInt8} (h:(bl s)[i]?=some b) (hb:b.toNat<128):Utf8.decode s i=(b.toNat,1):=by
 unfold Utf8.decode
 simp only [Nat.add_zero,get!_of h,if_pos hb]
theorem zqI {s:ByteArray} {i:Nat} {b:UInt8} (h:(bl s)[i]?=some b) (hb:128≤b.toNat):128≤(Utf8.decode s i).1:=by
 unfold Utf8.decode
 simp only [Nat.add_zero,get!_of h,if_neg (Nat.not_lt.2 hb)]
 repeat' split
 all_goals simp_all [Utf8.runeError]
 all_goals omega
theorem drop_cons {α:Type} {l:List α} {i:Nat} {b:α} (h:l[i]?=some b):l.drop i=b::l.drop (i+1):=by
 obtain ⟨h1,h2⟩:=List.getElem?_eq_some_iff.1 h
 rw [List.drop_eq_getElem_cons h1,h2]
theorem zfs {b:UInt8} {l:List UInt8}:zay (b::l)=if nameB b then 1+zay l else 0:=by
 unfold zay
 simp only [List.takeWhile_cons]
 split<;>simp;omega
theorem zd8 (s:ByteArray):(bl s).drop s.size=[]:=by
 rw [List.drop_eq_nil_iff];simp
theorem zs5 [Sym] (s:ByteArray) (i:Nat):∀ (k p:Nat) (st:SS),k+p=s.size→st.mem.get i=some (.iter s p)→st.lim≤i→
  ∃ idx vs st',zgA 2 [.string s,ptr i 0] st=some (idx,vs,st')∧st'.next=st.next∧
   ((idx=0∧vs=[.string s]∧p+zay ((bl s).drop p)=s.size)∨(idx=1∧vs=[.int .i64 ((p+zay ((bl s).drop p):Nat):Int)])):=by
 intro k
 induction k with
 | zero=>
   intro p st hk hm hl
   have hp:p=s.size:=by omega
   subst hp
   refine ⟨0,[.string s],st,zeE s _ st ?_,rfl,.inl ⟨rfl,rfl,by rw [zd8];rfl⟩⟩
   simp [zd7,addr?,ptr,SS.iterG_get hm,hl]
 | succ k ih=>
   intro p st hk hm hl
   have hlt:p<s.size:=by omega
   have hb:∃ b,(bl s)[p]?=some b:=⟨_,zge (by rw [zaF];exact hlt)⟩
   obtain ⟨b,hb⟩:=hb
   have hd:=drop_cons hb
   by_cases hbig:128≤b.toNat
   ·have hdec:=zqI hb hbig
    have hn:nameB b=false:=by
     cases h:nameB b with
     | false=>rfl
     | true=>have:=zs4 h;omega
    refine ⟨1,[.int .i64 (p:Int)],st.set i (some (.iter s (p+(Utf8.decode s p).2))),zeE s _ st ?_,rfl,.inr ⟨rfl,by rw [hd,zfs,hn];simp⟩⟩
    have h128:(128:Int)≤((Utf8.decode s p).1:Int):=by omega
    simp [zd7,addr?,ptr,SS.iterG_get hm,hl,hlt,h128]
   ·have hdec:=zoX hb (by omega)
    have h128:¬ (128:Int)≤(b.toNat:Int):=by omega
    have hw:IntKind.wrap .u8 (b.toNat:Int)=b.toNat:=zfJ (by omega) (u8_lt b)
    cases hn:nameB b with
    | false=>
      unfold nameB at hn
      simp only [Bool.or_eq_false_iff] at hn
      refine ⟨1,[.int .i64 (p:Int)],st.set i (some (.iter s (p+1))),zeE s _ st ?_,rfl,.inr ⟨rfl,by rw [hd,zfs,nameB,hn.1,hn.2];simp⟩⟩
      simp [zd7,addr?,ptr,SS.iterG_get hm,hl,hlt,hdec,h128,hw,zhV,digit_ok,hn.1,hn.2]
    | true=>
      obtain ⟨idx,vs,st',h1,h2,h3⟩:=ih (p+1) (st.set i (some (.iter s (p+1)))) (by omega) (by simp) hl
      refine ⟨idx,vs,st',zeE s _ st ?_,h2,?_⟩
      ·have hn':=hn
       unfold nameB at hn'
       cases hl1:zcb b.toNat with
       | true=>simpa [zd7,addr?,ptr,SS.iterG_get hm,hl,hlt,hdec,h128,hw,zhV,hl1] using h1
       | false=>
         rw [hl1,Bool.false_or] at hn'
         simpa [zd7,addr?,ptr,SS.iterG_get hm,hl,hlt,hdec,h128,hw,zhV,digit_ok,hl1,hn'] using h1
      ·rw [hd,zfs,hn,if_pos rfl]
       rcases h3 with ⟨a,b',c⟩ | ⟨a,b'⟩
       ·exact .inl ⟨a,b',by omega⟩
       ·exact .inr ⟨a,by rw [b'];congr 2;omega⟩
theorem zgD [Sym] (s:ByteArray) (st:SS):∃ n,st.next≤n∧cc 107 [.string s] st=some (.int .i64 (zay (bl s):Nat),st.adv n):=by
 obtain ⟨idx,vs,st',h1,h2,h3⟩:=zs5 s st.next s.size 0 ((st.ro st.next).new (.iter s 0)) (by omega) (SS.new_get (st:=st.ro st.next)) (zlr _)
 refine ⟨st'.next,by rw [h2];simp,zpB s st ?_⟩
 rcases h3 with ⟨rfl,rfl,h⟩ | ⟨rfl,rfl⟩
 ·simp only [List.drop_zero,Nat.zero_add] at h
  simp [zlT,h1,h]
 ·simp [zlT,h1]
def mkS (l:List UInt8):ByteArray:=⟨⟨l⟩⟩
@[simp] theorem zbJ (l:List UInt8):bl (mkS l)=l:=rfl
@[simp] theorem mkS_bl (s:ByteArray):mkS (bl s)=s:=by cases s with | mk d=>cases d;rfl
@[simp] theorem mkS_size (l:List UInt8):(mkS l).size=l.length:=rfl
theorem zdv (s:ByteArray) (l h:Nat):s.extract l h=mkS (((bl s).take h).drop l):=by
 rw [← zjn,mkS_bl]
theorem zep (a b:ByteArray):eqT a b=decide (bl a=bl b):=rfl
def pieces (c:UInt8):List UInt8→List (List UInt8)
 | []=>[[]]
 | b::r=>if b=c then []::pieces c r else match pieces c r with
   | []=>[[b]]
   | x::y=>(b::x)::y
def zcC (cur:List UInt8):List (List UInt8)→List (List UInt8)
 | []=>[cur]
 | x::y=>(cur++x)::y
theorem zdM (c:UInt8) (l:List UInt8):pieces c l≠[]:=by
 cases l with
 | nil=>simp [pieces]
 | cons b r=>
   unfold pieces
   split
   ·simp
   ·split<;>simp
theorem zgB {p:List (List UInt8)} (h:p≠[]):zcC [] p=p:=by cases p with | nil=>exact absurd rfl h | cons x y=>rfl
theorem zkr (cur:List UInt8) (b c:UInt8) (r:List UInt8) (h:b≠c):zcC cur (pieces c (b::r))=zcC (cur++[b]) (pieces c r):=by
 show zcC cur (if b=c then []::pieces c r else match pieces c r with
  | []=>[[b]]
  | x::y=>(b::x)::y)=_
 rw [if_neg h]
 have:=zdM c r
 cases hp:pieces c r with
 | nil=>exact absurd hp this
 | cons x y=>simp [zcC]
theorem pieces_len (c:UInt8) (l:List UInt8):(pieces c l).length≤l.length+1:=by
 induction l with
 | nil=>simp [pieces]
 | cons b r ih=>
   unfold pieces
   split
   ·simp;omega
   ·split<;>rename_i h<;>rw [h] at ih<;>simp at ih ⊢<;>omega
def strs (l:List (List UInt8)):List Value:=l.map fun x=>.string (mkS x)
@[simp] theorem zuI (l:List (List UInt8)):(strs l).length=l.length:=by simp [strs]
theorem zie (a b:List (List UInt8)):strs (a++b)=strs a++strs b:=by simp [strs]
theorem Rd.new1 {st:SS} {row:List Value} {z:Nat} (h:row.length=z):Rd (st.new (.cells row z)) (.slice (some ⟨st.next,0,none⟩) 1 1) row z 1:=
 ⟨by rw [h,Nat.one_mul],.inr ⟨st.next,1,rfl,⟨z,SS.new_get⟩,by simp⟩⟩
theorem zs6 [Sym] (s:ByteArray) (c:UInt8) (hs:s.size≤4294967296) (st0:SS) (hl:st0.lim≤st0.next):∀ (k i from':Nat) (done:List (List UInt8)) (out:Value) (st:SS),k+i=s.size→from'≤i→done.length≤i→Ext st0 st→Own st0.next st out (strs done) 1 done.length→
  ∃ v st',zbG 4 [.string s,.int .u8 c.toNat,out,.int .i64 from',.int .i64 i] st=some (0,[v],st')∧Ext st0 st'∧
   Own st0.next st' v (strs (done++zcC (((bl s).take i).drop from') (pieces c ((bl s).drop i)))) 1 (done++zcC (((bl s).take i).drop from') (pieces c ((bl s).drop i))).length:=by
 have fin:∀ (j f:Nat) (out:Value) (st:SS),s.size<j→zbG 4 [.string s,.int .u8 c.toNat,out,.int .i64 f,.int .i64 j] st=some (0,[out],st):=fun j f out st hj=>by
  refine zcg s _ out _ _ st ?_
  have:¬ (j:Int)≤(s.size:Int):=by omega
  simp [zb7,this]
 have add:∀ (i from':Nat) (done:List (List UInt8)) (out:Value) (st:SS),i≤s.size→from'≤i→done.length≤i→Ext st0 st→Own st0.next st out (strs done) 1 done.length→
   ∃ v st',(st.new (.cells ([.string (mkS (((bl s).take i).drop from'))]) 1)).app 1 16 out (.slice (some ⟨st.next,0,none⟩) 1 1)=some (v,st')∧Ext st0 st'∧Own st0.next st' v (strs (done++[((bl s).take i).drop from'])) 1 (done++[((bl s).take i).drop from']).length:=fun i from' done out st hi hf hd he ho=>by
  obtain ⟨v,st',h1,h2,_,_,h5,_⟩:=(ho.ext (.new (.refl st) (.cells [.string (mkS (((bl s).take i).drop from'))] 1))).app (Rd.new1 (by rfl)) (by have:=he.next;simp;omega) (by rw [SS.new_lim,he.lim];exact hl) (by omega) (by rfl) (bt:=16) (by omega) (by omega)
  refine ⟨v,st',h1,h5 st0 (zlr _) (he.new _),?_⟩
  rw [zie,List.length_append]
  exact h2
 intro k
 induction k with
 | zero=>
   intro i from' done out st hk hf hd he ho
   have hi:i=s.size:=by omega
   subst hi
   obtain ⟨v,st',h1,h2,h3⟩:=add s.size from' done out st (zlr _) hf hd he ho
   refine ⟨v,st',zcg s _ out _ _ st ?_,h2,?_⟩
   ·have hw:IntKind.wrap .i64 ((s.size:Int)+1)=((s.size+1:Nat):Int):=by rw [wrap64 (by omega) (by omega)];omega
    simp [zb7,zfK (s:=s) (l:=from') (h:=s.size) (by omega) (by omega) (by omega),zdv,h1,hw]
    simpa using fin (s.size+1) (s.size+1) v st' (by omega)
   ·rw [zd8]
    simpa [pieces,zcC] using h3
 | succ k ih=>
   intro i from' done out st hk hf hd he ho
   have hlt:i<s.size:=by omega
   obtain ⟨b,hb⟩:∃ b,(bl s)[i]?=some b:=⟨_,zge (by rw [zaF];exact hlt)⟩
   obtain ⟨b',hb',hidx⟩:=ziF (s:=s) (i:=(i:Int)) (by omega) (by omega)
   have:b'=b:=by simp at hb';rw [hb] at hb';cases hb';rfl
   subst this
   have h1:(i:Int)≤(s.size:Int):=by omega
   have h2:¬ (i:Int)=(s.size:Int):=by omega
   have hw:IntKind.wrap .i64 ((i:Int)+1)=((i+1:Nat):Int):=by rw [wrap64 (by omega) (by omega)];omega
   by_cases hc:b'=c
   ·subst hc
    obtain ⟨v,st',g1,g2,g3⟩:=add i from' done out st (by omega) hf hd he ho
    obtain ⟨w,st'',f1,f2,f3⟩:=ih (i+1) (i+1) (done++[((bl s).take i).drop from']) v st' (by omega) (by omega) (by simp;omega) g2 g3
    refine ⟨w,st'',zcg s _ out _ _ st ?_,f2,?_⟩
    ·simp [zb7,h1,h2,hidx,zfK (s:=s) (l:=from') (h:=i) (by omega) (by omega) (by omega),zdv,g1,hw]
     simpa using f1
    ·have e:((bl s).take (i+1)).drop (i+1)=[]:=by rw [List.drop_eq_nil_iff];simp;omega
     rw [e,zgB (zdM _ _)] at f3
     have e2:zcC (((bl s).take i).drop from') (pieces b' ((bl s).drop i))=((bl s).take i).drop from'::pieces b' ((bl s).drop (i+1)):=by
      rw [drop_cons hb]
      simp [pieces,zcC]
     rw [e2]
     simpa using f3
   ·obtain ⟨w,st'',f1,f2,f3⟩:=ih (i+1) from' done out st (by omega) (by omega) (by omega) he ho
    have hne:¬ (b'.toNat:Int)=(c.toNat:Int):=fun h=>hc (UInt8.toNat_inj.1 (by omega))
    refine ⟨w,st'',zcg s _ out _ _ st ?_,f2,?_⟩
    ·simp [zb7,h1,h2,hidx,hne,hw]
     simpa using f1
    ·have e:zcC (((bl s).take i).drop from') (pieces c ((bl s).drop i))=zcC (((bl s).take (i+1)).drop from') (pieces c ((bl s).drop (i+1))):=by
      rw [drop_cons hb,zkr _ _ _ _ hc,List.take_add_one,hb]
      congr 1
      have hlen:from'≤((bl s).take i).length:=by simp;omega
      rw [List.drop_append_of_le_length hlen]
      rfl
     rw [e];exact f3
theorem zrN [Sym] (s:ByteArray) (c:UInt8) (hs:s.size≤4294967296) (st:SS) (hl:st.lim≤st.next):∃ v st',cc 50 [.string s,.int .u8 c.toNat] st=some (v,st')∧Ext st st'∧
  Own st.next st' v (strs (pieces c (bl s))) 1 (pieces c (bl s)).length:=by
 obtain ⟨v,st',h1,h2,h3⟩:=zs6 s c hs st hl s.size 0 0 [] (.slice none 0 0) st (by omega) (by omega) (by simp) (.refl _) (Own.nil _ _ _)
 refine ⟨v,st',zjq s _ st ?_,h2,?_⟩
 ·have h1':zbG 4 [.string s,.int .u8 c.toNat,.slice none 0 0,.int .i64 0,.int .i64 0] st=some (0,[v],st'):=by simpa using h1
  simp [zgQ,h1']
 ·simpa [zgB (zdM _ _)] using h3
end Go.Proofs.YtifploedaacedaaGreatDoorE
namespace Go.Proofs.YtifploedaacedaaGreatDoorE
set_option maxRecDepth 20000
open Go Go.E Go.Proofs
noncomputable def strings_Split (cf:zak) (lf:zac) (s':ByteArray) (sep':ByteArray) (st:SS):Option (Value×SS):=
 (cf 105 [.string s',.string sep',.int .i64 0,.int .i64 (-1)] st).bind fun a=>
 some (a.1,a.2)
noncomputable abbrev zlU:zac:=lS Tryz.prog Lk0 Tryz.f89 zaG
theorem zlV:Lk0.func 89=some (89,Tryz.f89):=by kernel_rfl
theorem zlW [Sym] (s':ByteArray) (sep':ByteArray) (st:SS) {r:Value×SS} (h:strings_Split cc zlU s' sep' st=some r):cc 89 [.string s',.string sep'] st=some r:=
 zah (li:=zaG) zai zaq zlV rfl (fun _=>rfl) (.trans (by kernel_rfl) h)
def zft:LoopI:=⟨[(0,.str),(1,.str),(2,.int .i64),(3,.int .i64),(9,.any),(10,.int .i64)],[(.exit 0,[(0,.str),(9,.any),(10,.int .i64)])]⟩
def zf5 (n:Nat):Option LoopI:=cond (Nat.beq n 11) (some zft) (none)
noncomputable def strings_genSplit (cf:zak) (lf:zac) (s':ByteArray) (sep':ByteArray) (sepSave':Int) (n':Int) (st:SS):Option (Value×SS):=
 cond (decide (n'=0)) (
 some (.slice none 0 0,st)) (
 cond (eqT sep' ⟨#[]⟩) (
 (cf 127 [.string s',.int .i64 n'] st).bind fun a=>
 some (a.1,a.2)) (
 cond (decide (n'<0)) (
 (cf 128 [.string s',.string sep'] st).bind fun b=>
 ((some b.1).bind (asI .i64)).bind fun c=>
 let d:Int:=IntKind.wrap .i64 (c+1)
 let e:Int:=IntKind.wrap .i64 ((s'.size:Int)+1)
 let f:Int:=if e<d then e else d
 (zfb f f 16).bind fun _=>
 let g:SS:=b.2.new (.cells (zeX [.string ⟨#[]⟩] f) 1)
 let h:Int:=IntKind.wrap .i64 (f-1)
 (lf 11 [.string s',.string sep',.int .i64 sepSave',.int .i64 h,.slice (some ⟨b.2.next,0,none⟩) ((f:Int).toNat) ((f:Int).toNat),.int .i64 0] g).bind fun i=>
 ((i.2.1[0]?).bind asS).bind fun j=>
 (i.2.1[1]?).bind fun k=>
 ((i.2.1[2]?).bind (asI .i64)).bind fun l=>
 (zar k l 1).bind fun m=>
 (i.2.2.st m.1 m.2 [.string j]).bind fun n=>
 let o:Int:=IntKind.wrap .i64 (l+1)
 (n.resl k 1 0 o).bind fun p=>
 some (p,n)) (
 let q:Int:=IntKind.wrap .i64 ((s'.size:Int)+1)
 let r:Int:=if q<n' then q else n'
 (zfb r r 16).bind fun _=>
 let s:SS:=st.new (.cells (zeX [.string ⟨#[]⟩] r) 1)
 let t:Int:=IntKind.wrap .i64 (r-1)
 (lf 11 [.string s',.string sep',.int .i64 sepSave',.int .i64 t,.slice (some ⟨st.next,0,none⟩) ((r:Int).toNat) ((r:Int).toNat),.int .i64 0] s).bind fun u=>
 ((u.2.1[0]?).bind asS).bind fun v=>
 (u.2.1[1]?).bind fun w=>
 ((u.2.1[2]?).bind (asI .i64)).bind fun x=>
 (zar w x 1).bind fun y=>
 (u.2.2.st y.1 y.2 [.string v]).bind fun z=>
 let A:Int:=IntKind.wrap .i64 (x+1)
 (z.resl w 1 0 A).bind fun B=>
 some (B,z))))
noncomputable abbrev zcj:zac:=lS Tryz.prog Lk0 Tryz.f105 zf5
theorem zjZ:Lk0.func 105=some (105,Tryz.f105):=by kernel_rfl
theorem zj0 [Sym] (s':ByteArray) (sep':ByteArray) (sepSave':Int) (n':Int) (st:SS) {r:Value×SS} (h:strings_genSplit cc zcj s' sep' sepSave' n' st=some r):cc 105 [.string s',.string sep',.int .i64 sepSave',.int .i64 n'] st=some r:=
 zah (li:=zf5) zai zaq zjZ rfl (fun _=>rfl) (.trans (by kernel_rfl) h)
noncomputable def zdU (cf:zak) (lf:zac) (s':ByteArray) (sep':ByteArray) (sepSave':Int) (n':Int) (a':Value) (i':Int) (st:SS):Option (Nat×List Value×SS):=
 cond (decide (i'<n')) (
 (cf 129 [.string s',.string sep'] st).bind fun a=>
 ((some a.1).bind (asI .i64)).bind fun b=>
 cond (decide (b<0)) (
 some (0,[.string s',a',.int .i64 i'],a.2)) (
 let c:Int:=IntKind.wrap .i64 (b+sepSave')
 (zbk s' 0 c).bind fun d=>
 (zar a' i' 1).bind fun e=>
 (a.2.st e.1 e.2 [.string d]).bind fun f=>
 let g:Int:=IntKind.wrap .i64 (b+(sep'.size:Int))
 (zbk s' g (s'.size:Int)).bind fun h=>
 let i:Int:=IntKind.wrap .i64 (i'+1)
 lf 11 [.string h,.string sep',.int .i64 sepSave',.int .i64 n',a',.int .i64 i] f)) (
 some (0,[.string s',a',.int .i64 i'],st))
theorem zeF [Sym] (s':ByteArray) (sep':ByteArray) (sepSave':Int) (n':Int) (a':Value) (i':Int) (st:SS) {r:Nat×List Value×SS} (h:zdU cc zcj s' sep' sepSave' n' a' i' st=some r):zcj 11 [.string s',.string sep',.int .i64 sepSave',.int .i64 n',a',.int .i64 i'] st=some r:=
 zax zai zaq (key:=11) (I:=zft) rfl (by kernel_rfl) (by kernel_rfl) rfl rfl (.trans (by kernel_rfl) h)
noncomputable def zeZ (cf:zak) (lf:zac) (s':ByteArray) (prefix0':ByteArray) (st:SS):Option (Value×SS):=
 (cf 160 [.string s',.string prefix0'] st).bind fun a=>
 ((some a.1).bind asB).bind fun b=>
 cond (!b) (
 some (.tuple #[.string s',.bool false],a.2)) (
 (zbk s' (prefix0'.size:Int) (s'.size:Int)).bind fun c=>
 some (.tuple #[.string c,.bool true],a.2))
noncomputable abbrev zg2:zac:=lS Tryz.prog Lk0 Tryz.f145 zaG
theorem zg3:Lk0.func 145=some (145,Tryz.f145):=by kernel_rfl
theorem zg4 [Sym] (s':ByteArray) (prefix0':ByteArray) (st:SS) {r:Value×SS} (h:zeZ cc zg2 s' prefix0' st=some r):cc 145 [.string s',.string prefix0'] st=some r:=
 zah (li:=zaG) zai zaq zg3 rfl (fun _=>rfl) (.trans (by kernel_rfl) h)
noncomputable def ze0 (cf:zak) (lf:zac) (s':ByteArray) (prefix0':ByteArray) (st:SS):Option (Value×SS):=
 cond (decide ((prefix0'.size:Int)≤(s'.size:Int))) (
 (zbk s' 0 (prefix0'.size:Int)).bind fun s1=>
 some (.bool (eqT s1 prefix0'),st)) (
 some (.bool false,st))
noncomputable abbrev zg5:zac:=lS Tryz.prog Lk0 Tryz.f160 zaG
theorem zg6:Lk0.func 160=some (160,Tryz.f160):=by kernel_rfl
theorem zg7 [Sym] (s':ByteArray) (prefix0':ByteArray) (st:SS) {r:Value×SS} (h:ze0 cc zg5 s' prefix0' st=some r):cc 160 [.string s',.string prefix0'] st=some r:=
 zah (li:=zaG) zai zaq zg6 rfl (fun _=>rfl) (.trans (by kernel_rfl) h)
noncomputable def strings_CutPrefix (cf:zak) (lf:zac) (s':ByteArray) (prefix0':ByteArray) (st:SS):Option (Value×SS):=
 (cf 145 [.string s',.string prefix0'] st).bind fun a=>
 ((zal a.1 0).bind asS).bind fun b=>
 ((zal a.1 1).bind asB).bind fun c=>
 some (.tuple #[.string b,.bool c],a.2)
noncomputable abbrev zjr:zac:=lS Tryz.prog Lk0 Tryz.f130 zaG
theorem zjs:Lk0.func 130=some (130,Tryz.f130):=by kernel_rfl
theorem zjt [Sym] (s':ByteArray) (prefix0':ByteArray) (st:SS) {r:Value×SS} (h:strings_CutPrefix cc zjr s' prefix0' st=some r):cc 130 [.string s',.string prefix0'] st=some r:=
 zah (li:=zaG) zai zaq zjs rfl (fun _=>rfl) (.trans (by kernel_rfl) h)
noncomputable def zeQ (cf:zak) (lf:zac) (s':ByteArray) (base':Int) (bitSize':Int) (st:SS):Option (Value×SS):=
 (cf 146 [.string s',.int .i64 base',.int .i64 bitSize'] st).bind fun a=>
 ((zal a.1 0).bind (asI .u64)).bind fun b=>
 (zal a.1 1).bind fun c=>
 (((zfH c).bind fun r=>some (.bool !r)).bind asB).bind fun d=>
 cond d (
 (cf 147 [.string ⟨#[80,97,114,115,101,85,105,110,116]⟩,.string s',.int .i64 base',.int .i64 bitSize',c] a.2).bind fun e=>
 some (.tuple #[.int .u64 b,e.1],e.2)) (
 some (.tuple #[.int .u64 b,.nilIface],a.2))
noncomputable abbrev zju:zac:=lS Tryz.prog Lk0 Tryz.f131 zaG
theorem zjv:Lk0.func 131=some (131,Tryz.f131):=by kernel_rfl
theorem zfM [Sym] (s':ByteArray) (base':Int) (bitSize':Int) (st:SS) {r:Value×SS} (h:zeQ cc zju s' base' bitSize' st=some r):cc 131 [.string s',.int .i64 base',.int .i64 bitSize'] st=some r:=
 zah (li:=zaG) zai zaq zjv rfl (fun _=>rfl) (.trans (by kernel_rfl) h)
noncomputable def ziG (cf:zak) (lf:zac) (c':Int) (st:SS):Option (Value×SS):=
 let n1:Int:=orI .u8 c' 32
 some (.int .u8 n1,st)
noncomputable abbrev zk9:zac:=lS Tryz.prog Lk0 Tryz.f161 zaG
theorem zla:Lk0.func 161=some (161,Tryz.f161):=by kernel_rfl
theorem zlb [Sym] (c':Int) (st:SS) {r:Value×SS} (h:ziG cc zk9 c' st=some r):cc 161 [.int .u8 c'] st=some r:=
 zah (li:=zaG) zai zaq zla rfl (fun _=>rfl) (.trans (by kernel_rfl) h)
def znW:LoopI:=⟨[(1,.int .i64),(8,.bool),(9,.str),(10,.int .u64),(11,.int .u64),(12,.bool),(13,.int .u64),(99,.any),(100,.int .i64),(101,.int .i64)],[(.exit 3,[(9,.str),(12,.bool),(13,.int .u64)]),(.ret,[(6,.int .u64),(7,.any)])]⟩
def zp2 (n:Nat):Option LoopI:=cond (Nat.beq n 36) (some znW) (none)
noncomputable def pu10 (cf:zak) (lf:zac) (s':ByteArray) (st:SS):Option (Value×SS):=
 cond (eqT s' ⟨#[]⟩) (
 some (.tuple #[.int .u64 0,.iface 228 (.int .i64 2)],st)) (
 let a:Int:=zki .u64 1 31
 let c:Int:=IntKind.wrap .u64 (a-1)
 let d:SS:=st.new (.cells (s'.data.toList.map fun b=>.int .u8 b.toNat) 1)
 (lf 36 [.int .i64 10,.bool false,.string s',.int .u64 1844674407370955162,.int .u64 c,.bool false,.int .u64 0,.slice (some ⟨st.next,0,none⟩) s'.size s'.size,.int .i64 ((s'.size:Nat):Int),.int .i64 0] d).bind fun e=>
 cond (Nat.beq e.1 0) (
 ((e.2.1[0]?).bind asS).bind fun f=>
 ((e.2.1[1]?).bind asB).bind fun g=>
 ((e.2.1[2]?).bind (asI .u64)).bind fun h=>
 cond g (
 (cf 162 [.string f] e.2.2).bind fun i=>
 ((some i.1).bind asB).bind fun j=>
 cond (!j) (
 some (.tuple #[.int .u64 0,.iface 228 (.int .i64 2)],i.2)) (
 some (.tuple #[.int .u64 h,.nilIface],i.2))) (
 some (.tuple #[.int .u64 h,.nilIface],e.2.2))) (
 ((e.2.1[0]?).bind (asI .u64)).bind fun k=>
 (e.2.1[1]?).bind fun l=>
 some (.tuple #[.int .u64 k,l],e.2.2)))
noncomputable abbrev zhi:zac:=lS Tryz.prog Lk0 Tryz.f146 zp2
theorem zt7:Lk0.func 146=some (146,Tryz.f146):=by kernel_rfl
theorem zp3 [Sym] (s':ByteArray) (st:SS) {r:Value×SS} (h:pu10 cc zhi s' st=some r):cc 146 [.string s',.int .i64 10,.int .i64 31] st=some r:=
 zah (li:=zp2) zai zaq zt7 rfl (fun _=>rfl) (.trans (by kernel_rfl) h)
noncomputable def zdV (cf:zak) (lf:zac) (base':Int) (s0':ByteArray) (cutoff':Int) (maxVal':Int) (underscores':Bool) (n':Int) (t99':Value) (t100':Int) (t101':Int) (st:SS):Option (Nat×List Value×SS):=
 cond (decide (t101'<t100')) (
 (zar t99' t101' 1).bind fun a=>
 ((st.ld a.1 a.2).bind (asI .u8)).bind fun b=>
 cond (decide (b=95)) (
 cond (decide (48≤b)) (
 cond (decide (b≤57)) (
 let c:Int:=IntKind.wrap .u8 (b-48)
 let d:Int:=IntKind.wrap .u8 base'
 cond (decide (d≤c)) (
 some (1,[.int .u64 0,.iface 228 (.int .i64 2)],st)) (
 cond (decide (cutoff'≤n')) (
 some (1,[.int .u64 maxVal',.iface 228 (.int .i64 1)],st)) (
 let e:Int:=IntKind.wrap .u64 base'
 let f:Int:=IntKind.wrap .u64 (n'*e)
 let g:Int:=IntKind.wrap .u64 c
 let h:Int:=IntKind.wrap .u64 (f+g)
 cond (decide (h<f)) (
 some (1,[.int .u64 maxVal',.iface 228 (.int .i64 1)],st)) (
 cond (decide (maxVal'<h)) (
 some (1,[.int .u64 maxVal',.iface 228 (.int .i64 1)],st)) (
 let i:Int:=IntKind.wrap .i64 (t101'+1)
 lf 36 [.int .i64 base',.bool false,.string s0',.int .u64 cutoff',.int .u64 maxVal',.bool underscores',.int .u64 h,t99',.int .i64 t100',.int .i64 i] st))))) (
 (cf 161 [.int .u8 b] st).bind fun j=>
 ((some j.1).bind (asI .u8)).bind fun k=>
 cond (decide (97≤k)) (
 (cf 161 [.int .u8 b] j.2).bind fun l=>
 ((some l.1).bind (asI .u8)).bind fun m=>
 cond (decide (m≤122)) (
 (cf 161 [.int .u8 b] l.2).bind fun n=>
 ((some n.1).bind (asI .u8)).bind fun o=>
 let p:Int:=IntKind.wrap .u8 (o-97)
 let q:Int:=IntKind.wrap .u8 (p+10)
 let r:Int:=IntKind.wrap .u8 base'
 cond (decide (r≤q)) (
 some (1,[.int .u64 0,.iface 228 (.int .i64 2)],n.2)) (
 cond (decide (cutoff'≤n')) (
 some (1,[.int .u64 maxVal',.iface 228 (.int .i64 1)],n.2)) (
 let s:Int:=IntKind.wrap .u64 base'
 let t:Int:=IntKind.wrap .u64 (n'*s)
 let u:Int:=IntKind.wrap .u64 q
 let v:Int:=IntKind.wrap .u64 (t+u)
 cond (decide (v<t)) (
 some (1,[.int .u64 maxVal',.iface 228 (.int .i64 1)],n.2)) (
 cond (decide (maxVal'<v)) (
 some (1,[.int .u64 maxVal',.iface 228 (.int .i64 1)],n.2)) (
 let w:Int:=IntKind.wrap .i64 (t101'+1)
 lf 36 [.int .i64 base',.bool false,.string s0',.int .u64 cutoff',.int .u64 maxVal',.bool underscores',.int .u64 v,t99',.int .i64 t100',.int .i64 w] n.2))))) (
 some (1,[.int .u64 0,.iface 228 (.int .i64 2)],l.2))) (
 some (1,[.int .u64 0,.iface 228 (.int .i64 2)],j.2)))) (
 (cf 161 [.int .u8 b] st).bind fun x=>
 ((some x.1).bind (asI .u8)).bind fun y=>
 cond (decide (97≤y)) (
 (cf 161 [.int .u8 b] x.2).bind fun z=>
 ((some z.1).bind (asI .u8)).bind fun A=>
 cond (decide (A≤122)) (
 (cf 161 [.int .u8 b] z.2).bind fun B=>
 ((some B.1).bind (asI .u8)).bind fun C=>
 let D:Int:=IntKind.wrap .u8 (C-97)
 let E:Int:=IntKind.wrap .u8 (D+10)
 let F:Int:=IntKind.wrap .u8 base'
 cond (decide (F≤E)) (
 some (1,[.int .u64 0,.iface 228 (.int .i64 2)],B.2)) (
 cond (decide (cutoff'≤n')) (
 some (1,[.int .u64 maxVal',.iface 228 (.int .i64 1)],B.2)) (
 let G:Int:=IntKind.wrap .u64 base'
 let H:Int:=IntKind.wrap .u64 (n'*G)
 let I:Int:=IntKind.wrap .u64 E
 let J:Int:=IntKind.wrap .u64 (H+I)
 cond (decide (J<H)) (
 some (1,[.int .u64 maxVal',.iface 228 (.int .i64 1)],B.2)) (
 cond (decide (maxVal'<J)) (
 some (1,[.int .u64 maxVal',.iface 228 (.int .i64 1)],B.2)) (
 let K:Int:=IntKind.wrap .i64 (t101'+1)
 lf 36 [.int .i64 base',.bool false,.string s0',.int .u64 cutoff',.int .u64 maxVal',.bool underscores',.int .u64 J,t99',.int .i64 t100',.int .i64 K] B.2))))) (
 some (1,[.int .u64 0,.iface 228 (.int .i64 2)],z.2))) (
 some (1,[.int .u64 0,.iface 228 (.int .i64 2)],x.2)))) (
 cond (decide (48≤b)) (
 cond (decide (b≤57)) (
 let L:Int:=IntKind.wrap .u8 (b-48)
 let M:Int:=IntKind.wrap .u8 base'
 cond (decide (M≤L)) (
 some (1,[.int .u64 0,.iface 228 (.int .i64 2)],st)) (
 cond (decide (cutoff'≤n')) (
 some (1,[.int .u64 maxVal',.iface 228 (.int .i64 1)],st)) (
 let N:Int:=IntKind.wrap .u64 base'
 let O:Int:=IntKind.wrap .u64 (n'*N)
 let P:Int:=IntKind.wrap .u64 L
 let Q:Int:=IntKind.wrap .u64 (O+P)
 cond (decide (Q<O)) (
 some (1,[.int .u64 maxVal',.iface 228 (.int .i64 1)],st)) (
 cond (decide (maxVal'<Q)) (
 some (1,[.int .u64 maxVal',.iface 228 (.int .i64 1)],st)) (
 let R:Int:=IntKind.wrap .i64 (t101'+1)
 lf 36 [.int .i64 base',.bool false,.string s0',.int .u64 cutoff',.int .u64 maxVal',.bool underscores',.int .u64 Q,t99',.int .i64 t100',.int .i64 R] st))))) (
 (cf 161 [.int .u8 b] st).bind fun S=>
 ((some S.1).bind (asI .u8)).bind fun T=>
 cond (decide (97≤T)) (
 (cf 161 [.int .u8 b] S.2).bind fun U=>
 ((some U.1).bind (asI .u8)).bind fun V=>
 cond (decide (V≤122)) (
 (cf 161 [.int .u8 b] U.2).bind fun W=>
 ((some W.1).bind (asI .u8)).bind fun X=>
 let Y:Int:=IntKind.wrap .u8 (X-97)
 let Z:Int:=IntKind.wrap .u8 (Y+10)
 let aA:Int:=IntKind.wrap .u8 base'
 cond (decide (aA≤Z)) (
 some (1,[.int .u64 0,.iface 228 (.int .i64 2)],W.2)) (
 cond (decide (cutoff'≤n')) (
 some (1,[.int .u64 maxVal',.iface 228 (.int .i64 1)],W.2)) (
 let aB:Int:=IntKind.wrap .u64 base'
 let aC:Int:=IntKind.wrap .u64 (n'*aB)
 let aD:Int:=IntKind.wrap .u64 Z
 let aE:Int:=IntKind.wrap .u64 (aC+aD)
 cond (decide (aE<aC)) (
 some (1,[.int .u64 maxVal',.iface 228 (.int .i64 1)],W.2)) (
 cond (decide (maxVal'<aE)) (
 some (1,[.int .u64 maxVal',.iface 228 (.int .i64 1)],W.2)) (
 let aF:Int:=IntKind.wrap .i64 (t101'+1)
 lf 36 [.int .i64 base',.bool false,.string s0',.int .u64 cutoff',.int .u64 maxVal',.bool underscores',.int .u64 aE,t99',.int .i64 t100',.int .i64 aF] W.2))))) (
 some (1,[.int .u64 0,.iface 228 (.int .i64 2)],U.2))) (
 some (1,[.int .u64 0,.iface 228 (.int .i64 2)],S.2)))) (
 (cf 161 [.int .u8 b] st).bind fun aG=>
 ((some aG.1).bind (asI .u8)).bind fun aH=>
 cond (decide (97≤aH)) (
 (cf 161 [.int .u8 b] aG.2).bind fun aI=>
 ((some aI.1).bind (asI .u8)).bind fun aJ=>
 cond (decide (aJ≤122)) (
 (cf 161 [.int .u8 b] aI.2).bind fun aK=>
 ((some aK.1).bind (asI .u8)).bind fun aL=>
 let aM:Int:=IntKind.wrap .u8 (aL-97)
 let aN:Int:=IntKind.wrap .u8 (aM+10)
 let aO:Int:=IntKind.wrap .u8 base'
 cond (decide (aO≤aN)) (
 some (1,[.int .u64 0,.iface 228 (.int .i64 2)],aK.2)) (
 cond (decide (cutoff'≤n')) (
 some (1,[.int .u64 maxVal',.iface 228 (.int .i64 1)],aK.2)) (
 let aP:Int:=IntKind.wrap .u64 base'
 let aQ:Int:=IntKind.wrap .u64 (n'*aP)
 let aR:Int:=IntKind.wrap .u64 aN
 let aS:Int:=IntKind.wrap .u64 (aQ+aR)
 cond (decide (aS<aQ)) (
 some (1,[.int .u64 maxVal',.iface 228 (.int .i64 1)],aK.2)) (
 cond (decide (maxVal'<aS)) (
 some (1,[.int .u64 maxVal',.iface 228 (.int .i64 1)],aK.2)) (
 let aT:Int:=IntKind.wrap .i64 (t101'+1)
 lf 36 [.int .i64 base',.bool false,.string s0',.int .u64 cutoff',.int .u64 maxVal',.bool underscores',.int .u64 aS,t99',.int .i64 t100',.int .i64 aT] aK.2))))) (
 some (1,[.int .u64 0,.iface 228 (.int .i64 2)],aI.2))) (
 some (1,[.int .u64 0,.iface 228 (.int .i64 2)],aG.2))))) (
 some (0,[.string s0',.bool underscores',.int .u64 n'],st))
theorem zlz [Sym] (base':Int) (s0':ByteArray) (cutoff':Int) (maxVal':Int) (underscores':Bool) (n':Int) (t99':Value) (t100':Int) (t101':Int) (st:SS) {r:Nat×List Value×SS} (h:zdV cc zhi base' s0' cutoff' maxVal' underscores' n' t99' t100' t101' st=some r):zhi 36 [.int .i64 base',.bool false,.string s0',.int .u64 cutoff',.int .u64 maxVal',.bool underscores',.int .u64 n',t99',.int .i64 t100',.int .i64 t101'] st=some r:=
 zax zai zaq (key:=36) (I:=znW) rfl (by kernel_rfl) (by kernel_rfl) rfl rfl (.trans (by kernel_rfl) h)
def zrO:LoopI:=⟨[(1,.int .i64),(8,.bool),(9,.str),(10,.int .u64),(11,.int .u64),(12,.bool),(13,.int .u64),(99,.any),(100,.int .i64),(101,.int .i64)],[(.exit 3,[(9,.str),(12,.bool),(13,.int .u64)]),(.ret,[(6,.int .u64),(7,.any)])]⟩
def zp4 (n:Nat):Option LoopI:=cond (Nat.beq n 36) (some zrO) (none)
noncomputable def pu16 (cf:zak) (lf:zac) (s':ByteArray) (st:SS):Option (Value×SS):=
 cond (eqT s' ⟨#[]⟩) (
 some (.tuple #[.int .u64 0,.iface 228 (.int .i64 2)],st)) (
 let a:Int:=zki .u64 1 31
 let c:Int:=IntKind.wrap .u64 (a-1)
 let d:SS:=st.new (.cells (s'.data.toList.map fun b=>.int .u8 b.toNat) 1)
 (lf 36 [.int .i64 16,.bool false,.string s',.int .u64 1152921504606846976,.int .u64 c,.bool false,.int .u64 0,.slice (some ⟨st.next,0,none⟩) s'.size s'.size,.int .i64 ((s'.size:Nat):Int),.int .i64 0] d).bind fun e=>
 cond (Nat.beq e.1 0) (
 ((e.2.1[0]?).bind asS).bind fun f=>
 ((e.2.1[1]?).bind asB).bind fun g=>
 ((e.2.1[2]?).bind (asI .u64)).bind fun h=>
 cond g (
 (cf 162 [.string f] e.2.2).bind fun i=>
 ((some i.1).bind asB).bind fun j=>
 cond (!j) (
 some (.tuple #[.int .u64 0,.iface 228 (.int .i64 2)],i.2)) (
 some (.tuple #[.int .u64 h,.nilIface],i.2))) (
 some (.tuple #[.int .u64 h,.nilIface],e.2.2))) (
 ((e.2.1[0]?).bind (asI .u64)).bind fun k=>
 (e.2.1[1]?).bind fun l=>
 some (.tuple #[.int .u64 k,l],e.2.2)))
noncomputable abbrev zp5:zac:=lS Tryz.prog Lk0 Tryz.f146 zp4
theorem zt8:Lk0.func 146=some (146,Tryz.f146):=by kernel_rfl
theorem zp6 [Sym] (s':ByteArray) (st:SS) {r:Value×SS} (h:pu16 cc zp5 s' st=some r):cc 146 [.string s',.int .i64 16,.int .i64 31] st=some r:=
 zah (li:=zp4) zai zaq zt8 rfl (fun _=>rfl) (.trans (by kernel_rfl) h)
noncomputable def ze1 (cf:zak) (lf:zac) (s':ByteArray) (st:SS):Option (Value×SS):=
 (cf 130 [.string s',.string ⟨#[48,120]⟩] (st.ro st.next)).bind fun a=>
 ((zal a.1 0).bind asS).bind fun b=>
 ((zal a.1 1).bind asB).bind fun c=>
 cond c (
 (cf 131 [.string b,.int .i64 16,.int .i64 31] a.2).bind fun d=>
 ((zal d.1 0).bind (asI .u64)).bind fun e=>
 (zal d.1 1).bind fun f=>
 let g:Int:=IntKind.wrap .i64 e
 (((zfH f).bind fun r=>some (.bool r)).bind asB).bind fun h=>
 cond h (
 (cf 110 [.string b,.int .u8 95] d.2).bind fun i=>
 ((some i.1).bind (asI .i64)).bind fun j=>
 some (.tuple #[.int .i64 g,.bool (decide (j<0))],st.adv i.2.next)) (
 some (.tuple #[.int .i64 g,.bool false],st.adv d.2.next))) (
 (cf 131 [.string s',.int .i64 10,.int .i64 31] a.2).bind fun k=>
 ((zal k.1 0).bind (asI .u64)).bind fun l=>
 (zal k.1 1).bind fun m=>
 let n:Int:=IntKind.wrap .i64 l
 (((zfH m).bind fun r=>some (.bool r)).bind asB).bind fun o=>
 cond o (
 (cf 110 [.string s',.int .u8 95] k.2).bind fun p=>
 ((some p.1).bind (asI .i64)).bind fun q=>
 some (.tuple #[.int .i64 n,.bool (decide (q<0))],st.adv p.2.next)) (
 some (.tuple #[.int .i64 n,.bool false],st.adv k.2.next)))
noncomputable abbrev zns:zac:=lS Tryz.prog Lk0 Tryz.f109 zaG
theorem znu:Lk0.func 109=some (109,Tryz.f109):=by kernel_rfl
theorem ziH [Sym] (s':ByteArray) (st:SS) {r:Value×SS} (h:ze1 cc zns s' st=some r):cc 109 [.string s'] st=some r:=
 zah (li:=zaG) zai zaq znu rfl (fun _=>rfl) (.trans (by kernel_rfl) h)
end Go.Proofs.YtifploedaacedaaGreatDoorE
namespace Go.Proofs.YtifploedaacedaaGreatDoorE
open Go Go.E Go.Proofs
theorem znX (c:UInt8) (l:List UInt8):(Lib.indexByte l c= -1∧pieces c l=[l]∧l.count c=0)∨
  ∃ m:Nat,Lib.indexByte l c=m∧m<l.length∧pieces c l=l.take m::pieces c (l.drop (m+1))∧l.count c=(l.drop (m+1)).count c+1:=by
 induction l with
 | nil=>exact .inl ⟨rfl,rfl,rfl⟩
 | cons b r ih=>
   by_cases hb:b=c
   ·subst hb
    refine .inr ⟨0,?_,by simp,?_,?_⟩
    ·simp [Lib.indexByte]
    ·simp [pieces]
    ·simp
   ·rcases ih with ⟨h1,h2,h3⟩ | ⟨m,h1,h2,h3,h4⟩
    ·refine .inl ⟨?_,?_,?_⟩
     ·simp [Lib.indexByte,hb,h1]
     ·simp [pieces,hb,h2]
     ·simp [List.count_cons,hb,h3]
    ·refine .inr ⟨m+1,?_,by simp;omega,?_,?_⟩
     ·have:¬ ((m:Int)= -1):=by omega
      simp [Lib.indexByte,hb,h1,this]
     ·simp [pieces,hb,h3]
     ·simp [List.count_cons,hb,h4]
theorem zlX {n:Int} {z:Nat} (h0:0≤n) (h1:n≤1099511627776) (h2:n*z≤70368744177664):zfb n n z=some ():=by
 unfold zfb
 simp [h0,h1,h2]
theorem zjw (v:Value) (n:Nat):zeX [v] (n:Int)=List.replicate n v:=by
 unfold zeX
 apply List.ext_getElem
 ·simp
 ·intro i h1 h2
  simp
  have:i%1=0:=Nat.mod_one i
  simp [this]
theorem zlY (done:List (List UInt8)) (k:Nat) (x:List UInt8):(strs done++List.replicate (k+1) (Value.string ⟨#[]⟩)).take done.length++([.string (mkS x)]++(strs done++List.replicate (k+1) (Value.string ⟨#[]⟩)).drop (done.length+1))=strs (done++[x])++List.replicate k (Value.string ⟨#[]⟩):=by
 rw [zie,List.take_append_of_le_length (by simp),List.take_of_length_le (by simp),List.drop_append]
 have h1:(strs done).drop (done.length+1)=[]:=by rw [List.drop_eq_nil_iff];simp
 rw [h1]
 simp [strs]
theorem count_le (c:UInt8) (l:List UInt8):l.count c≤l.length:=List.count_le_length
theorem zt9 (c:UInt8) (s:ByteArray) (st:SS) [Sym]:cc 129 [.string s,.string ⟨#[c]⟩] st=some (.int .i64 (Lib.indexByte (bl s) c),st):=
 zkp (by rfl) st
theorem zs7 (c:UInt8) (s:ByteArray) (st:SS) [Sym]:cc 128 [.string s,.string ⟨#[c]⟩] st=some (.int .i64 ((bl s).count c:Nat),st):=
 zkp (by rfl) st
theorem zhw (c:UInt8) (s:ByteArray) (st:SS) [Sym]:cc 110 [.string s,.int .u8 c.toNat] st=some (.int .i64 (Lib.indexByte (bl s) c),st):=by
 refine zkp ?_ st
 show some (Value.int .i64 (Lib.indexByte s.data.toList (c.toNat:Int).toNat.toUInt8))=_
 have:((c.toNat:Int).toNat).toUInt8=c:=by simp
 rw [this];rfl
theorem zqJ [Sym] (c:UInt8) (N b:Nat) (st0:SS) (hN:N≤4294967296):∀ (k:Nat) (rest:ByteArray) (done:List (List UInt8)) (st:SS),k=(bl rest).count c→done.length+k=N→rest.size≤4294967296→
  st.mem.get b=some (.cells (strs done++List.replicate (k+1) (.string ⟨#[]⟩)) 1)→st.lim≤b→st0.next≤b→b<st.next→Ext st0 st→
  ∃ (rest':ByteArray) (front:List (List UInt8)) (st':SS),zcj 11 [.string rest,.string ⟨#[c]⟩,.int .i64 0,.int .i64 N,.slice (some ⟨b,0,none⟩) (N+1) (N+1),.int .i64 done.length] st=some (0,[.string rest',.slice (some ⟨b,0,none⟩) (N+1) (N+1),.int .i64 N],st')∧
   st'.mem.get b=some (.cells (strs (done++front)++[.string ⟨#[]⟩]) 1)∧front++[bl rest']=pieces c (bl rest)∧(done++front).length=N∧st'.lim≤b∧b<st'.next∧Ext st0 st':=by
 intro k
 induction k with
 | zero=>
   intro rest done st hk hd hs hm hl hb0 hb he
   rcases znX c (bl rest) with ⟨h1,h2,h3⟩ | ⟨m,h1,h2,h3,h4⟩
   ·refine ⟨rest,[],st,zeF rest _ 0 _ _ _ st ?_,by simpa using hm,by simp [h2],by simp;omega,hl,hb,he⟩
    have:¬ ((done.length:Int)<(N:Int)):=by omega
    simp [zdU,this]
    omega
   ·omega
 | succ k ih=>
   intro rest done st hk hd hs hm hl hb0 hb he
   rcases znX c (bl rest) with ⟨h1,h2,h3⟩ | ⟨m,h1,h2,h3,h4⟩
   ·omega
   ·rw [zaF] at h2
    have hlt:(done.length:Int)<(N:Int):=by omega
    have hm0:¬ ((m:Int)<0):=by omega
    have hw:IntKind.wrap .i64 (m:Int)=m:=wrap64 (by omega) (by omega)
    have hw1:IntKind.wrap .i64 ((m:Int)+1)=((m+1:Nat):Int):=by rw [wrap64 (by omega) (by omega)];omega
    have hwd:IntKind.wrap .i64 ((done.length:Int)+1)=(((done++[(bl rest).take m]).length:Nat):Int):=by rw [wrap64 (by omega) (by omega)];simp
    have hb1:bl (rest.extract (m+1) rest.size)=(bl rest).drop (m+1):=by
     rw [zjn,List.take_of_length_le (by simp)]
    have hst:st.st b done.length [.string (mkS ((bl rest).take m))]=some (st.set b (some (.cells (strs (done++[(bl rest).take m])++List.replicate (k+1) (.string ⟨#[]⟩)) 1))):=
     SS.st_cells hm hl (by rfl) (by
      rw [zbB (by simp),← zlY]
      rfl)
    obtain ⟨rest',front,st',e1,e2,e3,e4,e5,e6,e7⟩:=ih (rest.extract (m+1) rest.size) (done++[(bl rest).take m]) (st.set b (some (.cells (strs (done++[(bl rest).take m])++List.replicate (k+1) (.string ⟨#[]⟩)) 1)))
     (by rw [hb1];omega) (by simp;omega) (by simp;omega) (by simp) hl hb0 hb (he.set hb0 _)
    refine ⟨rest',(bl rest).take m::front,st',zeF rest _ 0 _ _ _ st ?_,by simpa using e2,by rw [h3,← hb1,← e3];rfl,by simpa using e4,e5,e6,e7⟩
    have hel:zar (.slice (some ⟨b,0,none⟩) (N+1) (N+1)) (done.length:Int) 1=some (b,done.length):=by
     unfold zar
     have:(done.length:Int)<((N+1:Nat):Int):=by omega
     simp only [zdt this]
     simp
    have hs1:zbk rest 0 (m:Int)=some (mkS ((bl rest).take m)):=by rw [zfK (by omega) (by omega) (by omega),zdv];simp
    have hs2:zbk rest ((m+1:Nat):Int) (rest.size:Int)=some (rest.extract (m+1) rest.size):=by rw [zfK (by omega) (by omega) (by omega)];simp
    have hsz:(((⟨#[c]⟩:ByteArray).size:Nat):Int)=1:=rfl
    simp only [zdU,zdt hlt,zct,zt9,zob,zaa,h1,zdf hm0,zcf,Int.add_zero,hw,hs1,hel,hst,hsz,hw1,hs2,hwd]
    exact e1
theorem split_ok [Sym] (s:ByteArray) (c:UInt8) (hs:s.size≤4294967296) (st:SS) (hl:st.lim≤st.next):∃ v st',cc 89 [.string s,.string ⟨#[c]⟩] st=some (v,st')∧Ext st st'∧
  Rd st' v (strs (pieces c (bl s))) 1 (pieces c (bl s)).length:=by
 have hc:=count_le c (bl s)
 rw [zaF] at hc
 obtain ⟨rest',front,st',e1,e2,e3,e4,e5,e6,e7⟩:=zqJ c ((bl s).count c) st.next st (by omega) _ s [] (st.new (.cells (List.replicate ((bl s).count c+1) (.string ⟨#[]⟩)) 1)) rfl (by simp) hs (by simp [strs]) hl (zlr _) (by simp) ((Ext.refl st).new _)
 simp only [List.nil_append] at e2 e4
 have hlen:(pieces c (bl s)).length=(bl s).count c+1:=by rw [← e3];simp [e4]
 have hst:st'.st st.next ((bl s).count c) [.string rest']=some (st'.set st.next (some (.cells (strs (pieces c (bl s))) 1))):=
  SS.st_cells e2 e5 (by rfl) (by
   rw [← e4,zbB (by simp),← e3]
   rw [List.take_append_of_le_length (by simp),List.take_of_length_le (by simp),zie]
   congr 2
   simp [strs])
 have hw1:IntKind.wrap .i64 (((bl s).count c:Nat)+1:Int)=(((bl s).count c+1:Nat):Int):=by rw [wrap64 (by omega) (by omega)];omega
 have hw2:IntKind.wrap .i64 ((s.size:Int)+1)=((s.size+1:Nat):Int):=by rw [wrap64 (by omega) (by omega)];omega
 have hw3:IntKind.wrap .i64 ((((bl s).count c+1:Nat):Int)-1)=(((bl s).count c:Nat):Int):=by rw [wrap64 (by omega) (by omega)];omega
 have hmin:(if ((s.size+1:Nat):Int)<(((bl s).count c+1:Nat):Int) then ((s.size+1:Nat):Int) else (((bl s).count c+1:Nat):Int))=(((bl s).count c+1:Nat):Int):=by split<;>omega
 have hmk:zfb (((bl s).count c+1:Nat):Int) (((bl s).count c+1:Nat):Int) 16=some ():=zlX (by omega) (by omega) (by omega)
 have hel:zar (.slice (some ⟨st.next,0,none⟩) ((bl s).count c+1) ((bl s).count c+1)) (((bl s).count c:Nat):Int) 1=some (st.next,(bl s).count c):=by
  unfold zar
  have:(((bl s).count c:Nat):Int)<(((bl s).count c+1:Nat):Int):=by omega
  simp only [zdt this]
  simp
 have hre:(st'.set st.next (some (.cells (strs (pieces c (bl s))) 1))).resl (.slice (some ⟨st.next,0,none⟩) ((bl s).count c+1) ((bl s).count c+1)) 1 0 (((bl s).count c+1:Nat):Int)=some (.slice (some ⟨st.next,0,none⟩) ((bl s).count c+1) ((bl s).count c+1)):=by
  unfold SS.resl
  simp
  rfl
 refine ⟨.slice (some ⟨st.next,0,none⟩) ((bl s).count c+1) ((bl s).count c+1),st'.set st.next (some (.cells (strs (pieces c (bl s))) 1)),zlW s _ st ?_,e7.set (zlr _) _,by simp,.inr ⟨st.next,(bl s).count c+1,by rw [hlen],⟨1,by simp⟩,e6⟩⟩
 have hgen:cc 105 [.string s,.string ⟨#[c]⟩,.int .i64 0,.int .i64 (-1)] st=some (.slice (some ⟨st.next,0,none⟩) ((bl s).count c+1) ((bl s).count c+1),st'.set st.next (some (.cells (strs (pieces c (bl s))) 1))):=by
  refine zj0 s _ 0 (-1) st ?_
  have h0:eqT (⟨#[c]⟩:ByteArray) ⟨#[]⟩=false:=by rfl
  have hm1:decide ((-1:Int)=0)=false:=rfl
  have hm2:decide ((-1:Int)<0)=true:=rfl
  simp only [strings_genSplit,hm1,zcf,h0,hm2,zct,zs7,zob,zaa,hw1,hw2,hmin,hmk,zjw,hw3]
  have e1':zcj 11 [.string s,.string ⟨#[c]⟩,.int .i64 0,.int .i64 (((bl s).count c:Nat):Int),.slice (some ⟨st.next,0,none⟩) (Int.toNat (((bl s).count c+1:Nat):Int)) (Int.toNat (((bl s).count c+1:Nat):Int)),.int .i64 0] (st.new (.cells (List.replicate ((bl s).count c+1) (.string ⟨#[]⟩)) 1))=some (0,[.string rest',.slice (some ⟨st.next,0,none⟩) ((bl s).count c+1) ((bl s).count c+1),.int .i64 (((bl s).count c:Nat):Int)],st'):=e1
  rw [e1']
  simp only [zob,zgz,zgs,zab,zaa,hel,hst,hw1,hre]
 simp only [strings_Split,hgen,zob]
end Go.Proofs.YtifploedaacedaaGreatDoorE
namespace Go.Proofs.YtifploedaacedaaGreatDoorE
set_option maxRecDepth 20000
open Go Go.E Go.Proofs
def zjU:LoopI:=⟨[(0,.str),(1,.int .i64),(7,.any),(8,.int .i64)],[(.exit 0,[(0,.str),(1,.int .i64),(7,.any)]),(.ret,[(4,.any),(5,.int .i64),(6,.bool)])]⟩
def zks (n:Nat):Option LoopI:=cond (Nat.beq n 3) (some zjU) (none)
noncomputable def zkt (cf:zak) (lf:zac) (s':ByteArray) (at0':Int) (st:SS):Option (Value×SS):=
 (lf 3 [.string s',.int .i64 at0',.slice none 0 0,.int .i64 0] st).bind fun a=>
 cond (Nat.beq a.1 0) (
 ((a.2.1[0]?).bind asS).bind fun b=>
 ((a.2.1[1]?).bind (asI .i64)).bind fun c=>
 (a.2.1[2]?).bind fun d=>
 let e:Int:=IntKind.wrap .i64 ((b.size:Int)+1)
 let f:SS:=a.2.2.new (.cells ([.int .i64 0,.string ⟨#[]⟩,.int .i64 0,.int .i64 c,.int .i64 e]) 5)
 (f.app 5 48 d (.slice (some ⟨a.2.2.next,0,none⟩) 1 1)).bind fun g=>
 some (.tuple #[g.1,.int .i64 0,.bool true],g.2)) (
 (a.2.1[0]?).bind fun h=>
 ((a.2.1[1]?).bind (asI .i64)).bind fun i=>
 ((a.2.1[2]?).bind asB).bind fun j=>
 some (.tuple #[h,.int .i64 i,.bool j],a.2.2))
noncomputable abbrev zbC:zac:=lS Tryz.prog Lk0 Tryz.f90 zks
theorem zoY:Lk0.func 90=some (90,Tryz.f90):=by kernel_rfl
theorem zku [Sym] (s':ByteArray) (at0':Int) (st:SS) {r:Value×SS} (h:zkt cc zbC s' at0' st=some r):cc 90 [.string s',.int .i64 at0'] st=some r:=
 zah (li:=zks) zai zaq zoY rfl (fun _=>rfl) (.trans (by kernel_rfl) h)
noncomputable def zbD (cf:zak) (lf:zac) (s':ByteArray) (at0':Int) (out':Value) (col':Int) (st:SS):Option (Nat×List Value×SS):=
 cond (decide (col'<(s'.size:Int))) (
 let a:Int:=IntKind.wrap .i64 (col'+1)
 let b:SS:=st.new (.cells [.int .i64 0,.string ⟨#[]⟩,.int .i64 0,.int .i64 0,.int .i64 0] 0)
 (b.st st.next 0 [.int .i64 0,.string ⟨#[]⟩,.int .i64 0,.int .i64 at0',.int .i64 a]).bind fun c=>
 ((zdu s' col').bind (asI .u8)).bind fun d=>
 cond (decide (d=59)) (
 lf 3 [.string s',.int .i64 at0',out',.int .i64 (s'.size:Int)] c) (
 cond (decide (d=32)) (
 let e:Int:=IntKind.wrap .i64 (col'+1)
 lf 3 [.string s',.int .i64 at0',out',.int .i64 e] c) (
 cond (decide (d=9)) (
 let f:Int:=IntKind.wrap .i64 (col'+1)
 lf 3 [.string s',.int .i64 at0',out',.int .i64 f] c) (
 cond (decide (d=13)) (
 let g:Int:=IntKind.wrap .i64 (col'+1)
 lf 3 [.string s',.int .i64 at0',out',.int .i64 g] c) (
 (cf 106 [.int .u8 d] c).bind fun h=>
 ((some h.1).bind asB).bind fun i=>
 cond i (
 (zbk s' col' (s'.size:Int)).bind fun j=>
 (cf 107 [.string j] h.2).bind fun k=>
 ((some k.1).bind (asI .i64)).bind fun l=>
 let m:Int:=IntKind.wrap .i64 (col'+l)
 (zbk s' col' m).bind fun n=>
 (k.2.st st.next 0 [.int .i64 1]).bind fun o=>
 (o.st st.next 1 [.string n]).bind fun p=>
 ((p.ld st.next 1).bind asS).bind fun q=>
 cond (decide (24<(q.size:Int))) (
 ((p.ld st.next 4).bind (asI .i64)).bind fun r=>
 some (1,[.slice none 0 0,.int .i64 r,.bool false],p)) (
 ((p.ld st.next 1).bind asS).bind fun s=>
 let t:Int:=IntKind.wrap .i64 (col'+(s.size:Int))
 (p.ldN st.next 0 5).bind fun u=>
 (zaE u 5).bind fun v=>
 let w:SS:=p.new (.cells (v++([])) 5)
 (w.app 5 48 out' (.slice (some ⟨p.next,0,none⟩) 1 1)).bind fun x=>
 lf 3 [.string s',.int .i64 at0',x.1,.int .i64 t] x.2)) (
 (cf 108 [.int .u8 d] h.2).bind fun y=>
 ((some y.1).bind asB).bind fun z=>
 cond z (
 (zbk s' col' (s'.size:Int)).bind fun A=>
 (cf 107 [.string A] y.2).bind fun B=>
 ((some B.1).bind (asI .i64)).bind fun C=>
 let D:Int:=IntKind.wrap .i64 (col'+C)
 (zbk s' col' D).bind fun E=>
 (B.2.st st.next 0 [.int .i64 2]).bind fun F=>
 (F.st st.next 1 [.string E]).bind fun G=>
 ((G.ld st.next 1).bind asS).bind fun H=>
 (cf 109 [.string H] G).bind fun I=>
 ((zal I.1 0).bind (asI .i64)).bind fun J=>
 ((zal I.1 1).bind asB).bind fun K=>
 (I.2.st st.next 2 [.int .i64 J]).bind fun L=>
 cond (!K) (
 ((L.ld st.next 4).bind (asI .i64)).bind fun M=>
 some (1,[.slice none 0 0,.int .i64 M,.bool false],L)) (
 ((L.ld st.next 1).bind asS).bind fun N=>
 let O:Int:=IntKind.wrap .i64 (col'+(N.size:Int))
 (L.ldN st.next 0 5).bind fun P=>
 (zaE P 5).bind fun Q=>
 let R:SS:=L.new (.cells (Q++([])) 5)
 (R.app 5 48 out' (.slice (some ⟨L.next,0,none⟩) 1 1)).bind fun S=>
 lf 3 [.string s',.int .i64 at0',S.1,.int .i64 O] S.2)) (
 (cf 110 [.string ⟨#[58,61,46,43,45]⟩,.int .u8 d] y.2).bind fun T=>
 ((some T.1).bind (asI .i64)).bind fun U=>
 cond (decide (0≤U)) (
 let V:Int:=IntKind.wrap .i64 (col'+1)
 (zbk s' col' V).bind fun W=>
 (T.2.st st.next 0 [.int .i64 3]).bind fun X=>
 (X.st st.next 1 [.string W]).bind fun Y=>
 ((Y.ld st.next 1).bind asS).bind fun Z=>
 let aA:Int:=IntKind.wrap .i64 (col'+(Z.size:Int))
 (Y.ldN st.next 0 5).bind fun aB=>
 (zaE aB 5).bind fun aC=>
 let aD:SS:=Y.new (.cells (aC++([])) 5)
 (aD.app 5 48 out' (.slice (some ⟨Y.next,0,none⟩) 1 1)).bind fun aE=>
 lf 3 [.string s',.int .i64 at0',aE.1,.int .i64 aA] aE.2) (
 ((T.2.ld st.next 4).bind (asI .i64)).bind fun aF=>
 some (1,[.slice none 0 0,.int .i64 aF,.bool false],T.2))))))))) (
 some (0,[.string s',.int .i64 at0',out'],st))
theorem za8 [Sym] (s':ByteArray) (at0':Int) (out':Value) (col':Int) (st:SS) {r:Nat×List Value×SS} (h:zbD cc zbC s' at0' out' col' st=some r):zbC 3 [.string s',.int .i64 at0',out',.int .i64 col'] st=some r:=
 zax zai zaq (key:=3) (I:=zjU) rfl (by kernel_rfl) (by kernel_rfl) rfl rfl (.trans (by kernel_rfl) h)
def zkv:LoopI:=⟨[(3,.any),(5,.any),(16,.any),(17,.int .i64),(18,.int .i64)],[(.exit 0,[(3,.any),(5,.any)]),(.ret,[(2,.any),(3,.any),(4,.int .i64)])]⟩
def zlA (n:Nat):Option LoopI:=cond (Nat.beq n 5) (some zkv) (none)
noncomputable def zlZ (cf:zak) (lf:zac) (text':ByteArray) (st:SS):Option (Value×SS):=
 let a:SS:=st.new (.cells [.int .i64 0,.int .i64 0] 0)
 cond (decide (131072<(text'.size:Int))) (
 (a.st st.next 0 [.int .i64 0,.int .i64 0]).bind fun b=>
 (b.rdN st.next 0 2).bind fun c=>
 some (.tuple #[.slice none 0 0,c,.int .i64 3],b)) (
 (cf 89 [.string text',.string ⟨#[10]⟩] a).bind fun d=>
 ((lenV d.1).bind (asI .i64)).bind fun e=>
 (lf 5 [ptr st.next 0,.slice none 0 0,d.1,.int .i64 e,.int .i64 0] d.2).bind fun f=>
 cond (Nat.beq f.1 0) (
 (f.2.1[0]?).bind fun g=>
 (f.2.1[1]?).bind fun h=>
 (addr? g).bind fun i=>
 (f.2.2.st i.1 i.2 [.int .i64 0,.int .i64 0]).bind fun j=>
 (addr? g).bind fun k=>
 (j.rdN k.1 k.2 2).bind fun l=>
 some (.tuple #[h,l,.int .i64 0],j)) (
 (f.2.1[0]?).bind fun m=>
 (f.2.1[1]?).bind fun n=>
 ((f.2.1[2]?).bind (asI .i64)).bind fun o=>
 (addr? n).bind fun p=>
 (f.2.2.rdN p.1 p.2 2).bind fun q=>
 some (.tuple #[m,q,.int .i64 o],f.2.2)))
noncomputable abbrev zd9:zac:=lS Tryz.prog Lk0 Tryz.f67 zlA
theorem zpC:Lk0.func 67=some (67,Tryz.f67):=by kernel_rfl
theorem zlB [Sym] (text':ByteArray) (st:SS) {r:Value×SS} (h:zlZ cc zd9 text' st=some r):cc 67 [.string text'] st=some r:=
 zah (li:=zlA) zai zaq zpC rfl (fun _=>rfl) (.trans (by kernel_rfl) h)
noncomputable def zgC (cf:zak) (lf:zac) (t3':Value) (out':Value) (t16':Value) (t17':Int) (t18':Int) (st:SS):Option (Nat×List Value×SS):=
 cond (decide (t18'<t17')) (
 (zar t16' t18' 1).bind fun a=>
 ((st.ld a.1 a.2).bind asS).bind fun b=>
 let c:Int:=IntKind.wrap .i64 (t18'+1)
 (cf 90 [.string b,.int .i64 c] st).bind fun d=>
 (zal d.1 0).bind fun e=>
 ((zal d.1 1).bind (asI .i64)).bind fun f=>
 ((zal d.1 2).bind asB).bind fun g=>
 cond (!g) (
 let h:Int:=IntKind.wrap .i64 (t18'+1)
 (addr? t3').bind fun i=>
 (d.2.st i.1 i.2 [.int .i64 h,.int .i64 f]).bind fun j=>
 some (1,[.slice none 0 0,t3',.int .i64 4],j)) (
 (d.2.app 5 48 out' e).bind fun k=>
 let l:Int:=IntKind.wrap .i64 (t18'+1)
 lf 5 [t3',k.1,t16',.int .i64 t17',.int .i64 l] k.2)) (
 some (0,[t3',out'],st))
theorem zgk [Sym] (t3':Value) (out':Value) (t16':Value) (t17':Int) (t18':Int) (st:SS) {r:Nat×List Value×SS} (h:zgC cc zd9 t3' out' t16' t17' t18' st=some r):zd9 5 [t3',out',t16',.int .i64 t17',.int .i64 t18'] st=some r:=
 zax zai zaq (key:=5) (I:=zkv) rfl (by kernel_rfl) (by kernel_rfl) rfl rfl (.trans (by kernel_rfl) h)
noncomputable def zfN (cf:zak) (lf:zac) (c':Int) (st:SS):Option (Value×SS):=
 cond (decide (97≤c')) (
 cond (decide (c'≤122)) (
 some (.bool true,st)) (
 cond (decide (65≤c')) (
 cond (decide (c'≤90)) (
 some (.bool true,st)) (
 some (.bool (decide (c'=95)),st))) (
 some (.bool (decide (c'=95)),st)))) (
 cond (decide (65≤c')) (
 cond (decide (c'≤90)) (
 some (.bool true,st)) (
 some (.bool (decide (c'=95)),st))) (
 some (.bool (decide (c'=95)),st)))
noncomputable abbrev zhJ:zac:=lS Tryz.prog Lk0 Tryz.f78 zaG
theorem zhK:Lk0.func 78=some (78,Tryz.f78):=by kernel_rfl
theorem zhL [Sym] (c':Int) (st:SS) {r:Value×SS} (h:zfN cc zhJ c' st=some r):cc 78 [.int .u8 c'] st=some r:=
 zah (li:=zaG) zai zaq zhK rfl (fun _=>rfl) (.trans (by kernel_rfl) h)
noncomputable def zck (cf:zak) (lf:zac) (c':Int) (base':Int) (st:SS):Option (Value×SS):=
 cond (decide (48≤c')) (
 cond (decide (c'≤57)) (
 let n1:Int:=IntKind.wrap .u8 (c'-48)
 let n2:Int:=IntKind.wrap .i64 n1
 cond (decide (97≤c')) (
 cond (decide (c'≤102)) (
 let n3:Int:=IntKind.wrap .u8 (c'-97)
 let n4:Int:=IntKind.wrap .i64 n3
 let n5:Int:=IntKind.wrap .i64 (n4+10)
 cond (decide (65≤c')) (
 cond (decide (c'≤70)) (
 let n6:Int:=IntKind.wrap .u8 (c'-65)
 let n7:Int:=IntKind.wrap .i64 n6
 let n8:Int:=IntKind.wrap .i64 (n7+10)
 cond (decide (base'≤n8)) (
 some (.int .i64 (-1),st)) (
 some (.int .i64 n8,st))) (
 cond (decide (base'≤n5)) (
 some (.int .i64 (-1),st)) (
 some (.int .i64 n5,st)))) (
 cond (decide (base'≤n5)) (
 some (.int .i64 (-1),st)) (
 some (.int .i64 n5,st)))) (
 cond (decide (65≤c')) (
 cond (decide (c'≤70)) (
 let n9:Int:=IntKind.wrap .u8 (c'-65)
 let n10:Int:=IntKind.wrap .i64 n9
 let n11:Int:=IntKind.wrap .i64 (n10+10)
 cond (decide (base'≤n11)) (
 some (.int .i64 (-1),st)) (
 some (.int .i64 n11,st))) (
 cond (decide (base'≤n2)) (
 some (.int .i64 (-1),st)) (
 some (.int .i64 n2,st)))) (
 cond (decide (base'≤n2)) (
 some (.int .i64 (-1),st)) (
 some (.int .i64 n2,st))))) (
 cond (decide (65≤c')) (
 cond (decide (c'≤70)) (
 let n12:Int:=IntKind.wrap .u8 (c'-65)
 let n13:Int:=IntKind.wrap .i64 n12
 let n14:Int:=IntKind.wrap .i64 (n13+10)
 cond (decide (base'≤n14)) (
 some (.int .i64 (-1),st)) (
 some (.int .i64 n14,st))) (
 cond (decide (base'≤n2)) (
 some (.int .i64 (-1),st)) (
 some (.int .i64 n2,st)))) (
 cond (decide (base'≤n2)) (
 some (.int .i64 (-1),st)) (
 some (.int .i64 n2,st))))) (
 cond (decide (97≤c')) (
 cond (decide (c'≤102)) (
 let n15:Int:=IntKind.wrap .u8 (c'-97)
 let n16:Int:=IntKind.wrap .i64 n15
 let n17:Int:=IntKind.wrap .i64 (n16+10)
 cond (decide (65≤c')) (
 cond (decide (c'≤70)) (
 let n18:Int:=IntKind.wrap .u8 (c'-65)
 let n19:Int:=IntKind.wrap .i64 n18
 let n20:Int:=IntKind.wrap .i64 (n19+10)
 cond (decide (base'≤n20)) (
 some (.int .i64 (-1),st)) (
 some (.int .i64 n20,st))) (
 cond (decide (base'≤n17)) (
 some (.int .i64 (-1),st)) (
 some (.int .i64 n17,st)))) (
 cond (decide (base'≤n17)) (
 some (.int .i64 (-1),st)) (
 some (.int .i64 n17,st)))) (
 cond (decide (65≤c')) (
 cond (decide (c'≤70)) (
 let n21:Int:=IntKind.wrap .u8 (c'-65)
 let n22:Int:=IntKind.wrap .i64 n21
 let n23:Int:=IntKind.wrap .i64 (n22+10)
 cond (decide (base'≤n23)) (
 some (.int .i64 (-1),st)) (
 some (.int .i64 n23,st))) (
 cond (decide (base'≤(-1))) (
 some (.int .i64 (-1),st)) (
 some (.int .i64 (-1),st)))) (
 cond (decide (base'≤(-1))) (
 some (.int .i64 (-1),st)) (
 some (.int .i64 (-1),st))))) (
 cond (decide (65≤c')) (
 cond (decide (c'≤70)) (
 let n24:Int:=IntKind.wrap .u8 (c'-65)
 let n25:Int:=IntKind.wrap .i64 n24
 let n26:Int:=IntKind.wrap .i64 (n25+10)
 cond (decide (base'≤n26)) (
 some (.int .i64 (-1),st)) (
 some (.int .i64 n26,st))) (
 cond (decide (base'≤(-1))) (
 some (.int .i64 (-1),st)) (
 some (.int .i64 (-1),st)))) (
 cond (decide (base'≤(-1))) (
 some (.int .i64 (-1),st)) (
 some (.int .i64 (-1),st)))))) (
 cond (decide (97≤c')) (
 cond (decide (c'≤102)) (
 let n27:Int:=IntKind.wrap .u8 (c'-97)
 let n28:Int:=IntKind.wrap .i64 n27
 let n29:Int:=IntKind.wrap .i64 (n28+10)
 cond (decide (65≤c')) (
 cond (decide (c'≤70)) (
 let n30:Int:=IntKind.wrap .u8 (c'-65)
 let n31:Int:=IntKind.wrap .i64 n30
 let n32:Int:=IntKind.wrap .i64 (n31+10)
 cond (decide (base'≤n32)) (
 some (.int .i64 (-1),st)) (
 some (.int .i64 n32,st))) (
 cond (decide (base'≤n29)) (
 some (.int .i64 (-1),st)) (
 some (.int .i64 n29,st)))) (
 cond (decide (base'≤n29)) (
 some (.int .i64 (-1),st)) (
 some (.int .i64 n29,st)))) (
 cond (decide (65≤c')) (
 cond (decide (c'≤70)) (
 let n33:Int:=IntKind.wrap .u8 (c'-65)
 let n34:Int:=IntKind.wrap .i64 n33
 let n35:Int:=IntKind.wrap .i64 (n34+10)
 cond (decide (base'≤n35)) (
 some (.int .i64 (-1),st)) (
 some (.int .i64 n35,st))) (
 cond (decide (base'≤(-1))) (
 some (.int .i64 (-1),st)) (
 some (.int .i64 (-1),st)))) (
 cond (decide (base'≤(-1))) (
 some (.int .i64 (-1),st)) (
 some (.int .i64 (-1),st))))) (
 cond (decide (65≤c')) (
 cond (decide (c'≤70)) (
 let n36:Int:=IntKind.wrap .u8 (c'-65)
 let n37:Int:=IntKind.wrap .i64 n36
 let n38:Int:=IntKind.wrap .i64 (n37+10)
 cond (decide (base'≤n38)) (
 some (.int .i64 (-1),st)) (
 some (.int .i64 n38,st))) (
 cond (decide (base'≤(-1))) (
 some (.int .i64 (-1),st)) (
 some (.int .i64 (-1),st)))) (
 cond (decide (base'≤(-1))) (
 some (.int .i64 (-1),st)) (
 some (.int .i64 (-1),st)))))
noncomputable abbrev zif:zac:=lS Tryz.prog Lk0 Tryz.f79 zaG
theorem zih:Lk0.func 79=some (79,Tryz.f79):=by kernel_rfl
theorem zii [Sym] (c':Int) (base':Int) (st:SS) {r:Value×SS} (h:zck cc zif c' base' st=some r):cc 79 [.int .u8 c',.int .i64 base'] st=some r:=
 zah (li:=zaG) zai zaq zih rfl (fun _=>rfl) (.trans (by kernel_rfl) h)
def zeq:LoopI:=⟨[(0,.str),(3,.int .i64),(4,.int .i64),(5,.int .i64)],[(.exit 0,[(0,.str),(4,.int .i64)]),(.ret,[(2,.int .i64)])]⟩
def zeG (n:Nat):Option LoopI:=cond (Nat.beq n 7) (some zeq) (none)
noncomputable def zfO (cf:zak) (lf:zac) (s':ByteArray) (st:SS):Option (Value×SS):=
 cond (decide (2≤(s'.size:Int))) (
 (zbk s' 0 2).bind fun a=>
 cond (eqT a ⟨#[48,120]⟩) (
 (zbk s' 2 (s'.size:Int)).bind fun b=>
 (lf 7 [.string b,.int .i64 16,.int .i64 0,.int .i64 0] st).bind fun c=>
 cond (Nat.beq c.1 0) (
 ((c.2.1[0]?).bind asS).bind fun d=>
 ((c.2.1[1]?).bind (asI .i64)).bind fun e=>
 cond (eqT d ⟨#[]⟩) (
 some (.int .i64 (-1),c.2.2)) (
 cond (decide (2147483647<e)) (
 some (.int .i64 (-1),c.2.2)) (
 some (.int .i64 e,c.2.2)))) (
 ((c.2.1[0]?).bind (asI .i64)).bind fun f=>
 some (.int .i64 f,c.2.2))) (
 (lf 7 [.string s',.int .i64 10,.int .i64 0,.int .i64 0] st).bind fun g=>
 cond (Nat.beq g.1 0) (
 ((g.2.1[0]?).bind asS).bind fun h=>
 ((g.2.1[1]?).bind (asI .i64)).bind fun i=>
 cond (eqT h ⟨#[]⟩) (
 some (.int .i64 (-1),g.2.2)) (
 cond (decide (2147483647<i)) (
 some (.int .i64 (-1),g.2.2)) (
 some (.int .i64 i,g.2.2)))) (
 ((g.2.1[0]?).bind (asI .i64)).bind fun j=>
 some (.int .i64 j,g.2.2)))) (
 (lf 7 [.string s',.int .i64 10,.int .i64 0,.int .i64 0] st).bind fun k=>
 cond (Nat.beq k.1 0) (
 ((k.2.1[0]?).bind asS).bind fun l=>
 ((k.2.1[1]?).bind (asI .i64)).bind fun m=>
 cond (eqT l ⟨#[]⟩) (
 some (.int .i64 (-1),k.2.2)) (
 cond (decide (2147483647<m)) (
 some (.int .i64 (-1),k.2.2)) (
 some (.int .i64 m,k.2.2)))) (
 ((k.2.1[0]?).bind (asI .i64)).bind fun n=>
 some (.int .i64 n,k.2.2)))
noncomputable abbrev zaN:zac:=lS Tryz.prog Lk0 Tryz.f80 zeG
theorem zhM:Lk0.func 80=some (80,Tryz.f80):=by kernel_rfl
theorem zhN [Sym] (s':ByteArray) (st:SS) {r:Value×SS} (h:zfO cc zaN s' st=some r):cc 80 [.string s'] st=some r:=
 zah (li:=zeG) zai zaq zhM rfl (fun _=>rfl) (.trans (by kernel_rfl) h)
noncomputable def zaW (cf:zak) (lf:zac) (s':ByteArray) (base':Int) (n':Int) (i':Int) (st:SS):Option (Nat×List Value×SS):=
 cond (decide (i'<(s'.size:Int))) (
 ((zdu s' i').bind (asI .u8)).bind fun a=>
 (cf 79 [.int .u8 a,.int .i64 base'] st).bind fun b=>
 ((some b.1).bind (asI .i64)).bind fun c=>
 cond (decide (c<0)) (
 some (1,[.int .i64 (-1)],b.2)) (
 ((aI .quo .i64 2147483647 base').bind (asI .i64)).bind fun d=>
 cond (decide (d<n')) (
 some (1,[.int .i64 (-1)],b.2)) (
 let e:Int:=IntKind.wrap .i64 (n'*base')
 let f:Int:=IntKind.wrap .i64 (e+c)
 let g:Int:=IntKind.wrap .i64 (i'+1)
 lf 7 [.string s',.int .i64 base',.int .i64 f,.int .i64 g] b.2))) (
 some (0,[.string s',.int .i64 n'],st))
theorem zaU [Sym] (s':ByteArray) (base':Int) (n':Int) (i':Int) (st:SS) {r:Nat×List Value×SS} (h:zaW cc zaN s' base' n' i' st=some r):zaN 7 [.string s',.int .i64 base',.int .i64 n',.int .i64 i'] st=some r:=
 zax zai zaq (key:=7) (I:=zeq) rfl (by kernel_rfl) (by kernel_rfl) rfl rfl (.trans (by kernel_rfl) h)
def ze2:LoopI:=⟨[(0,.str),(1,.int .i64),(6,.any),(7,.int .i64),(8,.int .u8),(9,.int .i64)],[(.exit 2,[(0,.str),(1,.int .i64),(6,.any),(7,.int .i64),(8,.int .u8),(9,.int .i64)])]⟩
def ze3:LoopI:=⟨[(0,.str),(1,.int .i64),(6,.any),(7,.int .i64)],[(.exit 0,[(0,.str),(1,.int .i64),(6,.any)]),(.ret,[(4,.any),(5,.int .i64)])]⟩
def zfu (n:Nat):Option LoopI:=cond (Nat.beq n 3) (some ze3) (cond (Nat.beq n 6) (some ze2) (none))
noncomputable def zer (cf:zak) (lf:zac) (s':ByteArray) (at0':Int) (st:SS):Option (Value×SS):=
 (lf 3 [.string s',.int .i64 at0',.slice none 0 0,.int .i64 0] st).bind fun a=>
 cond (Nat.beq a.1 0) (
 ((a.2.1[0]?).bind asS).bind fun b=>
 ((a.2.1[1]?).bind (asI .i64)).bind fun c=>
 (a.2.1[2]?).bind fun d=>
 let e:Int:=IntKind.wrap .i64 ((b.size:Int)+1)
 let f:SS:=a.2.2.new (.cells ([.int .i64 0,.string ⟨#[]⟩,.int .i64 0,.int .i64 c,.int .i64 e]) 5)
 (f.app 5 48 d (.slice (some ⟨a.2.2.next,0,none⟩) 1 1)).bind fun g=>
 some (.tuple #[g.1,.int .i64 0],g.2)) (
 (a.2.1[0]?).bind fun h=>
 ((a.2.1[1]?).bind (asI .i64)).bind fun i=>
 some (.tuple #[h,.int .i64 i],a.2.2))
noncomputable abbrev zaP:zac:=lS Tryz.prog Lk0 Tryz.f51 zfu
theorem ziI:Lk0.func 51=some (51,Tryz.f51):=by kernel_rfl
theorem zfv [Sym] (s':ByteArray) (at0':Int) (st:SS) {r:Value×SS} (h:zer cc zaP s' at0' st=some r):cc 51 [.string s',.int .i64 at0'] st=some r:=
 zah (li:=zfu) zai zaq ziI rfl (fun _=>rfl) (.trans (by kernel_rfl) h)
noncomputable def zaO (cf:zak) (lf:zac) (s':ByteArray) (at0':Int) (out':Value) (i':Int) (st:SS):Option (Nat×List Value×SS):=
 cond (decide (i'<(s'.size:Int))) (
 ((zdu s' i').bind (asI .u8)).bind fun a=>
 cond (!(decide (a=59))) (
 ((zdu s' i').bind (asI .u8)).bind fun b=>
 (lf 6 [.string s',.int .i64 at0',out',.int .i64 i',.int .u8 b,.int .i64 0] st).bind fun c=>
 ((c.2.1[0]?).bind asS).bind fun d=>
 ((c.2.1[1]?).bind (asI .i64)).bind fun e=>
 (c.2.1[2]?).bind fun f=>
 ((c.2.1[3]?).bind (asI .i64)).bind fun g=>
 ((c.2.1[4]?).bind (asI .u8)).bind fun h=>
 ((c.2.1[5]?).bind (asI .i64)).bind fun i=>
 cond (decide (h=32)) (
 let j:Int:=IntKind.wrap .i64 (g+1)
 lf 3 [.string d,.int .i64 e,f,.int .i64 j] c.2.2) (
 cond (decide (h=9)) (
 let k:Int:=IntKind.wrap .i64 (g+1)
 lf 3 [.string d,.int .i64 e,f,.int .i64 k] c.2.2) (
 cond (decide (h=13)) (
 let l:Int:=IntKind.wrap .i64 (g+1)
 lf 3 [.string d,.int .i64 e,f,.int .i64 l] c.2.2) (
 let m:Int:=IntKind.wrap .i64 (g+1)
 let n:SS:=c.2.2.new (.cells [.int .i64 0,.string ⟨#[]⟩,.int .i64 0,.int .i64 0,.int .i64 0] 0)
 (n.st c.2.2.next 0 [.int .i64 0,.string ⟨#[]⟩,.int .i64 0,.int .i64 e,.int .i64 m]).bind fun o=>
 cond (decide (0<i)) (
 (cf 78 [.int .u8 h] o).bind fun p=>
 ((some p.1).bind asB).bind fun q=>
 cond q (
 (p.2.st c.2.2.next 0 [.int .i64 1]).bind fun r=>
 let s:Int:=IntKind.wrap .i64 (g+i)
 (zbk d g s).bind fun t=>
 (r.st c.2.2.next 1 [.string t]).bind fun u=>
 cond (decide (24<i)) (
 let v:Int:=IntKind.wrap .i64 (g+1)
 some (1,[.slice none 0 0,.int .i64 v],u)) (
 (u.ldN c.2.2.next 0 5).bind fun w=>
 (zaE w 5).bind fun x=>
 let y:SS:=u.new (.cells (x++([])) 5)
 (y.app 5 48 f (.slice (some ⟨u.next,0,none⟩) 1 1)).bind fun z=>
 ((z.2.ld c.2.2.next 1).bind asS).bind fun A=>
 let B:Int:=IntKind.wrap .i64 (g+(A.size:Int))
 lf 3 [.string d,.int .i64 e,z.1,.int .i64 B] z.2)) (
 cond (decide (0<i)) (
 (p.2.st c.2.2.next 0 [.int .i64 2]).bind fun C=>
 let D:Int:=IntKind.wrap .i64 (g+i)
 (zbk d g D).bind fun E=>
 (C.st c.2.2.next 1 [.string E]).bind fun F=>
 ((F.ld c.2.2.next 1).bind asS).bind fun G=>
 (cf 80 [.string G] F).bind fun H=>
 ((some H.1).bind (asI .i64)).bind fun I=>
 (H.2.st c.2.2.next 2 [.int .i64 I]).bind fun J=>
 ((J.ld c.2.2.next 2).bind (asI .i64)).bind fun K=>
 cond (decide (K<0)) (
 let L:Int:=IntKind.wrap .i64 (g+1)
 some (1,[.slice none 0 0,.int .i64 L],J)) (
 (J.ldN c.2.2.next 0 5).bind fun M=>
 (zaE M 5).bind fun N=>
 let O:SS:=J.new (.cells (N++([])) 5)
 (O.app 5 48 f (.slice (some ⟨J.next,0,none⟩) 1 1)).bind fun P=>
 ((P.2.ld c.2.2.next 1).bind asS).bind fun Q=>
 let R:Int:=IntKind.wrap .i64 (g+(Q.size:Int))
 lf 3 [.string d,.int .i64 e,P.1,.int .i64 R] P.2)) (
 cond (decide (h=58)) (
 (p.2.st c.2.2.next 0 [.int .i64 3]).bind fun S=>
 let T:Int:=IntKind.wrap .i64 (g+1)
 (zbk d g T).bind fun U=>
 (S.st c.2.2.next 1 [.string U]).bind fun V=>
 (V.ldN c.2.2.next 0 5).bind fun W=>
 (zaE W 5).bind fun X=>
 let Y:SS:=V.new (.cells (X++([])) 5)
 (Y.app 5 48 f (.slice (some ⟨V.next,0,none⟩) 1 1)).bind fun Z=>
 ((Z.2.ld c.2.2.next 1).bind asS).bind fun aA=>
 let aB:Int:=IntKind.wrap .i64 (g+(aA.size:Int))
 lf 3 [.string d,.int .i64 e,Z.1,.int .i64 aB] Z.2) (
 cond (decide (h=61)) (
 (p.2.st c.2.2.next 0 [.int .i64 3]).bind fun aC=>
 let aD:Int:=IntKind.wrap .i64 (g+1)
 (zbk d g aD).bind fun aE=>
 (aC.st c.2.2.next 1 [.string aE]).bind fun aF=>
 (aF.ldN c.2.2.next 0 5).bind fun aG=>
 (zaE aG 5).bind fun aH=>
 let aI:SS:=aF.new (.cells (aH++([])) 5)
 (aI.app 5 48 f (.slice (some ⟨aF.next,0,none⟩) 1 1)).bind fun aJ=>
 ((aJ.2.ld c.2.2.next 1).bind asS).bind fun aK=>
 let aL:Int:=IntKind.wrap .i64 (g+(aK.size:Int))
 lf 3 [.string d,.int .i64 e,aJ.1,.int .i64 aL] aJ.2) (
 cond (decide (h=46)) (
 (p.2.st c.2.2.next 0 [.int .i64 3]).bind fun aM=>
 let aN:Int:=IntKind.wrap .i64 (g+1)
 (zbk d g aN).bind fun aO=>
 (aM.st c.2.2.next 1 [.string aO]).bind fun aP=>
 (aP.ldN c.2.2.next 0 5).bind fun aQ=>
 (zaE aQ 5).bind fun aR=>
 let aS:SS:=aP.new (.cells (aR++([])) 5)
 (aS.app 5 48 f (.slice (some ⟨aP.next,0,none⟩) 1 1)).bind fun aT=>
 ((aT.2.ld c.2.2.next 1).bind asS).bind fun aU=>
 let aV:Int:=IntKind.wrap .i64 (g+(aU.size:Int))
 lf 3 [.string d,.int .i64 e,aT.1,.int .i64 aV] aT.2) (
 cond (decide (h=43)) (
 (p.2.st c.2.2.next 0 [.int .i64 3]).bind fun aW=>
 let aX:Int:=IntKind.wrap .i64 (g+1)
 (zbk d g aX).bind fun aY=>
 (aW.st c.2.2.next 1 [.string aY]).bind fun aZ=>
 (aZ.ldN c.2.2.next 0 5).bind fun bA=>
 (zaE bA 5).bind fun bB=>
 let bC:SS:=aZ.new (.cells (bB++([])) 5)
 (bC.app 5 48 f (.slice (some ⟨aZ.next,0,none⟩) 1 1)).bind fun bD=>
 ((bD.2.ld c.2.2.next 1).bind asS).bind fun bE=>
 let bF:Int:=IntKind.wrap .i64 (g+(bE.size:Int))
 lf 3 [.string d,.int .i64 e,bD.1,.int .i64 bF] bD.2) (
 cond (decide (h=45)) (
 (p.2.st c.2.2.next 0 [.int .i64 3]).bind fun bG=>
 let bH:Int:=IntKind.wrap .i64 (g+1)
 (zbk d g bH).bind fun bI=>
 (bG.st c.2.2.next 1 [.string bI]).bind fun bJ=>
 (bJ.ldN c.2.2.next 0 5).bind fun bK=>
 (zaE bK 5).bind fun bL=>
 let bM:SS:=bJ.new (.cells (bL++([])) 5)
 (bM.app 5 48 f (.slice (some ⟨bJ.next,0,none⟩) 1 1)).bind fun bN=>
 ((bN.2.ld c.2.2.next 1).bind asS).bind fun bO=>
 let bP:Int:=IntKind.wrap .i64 (g+(bO.size:Int))
 lf 3 [.string d,.int .i64 e,bN.1,.int .i64 bP] bN.2) (
 let bQ:Int:=IntKind.wrap .i64 (g+1)
 some (1,[.slice none 0 0,.int .i64 bQ],p.2))))))))) (
 cond (decide (0<i)) (
 (o.st c.2.2.next 0 [.int .i64 2]).bind fun bR=>
 let bS:Int:=IntKind.wrap .i64 (g+i)
 (zbk d g bS).bind fun bT=>
 (bR.st c.2.2.next 1 [.string bT]).bind fun bU=>
 ((bU.ld c.2.2.next 1).bind asS).bind fun bV=>
 (cf 80 [.string bV] bU).bind fun bW=>
 ((some bW.1).bind (asI .i64)).bind fun bX=>
 (bW.2.st c.2.2.next 2 [.int .i64 bX]).bind fun bY=>
 ((bY.ld c.2.2.next 2).bind (asI .i64)).bind fun bZ=>
 cond (decide (bZ<0)) (
 let cA:Int:=IntKind.wrap .i64 (g+1)
 some (1,[.slice none 0 0,.int .i64 cA],bY)) (
 (bY.ldN c.2.2.next 0 5).bind fun cB=>
 (zaE cB 5).bind fun cC=>
 let cD:SS:=bY.new (.cells (cC++([])) 5)
 (cD.app 5 48 f (.slice (some ⟨bY.next,0,none⟩) 1 1)).bind fun cE=>
 ((cE.2.ld c.2.2.next 1).bind asS).bind fun cF=>
 let cG:Int:=IntKind.wrap .i64 (g+(cF.size:Int))
 lf 3 [.string d,.int .i64 e,cE.1,.int .i64 cG] cE.2)) (
 cond (decide (h=58)) (
 (o.st c.2.2.next 0 [.int .i64 3]).bind fun cH=>
 let cI:Int:=IntKind.wrap .i64 (g+1)
 (zbk d g cI).bind fun cJ=>
 (cH.st c.2.2.next 1 [.string cJ]).bind fun cK=>
 (cK.ldN c.2.2.next 0 5).bind fun cL=>
 (zaE cL 5).bind fun cM=>
 let cN:SS:=cK.new (.cells (cM++([])) 5)
 (cN.app 5 48 f (.slice (some ⟨cK.next,0,none⟩) 1 1)).bind fun cO=>
 ((cO.2.ld c.2.2.next 1).bind asS).bind fun cP=>
 let cQ:Int:=IntKind.wrap .i64 (g+(cP.size:Int))
 lf 3 [.string d,.int .i64 e,cO.1,.int .i64 cQ] cO.2) (
 cond (decide (h=61)) (
 (o.st c.2.2.next 0 [.int .i64 3]).bind fun cR=>
 let cS:Int:=IntKind.wrap .i64 (g+1)
 (zbk d g cS).bind fun cT=>
 (cR.st c.2.2.next 1 [.string cT]).bind fun cU=>
 (cU.ldN c.2.2.next 0 5).bind fun cV=>
 (zaE cV 5).bind fun cW=>
 let cX:SS:=cU.new (.cells (cW++([])) 5)
 (cX.app 5 48 f (.slice (some ⟨cU.next,0,none⟩) 1 1)).bind fun cY=>
 ((cY.2.ld c.2.2.next 1).bind asS).bind fun cZ=>
 let dA:Int:=IntKind.wrap .i64 (g+(cZ.size:Int))
 lf 3 [.string d,.int .i64 e,cY.1,.int .i64 dA] cY.2) (
 cond (decide (h=46)) (
 (o.st c.2.2.next 0 [.int .i64 3]).bind fun dB=>
 let dC:Int:=IntKind.wrap .i64 (g+1)
 (zbk d g dC).bind fun dD=>
 (dB.st c.2.2.next 1 [.string dD]).bind fun dE=>
 (dE.ldN c.2.2.next 0 5).bind fun dF=>
 (zaE dF 5).bind fun dG=>
 let dH:SS:=dE.new (.cells (dG++([])) 5)
 (dH.app 5 48 f (.slice (some ⟨dE.next,0,none⟩) 1 1)).bind fun dI=>
 ((dI.2.ld c.2.2.next 1).bind asS).bind fun dJ=>
 let dK:Int:=IntKind.wrap .i64 (g+(dJ.size:Int))
 lf 3 [.string d,.int .i64 e,dI.1,.int .i64 dK] dI.2) (
 cond (decide (h=43)) (
 (o.st c.2.2.next 0 [.int .i64 3]).bind fun dL=>
 let dM:Int:=IntKind.wrap .i64 (g+1)
 (zbk d g dM).bind fun dN=>
 (dL.st c.2.2.next 1 [.string dN]).bind fun dO=>
 (dO.ldN c.2.2.next 0 5).bind fun dP=>
 (zaE dP 5).bind fun dQ=>
 let dR:SS:=dO.new (.cells (dQ++([])) 5)
 (dR.app 5 48 f (.slice (some ⟨dO.next,0,none⟩) 1 1)).bind fun dS=>
 ((dS.2.ld c.2.2.next 1).bind asS).bind fun dT=>
 let dU:Int:=IntKind.wrap .i64 (g+(dT.size:Int))
 lf 3 [.string d,.int .i64 e,dS.1,.int .i64 dU] dS.2) (
 cond (decide (h=45)) (
 (o.st c.2.2.next 0 [.int .i64 3]).bind fun dV=>
 let dW:Int:=IntKind.wrap .i64 (g+1)
 (zbk d g dW).bind fun dX=>
 (dV.st c.2.2.next 1 [.string dX]).bind fun dY=>
 (dY.ldN c.2.2.next 0 5).bind fun dZ=>
 (zaE dZ 5).bind fun gA=>
 let gB:SS:=dY.new (.cells (gA++([])) 5)
 (gB.app 5 48 f (.slice (some ⟨dY.next,0,none⟩) 1 1)).bind fun gC=>
 ((gC.2.ld c.2.2.next 1).bind asS).bind fun gD=>
 let gE:Int:=IntKind.wrap .i64 (g+(gD.size:Int))
 lf 3 [.string d,.int .i64 e,gC.1,.int .i64 gE] gC.2) (
 let gF:Int:=IntKind.wrap .i64 (g+1)
 some (1,[.slice none 0 0,.int .i64 gF],o)))))))))))) (
 some (0,[.string s',.int .i64 at0',out'],st))) (
 some (0,[.string s',.int .i64 at0',out'],st))
theorem zaL [Sym] (s':ByteArray) (at0':Int) (out':Value) (i':Int) (st:SS) {r:Nat×List Value×SS} (h:zaO cc zaP s' at0' out' i' st=some r):zaP 3 [.string s',.int .i64 at0',out',.int .i64 i'] st=some r:=
 zax zai zaq (key:=3) (I:=ze3) rfl (by kernel_rfl) (by kernel_rfl) rfl rfl (.trans (by kernel_rfl) h)
noncomputable def zbx (cf:zak) (lf:zac) (s':ByteArray) (at0':Int) (out':Value) (i':Int) (c':Int) (n':Int) (st:SS):Option (Nat×List Value×SS):=
 let a:Int:=IntKind.wrap .i64 (i'+n')
 cond (decide (a<(s'.size:Int))) (
 let b:Int:=IntKind.wrap .i64 (i'+n')
 ((zdu s' b).bind (asI .u8)).bind fun c=>
 (cf 78 [.int .u8 c] st).bind fun d=>
 ((some d.1).bind asB).bind fun e=>
 cond e (
 let f:Int:=IntKind.wrap .i64 (n'+1)
 lf 6 [.string s',.int .i64 at0',out',.int .i64 i',.int .u8 c',.int .i64 f] d.2) (
 let g:Int:=IntKind.wrap .i64 (i'+n')
 ((zdu s' g).bind (asI .u8)).bind fun h=>
 (cf 79 [.int .u8 h,.int .i64 10] d.2).bind fun i=>
 ((some i.1).bind (asI .i64)).bind fun j=>
 cond (decide (0≤j)) (
 let k:Int:=IntKind.wrap .i64 (n'+1)
 lf 6 [.string s',.int .i64 at0',out',.int .i64 i',.int .u8 c',.int .i64 k] i.2) (
 some (0,[.string s',.int .i64 at0',out',.int .i64 i',.int .u8 c',.int .i64 n'],i.2)))) (
 some (0,[.string s',.int .i64 at0',out',.int .i64 i',.int .u8 c',.int .i64 n'],st))
theorem zes [Sym] (s':ByteArray) (at0':Int) (out':Value) (i':Int) (c':Int) (n':Int) (st:SS) {r:Nat×List Value×SS} (h:zbx cc zaP s' at0' out' i' c' n' st=some r):zaP 6 [.string s',.int .i64 at0',out',.int .i64 i',.int .u8 c',.int .i64 n'] st=some r:=
 zax zai zaq (key:=6) (I:=ze2) rfl (by kernel_rfl) (by kernel_rfl) rfl rfl (.trans (by kernel_rfl) h)
def zfw:LoopI:=⟨[(3,.any),(4,.any),(10,.any),(11,.int .i64),(12,.int .i64)],[(.exit 0,[(3,.any),(4,.any)]),(.ret,[(2,.any),(3,.any)])]⟩
def zfP (n:Nat):Option LoopI:=cond (Nat.beq n 3) (some zfw) (none)
noncomputable def zeR (cf:zak) (lf:zac) (text':ByteArray) (st:SS):Option (Value×SS):=
 let a:SS:=st.new (.cells [.int .i64 0,.int .i64 0] 0)
 (cf 50 [.string text',.int .u8 10] a).bind fun b=>
 ((lenV b.1).bind (asI .i64)).bind fun c=>
 (lf 3 [ptr st.next 0,.slice none 0 0,b.1,.int .i64 c,.int .i64 0] b.2).bind fun d=>
 cond (Nat.beq d.1 0) (
 (d.2.1[0]?).bind fun e=>
 (d.2.1[1]?).bind fun f=>
 (addr? e).bind fun g=>
 (d.2.2.st g.1 g.2 [.int .i64 0,.int .i64 0]).bind fun h=>
 (addr? e).bind fun i=>
 (h.rdN i.1 i.2 2).bind fun j=>
 some (.tuple #[f,j],h)) (
 (d.2.1[0]?).bind fun k=>
 (d.2.1[1]?).bind fun l=>
 (addr? l).bind fun m=>
 (d.2.2.rdN m.1 m.2 2).bind fun n=>
 some (.tuple #[k,n],d.2.2))
noncomputable abbrev zbH:zac:=lS Tryz.prog Lk0 Tryz.f49 zfP
theorem zjx:Lk0.func 49=some (49,Tryz.f49):=by kernel_rfl
theorem zfQ [Sym] (text':ByteArray) (st:SS) {r:Value×SS} (h:zeR cc zbH text' st=some r):cc 49 [.string text'] st=some r:=
 zah (li:=zfP) zai zaq zjx rfl (fun _=>rfl) (.trans (by kernel_rfl) h)
noncomputable def zcL (cf:zak) (lf:zac) (t3':Value) (out':Value) (t10':Value) (t11':Int) (t12':Int) (st:SS):Option (Nat×List Value×SS):=
 cond (decide (t12'<t11')) (
 (zar t10' t12' 1).bind fun a=>
 ((st.ld a.1 a.2).bind asS).bind fun b=>
 let c:Int:=IntKind.wrap .i64 (t12'+1)
 (cf 51 [.string b,.int .i64 c] st).bind fun d=>
 (zal d.1 0).bind fun e=>
 ((zal d.1 1).bind (asI .i64)).bind fun f=>
 cond (decide (0<f)) (
 let g:Int:=IntKind.wrap .i64 (t12'+1)
 (addr? t3').bind fun h=>
 (d.2.st h.1 h.2 [.int .i64 g,.int .i64 f]).bind fun i=>
 some (1,[.slice none 0 0,t3'],i)) (
 (d.2.app 5 48 out' e).bind fun j=>
 let k:Int:=IntKind.wrap .i64 (t12'+1)
 lf 3 [t3',j.1,t10',.int .i64 t11',.int .i64 k] j.2)) (
 some (0,[t3',out'],st))
theorem zc7 [Sym] (t3':Value) (out':Value) (t10':Value) (t11':Int) (t12':Int) (st:SS) {r:Nat×List Value×SS} (h:zcL cc zbH t3' out' t10' t11' t12' st=some r):zbH 3 [t3',out',t10',.int .i64 t11',.int .i64 t12'] st=some r:=
 zax zai zaq (key:=3) (I:=zfw) rfl (by kernel_rfl) (by kernel_rfl) rfl rfl (.trans (by kernel_rfl) h)
end Go.Proofs.YtifploedaacedaaGreatDoorE
namespace Go.Proofs.YtifploedaacedaaGreatDoorE
open Go Go.E Go.Proofs
structure Gd (st:SS):Prop where
 g4:st.mem.get 6=some (.table [.chan (some 6)])
 g5:st.mem.get 7=some (.table [.chan (some 7)])
 gF:st.mem.get 0=some (.table fieldsC)
 gS:st.mem.get 2=some (.table asciiC)
 nx:12≤st.next
theorem Gd.ext {st st':SS} (h:Gd st) (he:Ext st st'):Gd st':=
 ⟨he.get (by have:=h.nx;omega) h.g4,he.get (by have:=h.nx;omega) h.g5,he.get (by have:=h.nx;omega) h.gF,he.get (by have:=h.nx;omega) h.gS,zlt h.nx he.next⟩
theorem Gd.ro {st:SS} {n:Nat} (h:Gd st):Gd (st.ro n):=⟨h.g4,h.g5,h.gF,h.gS,h.nx⟩
theorem zlC (p l:List UInt8):(l.take p.length=p)↔p.isPrefixOf l=true:=by
 rw [List.isPrefixOf_iff_prefix,List.prefix_iff_eq_take]
 exact eq_comm
theorem zoZ [Sym] (s p:ByteArray) (st:SS):cc 160 [.string s,.string p] st=some (.bool ((bl p).isPrefixOf (bl s)),st):=by
 refine zg7 s p st ?_
 unfold ze0
 by_cases h:(p.size:Int)≤(s.size:Int)
 ·simp only [zdt h,zct,zfK (s:=s) (l:=0) (h:=p.size) (by omega) (by omega) h,zob,zep]
  congr 3
  rw [Bool.eq_iff_iff,decide_eq_true_eq,← zlC,zjn,zaF]
  simp
 ·simp only [zdf h,zcf]
  congr 3
  have:(bl p).isPrefixOf (bl s)=false:=by
   rw [Bool.eq_false_iff]
   intro hp
   rw [List.isPrefixOf_iff_prefix] at hp
   have:=hp.length_le
   simp at this
   omega
  rw [this]
theorem zo0 [Sym] (s p:ByteArray) (st:SS):cc 130 [.string s,.string p] st=some (.tuple #[.string (if (bl p).isPrefixOf (bl s) then mkS ((bl s).drop p.size) else s),.bool ((bl p).isPrefixOf (bl s))],st):=by
 have h1:cc 145 [.string s,.string p] st=some (.tuple #[.string (if (bl p).isPrefixOf (bl s) then mkS ((bl s).drop p.size) else s),.bool ((bl p).isPrefixOf (bl s))],st):=by
  refine zg4 s p st ?_
  unfold zeZ
  rw [zoZ]
  cases hp:(bl p).isPrefixOf (bl s) with
  | false=>simp
  | true=>
    have hp':=hp
    rw [List.isPrefixOf_iff_prefix] at hp'
    have:=hp'.length_le
    simp only [zaF] at this
    simp [zfK (s:=s) (l:=p.size) (h:=s.size) (by omega) (by omega) (by omega),zdv]
    rw [List.take_of_length_le (by simp)]
 refine zjt s p st ?_
 unfold strings_CutPrefix
 rw [h1]
 rfl
def zed (b:UInt8):Nat:=(orI .u8 b.toNat 32).toNat
theorem zkw (n:Int):0≤IntKind.wrap .u8 n∧IntKind.wrap .u8 n<256:=by
 rw [← zgg]
 show 0≤((zcs n 256:Nat):Int)∧((zcs n 256:Nat):Int)<256
 rw [zgf _ _ (by decide)]
 omega
theorem zrP (b:UInt8):orI .u8 b.toNat 32=(zed b:Int):=by
 have:=(zkw ((BitVec.ofInt 8 b.toNat||| BitVec.ofInt 8 32).toNat:Nat)).1
 unfold zed
 rw [Int.toNat_of_nonneg]
 exact this
theorem low_lt (b:UInt8):zed b<256:=by
 have:=(zkw ((BitVec.ofInt 8 b.toNat||| BitVec.ofInt 8 32).toNat:Nat)).2
 have h2:=zrP b
 have h3:orI .u8 b.toNat 32<256:=this
 omega
theorem zs8 [Sym] (b:UInt8) (st:SS):cc 161 [.int .u8 b.toNat] st=some (.int .u8 (zed b),st):=by
 refine zlb _ st ?_
 unfold ziG
 rw [zrP]
def zgl (b:UInt8):Option Nat:=if 48≤b.toNat∧b.toNat≤57 then some (b.toNat-48) else if 97≤zed b∧zed b≤122 then some (zed b-87) else none
def zaZ (B:Nat):Nat→List UInt8→Option (Option Nat)
 | n,[]=>some (some n)
 | n,b::r=>match zgl b with
   | none=>none
   | some d=>if B≤d then none else if 2147483647<n*B+d then some none else zaZ B (n*B+d) r
def puR (x:Option (Option Nat)) (s:ByteArray) (st:SS):Nat×List Value×SS:=match x with
 | none=>(1,[.int .u64 0,.iface 228 (.int .i64 2)],st)
 | some none=>(1,[.int .u64 2147483647,.iface 228 (.int .i64 1)],st)
 | some (some m)=>(0,[.string s,.bool false,.int .u64 m],st)
theorem zp7 [Sym] (s s0:ByteArray) (B:Nat) (hB:0<B∧B≤16) (C:Int) (hC:2147483648≤C) (i cap:Nat) (st:SS) (hs:s.size≤4294967296) (hm:st.mem.get i=some (.cells (s.data.toList.map fun b=>.int .u8 b.toNat) 1)):∀ (l:List UInt8) (p n:Nat),(bl s).drop p=l→p≤s.size→n≤2147483647→
  zhi 36 [.int .i64 B,.bool false,.string s0,.int .u64 C,.int .u64 2147483647,.bool false,.int .u64 n,.slice (some ⟨i,0,none⟩) s.size cap,.int .i64 s.size,.int .i64 p] st=some (puR (zaZ B n l) s0 st):=by
 intro l
 induction l with
 | nil=>
   intro p n hp hle hn
   have hps:p=s.size:=by
    rw [List.drop_eq_nil_iff,zaF] at hp
    omega
   subst hps
   refine zlz _ _ _ _ _ _ _ _ _ st ?_
   simp [zdV,zaZ,puR]
 | cons b r ih=>
   intro p n hp hle hn
   have hb:(bl s)[p]?=some b:=by
    have:=congrArg (·[0]?) hp
    simpa using this
   have hlt:p<s.size:=by
    obtain ⟨h,_⟩:=List.getElem?_eq_some_iff.1 hb
    simpa using h
   have hr:(bl s).drop (p+1)=r:=by
    have:=drop_cons hb
    rw [hp] at this
    exact (List.cons.inj this).2.symm
   have hlt':(p:Int)<(s.size:Int):=by omega
   have hel:zar (.slice (some ⟨i,0,none⟩) s.size cap) (p:Int) 1=some (i,p):=by
    unfold zar
    simp [hlt]
   have hld:(st.ld i p).bind (asI .u8)=some (b.toNat:Int):=by
    rw [SS.ld_cells hm,List.getElem?_map]
    show (((bl s)[p]?).map _).bind _=_
    rw [hb]
    rfl
   have hwp:IntKind.wrap .i64 ((p:Int)+1)=((p+1:Nat):Int):=by rw [wrap64 (by omega) (by omega)];omega
   have hB8:IntKind.wrap .u8 (B:Int)=B:=zfJ (by omega) (by omega)
   have hB64:IntKind.wrap .u64 (B:Int)=B:=zeD (by omega) (by omega)
   have hmul:n*B≤2147483647*16:=Nat.mul_le_mul hn hB.2
   have hmulw:IntKind.wrap .u64 ((n:Int)*(B:Int))=((n*B:Nat):Int):=by
    rw [← Int.natCast_mul]
    exact zeD (by omega) (by omega)
   have hCn:¬ C≤(n:Int):=by omega
   have hlow:=low_lt b
   have hbl:=b.toNat_lt
   have fin:∀ d:Nat,d<256→zgl b=some d→∀ (q:Int),q=d→
    (cond (decide ((B:Int)≤q)) (some (1,[Value.int .u64 0,.iface 228 (.int .i64 2)],st)) (
     cond (decide (C≤(n:Int))) (some (1,[.int .u64 2147483647,.iface 228 (.int .i64 1)],st)) (
      cond (decide (IntKind.wrap .u64 (((n*B:Nat):Int)+IntKind.wrap .u64 q)<((n*B:Nat):Int))) (some (1,[.int .u64 2147483647,.iface 228 (.int .i64 1)],st)) (
       cond (decide (2147483647<IntKind.wrap .u64 (((n*B:Nat):Int)+IntKind.wrap .u64 q))) (some (1,[.int .u64 2147483647,.iface 228 (.int .i64 1)],st)) (
        zhi 36 [.int .i64 B,.bool false,.string s0,.int .u64 C,.int .u64 2147483647,.bool false,.int .u64 (IntKind.wrap .u64 (((n*B:Nat):Int)+IntKind.wrap .u64 q)),.slice (some ⟨i,0,none⟩) s.size cap,.int .i64 s.size,.int .i64 ((p+1:Nat):Int)] st)))))=some (puR (zaZ B n (b::r)) s0 st):=by
    intro d hd hv q hq
    subst hq
    have hw1:IntKind.wrap .u64 (d:Int)=d:=zeD (by omega) (by omega)
    have hw2:IntKind.wrap .u64 (((n*B:Nat):Int)+(d:Int))=((n*B+d:Nat):Int):=by
     rw [← Int.natCast_add]
     exact zeD (by omega) (by omega)
    have hnl:¬ (((n*B+d:Nat):Int)<((n*B:Nat):Int)):=by omega
    rw [hw1,hw2,zdf hCn,zdf hnl]
    unfold zaZ
    rw [hv]
    by_cases h1:B≤d
    ·have h1':(B:Int)≤(d:Int):=by omega
     simp [h1,puR]
    ·have h1':¬ (B:Int)≤(d:Int):=by omega
     rw [zdf h1']
     simp only [zcf,h1,if_false]
     by_cases h2:2147483647<n*B+d
     ·have h2':(2147483647:Int)<((n*B+d:Nat):Int):=by omega
      rw [zdt h2',if_pos h2]
      rfl
     ·have h2':¬ (2147483647:Int)<((n*B+d:Nat):Int):=by omega
      rw [zdf h2',if_neg h2]
      exact ih (p+1) (n*B+d) hr (by omega) (by omega)
   refine zlz _ _ _ _ _ _ _ _ _ st ?_
   by_cases hdig:48≤b.toNat∧b.toNat≤57
   ·have h1:(48:Int)≤(b.toNat:Int):=by omega
    have h2:(b.toNat:Int)≤57:=by omega
    have h3:¬ (b.toNat:Int)=95:=by omega
    have hw:IntKind.wrap .u8 ((b.toNat:Int)-48)=((b.toNat-48:Nat):Int):=by rw [zfJ (by omega) (by omega)];omega
    have:=fin (b.toNat-48) (by omega) (by unfold zgl;rw [if_pos hdig]) _ rfl
    simp only [zdV,zdt hlt',zct,hel,zob,hld,zdf h3,zcf,zdt h1,zdt h2,hw,hB8,hB64,hmulw,hwp]
    exact this
   ·have hlo:=zs8 b st
    have h4857:decide ((48:Int)≤(b.toNat:Int))=false∨(decide ((48:Int)≤(b.toNat:Int))=true∧decide ((b.toNat:Int)≤57)=false):=by
     by_cases h:(48:Int)≤(b.toNat:Int)
     ·exact .inr ⟨zdt h,zdf (by omega)⟩
     ·exact .inl (zdf h)
    by_cases h1:97≤zed b
    ·have h1':(97:Int)≤(zed b:Int):=by omega
     have hw1:IntKind.wrap .u8 ((zed b:Int)-97)=((zed b-97:Nat):Int):=by rw [zfJ (by omega) (by omega)];omega
     by_cases h2:zed b≤122
     ·have h2':(zed b:Int)≤122:=by omega
      have hw2:IntKind.wrap .u8 (((zed b-97:Nat):Int)+10)=((zed b-87:Nat):Int):=by rw [zfJ (by omega) (by omega)];omega
      have:=fin (zed b-87) (by omega) (by unfold zgl;rw [if_neg hdig,if_pos ⟨h1,h2⟩]) _ rfl
      rcases h4857 with h48 | ⟨h48,h57⟩
      ·cases h95:decide ((b.toNat:Int)=95)
       all_goals
        simp only [zdV,zdt hlt',zct,hel,zob,hld,h95,zcf,h48,hlo,zaa,zdt h1',zdt h2',hw1,hw2,hB8,hB64,hmulw,hwp]
        exact this
      ·cases h95:decide ((b.toNat:Int)=95)
       all_goals
        simp only [zdV,zdt hlt',zct,hel,zob,hld,h95,zcf,h48,h57,hlo,zaa,zdt h1',zdt h2',hw1,hw2,hB8,hB64,hmulw,hwp]
        exact this
     ·have h2':¬ (zed b:Int)≤122:=by omega
      have hv:zgl b=none:=by unfold zgl;rw [if_neg hdig,if_neg (by omega)]
      have e:zaZ B n (b::r)=none:=by unfold zaZ;rw [hv]
      rw [e]
      rcases h4857 with h48 | ⟨h48,h57⟩
      ·cases h95:decide ((b.toNat:Int)=95)
       all_goals
        simp only [zdV,zdt hlt',zct,hel,zob,hld,h95,zcf,h48,hlo,zaa,zdt h1',zdf h2',puR]
      ·cases h95:decide ((b.toNat:Int)=95)
       all_goals
        simp only [zdV,zdt hlt',zct,hel,zob,hld,h95,zcf,h48,h57,hlo,zaa,zdt h1',zdf h2',puR]
    ·have h1':¬ (97:Int)≤(zed b:Int):=by omega
     have hv:zgl b=none:=by unfold zgl;rw [if_neg hdig,if_neg (by omega)]
     have e:zaZ B n (b::r)=none:=by unfold zaZ;rw [hv]
     rw [e]
     rcases h4857 with h48 | ⟨h48,h57⟩
     ·cases h95:decide ((b.toNat:Int)=95)
      all_goals
       simp only [zdV,zdt hlt',zct,hel,zob,hld,h95,zcf,h48,hlo,zaa,zdf h1',puR]
     ·cases h95:decide ((b.toNat:Int)=95)
      all_goals
       simp only [zdV,zdt hlt',zct,hel,zob,hld,h95,zcf,h48,h57,hlo,zaa,zdf h1',puR]
def za0 (B:Nat) (l:List UInt8):Option (Option Nat):=if l=[] then none else zaZ B 0 l
def puV (x:Option (Option Nat)):Int×Option Nat:=match x with
 | none=>(0,some 4)
 | some none=>(2147483647,some 5)
 | some (some m)=>(m,none)
def zgm (x:Option (Option Nat)):Int×Bool:=((puV x).1,(puV x).2.isNone)
def puE (x:Option (Option Nat)):Value:=match x with
 | none=>.iface 228 (.int .i64 2)
 | some none=>.iface 228 (.int .i64 1)
 | some (some m)=>.nilIface
theorem zgH (s:ByteArray):eqT s ⟨#[]⟩=decide (bl s=[]):=rfl
theorem zua [Sym] (s:ByteArray) (hs:s.size≤4294967296) (st:SS):∃ st',cc 146 [.string s,.int .i64 10,.int .i64 31] st=some (.tuple #[.int .u64 (puV (za0 10 (bl s))).1,puE (za0 10 (bl s))],st')∧Ext st st':=by
 have hsh:IntKind.wrap .u64 (zki .u64 1 31-1)=2147483647:=by decide
 by_cases h0:bl s=[]
 ·refine ⟨st,zp3 s st ?_,.refl _⟩
  simp [pu10,zgH,h0,za0,puV,puE]
 ·refine ⟨st.new (.cells (s.data.toList.map fun b=>.int .u8 b.toNat) 1),zp3 s st ?_,(Ext.refl st).new _⟩
  have:=zp7 s s 10 (by omega) 1844674407370955162 (by omega) st.next s.size (st.new (.cells (s.data.toList.map fun b=>.int .u8 b.toNat) 1)) hs (by simp) (bl s) 0 0 rfl (by omega) (by omega)
  have this':zhi 36 [.int .i64 10,.bool false,.string s,.int .u64 1844674407370955162,.int .u64 2147483647,.bool false,.int .u64 0,.slice (some ⟨st.next,0,none⟩) s.size s.size,.int .i64 ((s.size:Nat):Int),.int .i64 0] (st.new (.cells (s.data.toList.map fun b=>.int .u8 b.toNat) 1))=_:=this
  simp only [pu10,zgH,zdf h0,zcf,hsh,this',zob,za0,if_neg h0]
  rcases zaZ 10 0 (bl s) with _ | _ | m<;>simp [puR,puV,puE]
theorem zue [Sym] (s:ByteArray) (hs:s.size≤4294967296) (st:SS):∃ st',cc 146 [.string s,.int .i64 16,.int .i64 31] st=some (.tuple #[.int .u64 (puV (za0 16 (bl s))).1,puE (za0 16 (bl s))],st')∧Ext st st':=by
 have hsh:IntKind.wrap .u64 (zki .u64 1 31-1)=2147483647:=by decide
 by_cases h0:bl s=[]
 ·refine ⟨st,zp6 s st ?_,.refl _⟩
  simp [pu16,zgH,h0,za0,puV,puE]
 ·refine ⟨st.new (.cells (s.data.toList.map fun b=>.int .u8 b.toNat) 1),zp6 s st ?_,(Ext.refl st).new _⟩
  have:=zp7 s s 16 (by omega) 1152921504606846976 (by omega) st.next s.size (st.new (.cells (s.data.toList.map fun b=>.int .u8 b.toNat) 1)) hs (by simp) (bl s) 0 0 rfl (by omega) (by omega)
  have this':zp5 36 [.int .i64 16,.bool false,.string s,.int .u64 1152921504606846976,.int .u64 2147483647,.bool false,.int .u64 0,.slice (some ⟨st.next,0,none⟩) s.size s.size,.int .i64 ((s.size:Nat):Int),.int .i64 0] (st.new (.cells (s.data.toList.map fun b=>.int .u8 b.toNat) 1))=_:=this
  simp only [pu16,zgH,zdf h0,zcf,hsh,this',zob,za0,if_neg h0]
  rcases zaZ 16 0 (bl s) with _ | _ | m<;>simp [puR,puV,puE]
theorem zs9 [Sym] {st:SS} (hg:Gd st) (fn s:ByteArray) (hs:s.size≤4294967296) (base bits:Int) (x:Option (Option Nat)) (hx:(puV x).2.isNone=false):
  cc 147 [.string fn,.string s,.int .i64 base,.int .i64 bits,puE x] st=some (.iface 230 (.pointer (some ⟨st.next,0,none⟩)),st.adv (st.next+1)):=by
 have hq:Nat.ble s.size 281474976710656=true:=by rw [Nat.ble_eq];omega
 have hn:=hg.nx
 rcases x with _ | _ | m
 ·have h:=znU (P:=Tryz.prog) (L:=Lk0) (f:=147) (args:=[.string fn,.string s,.int .i64 base,.int .i64 bits,.iface 228 (.int .i64 2)]) (st:=st) (c:=zeY st.next 6) (by rfl)
   (by show zlS 147 [.string fn,.string s,.int .i64 base,.int .i64 bits,.iface 228 (.int .i64 2)] st.next=_;simp [zlS, -zoW,hq]) (by
    have h4:Nat.blt 6 st.next=true:=by rw [Nat.blt_eq];omega
    have hgl:Lk0.glob 6=true:=rfl
    simp [zeY,hg.g4,zgx,zi3,h4,hgl])
  exact h
 ·have h:=znU (P:=Tryz.prog) (L:=Lk0) (f:=147) (args:=[.string fn,.string s,.int .i64 base,.int .i64 bits,.iface 228 (.int .i64 1)]) (st:=st) (c:=zeY st.next 7) (by rfl)
   (by show zlS 147 [.string fn,.string s,.int .i64 base,.int .i64 bits,.iface 228 (.int .i64 1)] st.next=_;simp [zlS, -zoW,hq]) (by
    have h4:Nat.blt 7 st.next=true:=by rw [Nat.blt_eq];omega
    have hgl:Lk0.glob 7=true:=rfl
    simp [zeY,hg.g5,zgx,zi3,h4,hgl])
  exact h
 ·cases hx
theorem zkx [Sym] {st:SS} (hg:Gd st) (s:ByteArray) (hs:s.size≤4294967296) (base:Int) (B:Nat) (hb:(base=10∧B=10)∨(base=16∧B=16)):
  ∃ e st',cc 131 [.string s,.int .i64 base,.int .i64 31] st=some (.tuple #[.int .u64 (puV (za0 B (bl s))).1,e],st')∧zfH e=some (puV (za0 B (bl s))).2.isNone∧Ext st st':=by
 have h:∃ st',cc 146 [.string s,.int .i64 base,.int .i64 31] st=some (.tuple #[.int .u64 (puV (za0 B (bl s))).1,puE (za0 B (bl s))],st')∧Ext st st':=by
  rcases hb with ⟨rfl,rfl⟩ | ⟨rfl,rfl⟩
  ·exact zua s hs st
  ·exact zue s hs st
 obtain ⟨st',h1,h2⟩:=h
 have hE:zfH (puE (za0 B (bl s)))=some (puV (za0 B (bl s))).2.isNone:=by
  rcases za0 B (bl s) with _ | _ | m<;>rfl
 cases hx:(puV (za0 B (bl s))).2.isNone with
 | true=>
   refine ⟨.nilIface,st',zfM s _ _ st ?_,rfl,h2⟩
   rw [hx] at hE
   simp [zeQ,h1,zal,hE]
 | false=>
   refine ⟨.iface 230 (.pointer (some ⟨st'.next,0,none⟩)),st'.adv (st'.next+1),zfM s _ _ st ?_,rfl,h2.adv (Nat.le_succ _)⟩
   rw [hx] at hE
   simp [zeQ,h1,zal,hE,zs9 (hg.ext h2) _ s hs _ _ _ hx]
def zjy (l:List UInt8):Bool:=[48,120].isPrefixOf l
def zcA (l:List UInt8):Option (Option Nat):=if zjy l then za0 16 (l.drop 2) else za0 10 l
theorem zo1 {B n m:Nat} {l:List UInt8} (h:zaZ B n l=some (some m)):Lib.indexByte l 95= -1:=by
 induction l generalizing n with
 | nil=>rfl
 | cons b r ih=>
   unfold zaZ at h
   split at h
   ·cases h
   ·rename_i d hd
    split at h
    ·cases h
    ·split at h
     ·cases h
     ·have hb:b≠95:=by
       rintro rfl
       have:zgl 95=none:=by decide
       rw [this] at hd;cases hd
      simp [Lib.indexByte,hb,ih h]
theorem znY {B:Nat} {l:List UInt8} (h:(puV (za0 B l)).2.isNone=true):Lib.indexByte l 95= -1:=by
 unfold za0 at h
 split at h
 ·cases h
 ·cases hp:zaZ B 0 l with
  | none=>rw [hp] at h;cases h
  | some x=>cases x with
    | none=>rw [hp] at h;cases h
    | some m=>exact zo1 hp
theorem zgI {B:Nat} {l:List UInt8}:0≤(puV (za0 B l)).1∧(puV (za0 B l)).1≤2147483647:=by
 have:∀ (l:List UInt8) (n m:Nat),n≤2147483647→zaZ B n l=some (some m)→m≤2147483647:=by
  intro l
  induction l with
  | nil=>intro n m hn h;cases h;exact hn
  | cons b r ih=>
    intro n m hn h
    unfold zaZ at h
    split at h
    ·cases h
    ·split at h
     ·cases h
     ·split at h
      ·cases h
      ·exact ih _ _ (by omega) h
 unfold za0
 split
 ·simp [puV]
 ·cases hp:zaZ B 0 l with
  | none=>simp [puV]
  | some x=>cases x with
    | none=>simp [puV]
    | some m=>have:=this l 0 m (by omega) hp;simp only [puV];omega
theorem zrQ [Sym] {st:SS} (hg:Gd st) (s:ByteArray) (hs:s.size≤4294967296):∃ n,st.next≤n∧cc 109 [.string s] st=some (.tuple #[.int .i64 (zgm (zcA (bl s))).1,.bool (zgm (zcA (bl s))).2],st.adv n):=by
 have hcut:=zo0 s ⟨#[48,120]⟩ (st.ro st.next)
 have hp:(bl (⟨#[48,120]⟩:ByteArray))=[48,120]:=rfl
 have hsz:(⟨#[48,120]⟩:ByteArray).size=2:=rfl
 rw [hp,hsz] at hcut
 cases hh:zjy (bl s) with
 | true=>
   have hh':=hh
   unfold zjy at hh'
   rw [hh'] at hcut
   obtain ⟨e,st',h1,h2,h3⟩:=zkx (st:=st.ro st.next) (hg.ro) (mkS ((bl s).drop 2)) (by simp;omega) 16 16 (.inr ⟨rfl,rfl⟩)
   rw [zbJ] at h1 h2
   refine ⟨st'.next,h3.next,ziH s st ?_⟩
   have hw:=wrap64 (n:=(puV (za0 16 ((bl s).drop 2))).1) (by have:=zgI (B:=16) (l:=(bl s).drop 2);omega) (by have:=zgI (B:=16) (l:=(bl s).drop 2);omega)
   have hi:=zhw 95 (mkS ((bl s).drop 2)) st'
   cases hx:(puV (za0 16 ((bl s).drop 2))).2.isNone with
   | true=>
     rw [hx] at h2
     have hu:=znY hx
     have hi':cc 110 [.string (mkS ((bl s).drop 2)),.int .u8 95] st'=_:=hi
     rw [zbJ,hu] at hi'
     simp [ze1,hcut,zal,h1,h2,hw,zcA,hh,zgm,hx,hi']
   | false=>
     rw [hx] at h2
     simp [ze1,hcut,zal,h1,h2,hw,zcA,hh,zgm,hx]
 | false=>
   have hh':=hh
   unfold zjy at hh'
   rw [hh'] at hcut
   obtain ⟨e,st',h1,h2,h3⟩:=zkx (st:=st.ro st.next) (hg.ro) s hs 10 10 (.inl ⟨rfl,rfl⟩)
   refine ⟨st'.next,h3.next,ziH s st ?_⟩
   have hw:=wrap64 (n:=(puV (za0 10 (bl s))).1) (by have:=zgI (B:=10) (l:=bl s);omega) (by have:=zgI (B:=10) (l:=bl s);omega)
   have hi:=zhw 95 s st'
   cases hx:(puV (za0 10 (bl s))).2.isNone with
   | true=>
     rw [hx] at h2
     have hu:=znY hx
     have hi':cc 110 [.string s,.int .u8 95] st'=_:=hi
     rw [hu] at hi'
     simp [ze1,hcut,zal,h1,h2,hw,zcA,hh,zgm,hx,hi']
   | false=>
     rw [hx] at h2
     simp [ze1,hcut,zal,h1,h2,hw,zcA,hh,zgm,hx]
end Go.Proofs.YtifploedaacedaaGreatDoorE
namespace Go.Proofs.YtifploedaacedaaGreatDoorE
open Go Go.E Go.Proofs
structure Tok where
 kd:Nat
 tx:List UInt8
 nm:Int
 col:Nat
def za5 (at':Int) (t:Tok):List Value:=[.int .i64 t.kd,.string (mkS t.tx),.int .i64 t.nm,.int .i64 at',.int .i64 t.col]
def zch (at':Int):List Tok→List Value
 | []=>[]
 | t::r=>za5 at' t++zch at' r
theorem zky (at':Int) (a b:List Tok):zch at' (a++b)=zch at' a++zch at' b:=by
 induction a with
 | nil=>rfl
 | cons t r ih=>simp [zch,ih]
theorem zrR (at':Int) (a:List Tok):(zch at' a).all one=true:=by
 induction a with
 | nil=>rfl
 | cons t r ih=>simp [zch,ih,za5,one]
inductive Stp where
 | stop | blank | bad
 | tok (kd n:Nat) (x:Int)
def numO (x:Option (Option Nat)):Option Nat:=x.getD none
def zhW (c:UInt8):Bool:=decide (0≤Lib.indexByte [58,61,46,43,45] c)
def stepT:List UInt8→Stp
 | []=>.stop
 | c::r=>if (c.toNat:Int)=59 then .stop
   else if (c.toNat:Int)=32∨(c.toNat:Int)=9∨(c.toNat:Int)=13 then .blank
   else if zcb c.toNat=true then (if 24<zay (c::r) then .bad else .tok 1 (zay (c::r)) 0)
   else if zdd c.toNat=true then (match numO (zcA ((c::r).take (zay (c::r)))) with
    | some m=>.tok 2 (zay (c::r)) m
    | none=>.bad)
   else if zhW c=true then .tok 3 1 0 else .bad
def zqK (t:Tok):Except Nat (List Tok)→Except Nat (List Tok)
 | .ok ts=>.ok (t::ts)
 | .error e=>.error e
def zcM:Nat→Nat→List UInt8→Except Nat (List Tok)
 | 0,_,_=>.ok []
 | k+1,col,l=>match stepT l with
   | .stop=>.ok []
   | .blank=>zcM k (col+1) (l.drop 1)
   | .tok kd n x=>zqK ⟨kd,l.take n,x,col+1⟩ (zcM k (col+n) (l.drop n))
   | .bad=>.error (col+1)
structure TK (st stX:SS) (row:List Value):Prop where
 mem:stX.mem.get st.next=some (.cells row 0)
 ext:Ext st stX
 lt:st.next<stX.next
theorem TK.new {st:SS} {r row:List Value} (hl:st.lim≤st.next) (h1:row.all one=true) (hr:r.length=row.length):∃ stX,(st.new (.cells r 0)).st st.next 0 row=some stX∧TK st stX row:=by
 refine ⟨_,SS.st_cells SS.new_get hl h1 (c':=row) ?_,?_,?_,?_⟩
 ·rw [zbB (by omega)]
  simp [hr]
 ·simp
 ·exact ((Ext.refl st).new _).set (zlr _) _
 ·simp
theorem TK.st {st stX:SS} {row row' vs:List Value} {k:Nat} (h:TK st stX row) (hl:st.lim≤st.next) (h1:vs.all one=true) (hs:zc9 row k vs=some row'):∃ stY,stX.st st.next k vs=some stY∧TK st stY row'∧stY.next=stX.next:=
 ⟨_,SS.st_cells h.mem (by rw [h.ext.lim];exact hl) h1 hs,⟨by simp,h.ext.set (zlr _) _,h.lt⟩,rfl⟩
theorem TK.adv {st stX:SS} {row:List Value} {n:Nat} (h:TK st stX row) (hn:stX.next≤n):TK st (stX.adv n) row:=
 ⟨h.mem,h.ext.adv hn,zll h.lt hn⟩
theorem TK.ld {st stX:SS} {row:List Value} {k:Nat} (h:TK st stX row):stX.ld st.next k=row[k]?:=SS.ld_cells h.mem
theorem TK.ldN {st stX:SS} {row:List Value} {n:Nat} (h:TK st stX row) (hn:row.length=n):stX.ldN st.next 0 n=some (.agg row.toArray):=by
 rw [SS.ldN_cells h.mem,zgj hn];rfl
theorem zg8 {row:List Value} {n:Nat} (hn:row.length=n):zaE (.agg row.toArray) n=some row:=by
 unfold zaE
 have:(Value.agg row.toArray).cells=row.toArray:=rfl
 rw [this]
 simp [hn]
theorem cells5 (a b c d e:Value):zaE (.agg [a,b,c,d,e].toArray) 5=some [a,b,c,d,e]:=rfl
theorem own_ne {b:Nat} {st:SS} {v:Value} {c:List Value} {z n j:Nat} (h:Own b st v c z n) (hj:st.next≤j):∀ q,v≠.slice (some ⟨j,0,none⟩) q q:=by
 obtain ⟨_,⟨rfl,_⟩ | ⟨i,rfl,_,_,_,hi⟩⟩:=h
 ·intro q h;cases h
 ·intro q h;cases h;omega
theorem TK.app {st0 st stX:SS} {row c:List Value} {out:Value} {n z bt:Nat} (h:TK st stX row) (he:Ext st0 st) (ho:Own st0.next st out c z n) (hr:row.length=z) (hz:0<z) (hl:st0.lim≤st0.next) (h1:row.all one=true) (hs:(n+2)*bt≤2^44) (hn:n+1≤2^44):
  ∃ v st',(stX.new (.cells row z)).app z bt out (.slice (some ⟨stX.next,0,none⟩) 1 1)=some (v,st')∧Ext st0 st'∧Own st0.next st' v (c++row) z (n+1)∧st'.mem.get st.next=some (.cells row 0):=by
 have e1:Ext st (stX.new (.cells row z)):=h.ext.new _
 have e0:Ext st0 (stX.new (.cells row z)):=he.trans e1
 obtain ⟨v,st',g1,g2,g3,g4,g5,g6⟩:=(ho.ext e1).app (Rd.new1 (st:=stX) hr) e0.next (by rw [e0.lim];exact hl) hz h1 (bt:=bt) (by simpa [Nat.add_assoc] using hs) hn
 refine ⟨v,st',g1,g5 st0 (zlr _) e0,g2,?_⟩
 rw [g6 st.next (by simp;have:=h.lt;omega) (own_ne ho (zlr _)),SS.new_old (by have:=h.lt;omega)]
 exact h.mem
theorem zk2 (l:List UInt8):zay l≤l.length:=by
 unfold zay
 exact (List.takeWhile_sublist _).length_le
theorem zgn {c:UInt8} {r:List UInt8} (h:nameB c=true):0<zay (c::r):=by rw [zfs,if_pos h];omega
theorem zfj {s:ByteArray} {col n:Nat} (h:col+n≤s.size):zbk s (col:Int) ((col+n:Nat):Int)=some (mkS (((bl s).drop col).take n)):=by
 rw [zfK (by omega) (by omega) (by omega),zdv]
 simp only [Int.toNat_natCast]
 rw [List.drop_take,Nat.add_sub_cancel_left]
theorem zkz {s:ByteArray} {col:Nat} (h:col≤s.size):zbk s (col:Int) (s.size:Int)=some (mkS ((bl s).drop col)):=by
 rw [zfK (by omega) (by omega) (by omega),zdv]
 simp only [Int.toNat_natCast]
 rw [List.take_of_length_le (by simp)]
def zde (errv:Nat→List Value) (s:ByteArray) (at':Int) (st0:SS) (done:List Tok) (r:Option (Nat×List Value×SS)):Except Nat (List Tok)→Prop
 | .ok ts=>∃ v st',r=some (0,[.string s,.int .i64 at',v],st')∧Ext st0 st'∧Own st0.next st' v (zch at' (done++ts)) 5 (done++ts).length∧(done++ts).length≤s.size
 | .error c=>∃ st',r=some (1,errv c,st')∧Ext st0 st'
theorem zde.to {errv:Nat→List Value} {s:ByteArray} {at':Int} {st0:SS} {done:List Tok} {r r':Option (Nat×List Value×SS)} {x:Except Nat (List Tok)} (h:zde errv s at' st0 done r x) (hr:∀ y,r=some y→r'=some y):zde errv s at' st0 done r' x:=by
 cases x with
 | ok ts=>obtain ⟨v,st',a,b⟩:=h;exact ⟨v,st',hr _ a,b⟩
 | error c=>obtain ⟨st',a,b⟩:=h;exact ⟨st',hr _ a,b⟩
theorem zde.cons {errv:Nat→List Value} {s:ByteArray} {at':Int} {st0:SS} {done:List Tok} {t:Tok} {r:Option (Nat×List Value×SS)} {x:Except Nat (List Tok)} (h:zde errv s at' st0 (done++[t]) r x):zde errv s at' st0 done r (zqK t x):=by
 cases x with
 | ok ts=>
   have e:done++[t]++ts=done++t::ts:=by simp
   obtain ⟨v,st',a,b,c,d⟩:=h
   rw [e] at c d
   exact ⟨v,st',a,b,c,d⟩
 | error c=>exact h
theorem zde.tok {errv:Nat→List Value} {s:ByteArray} {at':Int} {st0 st stY:SS} {done:List Tok} {out:Value} {kd n col k:Nat} {x:Int} {lf:zac} (hs:s.size≤4294967296) (hl0:st0.lim≤st0.next) (hd:done.length≤col) (he:Ext st0 st) (ho:Own st0.next st out (zch at' done) 5 done.length) (hn0:0<n) (hn:col+n≤s.size)
  (tk:TK st stY [.int .i64 kd,.string (mkS (((bl s).drop col).take n)),.int .i64 x,.int .i64 at',.int .i64 ((col+1:Nat):Int)])
  (ih:∀ (done:List Tok) (out:Value) (st:SS),done.length≤col+n→Ext st0 st→Own st0.next st out (zch at' done) 5 done.length→zde errv s at' st0 done (lf 3 [.string s,.int .i64 at',out,.int .i64 ((col+n:Nat):Int)] st) (zcM k (col+n) ((bl s).drop (col+n))))
  (step:∀ v stZ,(stY.new (.cells [.int .i64 kd,.string (mkS (((bl s).drop col).take n)),.int .i64 x,.int .i64 at',.int .i64 ((col+1:Nat):Int)] 5)).app 5 48 out (.slice (some ⟨stY.next,0,none⟩) 1 1)=some (v,stZ)→stZ.mem.get st.next=some (.cells [.int .i64 kd,.string (mkS (((bl s).drop col).take n)),.int .i64 x,.int .i64 at',.int .i64 ((col+1:Nat):Int)] 0)→
      ∀ y,lf 3 [.string s,.int .i64 at',v,.int .i64 ((col+n:Nat):Int)] stZ=some y→lf 3 [.string s,.int .i64 at',out,.int .i64 col] st=some y):
  zde errv s at' st0 done (lf 3 [.string s,.int .i64 at',out,.int .i64 col] st) (zqK ⟨kd,((bl s).drop col).take n,x,col+1⟩ (zcM k (col+n) (((bl s).drop col).drop n))):=by
 obtain ⟨v,stZ,b1,b2,b3,b4⟩:=tk.app he ho rfl (by omega) hl0 (by rfl) (bt:=48) (by omega) (by omega)
 have hrow:zch at' done++[.int .i64 kd,.string (mkS (((bl s).drop col).take n)),.int .i64 x,.int .i64 at',.int .i64 ((col+1:Nat):Int)]=zch at' (done++[⟨kd,((bl s).drop col).take n,x,col+1⟩]):=by
  rw [zky];rfl
 have hlen:done.length+1=(done++[(⟨kd,((bl s).drop col).take n,x,col+1⟩:Tok)]).length:=by simp
 rw [hrow,hlen] at b3
 rw [List.drop_drop]
 exact ((ih _ v stZ (by simp;omega) b2 b3).cons).to (step v stZ b1 b4)
theorem zo2 {L r:List UInt8} {c:UInt8} (h:L=c::r):stepT L=if (c.toNat:Int)=59 then .stop
  else if (c.toNat:Int)=32∨(c.toNat:Int)=9∨(c.toNat:Int)=13 then .blank
  else if zcb c.toNat=true then (if 24<zay L then .bad else .tok 1 (zay L) 0)
  else if zdd c.toNat=true then (match numO (zcA (L.take (zay L))) with
   | some m=>.tok 2 (zay L) m
   | none=>.bad)
  else if zhW c=true then .tok 3 1 0 else .bad:=by subst h;rfl
theorem zrS [Sym] (s:ByteArray) (at':Int) (hs:s.size≤4294967296) (st0:SS) (hg:Gd st0) (hl0:st0.lim≤st0.next):∀ (k col:Nat) (done:List Tok) (out:Value) (st:SS),s.size≤k+col→col≤s.size→done.length≤col→Ext st0 st→Own st0.next st out (zch at' done) 5 done.length→
  zde (fun c=>[.slice none 0 0,.int .i64 c,.bool false]) s at' st0 done (zbC 3 [.string s,.int .i64 at',out,.int .i64 col] st) (zcM k col ((bl s).drop col)):=by
 intro k
 induction k with
 | zero=>
   intro col done out st hk hc hd he ho
   have:col=s.size:=by omega
   subst this
   refine ⟨out,st,za8 s _ out _ st ?_,he,by simpa using ho,by simpa using hd⟩
   simp [zbD]
 | succ k ih=>
   intro col done out st hk hc hd he ho
   have hfin:∀ (stX:SS),zbC 3 [.string s,.int .i64 at',out,.int .i64 s.size] stX=some (0,[.string s,.int .i64 at',out],stX):=by
    intro stX
    refine za8 s _ out _ stX ?_
    simp [zbD]
   by_cases hlt:col<s.size
   ·obtain ⟨c,hb⟩:∃ c,(bl s)[col]?=some c:=⟨_,zge (by rw [zaF];exact hlt)⟩
    have hdc:=drop_cons hb
    have hix:(zdu s (col:Int)).bind (asI .u8)=some (c.toNat:Int):=by
     obtain ⟨b',hb',hidx⟩:=ziF (s:=s) (i:=(col:Int)) (by omega) (by omega)
     have:b'=c:=by simp at hb';rw [hb] at hb';cases hb';rfl
     subst this
     rw [hidx];simp
    have hlt':(col:Int)<(s.size:Int):=by omega
    have hw1:IntKind.wrap .i64 ((col:Int)+1)=((col+1:Nat):Int):=by rw [wrap64 (by omega) (by omega)];omega
    have hl:st.lim≤st.next:=by rw [he.lim];have:=he.next;omega
    obtain ⟨st3,e3,t3⟩:=TK.new (st:=st) (r:=[.int .i64 0,.string ⟨#[]⟩,.int .i64 0,.int .i64 0,.int .i64 0]) (row:=[.int .i64 0,.string ⟨#[]⟩,.int .i64 0,.int .i64 at',.int .i64 ((col+1:Nat):Int)]) hl (by rfl) rfl
    have he3:Ext st0 st3:=he.trans t3.ext
    have ho3:=ho.ext t3.ext
    have hL:=zo2 hdc
    have hrl:zay ((bl s).drop col)≤s.size-col:=by
     have:=zk2 ((bl s).drop col)
     simpa using this
    unfold zcM
    rw [hL]
    by_cases h59:(c.toNat:Int)=59
    ·rw [if_pos h59]
     refine ⟨out,st3,za8 s _ out _ st ?_,he3,by simpa using ho3,by simp;omega⟩
     simp only [zbD,zdt hlt',zct,hw1,e3,zob,hix,zdt h59]
     exact hfin st3
    rw [if_neg h59]
    by_cases hbk:(c.toNat:Int)=32∨(c.toNat:Int)=9∨(c.toNat:Int)=13
    ·rw [if_pos hbk]
     simp only [List.drop_drop]
     refine (ih (col+1) done out st3 (by omega) (by omega) (by omega) he3 ho3).to ?_
     intro r hr
     refine za8 s _ out _ st ?_
     simp only [zbD,zdt hlt',zct,hw1,e3,zob,hix,zdf h59,zcf]
     rcases hbk with h | h | h
     ·simp only [zdt h,zct,hr]
     ·have h':¬ (c.toNat:Int)=32:=by omega
      simp only [zdt h,zct,hr,zdf h',zcf]
     ·have h':¬ (c.toNat:Int)=32:=by omega
      have h'':¬ (c.toNat:Int)=9:=by omega
      simp only [zdt h,zct,hr,zdf h',zdf h'',zcf]
    rw [if_neg hbk]
    have h32:¬ (c.toNat:Int)=32:=fun h=>hbk (.inl h)
    have h9:¬ (c.toNat:Int)=9:=fun h=>hbk (.inr (.inl h))
    have h13:¬ (c.toNat:Int)=13:=fun h=>hbk (.inr (.inr h))
    have hsub:=zkz (s:=s) (col:=col) (by omega)
    have hlet:=zhV (c.toNat:Int)
    have hdig:=digit_ok (c.toNat:Int)
    by_cases hlt1:zcb c.toNat=true
    ·rw [if_pos hlt1]
     have hpos:0<zay ((bl s).drop col):=by rw [hdc];exact zgn (by unfold nameB;rw [hlt1];rfl)
     obtain ⟨m,hm,hrun⟩:=zgD (mkS ((bl s).drop col)) st3
     rw [zbJ] at hrun
     have t4:=t3.adv hm
     obtain ⟨st5,e5,t5,n5⟩:=t4.st (k:=0) (vs:=[.int .i64 1]) (row':=[.int .i64 1,.string ⟨#[]⟩,.int .i64 0,.int .i64 at',.int .i64 ((col+1:Nat):Int)]) hl (by rfl) rfl
     obtain ⟨st6,e6,t6,n6⟩:=t5.st (k:=1) (vs:=[.string (mkS (((bl s).drop col).take (zay ((bl s).drop col))))]) (row':=[.int .i64 1,.string (mkS (((bl s).drop col).take (zay ((bl s).drop col)))),.int .i64 0,.int .i64 at',.int .i64 ((col+1:Nat):Int)]) hl (by rfl) rfl
     have hw2:IntKind.wrap .i64 ((col:Int)+(zay ((bl s).drop col):Nat))=((col+zay ((bl s).drop col):Nat):Int):=by rw [wrap64 (by omega) (by omega)];omega
     have hmid:=zfj (s:=s) (col:=col) (n:=zay ((bl s).drop col)) (by omega)
     have hsz:(mkS (((bl s).drop col).take (zay ((bl s).drop col)))).size=zay ((bl s).drop col):=by simp;omega
     have common:zbD cc zbC s at' out col st=cond (decide ((24:Int)<(zay ((bl s).drop col):Nat))) (some (1,[.slice none 0 0,.int .i64 ((col+1:Nat):Int),.bool false],st6))
       ((((st6.new (.cells [.int .i64 1,.string (mkS (((bl s).drop col).take (zay ((bl s).drop col)))),.int .i64 0,.int .i64 at',.int .i64 ((col+1:Nat):Int)] 5)).app 5 48 out (.slice (some ⟨st6.next,0,none⟩) 1 1))).bind fun r24=>zbC 3 [.string s,.int .i64 at',r24.1,.int .i64 ((col+zay ((bl s).drop col):Nat):Int)] r24.2):=by
      simp only [zbD,zdt hlt',zct,hw1,e3,zob,hix,zdf h59,zcf,zdf h32,zdf h9,zdf h13,hlet,hlt1,zaf,hsub,hrun,zaa,hw2,hmid,e5,e6,t6.ld,t6.ldN (n:=5) rfl,zgs,zgz,zab,hsz,cells5,List.append_nil]
     by_cases h24:24<zay ((bl s).drop col)
     ·rw [if_pos h24]
      refine ⟨st6,za8 s _ out _ st ?_,he.trans t6.ext⟩
      rw [common,zdt (by omega)]
      rfl
     ·rw [if_neg h24]
      refine zde.tok hs hl0 hd he ho hpos (by omega) t6 (fun done out st hd he ho=>ih _ done out st (by omega) (by omega) hd he ho) ?_
      intro v stZ hv _ y hy
      refine za8 s _ out _ st ?_
      rw [common,zdf (by omega),zcf]
      have hv':((st6.new (.cells [.int .i64 1,.string (mkS (((bl s).drop col).take (zay ((bl s).drop col)))),.int .i64 0,.int .i64 at',.int .i64 ((col+1:Nat):Int)] 5)).app 5 48 out (.slice (some ⟨st6.next,0,none⟩) 1 1))=some (v,stZ):=hv
      rw [hv']
      exact hy
    rw [if_neg hlt1]
    have hlt1':zcb c.toNat=false:=Bool.eq_false_iff.2 hlt1
    by_cases hd1:zdd c.toNat=true
    ·rw [if_pos hd1]
     have hpos:0<zay ((bl s).drop col):=by rw [hdc];exact zgn (by unfold nameB;rw [hd1];simp)
     obtain ⟨m,hm,hrun⟩:=zgD (mkS ((bl s).drop col)) st3
     rw [zbJ] at hrun
     have t4:=t3.adv hm
     obtain ⟨st5,e5,t5,n5⟩:=t4.st (k:=0) (vs:=[.int .i64 2]) (row':=[.int .i64 2,.string ⟨#[]⟩,.int .i64 0,.int .i64 at',.int .i64 ((col+1:Nat):Int)]) hl (by rfl) rfl
     obtain ⟨st6,e6,t6,n6⟩:=t5.st (k:=1) (vs:=[.string (mkS (((bl s).drop col).take (zay ((bl s).drop col))))]) (row':=[.int .i64 2,.string (mkS (((bl s).drop col).take (zay ((bl s).drop col)))),.int .i64 0,.int .i64 at',.int .i64 ((col+1:Nat):Int)]) hl (by rfl) rfl
     obtain ⟨m2,hm2,hnum⟩:=zrQ (hg.ext (he.trans t6.ext)) (mkS (((bl s).drop col).take (zay ((bl s).drop col)))) (by simp;omega)
     rw [zbJ] at hnum
     have t7:=t6.adv hm2
     obtain ⟨st8,e8,t8,n8⟩:=t7.st (k:=2) (vs:=[.int .i64 (zgm (zcA (((bl s).drop col).take (zay ((bl s).drop col))))).1]) (row':=[.int .i64 2,.string (mkS (((bl s).drop col).take (zay ((bl s).drop col)))),.int .i64 (zgm (zcA (((bl s).drop col).take (zay ((bl s).drop col))))).1,.int .i64 at',.int .i64 ((col+1:Nat):Int)]) hl (by rfl) rfl
     have hw2:IntKind.wrap .i64 ((col:Int)+(zay ((bl s).drop col):Nat))=((col+zay ((bl s).drop col):Nat):Int):=by rw [wrap64 (by omega) (by omega)];omega
     have hmid:=zfj (s:=s) (col:=col) (n:=zay ((bl s).drop col)) (by omega)
     have hsz:(mkS (((bl s).drop col).take (zay ((bl s).drop col)))).size=zay ((bl s).drop col):=by simp;omega
     have common:zbD cc zbC s at' out col st=cond (!(zgm (zcA (((bl s).drop col).take (zay ((bl s).drop col))))).2) (some (1,[.slice none 0 0,.int .i64 ((col+1:Nat):Int),.bool false],st8))
       ((((st8.new (.cells [.int .i64 2,.string (mkS (((bl s).drop col).take (zay ((bl s).drop col)))),.int .i64 (zgm (zcA (((bl s).drop col).take (zay ((bl s).drop col))))).1,.int .i64 at',.int .i64 ((col+1:Nat):Int)] 5)).app 5 48 out (.slice (some ⟨st8.next,0,none⟩) 1 1))).bind fun r24=>zbC 3 [.string s,.int .i64 at',r24.1,.int .i64 ((col+zay ((bl s).drop col):Nat):Int)] r24.2):=by
      simp only [zbD,zdt hlt',zct,hw1,e3,zob,hix,zdf h59,zcf,zdf h32,zdf h9,zdf h13,hlet,hlt1',hdig,hd1,zaf,hsub,hrun,zaa,hw2,hmid,e5,e6,t6.ld,hnum,zal,e8,t8.ld,t8.ldN (n:=5) rfl,zgs,zgz,zab,hsz,cells5,List.append_nil,List.getElem?_toArray]
     cases hx:zcA (((bl s).drop col).take (zay ((bl s).drop col))) with
     | some y=>cases y with
       | some w=>
         have hx2:zgm (zcA (((bl s).drop col).take (zay ((bl s).drop col))))=((w:Int),true):=by rw [hx];rfl
         rw [hx2] at common t8
         simp only [numO,Option.getD_some]
         refine zde.tok hs hl0 hd he ho hpos (by omega) t8 (fun done out st hd he ho=>ih _ done out st (by omega) (by omega) hd he ho) ?_
         intro v stZ hv _ y hy
         refine za8 s _ out _ st ?_
         rw [common,znt,zcf]
         have hv':((st8.new (.cells [.int .i64 2,.string (mkS (((bl s).drop col).take (zay ((bl s).drop col)))),.int .i64 (w:Int),.int .i64 at',.int .i64 ((col+1:Nat):Int)] 5)).app 5 48 out (.slice (some ⟨st8.next,0,none⟩) 1 1))=some (v,stZ):=hv
         rw [hv']
         exact hy
       | none=>
         have hx2:(zgm (zcA (((bl s).drop col).take (zay ((bl s).drop col))))).2=false:=by rw [hx];rfl
         rw [hx2] at common
         refine ⟨st8,za8 s _ out _ st ?_,he.trans t8.ext⟩
         rw [common]
         rfl
     | none=>
       have hx2:(zgm (zcA (((bl s).drop col).take (zay ((bl s).drop col))))).2=false:=by rw [hx];rfl
       rw [hx2] at common
       refine ⟨st8,za8 s _ out _ st ?_,he.trans t8.ext⟩
       rw [common]
       rfl
    rw [if_neg hd1]
    have hd1':zdd c.toNat=false:=Bool.eq_false_iff.2 hd1
    have hsg:=zhw c ⟨#[58,61,46,43,45]⟩ st3
    by_cases hs1:zhW c=true
    ·rw [if_pos hs1]
     have hs1':(0:Int)≤Lib.indexByte (bl ⟨#[58,61,46,43,45]⟩) c:=of_decide_eq_true hs1
     obtain ⟨st5,e5,t5,n5⟩:=t3.st (k:=0) (vs:=[.int .i64 3]) (row':=[.int .i64 3,.string ⟨#[]⟩,.int .i64 0,.int .i64 at',.int .i64 ((col+1:Nat):Int)]) hl (by rfl) rfl
     obtain ⟨st6,e6,t6,n6⟩:=t5.st (k:=1) (vs:=[.string (mkS (((bl s).drop col).take 1))]) (row':=[.int .i64 3,.string (mkS (((bl s).drop col).take 1)),.int .i64 0,.int .i64 at',.int .i64 ((col+1:Nat):Int)]) hl (by rfl) rfl
     have hmid:=zfj (s:=s) (col:=col) (n:=1) (by omega)
     have hsz:(mkS (((bl s).drop col).take 1)).size=1:=by simp;omega
     have hw2:IntKind.wrap .i64 ((col:Int)+((1:Nat):Int))=((col+1:Nat):Int):=hw1
     refine zde.tok hs hl0 hd he ho (by omega) (by omega) t6 (fun done out st hd he ho=>ih _ done out st (by omega) (by omega) hd he ho) ?_
     intro v stZ hv _ y hy
     refine za8 s _ out _ st ?_
     have hv':((st6.new (.cells [.int .i64 3,.string (mkS (((bl s).drop col).take 1)),.int .i64 0,.int .i64 at',.int .i64 ((col+1:Nat):Int)] 5)).app 5 48 out (.slice (some ⟨st6.next,0,none⟩) 1 1))=some (v,stZ):=hv
     simp only [zbD,zdt hlt',zct,hw1,e3,zob,hix,zdf h59,zcf,zdf h32,zdf h9,zdf h13,hlet,hlt1',hdig,hd1',zaf,hsg,zaa,zdt hs1',hmid,e5,e6,t6.ld,t6.ldN (n:=5) rfl,zgs,zgz,zab,hsz,hw2,cells5,List.append_nil,hv']
     exact hy
    ·rw [if_neg hs1]
     have hs1':¬ (0:Int)≤Lib.indexByte (bl ⟨#[58,61,46,43,45]⟩) c:=fun h=>hs1 (zdt h)
     refine ⟨st3,za8 s _ out _ st ?_,he3⟩
     simp only [zbD,zdt hlt',zct,hw1,e3,zob,hix,zdf h59,zcf,zdf h32,zdf h9,zdf h13,hlet,hlt1',hdig,hd1',zaf,hsg,zaa,zdf hs1',t3.ld,zgs,zgz]
   ·have:col=s.size:=by omega
    subst this
    have hnil:(bl s).drop s.size=[]:=zd8 s
    rw [hnil]
    exact ⟨out,st,hfin st,he,by simpa [stepT] using ho,by simpa using hd⟩
end Go.Proofs.YtifploedaacedaaGreatDoorE
namespace Go.Proofs.YtifploedaacedaaGreatDoorE
open Go Go.E Go.Proofs
def zgo (l:List UInt8):Tok:=⟨0,[],0,l.length+1⟩
def zbV (l:List UInt8):Except Nat (List Tok):=match zcM l.length 0 l with
 | .ok ts=>.ok (ts++[zgo l])
 | .error c=>.error c
def LineR (okv:Value→List Value) (errv:Nat→List Value) (s:ByteArray) (at':Int) (st:SS) (r:Option (Value×SS)):Except Nat (List Tok)→Prop
 | .ok ts=>∃ v st',r=some (.tuple (okv v).toArray,st')∧Ext st st'∧Own st.next st' v (zch at' ts) 5 ts.length∧ts.length≤s.size+1
 | .error c=>∃ st',r=some (.tuple (errv c).toArray,st')∧Ext st st'
theorem zp8 {st st':SS} {v:Value} {at':Int} {ts:List Tok} (s:ByteArray) (hs:s.size≤4294967296) (hl:st.lim≤st.next) (he:Ext st st') (ho:Own st.next st' v (zch at' ts) 5 ts.length) (hn:ts.length≤s.size):
  ∃ w st'',(st'.new (.cells [.int .i64 0,.string ⟨#[]⟩,.int .i64 0,.int .i64 at',.int .i64 ((s.size+1:Nat):Int)] 5)).app 5 48 v (.slice (some ⟨st'.next,0,none⟩) 1 1)=some (w,st'')∧Ext st st''∧
   Own st.next st'' w (zch at' (ts++[zgo (bl s)])) 5 (ts++[zgo (bl s)]).length∧(ts++[zgo (bl s)]).length≤s.size+1:=by
 have e0:Ext st (st'.new (.cells [.int .i64 0,.string ⟨#[]⟩,.int .i64 0,.int .i64 at',.int .i64 ((s.size+1:Nat):Int)] 5)):=he.new _
 obtain ⟨w,st'',g1,g2,g3,g4,g5,g6⟩:=(ho.ext ((Ext.refl st').new (.cells [.int .i64 0,.string ⟨#[]⟩,.int .i64 0,.int .i64 at',.int .i64 ((s.size+1:Nat):Int)] 5))).app (Rd.new1 (st:=st') rfl) e0.next (by rw [e0.lim];exact hl) (by omega) (by rfl) (bt:=48) (by omega) (by omega)
 refine ⟨w,st'',g1,g5 st (zlr _) e0,?_,by simp;omega⟩
 have e1:zch at' (ts++[zgo (bl s)])=zch at' ts++[.int .i64 0,.string ⟨#[]⟩,.int .i64 0,.int .i64 at',.int .i64 ((s.size+1:Nat):Int)]:=by
  rw [zky]
  show _++(za5 at' (zgo (bl s))++[])=_
  simp [za5,zgo,mkS]
 rw [e1,List.length_append]
 exact g2
theorem zuf [Sym] {st:SS} (hg:Gd st) (hl:st.lim≤st.next) (s:ByteArray) (hs:s.size≤4294967296) (at':Int):
  LineR (fun v=>[v,.int .i64 0,.bool true]) (fun c=>[.slice none 0 0,.int .i64 c,.bool false]) s at' st (cc 90 [.string s,.int .i64 at'] st) (zbV (bl s)):=by
 have h:=zrS s at' hs st hg hl s.size 0 [] (.slice none 0 0) st (by omega) (by omega) (by simp) (.refl _) (Own.nil _ _ _)
 simp only [List.drop_zero] at h
 have hw:IntKind.wrap .i64 ((s.size:Int)+1)=((s.size+1:Nat):Int):=by rw [wrap64 (by omega) (by omega)];omega
 unfold zbV
 rw [zaF]
 cases hx:zcM s.size 0 (bl s) with
 | ok ts=>
   rw [hx] at h
   obtain ⟨v,st',a,b,c,d⟩:=h
   obtain ⟨w,st'',e1,e2,e3,e4⟩:=zp8 s hs hl b c d
   refine ⟨w,st'',zku s at' st ?_,e2,e3,e4⟩
   have a':zbC 3 [.string s,.int .i64 at',.slice none 0 0,.int .i64 0] st=some (0,[.string s,.int .i64 at',v],st'):=a
   have hb0:Nat.beq 0 0=true:=rfl
   simp only [zkt,a',zob,hb0,zct,zgs,zgz,zab,zaa,hw,e1]
 | error c=>
   rw [hx] at h
   obtain ⟨st',a,b⟩:=h
   refine ⟨st',zku s at' st ?_,b⟩
   have a':zbC 3 [.string s,.int .i64 at',.slice none 0 0,.int .i64 0] st=some (1,[.slice none 0 0,.int .i64 c,.bool false],st'):=a
   have hb0:Nat.beq 1 0=false:=rfl
   simp only [zkt,a',zob,hb0,zcf,zgs,zgz,zaf,zaa]
theorem zmK [Sym] (c:Int) (st:SS):cc 78 [.int .u8 c] st=some (.bool (zcb c),st):=by
 refine zhL c st ?_
 unfold zfN zcb
 cases decide (97≤c)<;>cases decide (c≤122)<;>cases decide (65≤c)<;>cases decide (c≤90)<;>simp
def zdE (b:Nat):Int:=if 48≤b∧b≤57 then (b:Int)-48 else if 97≤b∧b≤102 then (b:Int)-87 else if 65≤b∧b≤70 then (b:Int)-55 else -1
theorem zkA [Sym] (b:UInt8) (base:Int) (st:SS):cc 79 [.int .u8 b.toNat,.int .i64 base] st=some (.int .i64 (if base≤zdE b.toNat then -1 else zdE b.toNat),st):=by
 refine zii _ base st ?_
 have hb:=b.toNat_lt
 generalize b.toNat=n at*
 by_cases hA:48≤n∧n≤57
 ·have e:zdE n=(n:Int)-48:=by unfold zdE;rw [if_pos hA]
  have h1:(48:Int)≤(n:Int):=by omega
  have h2:(n:Int)≤57:=by omega
  have h3:¬ (97:Int)≤(n:Int):=by omega
  have h4:¬ (65:Int)≤(n:Int):=by omega
  have hw1:IntKind.wrap .u8 ((n:Int)-48)=(n:Int)-48:=zfJ (by omega) (by omega)
  have hw2:IntKind.wrap .i64 ((n:Int)-48)=(n:Int)-48:=wrap64 (by omega) (by omega)
  simp only [zck,zdt h1,zdt h2,zdf h3,zdf h4,zct,zcf,hw1,hw2,e]
  by_cases hbase:base≤(n:Int)-48
  ·rw [zdt hbase,if_pos hbase];rfl
  ·rw [zdf hbase,if_neg hbase];rfl
 ·by_cases hB:97≤n∧n≤102
  ·have e:zdE n=(n:Int)-87:=by unfold zdE;rw [if_neg hA,if_pos hB]
   have h1:(48:Int)≤(n:Int):=by omega
   have h2:¬ (n:Int)≤57:=by omega
   have h3:(97:Int)≤(n:Int):=by omega
   have h3':(n:Int)≤102:=by omega
   have h4:(65:Int)≤(n:Int):=by omega
   have h5:¬ (n:Int)≤70:=by omega
   have hw1:IntKind.wrap .u8 ((n:Int)-97)=(n:Int)-97:=zfJ (by omega) (by omega)
   have hw2:IntKind.wrap .i64 ((n:Int)-97)=(n:Int)-97:=wrap64 (by omega) (by omega)
   have hw3:IntKind.wrap .i64 ((n:Int)-97+10)=(n:Int)-87:=by rw [wrap64 (by omega) (by omega)];omega
   simp only [zck,zdt h1,zdf h2,zdt h3,zdt h3',zdt h4,zdf h5,zct,zcf,hw1,hw2,hw3,e]
   by_cases hbase:base≤(n:Int)-87
   ·rw [zdt hbase,if_pos hbase];rfl
   ·rw [zdf hbase,if_neg hbase];rfl
  ·by_cases hC:65≤n∧n≤70
   ·have e:zdE n=(n:Int)-55:=by unfold zdE;rw [if_neg hA,if_neg hB,if_pos hC]
    have h1:(48:Int)≤(n:Int):=by omega
    have h2:¬ (n:Int)≤57:=by omega
    have h3:¬ (97:Int)≤(n:Int):=by omega
    have h4:(65:Int)≤(n:Int):=by omega
    have h5:(n:Int)≤70:=by omega
    have hw1:IntKind.wrap .u8 ((n:Int)-65)=(n:Int)-65:=zfJ (by omega) (by omega)
    have hw2:IntKind.wrap .i64 ((n:Int)-65)=(n:Int)-65:=wrap64 (by omega) (by omega)
    have hw3:IntKind.wrap .i64 ((n:Int)-65+10)=(n:Int)-55:=by rw [wrap64 (by omega) (by omega)];omega
    simp only [zck,zdt h1,zdf h2,zdf h3,zdt h4,zdt h5,zct,zcf,hw1,hw2,hw3,e]
    by_cases hbase:base≤(n:Int)-55
    ·rw [zdt hbase,if_pos hbase];rfl
    ·rw [zdf hbase,if_neg hbase];rfl
   ·have e:zdE n= -1:=by unfold zdE;rw [if_neg hA,if_neg hB,if_neg hC]
    rw [e]
    have r:(if base≤(-1:Int) then (-1:Int) else -1)= -1:=by split<;>rfl
    rw [r]
    have q:∀ st:SS,cond (decide (base≤(-1:Int))) (some (Value.int .i64 (-1),st)) (some (.int .i64 (-1),st))=some (.int .i64 (-1),st):=fun st=>by cases decide (base≤(-1:Int))<;>rfl
    unfold zck
    have hA':(decide ((48:Int)≤n)=false)∨(decide ((48:Int)≤n)=true∧decide ((n:Int)≤57)=false):=by
     by_cases h:(48:Int)≤n
     ·exact .inr ⟨zdt h,zdf (by omega)⟩
     ·exact .inl (zdf h)
    have hB':(decide ((97:Int)≤n)=false)∨(decide ((97:Int)≤n)=true∧decide ((n:Int)≤102)=false):=by
     by_cases h:(97:Int)≤n
     ·exact .inr ⟨zdt h,zdf (by omega)⟩
     ·exact .inl (zdf h)
    have hC':(decide ((65:Int)≤n)=false)∨(decide ((65:Int)≤n)=true∧decide ((n:Int)≤70)=false):=by
     by_cases h:(65:Int)≤n
     ·exact .inr ⟨zdt h,zdf (by omega)⟩
     ·exact .inl (zdf h)
    rcases hA' with h1 | ⟨h1,h2⟩<;>rcases hB' with h3 | ⟨h3,h4⟩<;>rcases hC' with h5 | ⟨h5,h6⟩<;>simp only [*,zct,zcf]
theorem zug (b:UInt8) (B:Nat) (hB:B=10∨B=16):(if (B:Int)≤zdE b.toNat then (-1:Int) else zdE b.toNat)=match zgl b with
  | some d=>if B≤d then -1 else (d:Int)
  | none=> -1:=by
 have hall:∀ n:Fin 256,(∀ B:Fin 2,(if ((if B=0 then 10 else 16:Nat):Int)≤zdE (UInt8.ofNat n.val).toNat then (-1:Int) else zdE (UInt8.ofNat n.val).toNat)=match zgl (UInt8.ofNat n.val) with
  | some d=>if (if B=0 then 10 else 16)≤d then -1 else (d:Int)
  | none=> -1):=by decide+kernel
 have h:=hall ⟨b.toNat,b.toNat_lt⟩ (if B=10 then 0 else 1)
 have hb:UInt8.ofNat b.toNat=b:=by simp
 simp only [hb] at h
 rcases hB with rfl | rfl
 ·simpa using h
 ·simpa using h
theorem zuh (b:UInt8):decide ((0:Int)≤(if (10:Int)≤zdE b.toNat then -1 else zdE b.toNat))=zdd b.toNat:=by
 have hall:∀ n:Fin 256,decide ((0:Int)≤(if (10:Int)≤zdE n.val then -1 else zdE n.val))=zdd n.val:=by decide+kernel
 exact hall ⟨b.toNat,b.toNat_lt⟩
theorem sign5 (b:UInt8):zhW b=(decide ((b.toNat:Int)=58)||decide ((b.toNat:Int)=61)||decide ((b.toNat:Int)=46)||decide ((b.toNat:Int)=43)||decide ((b.toNat:Int)=45)):=by
 have hall:∀ n:Fin 256,zhW (UInt8.ofNat n.val)=(decide ((n.val:Int)=58)||decide ((n.val:Int)=61)||decide ((n.val:Int)=46)||decide ((n.val:Int)=43)||decide ((n.val:Int)=45)):=by decide+kernel
 have h:=hall ⟨b.toNat,b.toNat_lt⟩
 have hb:UInt8.ofNat b.toNat=b:=by simp
 simp only [hb] at h
 exact h
def zhx (x:Option (Option Nat)):Int:=match numO x with
 | some m=>m
 | none=> -1
theorem zrT [Sym] (s:ByteArray) (B:Nat) (hB:B=10∨B=16) (st:SS) (hs:s.size≤4294967296):∀ (l:List UInt8) (p n:Nat),(bl s).drop p=l→p≤s.size→n≤2147483647→
  (∃ m:Nat,zaN 7 [.string s,.int .i64 B,.int .i64 n,.int .i64 p] st=some (0,[.string s,.int .i64 m],st)∧m<4294967296∧(if 2147483647<m then -1 else (m:Int))=zhx (zaZ B n l))∨
  (zaN 7 [.string s,.int .i64 B,.int .i64 n,.int .i64 p] st=some (1,[.int .i64 (-1)],st)∧ -1=zhx (zaZ B n l)):=by
 have hq:(aI .quo .i64 2147483647 (B:Int)).bind (asI .i64)=some ((2147483647/B:Nat):Int):=by
  rcases hB with rfl | rfl<;>rfl
 have hB0:0<B:=by omega
 intro l
 induction l with
 | nil=>
   intro p n hp hle hn
   have hps:p=s.size:=by
    rw [List.drop_eq_nil_iff,zaF] at hp
    omega
   subst hps
   refine .inl ⟨n,zaU s _ _ _ st ?_,by omega,?_⟩
   ·simp [zaW]
   ·rw [if_neg (by omega)];rfl
 | cons b r ih=>
   intro p n hp hle hn
   have hb:(bl s)[p]?=some b:=by
    have:=congrArg (·[0]?) hp
    simpa using this
   have hlt:p<s.size:=by
    obtain ⟨h,_⟩:=List.getElem?_eq_some_iff.1 hb
    simpa using h
   have hr:(bl s).drop (p+1)=r:=by
    have:=drop_cons hb
    rw [hp] at this
    exact (List.cons.inj this).2.symm
   have hix:∀ (q:Nat) (x:UInt8),(bl s)[q]?=some x→(zdu s (q:Int)).bind (asI .u8)=some (x.toNat:Int):=by
    intro q x hx
    have hq':q<s.size:=by
     obtain ⟨h,_⟩:=List.getElem?_eq_some_iff.1 hx
     simpa using h
    obtain ⟨b',hb',hidx⟩:=ziF (s:=s) (i:=(q:Int)) (by omega) (by omega)
    have:b'=x:=by simp at hb';rw [hx] at hb';cases hb';rfl
    subst this
    rw [hidx];simp
   have hlt':(p:Int)<(s.size:Int):=by omega
   have hwp:IntKind.wrap .i64 ((p:Int)+1)=((p+1:Nat):Int):=by rw [wrap64 (by omega) (by omega)];omega
   have hd:=zkA b (B:Int) st
   rw [zug b B hB] at hd
   cases hv:zgl b with
   | none=>
     rw [hv] at hd
     have hpg:zaZ B n (b::r)=none:=by unfold zaZ;rw [hv]
     refine .inr ⟨zaU s _ _ _ st ?_,by rw [hpg];rfl⟩
     simp [zaW,hlt',hix p b hb,hd]
   | some d=>
     rw [hv] at hd
     by_cases h1:B≤d
     ·simp only [if_pos h1] at hd
      have hpg:zaZ B n (b::r)=none:=by unfold zaZ;rw [hv];simp [h1]
      refine .inr ⟨zaU s _ _ _ st ?_,by rw [hpg];rfl⟩
      simp [zaW,hlt',hix p b hb,hd]
     ·simp only [if_neg h1] at hd
      have hd0:¬ (d:Int)<0:=by omega
      by_cases h2:2147483647/B<n
      ·have hbig:2147483647<n*B:=(Nat.div_lt_iff_lt_mul hB0).1 h2
       have hpg:zaZ B n (b::r)=some none:=by unfold zaZ;rw [hv];simp only [if_neg h1];rw [if_pos (by omega)]
       refine .inr ⟨zaU s _ _ _ st ?_,by rw [hpg];rfl⟩
       have h2':((2147483647/B:Nat):Int)<(n:Int):=by omega
       simp only [zaW,zdt hlt',zct,hix p b hb,zob,hd,zaa,zdf hd0,zcf,hq,zdt h2']
      ·have h2':¬ ((2147483647/B:Nat):Int)<(n:Int):=by omega
       have hsm:n*B≤2147483647:=by
        have:=(Nat.le_div_iff_mul_le hB0).1 (Nat.le_of_not_lt h2)
        exact this
       have hw1:IntKind.wrap .i64 ((n:Int)*(B:Int))=((n*B:Nat):Int):=by
        rw [← Int.natCast_mul]
        exact wrap64 (by omega) (by omega)
       have hw2:IntKind.wrap .i64 (((n*B:Nat):Int)+(d:Int))=((n*B+d:Nat):Int):=by
        rw [← Int.natCast_add]
        exact wrap64 (by omega) (by omega)
       have step:∀ y,zaN 7 [.string s,.int .i64 B,.int .i64 ((n*B+d:Nat):Int),.int .i64 ((p+1:Nat):Int)] st=some y→zaN 7 [.string s,.int .i64 B,.int .i64 n,.int .i64 p] st=some y:=by
        intro y hy
        refine zaU s _ _ _ st ?_
        simp only [zaW,zdt hlt',zct,hix p b hb,zob,hd,zaa,zdf hd0,zcf,hq,zdf h2',hw1,hw2,hwp]
        exact hy
       by_cases h3:2147483647<n*B+d
       ·have hpg:zaZ B n (b::r)=some none:=by unfold zaZ;rw [hv];simp only [if_neg h1];rw [if_pos h3]
        cases hr':r with
        | nil=>
          rw [hr'] at hr
          have hps:p+1=s.size:=by
           rw [List.drop_eq_nil_iff,zaF] at hr
           omega
          refine .inl ⟨n*B+d,step _ (zaU s _ _ _ st ?_),by omega,?_⟩
          ·have:¬ ((p+1:Nat):Int)<(s.size:Int):=by omega
           simp only [zaW,zdf this,zcf]
          ·rw [← hr',hpg,if_pos h3];rfl
        | cons b2 r2=>
          rw [hr'] at hr
          have hb2:(bl s)[p+1]?=some b2:=by
           have:=congrArg (·[0]?) hr
           simpa using this
          have hlt2:p+1<s.size:=by
           obtain ⟨h,_⟩:=List.getElem?_eq_some_iff.1 hb2
           simpa using h
          have hlt2':((p+1:Nat):Int)<(s.size:Int):=by omega
          refine .inr ⟨step _ (zaU s _ _ _ st ?_),by rw [← hr',hpg];rfl⟩
          have hd2:=zkA b2 (B:Int) st
          generalize (if (B:Int)≤zdE b2.toNat then (-1:Int) else zdE b2.toNat)=d2 at hd2
          have hbig:((2147483647/B:Nat):Int)<((n*B+d:Nat):Int):=by
           have:2147483647/B≤2147483647:=Nat.div_le_self _ _
           omega
          simp only [zaW,zdt hlt2',zct,hix (p+1) b2 hb2,zob,hd2,zaa,hq,zdt hbig]
          cases decide (d2<0)<;>rfl
       ·have hpg:zaZ B n (b::r)=zaZ B (n*B+d) r:=by
         show (match zgl b with
          | none=>none
          | some d=>if B≤d then none else if 2147483647<n*B+d then some none else zaZ B (n*B+d) r)=_
         rw [hv]
         simp only [if_neg h1,if_neg h3]
        rw [hpg]
        rcases ih (p+1) (n*B+d) hr (by omega) (by omega) with ⟨m,a,b',c⟩ | ⟨a,b'⟩
        ·exact .inl ⟨m,step _ a,b',c⟩
        ·exact .inr ⟨step _ a,b'⟩
theorem zo3 [Sym] (s:ByteArray) (B:Nat) (hB:B=10∨B=16) (st:SS) (hs:s.size≤4294967296):
  ((zaN 7 [.string s,.int .i64 B,.int .i64 0,.int .i64 0] st).bind fun r3=>
  cond (Nat.beq r3.1 0) (
   ((r3.2.1[0]?).bind asS).bind fun s4=>
   ((r3.2.1[1]?).bind (asI .i64)).bind fun n5=>
   cond (eqT s4 ⟨#[]⟩) (
    some (Value.int .i64 (-1),r3.2.2)) (
    cond (decide (2147483647<n5)) (
     some (.int .i64 (-1),r3.2.2)) (
     some (.int .i64 n5,r3.2.2)))) (
   ((r3.2.1[0]?).bind (asI .i64)).bind fun n6=>
   some (.int .i64 n6,r3.2.2)))=some (.int .i64 (zhx (za0 B (bl s))),st):=by
 have hb0:Nat.beq 0 0=true:=rfl
 have hb1:Nat.beq 1 0=false:=rfl
 rcases zrT s B hB st hs (bl s) 0 0 rfl (by omega) (by omega) with ⟨m,a,b,c⟩ | ⟨a,b⟩
 ·have a':zaN 7 [.string s,.int .i64 B,.int .i64 0,.int .i64 0] st=some (0,[.string s,.int .i64 m],st):=a
  rw [a']
  simp only [zob,hb0,zct,zgs,zgz,zab,zaa,zgH]
  unfold za0
  by_cases h0:bl s=[]
  ·rw [zdt h0,if_pos h0];rfl
  ·rw [zdf h0,if_neg h0,← c,zcf]
   by_cases hm:2147483647<m
   ·rw [zdt (by omega),if_pos hm];rfl
   ·rw [zdf (by omega),if_neg hm];rfl
 ·have a':zaN 7 [.string s,.int .i64 B,.int .i64 0,.int .i64 0] st=some (1,[.int .i64 (-1)],st):=a
  rw [a']
  simp only [zob,hb1,zcf,zgz,zaa]
  unfold za0
  by_cases h0:bl s=[]
  ·rw [h0] at b;exact absurd b (by simp [zaZ,zhx,numO])
  ·rw [if_neg h0,← b]
theorem zqL [Sym] (s:ByteArray) (hs:s.size≤4294967296) (st:SS):cc 80 [.string s] st=some (.int .i64 (zhx (zcA (bl s))),st):=by
 refine zhN s st ?_
 unfold zfO zcA
 have h10:=zo3 s 10 (.inl rfl) st hs
 by_cases h2:2≤s.size
 ·have h2':(2:Int)≤(s.size:Int):=by omega
  have hsub:zbk s 0 2=some (mkS ((bl s).take 2)):=by rw [zfK (by omega) (by omega) (by omega),zdv];rfl
  have htl:zbk s 2 (s.size:Int)=some (mkS ((bl s).drop 2)):=zkz (s:=s) (col:=2) h2
  have heq:eqT (mkS ((bl s).take 2)) ⟨#[48,120]⟩=zjy (bl s):=by
   rw [zep,zbJ]
   unfold zjy
   rw [Bool.eq_iff_iff,decide_eq_true_eq]
   exact zlC [48,120] (bl s)
  have h16:=zo3 (mkS ((bl s).drop 2)) 16 (.inr rfl) st (by simp;omega)
  simp only [zdt h2',zct,hsub,zob,heq,htl]
  cases hh:zjy (bl s) with
  | true=>simp only [zct,if_true];exact h16
  | false=>simp only [zcf];exact h10
 ·have h2':¬ (2:Int)≤(s.size:Int):=by omega
  have hh:zjy (bl s)=false:=by
   unfold zjy
   rw [Bool.eq_false_iff]
   intro hp
   rw [List.isPrefixOf_iff_prefix] at hp
   have:=hp.length_le
   simp at this
   omega
  simp only [zdf h2',zcf,hh]
  exact h10
end Go.Proofs.YtifploedaacedaaGreatDoorE
namespace Go.Proofs.YtifploedaacedaaGreatDoorE
open Go Go.E Go.Proofs
theorem zrU [Sym] (s:ByteArray) (at':Int) (out:Value) (i:Nat) (c:Int) (st:SS) (hs:s.size≤4294967296):∀ (k n:Nat),s.size≤k+(i+n)→i+n≤s.size→
  zaP 6 [.string s,.int .i64 at',out,.int .i64 i,.int .u8 c,.int .i64 n] st=some (0,[.string s,.int .i64 at',out,.int .i64 i,.int .u8 c,.int .i64 ((n+zay ((bl s).drop (i+n)):Nat):Int)],st):=by
 intro k
 induction k with
 | zero=>
   intro n hk hn
   have he:i+n=s.size:=by omega
   have hw:IntKind.wrap .i64 ((i:Int)+(n:Int))=(s.size:Int):=by rw [wrap64 (by omega) (by omega)];omega
   refine zes s _ out _ _ _ st ?_
   rw [he,zd8]
   simp [zbx,hw,zay]
 | succ k ih=>
   intro n hk hn
   have hw:IntKind.wrap .i64 ((i:Int)+(n:Int))=((i+n:Nat):Int):=by rw [wrap64 (by omega) (by omega)];omega
   refine zes s _ out _ _ _ st ?_
   by_cases hlt:i+n<s.size
   ·obtain ⟨b,hb⟩:∃ b,(bl s)[i+n]?=some b:=⟨_,zge (by rw [zaF];exact hlt)⟩
    have hdc:=drop_cons hb
    have hix:(zdu s ((i+n:Nat):Int)).bind (asI .u8)=some (b.toNat:Int):=by
     obtain ⟨b',hb',hidx⟩:=ziF (s:=s) (i:=((i+n:Nat):Int)) (by omega) (by omega)
     have:b'=b:=by rw [Int.toNat_natCast,hb] at hb';cases hb';rfl
     subst this
     rw [hidx];simp
    have hlt':((i+n:Nat):Int)<(s.size:Int):=by omega
    have hwn:IntKind.wrap .i64 ((n:Int)+1)=((n+1:Nat):Int):=by rw [wrap64 (by omega) (by omega)];omega
    have hlet:=zmK (b.toNat:Int) st
    have hdig:=zkA b 10 st
    have h10:=zuh b
    have next:=ih (n+1) (by omega) (by omega)
    rw [hdc,zfs]
    have hrun:n+1+zay ((bl s).drop (i+(n+1)))=n+(1+zay ((bl s).drop (i+n+1))):=by rw [Nat.add_assoc];rfl
    rw [hrun] at next
    by_cases hl:zcb b.toNat=true
    ·have hn:nameB b=true:=by unfold nameB;rw [hl];rfl
     rw [if_pos hn]
     simp only [zbx,hw,zdt hlt',zct,hix,zob,hlet,hl,zaf,hwn]
     exact next
    ·have hl':zcb b.toNat=false:=Bool.eq_false_iff.2 hl
     cases hd:zdd b.toNat with
     | true=>
       have hn:nameB b=true:=by unfold nameB;rw [hd];simp
       rw [hd] at h10
       rw [if_pos hn]
       simp only [zbx,hw,zdt hlt',zct,hix,zob,hlet,hl',zaf,hwn,zcf,hdig,zaa,h10]
       exact next
     | false=>
       have hn:nameB b=false:=by unfold nameB;rw [hl',hd];rfl
       rw [hd] at h10
       rw [hn]
       simp only [zbx,hw,zdt hlt',zct,hix,zob,hlet,hl',zaf,hwn,zcf,hdig,zaa,h10]
       rfl
   ·have he:i+n=s.size:=by omega
    rw [he] at hw ⊢
    rw [zd8]
    simp [zbx,hw,zay]
theorem zqM [Sym] (s:ByteArray) (at':Int) (hs:s.size≤4294967296) (st0:SS) (hl0:st0.lim≤st0.next):∀ (k col:Nat) (done:List Tok) (out:Value) (st:SS),s.size≤k+col→col≤s.size→done.length≤col→Ext st0 st→Own st0.next st out (zch at' done) 5 done.length→
  zde (fun c=>[.slice none 0 0,.int .i64 c]) s at' st0 done (zaP 3 [.string s,.int .i64 at',out,.int .i64 col] st) (zcM k col ((bl s).drop col)):=by
 intro k
 induction k with
 | zero=>
   intro col done out st hk hc hd he ho
   have:col=s.size:=by omega
   subst this
   refine ⟨out,st,zaL s _ out _ st ?_,he,by simpa using ho,by simpa using hd⟩
   simp [zaO]
 | succ k ih=>
   intro col done out st hk hc hd he ho
   by_cases hlt:col<s.size
   ·obtain ⟨c,hb⟩:∃ c,(bl s)[col]?=some c:=⟨_,zge (by rw [zaF];exact hlt)⟩
    have hdc:=drop_cons hb
    have hix:(zdu s (col:Int)).bind (asI .u8)=some (c.toNat:Int):=by
     obtain ⟨b',hb',hidx⟩:=ziF (s:=s) (i:=(col:Int)) (by omega) (by omega)
     have:b'=c:=by simp at hb';rw [hb] at hb';cases hb';rfl
     subst this
     rw [hidx];simp
    have hlt':(col:Int)<(s.size:Int):=by omega
    have hw1:IntKind.wrap .i64 ((col:Int)+1)=((col+1:Nat):Int):=by rw [wrap64 (by omega) (by omega)];omega
    have hl:st.lim≤st.next:=by rw [he.lim];have:=he.next;omega
    have hL:=zo2 hdc
    have hrl:zay ((bl s).drop col)≤s.size-col:=by
     have:=zk2 ((bl s).drop col)
     simpa using this
    have hrun:zaP 6 [.string s,.int .i64 at',out,.int .i64 col,.int .u8 c.toNat,.int .i64 0] st=some (0,[.string s,.int .i64 at',out,.int .i64 col,.int .u8 c.toNat,.int .i64 (zay ((bl s).drop col):Nat)],st):=by
     have:=zrU s at' out col c.toNat st hs s.size 0 (by omega) (by omega)
     simpa using this
    unfold zcM
    rw [hL]
    by_cases h59:(c.toNat:Int)=59
    ·rw [if_pos h59]
     refine ⟨out,st,zaL s _ out _ st ?_,he,by simpa using ho,by simp;omega⟩
     simp only [zaO,zdt hlt',zct,zob,hix,zdt h59,znt,zcf]
    rw [if_neg h59]
    by_cases hbk:(c.toNat:Int)=32∨(c.toNat:Int)=9∨(c.toNat:Int)=13
    ·rw [if_pos hbk]
     simp only [List.drop_drop]
     refine (ih (col+1) done out st (by omega) (by omega) (by omega) he ho).to ?_
     intro r hr
     refine zaL s _ out _ st ?_
     simp only [zaO,zdt hlt',zct,zob,hix,zdf h59,znf,hrun,zgs,zgz,zab,zaa]
     rcases hbk with h | h | h
     ·simp only [zdt h,zct,hw1,hr]
     ·have h':¬ (c.toNat:Int)=32:=by omega
      simp only [zdt h,zct,hw1,hr,zdf h',zcf]
     ·have h':¬ (c.toNat:Int)=32:=by omega
      have h'':¬ (c.toNat:Int)=9:=by omega
      simp only [zdt h,zct,hw1,hr,zdf h',zdf h'',zcf]
    rw [if_neg hbk]
    obtain ⟨st3,e3,t3⟩:=TK.new (st:=st) (r:=[.int .i64 0,.string ⟨#[]⟩,.int .i64 0,.int .i64 0,.int .i64 0]) (row:=[.int .i64 0,.string ⟨#[]⟩,.int .i64 0,.int .i64 at',.int .i64 ((col+1:Nat):Int)]) hl (by rfl) rfl
    have h32:¬ (c.toNat:Int)=32:=fun h=>hbk (.inl h)
    have h9:¬ (c.toNat:Int)=9:=fun h=>hbk (.inr (.inl h))
    have h13:¬ (c.toNat:Int)=13:=fun h=>hbk (.inr (.inr h))
    have hlet:=zmK (c.toNat:Int)
    by_cases hlt1:zcb c.toNat=true
    ·rw [if_pos hlt1]
     have hpos:0<zay ((bl s).drop col):=by rw [hdc];exact zgn (by unfold nameB;rw [hlt1];rfl)
     have hpos':(0:Int)<(zay ((bl s).drop col):Nat):=by omega
     obtain ⟨st5,e5,t5,n5⟩:=t3.st (k:=0) (vs:=[.int .i64 1]) (row':=[.int .i64 1,.string ⟨#[]⟩,.int .i64 0,.int .i64 at',.int .i64 ((col+1:Nat):Int)]) hl (by rfl) rfl
     obtain ⟨st6,e6,t6,n6⟩:=t5.st (k:=1) (vs:=[.string (mkS (((bl s).drop col).take (zay ((bl s).drop col))))]) (row':=[.int .i64 1,.string (mkS (((bl s).drop col).take (zay ((bl s).drop col)))),.int .i64 0,.int .i64 at',.int .i64 ((col+1:Nat):Int)]) hl (by rfl) rfl
     have hw2:IntKind.wrap .i64 ((col:Int)+(zay ((bl s).drop col):Nat))=((col+zay ((bl s).drop col):Nat):Int):=by rw [wrap64 (by omega) (by omega)];omega
     have hmid:=zfj (s:=s) (col:=col) (n:=zay ((bl s).drop col)) (by omega)
     have hsz:(mkS (((bl s).drop col).take (zay ((bl s).drop col)))).size=zay ((bl s).drop col):=by simp;omega
     by_cases h24:24<zay ((bl s).drop col)
     ·rw [if_pos h24]
      have h24':(24:Int)<(zay ((bl s).drop col):Nat):=by omega
      refine ⟨st6,zaL s _ out _ st ?_,he.trans t6.ext⟩
      simp only [zaO,zdt hlt',zct,zob,hix,zdf h59,znf,hrun,zgs,zgz,zab,zaa,zdf h32,zdf h9,zdf h13,zcf,hw1,e3,zdt hpos',hlet,hlt1,zaf,e5,hw2,hmid,e6,zdt h24']
     ·rw [if_neg h24]
      have h24':¬ (24:Int)<(zay ((bl s).drop col):Nat):=by omega
      refine zde.tok hs hl0 hd he ho hpos (by omega) t6 (fun done out st hd he ho=>ih _ done out st (by omega) (by omega) hd he ho) ?_
      intro v stZ hv hz y hy
      refine zaL s _ out _ st ?_
      have hv':((st6.new (.cells [.int .i64 1,.string (mkS (((bl s).drop col).take (zay ((bl s).drop col)))),.int .i64 0,.int .i64 at',.int .i64 ((col+1:Nat):Int)] 5)).app 5 48 out (.slice (some ⟨st6.next,0,none⟩) 1 1))=some (v,stZ):=hv
      simp only [zaO,zdt hlt',zct,zob,hix,zdf h59,znf,hrun,zgs,zgz,zab,zaa,zdf h32,zdf h9,zdf h13,zcf,hw1,e3,zdt hpos',hlet,hlt1,zaf,e5,hw2,hmid,e6,zdf h24',t6.ldN (n:=5) rfl,cells5,List.append_nil,hv',SS.ld_cells hz,hsz]
      exact hy
    rw [if_neg hlt1]
    have hlt1':zcb c.toNat=false:=Bool.eq_false_iff.2 hlt1
    by_cases hd1:zdd c.toNat=true
    ·rw [if_pos hd1]
     have hpos:0<zay ((bl s).drop col):=by rw [hdc];exact zgn (by unfold nameB;rw [hd1];simp)
     have hpos':(0:Int)<(zay ((bl s).drop col):Nat):=by omega
     obtain ⟨st5,e5,t5,n5⟩:=t3.st (k:=0) (vs:=[.int .i64 2]) (row':=[.int .i64 2,.string ⟨#[]⟩,.int .i64 0,.int .i64 at',.int .i64 ((col+1:Nat):Int)]) hl (by rfl) rfl
     obtain ⟨st6,e6,t6,n6⟩:=t5.st (k:=1) (vs:=[.string (mkS (((bl s).drop col).take (zay ((bl s).drop col))))]) (row':=[.int .i64 2,.string (mkS (((bl s).drop col).take (zay ((bl s).drop col)))),.int .i64 0,.int .i64 at',.int .i64 ((col+1:Nat):Int)]) hl (by rfl) rfl
     have hnum:=zqL (mkS (((bl s).drop col).take (zay ((bl s).drop col)))) (by simp;omega) st6
     rw [zbJ] at hnum
     obtain ⟨st8,e8,t8,n8⟩:=t6.st (k:=2) (vs:=[.int .i64 (zhx (zcA (((bl s).drop col).take (zay ((bl s).drop col)))))]) (row':=[.int .i64 2,.string (mkS (((bl s).drop col).take (zay ((bl s).drop col)))),.int .i64 (zhx (zcA (((bl s).drop col).take (zay ((bl s).drop col))))),.int .i64 at',.int .i64 ((col+1:Nat):Int)]) hl (by rfl) rfl
     have hw2:IntKind.wrap .i64 ((col:Int)+(zay ((bl s).drop col):Nat))=((col+zay ((bl s).drop col):Nat):Int):=by rw [wrap64 (by omega) (by omega)];omega
     have hmid:=zfj (s:=s) (col:=col) (n:=zay ((bl s).drop col)) (by omega)
     have hsz:(mkS (((bl s).drop col).take (zay ((bl s).drop col)))).size=zay ((bl s).drop col):=by simp;omega
     cases hx:numO (zcA (((bl s).drop col).take (zay ((bl s).drop col)))) with
     | some w=>
       have hx2:zhx (zcA (((bl s).drop col).take (zay ((bl s).drop col))))=(w:Int):=by unfold zhx;rw [hx]
       have hx3:¬ (w:Int)<0:=by omega
       rw [hx2] at hnum e8 t8
       refine zde.tok hs hl0 hd he ho hpos (by omega) t8 (fun done out st hd he ho=>ih _ done out st (by omega) (by omega) hd he ho) ?_
       intro v stZ hv hz y hy
       refine zaL s _ out _ st ?_
       have hv':((st8.new (.cells [.int .i64 2,.string (mkS (((bl s).drop col).take (zay ((bl s).drop col)))),.int .i64 (w:Int),.int .i64 at',.int .i64 ((col+1:Nat):Int)] 5)).app 5 48 out (.slice (some ⟨st8.next,0,none⟩) 1 1))=some (v,stZ):=hv
       simp only [zaO,zdt hlt',zct,zob,hix,zdf h59,znf,hrun,zgs,zgz,zab,zaa,zdf h32,zdf h9,zdf h13,zcf,hw1,e3,zdt hpos',hlet,hlt1',zaf,e5,hw2,hmid,e6,t6.ld,hnum,e8,t8.ld,zdf hx3,t8.ldN (n:=5) rfl,cells5,List.append_nil,hv',SS.ld_cells hz,hsz]
       exact hy
     | none=>
       have hx2:zhx (zcA (((bl s).drop col).take (zay ((bl s).drop col))))= -1:=by unfold zhx;rw [hx]
       rw [hx2] at hnum e8 t8
       have hm1:decide ((-1:Int)<0)=true:=rfl
       refine ⟨st8,zaL s _ out _ st ?_,he.trans t8.ext⟩
       simp only [zaO,zdt hlt',zct,zob,hix,zdf h59,znf,hrun,zgs,zgz,zab,zaa,zdf h32,zdf h9,zdf h13,zcf,hw1,e3,zdt hpos',hlet,hlt1',zaf,e5,hw2,hmid,e6,t6.ld,hnum,e8,t8.ld,hm1]
    rw [if_neg hd1]
    have hd1':zdd c.toNat=false:=Bool.eq_false_iff.2 hd1
    have hzero:zay ((bl s).drop col)=0:=by
     rw [hdc,zfs]
     have:nameB c=false:=by unfold nameB;rw [hlt1',hd1'];rfl
     rw [this];rfl
    have hz0:¬ (0:Int)<((0:Nat):Int):=by omega
    rw [hzero] at hrun
    have hsg:=sign5 c
    by_cases hs1:zhW c=true
    ·rw [if_pos hs1]
     rw [hs1] at hsg
     obtain ⟨st5,e5,t5,n5⟩:=t3.st (k:=0) (vs:=[.int .i64 3]) (row':=[.int .i64 3,.string ⟨#[]⟩,.int .i64 0,.int .i64 at',.int .i64 ((col+1:Nat):Int)]) hl (by rfl) rfl
     obtain ⟨st6,e6,t6,n6⟩:=t5.st (k:=1) (vs:=[.string (mkS (((bl s).drop col).take 1))]) (row':=[.int .i64 3,.string (mkS (((bl s).drop col).take 1)),.int .i64 0,.int .i64 at',.int .i64 ((col+1:Nat):Int)]) hl (by rfl) rfl
     have hmid:=zfj (s:=s) (col:=col) (n:=1) (by omega)
     have hsz:(mkS (((bl s).drop col).take 1)).size=1:=by simp;omega
     have hw2:IntKind.wrap .i64 ((col:Int)+((1:Nat):Int))=((col+1:Nat):Int):=hw1
     refine zde.tok hs hl0 hd he ho (by omega) (by omega) t6 (fun done out st hd he ho=>ih _ done out st (by omega) (by omega) hd he ho) ?_
     intro v stZ hv hz y hy
     refine zaL s _ out _ st ?_
     have hv':((st6.new (.cells [.int .i64 3,.string (mkS (((bl s).drop col).take 1)),.int .i64 0,.int .i64 at',.int .i64 ((col+1:Nat):Int)] 5)).app 5 48 out (.slice (some ⟨st6.next,0,none⟩) 1 1))=some (v,stZ):=hv
     have tail:∀ (a b c d e:Bool),true=(a||b||c||d||e)→∀ (X Y:Option (Nat×List Value×SS)),cond a X (cond b X (cond c X (cond d X (cond e X Y))))=X:=by
      intro a b c d e h X Y
      cases a<;>cases b<;>cases c<;>cases d<;>cases e<;>first | rfl | cases h
     simp only [zaO,zdt hlt',zct,zob,hix,zdf h59,znf,hrun,zgs,zgz,zab,zaa,zdf h32,zdf h9,zdf h13,zcf,hw1,e3,zdf hz0,e5,hmid,e6,t6.ldN (n:=5) rfl,cells5,List.append_nil,hv',SS.ld_cells hz,hsz,hw2]
     rw [tail _ _ _ _ _ hsg]
     exact hy
    ·rw [if_neg hs1]
     have hs1':zhW c=false:=Bool.eq_false_iff.2 hs1
     rw [hs1'] at hsg
     refine ⟨st3,zaL s _ out _ st ?_,he.trans t3.ext⟩
     simp only [zaO,zdt hlt',zct,zob,hix,zdf h59,znf,hrun,zgs,zgz,zab,zaa,zdf h32,zdf h9,zdf h13,zcf,hw1,e3,zdf hz0]
     have tail:∀ (a b c d e:Bool),false=(a||b||c||d||e)→∀ (X1 X2 X3 X4 X5 Y:Option (Nat×List Value×SS)),cond a X1 (cond b X2 (cond c X3 (cond d X4 (cond e X5 Y))))=Y:=by
      intro a b c d e h X1 X2 X3 X4 X5 Y
      cases a<;>cases b<;>cases c<;>cases d<;>cases e<;>first | rfl | cases h
     rw [tail _ _ _ _ _ hsg]
   ·have:col=s.size:=by omega
    subst this
    have hnil:(bl s).drop s.size=[]:=zd8 s
    rw [hnil]
    refine ⟨out,st,zaL s _ out _ st ?_,he,by simpa [stepT] using ho,by simpa using hd⟩
    simp [zaO]
theorem zo4 [Sym] {st:SS} (hl:st.lim≤st.next) (s:ByteArray) (hs:s.size≤4294967296) (at':Int):
  LineR (fun v=>[v,.int .i64 0]) (fun c=>[.slice none 0 0,.int .i64 c]) s at' st (cc 51 [.string s,.int .i64 at'] st) (zbV (bl s)):=by
 have h:=zqM s at' hs st hl s.size 0 [] (.slice none 0 0) st (by omega) (by omega) (by simp) (.refl _) (Own.nil _ _ _)
 simp only [List.drop_zero] at h
 have hw:IntKind.wrap .i64 ((s.size:Int)+1)=((s.size+1:Nat):Int):=by rw [wrap64 (by omega) (by omega)];omega
 unfold zbV
 rw [zaF]
 cases hx:zcM s.size 0 (bl s) with
 | ok ts=>
   rw [hx] at h
   obtain ⟨v,st',a,b,c,d⟩:=h
   obtain ⟨w,st'',e1,e2,e3,e4⟩:=zp8 s hs hl b c d
   refine ⟨w,st'',zfv s at' st ?_,e2,e3,e4⟩
   have a':zaP 3 [.string s,.int .i64 at',.slice none 0 0,.int .i64 0] st=some (0,[.string s,.int .i64 at',v],st'):=a
   have hb0:Nat.beq 0 0=true:=rfl
   simp only [zer,a',zob,hb0,zct,zgs,zgz,zab,zaa,hw,e1]
 | error c=>
   rw [hx] at h
   obtain ⟨st',a,b⟩:=h
   refine ⟨st',zfv s at' st ?_,b⟩
   have a':zaP 3 [.string s,.int .i64 at',.slice none 0 0,.int .i64 0] st=some (1,[.slice none 0 0,.int .i64 c],st'):=a
   have hb0:Nat.beq 1 0=false:=rfl
   simp only [zer,a',zob,hb0,zcf,zgs,zgz,zaf,zaa]
end Go.Proofs.YtifploedaacedaaGreatDoorE
namespace Go.Proofs.YtifploedaacedaaGreatDoorE
open Go Go.E Go.Proofs
def rowsL:List (Nat×Tok)→List Value
 | []=>[]
 | t::r=>za5 t.1 t.2++rowsL r
theorem zo5 (a b:List (Nat×Tok)):rowsL (a++b)=rowsL a++rowsL b:=by
 induction a with
 | nil=>rfl
 | cons t r ih=>simp [rowsL,ih]
theorem znZ (i:Nat) (ts:List Tok):rowsL (ts.map fun t=>(i,t))=zch i ts:=by
 induction ts with
 | nil=>rfl
 | cons t r ih=>simp [rowsL,zch,ih]
def zqN (a:List (Nat×Tok)):Except (Nat×Nat) (List (Nat×Tok))→Except (Nat×Nat) (List (Nat×Tok))
 | .ok us=>.ok (a++us)
 | .error e=>.error e
def zdg:Nat→List (List UInt8)→Except (Nat×Nat) (List (Nat×Tok))
 | _,[]=>.ok []
 | i,p::r=>match zbV p with
   | .error c=>.error (i+1,c)
   | .ok ts=>zqN (ts.map fun t=>(i+1,t)) (zdg (i+1) r)
def zl0 (l:List UInt8):Except (Nat×Nat) (List (Nat×Tok)):=zdg 0 (pieces 10 l)
theorem zfR (c:UInt8) (l:List UInt8):∀ p∈pieces c l,p.length≤l.length:=by
 induction l with
 | nil=>simp [pieces]
 | cons b r ih=>
   unfold pieces
   split
   ·intro p hp
    simp only [List.mem_cons] at hp
    rcases hp with rfl | hp
    ·simp
    ·have:=ih p hp;simp;omega
   ·cases hr:pieces c r with
    | nil=>exact absurd hr (zdM c r)
    | cons x y=>
      intro p hp
      simp only [List.mem_cons] at hp
      rcases hp with rfl | hp
      ·have:=ih x (by rw [hr];simp);simp;omega
      ·have:=ih p (by rw [hr];simp [hp]);simp;omega
def zgp (errv:List Value) (j:Nat) (st0 st1:SS) (done:List (Nat×Tok)) (r:Option (Nat×List Value×SS)):Except (Nat×Nat) (List (Nat×Tok))→Prop
 | .ok us=>∃ v st',r=some (0,[ptr j 0,v],st')∧Ext st1 st'∧Own st1.next st' v (rowsL (done++us)) 5 (done++us).length
 | .error e=>∃ st',r=some (1,errv,st')∧st'.mem.get j=some (.cells [.int .i64 e.1,.int .i64 e.2] 0)∧Ext st0 st'
theorem zgp.to {errv:List Value} {j:Nat} {st0 st1:SS} {done:List (Nat×Tok)} {r r':Option (Nat×List Value×SS)} {x:Except (Nat×Nat) (List (Nat×Tok))} (h:zgp errv j st0 st1 done r x) (hr:∀ y,r=some y→r'=some y):zgp errv j st0 st1 done r' x:=by
 cases x with
 | ok ts=>obtain ⟨v,st',a,b⟩:=h;exact ⟨v,st',hr _ a,b⟩
 | error c=>obtain ⟨st',a,b⟩:=h;exact ⟨st',hr _ a,b⟩
theorem zgp.cons {errv:List Value} {j:Nat} {st0 st1:SS} {done a:List (Nat×Tok)} {r:Option (Nat×List Value×SS)} {x:Except (Nat×Nat) (List (Nat×Tok))} (h:zgp errv j st0 st1 (done++a) r x):zgp errv j st0 st1 done r (zqN a x):=by
 cases x with
 | ok ts=>
   have e:done++a++ts=done++(a++ts):=by simp
   obtain ⟨v,st',p,b,c⟩:=h
   rw [e] at c
   exact ⟨v,st',p,b,c⟩
 | error c=>exact h
theorem strs_get (ps:List (List UInt8)) (i:Nat) (p:List UInt8) (h:ps[i]?=some p):((strs ps).drop (i*1)).take 1=[.string (mkS p)]:=by
 rw [Nat.mul_one]
 have:(strs ps)[i]?=some (.string (mkS p)):=by simp [strs,h]
 rw [drop_cons this]
 rfl
theorem zgp.add {errv:List Value} {j:Nat} {st0 st1 st st':SS} {done:List (Nat×Tok)} {ts:List Tok} {i N:Nat} {out v:Value} {x:Except (Nat×Nat) (List (Nat×Tok))} {r':Option (Nat×List Value×SS)}
  (hN:N≤131073) (hl1:st1.lim≤st1.next) (hi:i<N) (hd:done.length≤i*N) (hts:ts.length≤N) (he:Ext st1 st) (ho:Own st1.next st out (rowsL done) 5 done.length) (he2:Ext st st') (ho2:Own st.next st' v (zch ((i+1:Nat):Int) ts) 5 ts.length)
  (h:∀ w st'',st'.app 5 48 out v=some (w,st'')→Ext st1 st''→Own st1.next st'' w (rowsL (done++ts.map fun t=>(i+1,t))) 5 (done++ts.map fun t=>(i+1,t)).length→(done++ts.map fun t=>(i+1,t)).length≤(i+1)*N→zgp errv j st0 st1 (done++ts.map fun t=>(i+1,t)) r' x):
  zgp errv j st0 st1 done r' (zqN (ts.map fun t=>(i+1,t)) x):=by
 have hmul:i*N≤131073*131073:=Nat.mul_le_mul (by omega) hN
 have e0:Ext st1 st':=he.trans he2
 have hN2:(i+1)*N=i*N+N:=by rw [Nat.add_mul,Nat.one_mul]
 have hN3:i*N+N≤131073*131073:=by rw [← hN2];exact Nat.mul_le_mul (by omega) hN
 obtain ⟨w,st'',g1,g2,g3,g4,g5,g6⟩:=(ho.ext he2).app (ho2.rd) e0.next (by rw [e0.lim];exact hl1) (by omega) (zrR _ _) (bt:=48) (by omega) (by omega)
 refine (h w st'' g1 (g5 st1 (zlr _) e0) ?_ ?_).cons
 ·rw [zo5,znZ,List.length_append,List.length_map]
  exact g2
 ·rw [List.length_append,List.length_map,hN2];omega
theorem zta [Sym] (st0 st1:SS) (hg:Gd st1) (h01:Ext st0 st1) (hl1:st1.lim≤st1.next) (j:Nat) (hj0:st0.next≤j) (hj1:j<st1.next) (hjm:∃ r,st1.mem.get j=some (.cells r 0)∧r.length=2) (hjl:st1.lim≤j) (all:List (List UInt8)) (v:Value) (hv:Rd st1 v (strs all) 1 all.length) (N:Nat) (hN:N≤131073) (hall:all.length≤N) (hmem:∀ p∈all,p.length+1≤N):
  ∀ (ps:List (List UInt8)) (i:Nat) (done:List (Nat×Tok)) (out:Value) (st:SS),all.drop i=ps→i≤all.length→done.length≤i*N→Ext st1 st→Own st1.next st out (rowsL done) 5 done.length→
  zgp [.slice none 0 0,ptr j 0,.int .i64 4] j st0 st1 done (zd9 5 [ptr j 0,out,v,.int .i64 all.length,.int .i64 i] st) (zdg i ps):=by
 intro ps
 induction ps with
 | nil=>
   intro i done out st hp hi hd he ho
   have:i=all.length:=by
    rw [List.drop_eq_nil_iff] at hp;omega
   subst this
   refine ⟨out,st,zgk _ out v _ _ st ?_,he,by simpa using ho⟩
   simp [zgC]
 | cons p r ih=>
   intro i done out st hp hi hd he ho
   have hgp:all[i]?=some p:=by
    have:=congrArg (·[0]?) hp
    simpa using this
   have hlt:i<all.length:=(List.getElem?_eq_some_iff.1 hgp).1
   have hpm:p∈all:=zmg hgp
   have hpl:=hmem p hpm
   have hr:all.drop (i+1)=r:=by
    have:=drop_cons hgp
    rw [hp] at this
    exact (List.cons.inj this).2.symm
   have hlt':(i:Int)<(all.length:Int):=by omega
   have hw:IntKind.wrap .i64 ((i:Int)+1)=((i+1:Nat):Int):=by rw [wrap64 (by omega) (by omega)];omega
   obtain ⟨q,hq1,hq2,hq3⟩:=(hv.ext he).load (j:=(i:Int)) (by omega) hlt' (strs_get all i p hgp) rfl
   have hld:(st.ld q.1 q.2).bind asS=some (mkS p):=by
    have:=hq3 0 (by omega)
    rw [Nat.add_zero] at this
    rw [this];rfl
   have hl:st.lim≤st.next:=by rw [he.lim];have:=he.next;omega
   have h:=zuf (hg.ext he) hl (mkS p) (by simp;omega) ((i+1:Nat):Int)
   rw [zbJ] at h
   unfold zdg
   cases hx:zbV p with
   | error c=>
     rw [hx] at h
     obtain ⟨st',a,b⟩:=h
     obtain ⟨r0,hjm1,hjm2⟩:=hjm
     have e0:=he.trans b
     have hst:st'.st j 0 [.int .i64 ((i+1:Nat):Int),.int .i64 c]=some (st'.set j (some (.cells [.int .i64 ((i+1:Nat):Int),.int .i64 c] 0))):=
      SS.st_cells (e0.get hj1 hjm1) (by rw [e0.lim];exact hjl) (by rfl) (by rw [zbB (by simp [hjm2])];simp [hjm2])
     refine ⟨st'.set j (some (.cells [.int .i64 ((i+1:Nat):Int),.int .i64 c] 0)),zgk _ out v _ _ st ?_,by simp,(h01.trans e0).set hj0 _⟩
     simp only [zgC,zdt hlt',zct,hq1,zob,hld,hw,a,zal,List.getElem?_toArray,zgs,zgz,zaa,zaf,znf,zad,hst]
   | ok ts=>
     rw [hx] at h
     obtain ⟨w,st',a,b,c,d⟩:=h
     refine zgp.add hN hl1 (by omega) hd (by simp at d;omega) he ho b c ?_
     intro u st'' g1 g2 g3 g4
     refine (ih (i+1) _ u st'' hr (by omega) g4 g2 g3).to ?_
     intro y hy
     refine zgk _ out v _ _ st ?_
     simp only [zgC,zdt hlt',zct,hq1,zob,hld,hw,a,zal,List.getElem?_toArray,zgs,zgz,zaa,zaf,znt,zcf,g1]
     exact hy
theorem zrV [Sym] (st0 st1:SS) (h01:Ext st0 st1) (hl1:st1.lim≤st1.next) (j:Nat) (hj0:st0.next≤j) (hj1:j<st1.next) (hjm:∃ r,st1.mem.get j=some (.cells r 0)∧r.length=2) (hjl:st1.lim≤j) (all:List (List UInt8)) (v:Value) (hv:Rd st1 v (strs all) 1 all.length) (N:Nat) (hN:N≤131073) (hall:all.length≤N) (hmem:∀ p∈all,p.length+1≤N) (hcol:∀ p∈all,∀ c,zbV p=.error c→0<c):
  ∀ (ps:List (List UInt8)) (i:Nat) (done:List (Nat×Tok)) (out:Value) (st:SS),all.drop i=ps→i≤all.length→done.length≤i*N→Ext st1 st→Own st1.next st out (rowsL done) 5 done.length→
  zgp [.slice none 0 0,ptr j 0] j st0 st1 done (zbH 3 [ptr j 0,out,v,.int .i64 all.length,.int .i64 i] st) (zdg i ps):=by
 intro ps
 induction ps with
 | nil=>
   intro i done out st hp hi hd he ho
   have:i=all.length:=by
    rw [List.drop_eq_nil_iff] at hp;omega
   subst this
   refine ⟨out,st,zc7 _ out v _ _ st ?_,he,by simpa using ho⟩
   simp [zcL]
 | cons p r ih=>
   intro i done out st hp hi hd he ho
   have hgp:all[i]?=some p:=by
    have:=congrArg (·[0]?) hp
    simpa using this
   have hlt:i<all.length:=(List.getElem?_eq_some_iff.1 hgp).1
   have hpm:p∈all:=zmg hgp
   have hpl:=hmem p hpm
   have hr:all.drop (i+1)=r:=by
    have:=drop_cons hgp
    rw [hp] at this
    exact (List.cons.inj this).2.symm
   have hlt':(i:Int)<(all.length:Int):=by omega
   have hw:IntKind.wrap .i64 ((i:Int)+1)=((i+1:Nat):Int):=by rw [wrap64 (by omega) (by omega)];omega
   obtain ⟨q,hq1,hq2,hq3⟩:=(hv.ext he).load (j:=(i:Int)) (by omega) hlt' (strs_get all i p hgp) rfl
   have hld:(st.ld q.1 q.2).bind asS=some (mkS p):=by
    have:=hq3 0 (by omega)
    rw [Nat.add_zero] at this
    rw [this];rfl
   have hl:st.lim≤st.next:=by rw [he.lim];have:=he.next;omega
   have h:=zo4 hl (mkS p) (by simp;omega) ((i+1:Nat):Int)
   rw [zbJ] at h
   unfold zdg
   cases hx:zbV p with
   | error c=>
     have hc0:=hcol p hpm c hx
     have hc0':(0:Int)<(c:Int):=by omega
     rw [hx] at h
     obtain ⟨st',a,b⟩:=h
     obtain ⟨r0,hjm1,hjm2⟩:=hjm
     have e0:=he.trans b
     have hst:st'.st j 0 [.int .i64 ((i+1:Nat):Int),.int .i64 c]=some (st'.set j (some (.cells [.int .i64 ((i+1:Nat):Int),.int .i64 c] 0))):=
      SS.st_cells (e0.get hj1 hjm1) (by rw [e0.lim];exact hjl) (by rfl) (by rw [zbB (by simp [hjm2])];simp [hjm2])
     refine ⟨st'.set j (some (.cells [.int .i64 ((i+1:Nat):Int),.int .i64 c] 0)),zc7 _ out v _ _ st ?_,by simp,(h01.trans e0).set hj0 _⟩
     simp only [zcL,zdt hlt',zct,hq1,zob,hld,hw,a,zal,List.getElem?_toArray,zgs,zgz,zaa,zdt hc0',zad,hst]
   | ok ts=>
     rw [hx] at h
     obtain ⟨w,st',a,b,c,d⟩:=h
     refine zgp.add hN hl1 (by omega) hd (by simp at d;omega) he ho b c ?_
     intro u st'' g1 g2 g3 g4
     refine (ih (i+1) _ u st'' hr (by omega) g4 g2 g3).to ?_
     intro y hy
     refine zc7 _ out v _ _ st ?_
     have h00:decide ((0:Int)<0)=false:=rfl
     simp only [zcL,zdt hlt',zct,hq1,zob,hld,hw,a,zal,List.getElem?_toArray,zgs,zgz,zaa,h00,zcf,g1]
     exact hy
theorem ztb (k col:Nat) (l:List UInt8) (c:Nat) (h:zcM k col l=.error c):0<c:=by
 induction k generalizing col l with
 | zero=>cases h
 | succ k ih=>
   unfold zcM at h
   split at h
   ·cases h
   ·exact ih _ _ h
   ·rename_i kd n x _
    cases hx:zcM k (col+n) (l.drop n) with
    | ok ts=>rw [hx] at h;cases h
    | error e=>rw [hx] at h;cases h;exact ih _ _ hx
   ·cases h;omega
theorem zrW (p:List UInt8) (c:Nat) (h:zbV p=.error c):0<c:=by
 unfold zbV at h
 split at h
 ·cases h
 ·rename_i c' hc;cases h;exact ztb _ _ _ _ hc
def LexR (okv:Value→Nat×Nat→List Value) (errv:Nat×Nat→List Value) (st:SS) (r:Option (Value×SS)):Except (Nat×Nat) (List (Nat×Tok))→Prop
 | .ok us=>∃ v st',r=some (.tuple (okv v (0,0)).toArray,st')∧Ext st st'∧Own st.next st' v (rowsL us) 5 us.length
 | .error e=>∃ st',r=some (.tuple (errv e).toArray,st')∧Ext st st'
def zbj (e:Nat×Nat):Value:=.agg #[.int .i64 e.1,.int .i64 e.2]
theorem rdN2 {st:SS} {j:Nat} {a b:Value} {z:Nat} (h:st.mem.get j=some (.cells [a,b] z)):st.rdN j 0 2=some (.agg #[a,b]):=by
 rw [SS.rdN_cells h,zgj (n:=2) rfl];rfl
theorem lex_ok [Sym] {st:SS} (hg:Gd st) (hl:st.lim≤st.next) (s:ByteArray) (hs:s.size≤131072):
  LexR (fun v e=>[v,zbj e,.int .i64 0]) (fun e=>[.slice none 0 0,zbj e,.int .i64 4]) st (cc 67 [.string s] st) (zl0 (bl s)):=by
 obtain ⟨v,st2,h1,h2,h3⟩:=split_ok s 10 (by omega) (st.new (.cells [.int .i64 0,.int .i64 0] 0)) (by simp;omega)
 have hst1:(st.new (.cells [.int .i64 0,.int .i64 0] 0)).mem.get st.next=some (.cells [.int .i64 0,.int .i64 0] 0):=by simp
 have e01:Ext st st2:=((Ext.refl st).new _).trans h2
 have hm:=h2.get (by simp) hst1
 have hj1:st.next<st2.next:=by have:=h2.next;simp at this;omega
 have hl2:st2.lim≤st2.next:=by rw [e01.lim];have:=e01.next;omega
 have hlen:=pieces_len 10 (bl s)
 rw [zaF] at hlen
 have hmem:=zfR 10 (bl s)
 rw [zaF] at hmem
 have h:=zta st st2 (hg.ext e01) e01 hl2 st.next (zlr _) hj1 ⟨_,hm,rfl⟩ (by rw [e01.lim];exact hl) (pieces 10 (bl s)) v h3 (s.size+1) (by omega) hlen (fun p hp=>by have:=hmem p hp;omega) (pieces 10 (bl s)) 0 [] (.slice none 0 0) st2 rfl (by omega) (by simp) (.refl _) (Own.nil _ _ _)
 have hbig:¬ (131072:Int)<(s.size:Int):=by omega
 have hb0:Nat.beq 0 0=true:=rfl
 have hb1:Nat.beq 1 0=false:=rfl
 have hlv:(lenV v).bind (asI .i64)=some ((pieces 10 (bl s)).length:Int):=by rw [h3.len];rfl
 unfold zl0
 cases hx:zdg 0 (pieces 10 (bl s)) with
 | ok us=>
   rw [hx] at h
   obtain ⟨w,st3,a,b,c⟩:=h
   have hm3:=b.get hj1 hm
   have hst:st3.st st.next 0 [.int .i64 0,.int .i64 0]=some (st3.set st.next (some (.cells [.int .i64 0,.int .i64 0] 0))):=
    SS.st_cells hm3 (by rw [b.lim,e01.lim];exact hl) (by rfl) (by rfl)
   have hlast:Ext st (st3.set st.next (some (.cells [.int .i64 0,.int .i64 0] 0))):=(e01.trans b).set (zlr _) _
   refine ⟨w,st3.set st.next (some (.cells [.int .i64 0,.int .i64 0] 0)),zlB s st ?_,hlast,?_⟩
   ·have a':zd9 5 [ptr st.next 0,.slice none 0 0,v,.int .i64 ((pieces 10 (bl s)).length:Int),.int .i64 0] st2=some (0,[ptr st.next 0,w],st3):=a
    have hr:=rdN2 (a:=.int .i64 0) (b:=.int .i64 0) (z:=0) (st:=st3.set st.next (some (.cells [.int .i64 0,.int .i64 0] 0))) (j:=st.next) (by simp)
    simp only [zlZ,zdf hbig,zcf,h1,zob,hlv,a',hb0,zct,zgs,zgz,zad,hst,hr]
    rfl
   ·obtain ⟨c1,c2⟩:=c
    refine ⟨c1,c2.imp id ?_⟩
    rintro ⟨i,e,h0,hmi,hbi,hi⟩
    refine ⟨i,e,h0,?_,by omega,hi⟩
    rw [SS.set_old (by omega)]
    exact hmi
 | error e=>
   rw [hx] at h
   obtain ⟨st3,a,b,c⟩:=h
   refine ⟨st3,zlB s st ?_,c⟩
   have a':zd9 5 [ptr st.next 0,.slice none 0 0,v,.int .i64 ((pieces 10 (bl s)).length:Int),.int .i64 0] st2=some (1,[.slice none 0 0,ptr st.next 0,.int .i64 4],st3):=a
   simp only [zlZ,zdf hbig,zcf,h1,zob,hlv,a',hb1,zct,zgs,zgz,zad,zaa,rdN2 b]
   rfl
theorem zui [Sym] {st:SS} (hl:st.lim≤st.next) (s:ByteArray) (hs:s.size≤131072):
  LexR (fun v e=>[v,zbj e]) (fun e=>[.slice none 0 0,zbj e]) st (cc 49 [.string s] st) (zl0 (bl s)):=by
 obtain ⟨v,st2,h1,h2,h3'⟩:=zrN s 10 (by omega) (st.new (.cells [.int .i64 0,.int .i64 0] 0)) (by simp;omega)
 have h3:=h3'.rd
 have hst1:(st.new (.cells [.int .i64 0,.int .i64 0] 0)).mem.get st.next=some (.cells [.int .i64 0,.int .i64 0] 0):=by simp
 have e01:Ext st st2:=((Ext.refl st).new _).trans h2
 have hm:=h2.get (by simp) hst1
 have hj1:st.next<st2.next:=by have:=h2.next;simp at this;omega
 have hl2:st2.lim≤st2.next:=by rw [e01.lim];have:=e01.next;omega
 have hlen:=pieces_len 10 (bl s)
 rw [zaF] at hlen
 have hmem:=zfR 10 (bl s)
 rw [zaF] at hmem
 have h:=zrV st st2 e01 hl2 st.next (zlr _) hj1 ⟨_,hm,rfl⟩ (by rw [e01.lim];exact hl) (pieces 10 (bl s)) v h3 (s.size+1) (by omega) hlen (fun p hp=>by have:=hmem p hp;omega) (fun p _ c hc=>zrW p c hc) (pieces 10 (bl s)) 0 [] (.slice none 0 0) st2 rfl (by omega) (by simp) (.refl _) (Own.nil _ _ _)
 have hb0:Nat.beq 0 0=true:=rfl
 have hb1:Nat.beq 1 0=false:=rfl
 have hlv:(lenV v).bind (asI .i64)=some ((pieces 10 (bl s)).length:Int):=by rw [h3.len];rfl
 have h1':cc 50 [.string s,.int .u8 10] (st.new (.cells [.int .i64 0,.int .i64 0] 0))=some (v,st2):=h1
 unfold zl0
 cases hx:zdg 0 (pieces 10 (bl s)) with
 | ok us=>
   rw [hx] at h
   obtain ⟨w,st3,a,b,c⟩:=h
   have hm3:=b.get hj1 hm
   have hst:st3.st st.next 0 [.int .i64 0,.int .i64 0]=some (st3.set st.next (some (.cells [.int .i64 0,.int .i64 0] 0))):=
    SS.st_cells hm3 (by rw [b.lim,e01.lim];exact hl) (by rfl) (by rfl)
   have hlast:Ext st (st3.set st.next (some (.cells [.int .i64 0,.int .i64 0] 0))):=(e01.trans b).set (zlr _) _
   refine ⟨w,st3.set st.next (some (.cells [.int .i64 0,.int .i64 0] 0)),zfQ s st ?_,hlast,?_⟩
   ·have a':zbH 3 [ptr st.next 0,.slice none 0 0,v,.int .i64 ((pieces 10 (bl s)).length:Int),.int .i64 0] st2=some (0,[ptr st.next 0,w],st3):=a
    have hr:=rdN2 (a:=.int .i64 0) (b:=.int .i64 0) (z:=0) (st:=st3.set st.next (some (.cells [.int .i64 0,.int .i64 0] 0))) (j:=st.next) (by simp)
    simp only [zeR,h1',zob,hlv,a',hb0,zct,zgs,zgz,zad,hst,hr]
    rfl
   ·obtain ⟨c1,c2⟩:=c
    refine ⟨c1,c2.imp id ?_⟩
    rintro ⟨i,e,h0,hmi,hbi,hi⟩
    refine ⟨i,e,h0,?_,by omega,hi⟩
    rw [SS.set_old (by omega)]
    exact hmi
 | error e=>
   rw [hx] at h
   obtain ⟨st3,a,b,c⟩:=h
   refine ⟨st3,zfQ s st ?_,c⟩
   have a':zbH 3 [ptr st.next 0,.slice none 0 0,v,.int .i64 ((pieces 10 (bl s)).length:Int),.int .i64 0] st2=some (1,[.slice none 0 0,ptr st.next 0],st3):=a
   simp only [zeR,h1',zob,hlv,a',hb1,zcf,zgs,zgz,zad,zaa,rdN2 b]
   rfl
end Go.Proofs.YtifploedaacedaaGreatDoorE
namespace Go.Proofs.YtifploedaacedaaGreatDoorE
open Go Go.E Go.Proofs
theorem TK.newV {st:SS} {r:List Value} {v:Value} {n:Nat} (hl:st.lim≤st.next) (h1:v.cells.toList.all one=true) (hn:v.cells.size=n) (hr:r.length=n):∃ stX,(st.new (.cells r 0)).stV st.next 0 n v=some stX∧TK st stX v.cells.toList:=by
 obtain ⟨stX,h,t⟩:=TK.new (st:=st) (r:=r) (row:=v.cells.toList) hl h1 (by simp [hr,hn])
 refine ⟨stX,?_,t⟩
 unfold SS.stV
 have:Nat.beq v.cells.size n=true:=by rw [zaC,hn];simp
 rw [this]
 exact h
theorem TK.pair {st:SS} {r:List Value} (e:Nat×Nat) (hl:st.lim≤st.next) (hr:r.length=2):∃ stX,(st.new (.cells r 0)).stV st.next 0 2 (zbj e)=some stX∧TK st stX [.int .i64 e.1,.int .i64 e.2]:=TK.newV (v:=zbj e) hl (by rfl) rfl hr
theorem zhX (us:List (Nat×Tok)) (i:Nat) (t:Nat×Tok) (h:us[i]?=some t):((rowsL us).drop (i*5)).take 5=za5 t.1 t.2:=by
 induction us generalizing i with
 | nil=>simp at h
 | cons a r ih=>
   cases i with
   | zero=>
     simp at h
     subst h
     show ((za5 a.1 a.2++rowsL r).drop (0*5)).take 5=_
     rfl
   | succ i=>
     have:=ih i (by simpa using h)
     show ((za5 a.1 a.2++rowsL r).drop ((i+1)*5)).take 5=_
     have e:(i+1)*5=(za5 a.1 a.2).length+i*5:=by simp [za5];omega
     rw [e,← List.drop_drop,List.drop_left]
     exact this
theorem zo6 (i:Nat):zbe (ptr i 0) 2 0 1=some (i,0):=rfl
theorem zrX (ps:List (List UInt8)) (i N:Nat) (us:List (Nat×Tok)) (h:zdg i ps=.ok us) (hN:∀ p∈ps,∀ ts,zbV p=.ok ts→ts.length≤N):us.length≤ps.length*N:=by
 induction ps generalizing i us with
 | nil=>cases h;simp
 | cons p r ih=>
   unfold zdg at h
   cases hx:zbV p with
   | error c=>rw [hx] at h;cases h
   | ok ts=>
     rw [hx] at h
     cases hy:zdg (i+1) r with
     | error e=>rw [hy] at h;cases h
     | ok vs=>
       rw [hy] at h
       cases h
       have h1:=ih (i+1) vs hy (fun q hq=>hN q (List.mem_cons_of_mem _ hq))
       have h2:=hN p (List.mem_cons_self ..) ts hx
       rw [List.length_append,List.length_map,List.length_cons,Nat.add_mul]
       omega
theorem ztc (k col:Nat) (l:List UInt8) (ts:List Tok) (h:zcM k col l=.ok ts):ts.length≤k:=by
 induction k generalizing col l ts with
 | zero=>cases h;simp
 | succ k ih=>
   unfold zcM at h
   split at h
   ·cases h;simp
   ·have:=ih _ _ _ h;omega
   ·rename_i kd n x _
    cases hx:zcM k (col+n) (l.drop n) with
    | error e=>rw [hx] at h;cases h
    | ok us=>rw [hx] at h;cases h;have:=ih _ _ _ hx;simp;omega
   ·cases h
theorem zkB (p:List UInt8) (ts:List Tok) (h:zbV p=.ok ts):ts.length≤p.length+1:=by
 unfold zbV at h
 split at h
 ·rename_i us hu;cases h;have:=ztc _ _ _ _ hu;simp;omega
 ·cases h
theorem ztd (l:List UInt8) (us:List (Nat×Tok)) (h:zl0 l=.ok us):us.length≤(l.length+1)*(l.length+1):=by
 have h1:=zrX (pieces 10 l) 0 (l.length+1) us h (fun p hp ts hts=>by have:=zfR 10 l p hp;have:=zkB p ts hts;omega)
 exact zlt h1 (Nat.mul_le_mul_right _ (pieces_len 10 l))
theorem zrY (ps:List (List UInt8)) (i:Nat) (e:Nat×Nat) (h:zdg i ps=.error e):0<e.1:=by
 induction ps generalizing i with
 | nil=>cases h
 | cons p r ih=>
   unfold zdg at h
   cases hx:zbV p with
   | error c=>rw [hx] at h;cases h;simp
   | ok ts=>
     rw [hx] at h
     cases hy:zdg (i+1) r with
     | error e=>rw [hy] at h;cases h;exact ih _ hy
     | ok vs=>rw [hy] at h;cases h
theorem zea (l:List UInt8):eqT (mkS l) ⟨#[]⟩=decide (l=[]):=rfl
theorem ziJ {s:ByteArray} {j:Nat} {b:UInt8} (hb:(bl s)[j]?=some b):(zdu s (j:Int)).bind (asI .u8)=some (b.toNat:Int):=by
 have hj:j<s.size:=by have:=(List.getElem?_eq_some_iff.1 hb).1;rwa [zaF] at this
 obtain ⟨b',hb',hidx⟩:=ziF (s:=s) (i:=(j:Int)) (by omega) (by omega)
 rw [Int.toNat_natCast,hb] at hb'
 cases hb'
 rw [hidx];simp
theorem zfS (c x:UInt8) (l:List UInt8):pieces c (x::l)=if x=c then []::pieces c l else match pieces c l with
  | []=>[[x]]
  | y::z=>(x::y)::z:=rfl
theorem zpD {α:Type} {l:List α} {j:Nat} {x:α} (h:l[j]?=some x):l.take (j+1)=l.take j++[x]:=by
 rw [List.take_add_one,h];rfl
end Go.Proofs.YtifploedaacedaaGreatDoorE
namespace Go.Proofs.YtifploedaacedaaGreatDoorE
open Go Go.E Go.Proofs
def blankB (b:UInt8):Prop:=(b.toNat:Int)=32∨(b.toNat:Int)=9∨(b.toNat:Int)=13
theorem zmL (c:UInt8) (r:List UInt8):stepT (c::r)=if (c.toNat:Int)=59 then .stop
  else if (c.toNat:Int)=32∨(c.toNat:Int)=9∨(c.toNat:Int)=13 then .blank
  else if zcb c.toNat=true then (if 24<zay (c::r) then .bad else .tok 1 (zay (c::r)) 0)
  else if zdd c.toNat=true then (match numO (zcA ((c::r).take (zay (c::r)))) with
   | some m=>.tok 2 (zay (c::r)) m
   | none=>.bad)
  else if zhW c=true then .tok 3 1 0 else .bad:=rfl
theorem zrZ {l:List UInt8} {kd n:Nat} {x:Int} (h:stepT l=.tok kd n x):0<n∧n≤l.length∧(kd=1∨kd=2∨kd=3):=by
 cases l with
 | nil=>cases h
 | cons c r=>
   rw [zmL] at h
   split at h
   ·cases h
   ·split at h
    ·cases h
    ·split at h
     ·rename_i hlet
      split at h
      ·cases h
      ·cases h
       exact ⟨zgn (by unfold nameB;rw [hlet];rfl),zk2 _,.inl rfl⟩
     ·split at h
      ·rename_i hdig
       split at h
       ·cases h
        exact ⟨zgn (by unfold nameB;rw [hdig];simp),zk2 _,.inr (.inl rfl)⟩
       ·cases h
      ·split at h
       ·cases h
        exact ⟨by omega,by simp,.inr (.inr rfl)⟩
       ·cases h
def View (c:Nat) (l:List UInt8) (ts:List Tok):Prop:=
 ∃ m,(∀ j b,j<m→l[j]?=some b→blankB b)∧((ts=[]∧m≤l.length∧∀ b,l[m]?=some b→(b.toNat:Int)=59)∨
  ∃ n kd x k' ts',m+n≤l.length∧0<n∧(kd=1∨kd=2∨kd=3)∧ts=⟨kd,(l.drop m).take n,x,c+m+1⟩::ts'∧(l.drop (m+n)).length≤k'∧zcM k' (c+m+n) (l.drop (m+n))=.ok ts')
end Go.Proofs.YtifploedaacedaaGreatDoorE
namespace Go.E
open Go
structure Mod (S:List Nat) (a b:SS):Prop where
 next:a.next≤b.next
 lim:b.lim=a.lim
 keep:∀ j,j<a.next→j∉S→b.mem.get j=a.mem.get j
section
variable {S T : List Nat} {a b c : SS} {i n : Nat}
theorem Mod.refl (a:SS):Mod S a a:=⟨zlr _,rfl,fun _ _ _=>rfl⟩
theorem Mod.ofExt (h:Ext a b):Mod S a b:=⟨h.next,h.lim,fun j hj _=>h.keep j hj⟩
theorem Mod.toExt (h:Mod [] a b):Ext a b:=⟨h.next,h.lim,fun j hj=>h.keep j hj (by simp)⟩
theorem Mod.trans (h:Mod S a b) (k:Mod T b c) (hT:∀ j,j∈T→j<a.next→j∈S):Mod S a c:=
 ⟨zlt h.next k.next,k.lim.trans h.lim,fun j hj hS=>(k.keep j (zll hj h.next) (fun hm=>hS (hT j hm hj))).trans (h.keep j hj hS)⟩
theorem Mod.then (h:Mod S a b) (k:Mod S b c):Mod S a c:=h.trans k fun _ hj _=>hj
theorem Mod.thenE (h:Mod S a b) (k:Mod [] b c):Mod S a c:=h.trans k fun _ hj _=>by cases hj
theorem Mod.thenX (h:Mod S a b) (k:Ext b c):Mod S a c:=h.thenE (.ofExt k)
theorem Mod.thenI (h:Mod S a b) (k:Mod [i] b c) (hi:a.next≤i∨i∈S):Mod S a c:=h.trans k fun j hj hlt=>by
 have:j=i:=by simpa using hj
 subst this
 rcases hi with hi | hi
 ·omega
 ·exact hi
theorem Mod.mono (h:Mod S a b) (hS:∀ j,j∈S→j∈T):Mod T a b:=⟨h.next,h.lim,fun j hj hT=>h.keep j hj fun hm=>hT (hS j hm)⟩
theorem Mod.fresh (h:Mod S a b) (hS:∀ j,j∈S→a.next≤j):Ext a b:=⟨h.next,h.lim,fun j hj=>h.keep j hj fun hm=>by have:=hS j hm;omega⟩
theorem Mod.ll (h:Mod S a b) (hl:a.lim≤a.next):b.lim≤b.next:=by rw [h.lim];exact zlt hl h.next
theorem Ext.ll (h:Ext a b) (hl:a.lim≤a.next):b.lim≤b.next:=by rw [h.lim];exact zlt hl h.next
theorem Ext.advR (a:SS) (hn:a.next≤n):Ext a (a.adv n):=(Ext.refl a).adv hn
theorem Mod.get {x:Option AObj} (h:Mod S a b) (hi:i<a.next) (hS:i∉S) (hx:a.mem.get i=x):b.mem.get i=x:=(h.keep i hi hS).trans hx
theorem Rd.mod {v:Value} {c:List Value} {z n:Nat} (h:Rd a v c z n) (m:Mod S a b) (hv:∀ j k l q,v=.slice (some ⟨j,k,none⟩) l q→j∉S):Rd b v c z n:=by
 obtain ⟨h1,h2⟩:=h
 refine ⟨h1,h2.imp id ?_⟩
 rintro ⟨i,cap,e,⟨z',hm⟩,hi⟩
 exact ⟨i,cap,e,⟨z',m.get hi (hv i 0 n cap e) hm⟩,zll hi m.next⟩
theorem Own.mod {B:Nat} {v:Value} {c:List Value} {z n:Nat} (h:Own B a v c z n) (m:Mod S a b) (hv:∀ j k l q,v=.slice (some ⟨j,k,none⟩) l q→j∉S):Own B b v c z n:=by
 obtain ⟨h1,h2⟩:=h
 refine ⟨h1,h2.imp id ?_⟩
 rintro ⟨i,e,h0,hm,hb,hi⟩
 exact ⟨i,e,h0,m.get hi (hv i 0 n n e) hm,hb,zll hi m.next⟩
end
def At (st:SS) (i:Nat) (row:List Value):Prop:=st.mem.get i=some (.cells row 0)∧i<st.next∧st.lim≤i
section
variable {S : List Nat} {st st' : SS} {i k n : Nat} {row row' vs : List Value}
theorem At.mem (h:At st i row):st.mem.get i=some (.cells row 0):=h.1
theorem At.lt (h:At st i row):i<st.next:=h.2.1
theorem At.mod (h:At st i row) (m:Mod S st st') (hi:i∉S):At st' i row:=⟨m.get h.lt hi h.1,zll h.lt m.next,by rw [m.lim];exact h.2.2⟩
theorem At.ext (h:At st i row) (m:Ext st st'):At st' i row:=h.mod (S:=[]) (.ofExt m) (by simp)
theorem At.adv (h:At st i row) (hn:st.next≤n):At (st.adv n) i row:=h.ext (.advR st hn)
theorem At.ld (h:At st i row):st.ld i k=row[k]?:=SS.ld_cells h.1
theorem At.rd (h:At st i row):st.rd i k=row[k]?:=SS.rd_cells h.1
theorem At.ldN (h:At st i row) (hn:row.length=n):st.ldN i 0 n=some (.agg row.toArray):=by rw [SS.ldN_cells h.1,zgj hn];rfl
theorem At.rdN (h:At st i row) (hn:row.length=n):st.rdN i 0 n=some (.agg row.toArray):=by rw [SS.rdN_cells h.1,zgj hn];rfl
theorem At.ldC (h:At st i row) {d:List Value} (hd:cut row k n=some d):st.ldN i k n=some (.agg d.toArray):=by rw [SS.ldN_cells h.1,hd];rfl
theorem At.sto (h:At st i row) (h1:vs.all one=true) (hs:zc9 row k vs=some row'):∃ st',st.st i k vs=some st'∧At st' i row'∧Mod [i] st st'∧st'.next=st.next:=
 ⟨_,SS.st_cells h.1 h.2.2 h1 hs,⟨by simp,h.2.1,h.2.2⟩,⟨zlr _,rfl,fun j hj hS=>SS.set_old (by simpa using hS)⟩,rfl⟩
theorem At.stV (h:At st i row) {v:Value} (hv:v.cells.toList=vs) (hn:vs.length=n) (h1:vs.all one=true) (hs:zc9 row k vs=some row'):∃ st',st.stV i k n v=some st'∧At st' i row'∧Mod [i] st st'∧st'.next=st.next:=by
 obtain ⟨st',a,b,c,d⟩:=h.sto h1 hs
 refine ⟨st',?_,b,c,d⟩
 unfold SS.stV
 have e:v.cells.size=n:=by rw [← hn,← hv];simp
 rw [e,hv,a]
 simp
theorem At.new (hl:st.lim≤st.next) (row:List Value):At (st.new (.cells row 0)) st.next row:=⟨by simp,by simp,hl⟩
theorem Mod.new (ob:AObj):Mod [] st (st.new ob):=.ofExt ((Ext.refl st).new ob)
theorem zaQ (hl:st.lim≤st.next) {r:List Value} {v:Value} (hv:v.cells.toList=row) (hn:row.length=n) (h1:row.all one=true) (hr:r.length=n):∃ st',(st.new (.cells r 0)).stV st.next 0 n v=some st'∧At st' st.next row∧Ext st st'∧st'.next=st.next+1:=by
 obtain ⟨st',a,b,c,d⟩:=(At.new hl r).stV (k:=0) hv hn h1 (row':=row) (by rw [zbB (by omega)];simp [hn,hr])
 refine ⟨st',a,b,?_,d⟩
 exact (((Mod.new (.cells r 0)).mono (T:=[st.next]) (by simp)).then c).fresh (by simp)
theorem ziK (hl:st.lim≤st.next) {r:List Value} (h1:row.all one=true) (hr:r.length=row.length):∃ st',(st.new (.cells r 0)).st st.next 0 row=some st'∧At st' st.next row∧Ext st st'∧st'.next=st.next+1:=by
 obtain ⟨st',a,b,c,d⟩:=(At.new hl r).sto (k:=0) (vs:=row) (row':=row) h1 (by rw [zbB (by omega)];simp [hr])
 exact ⟨st',a,b,(((Mod.new (.cells r 0)).mono (T:=[st.next]) (by simp)).then c).fresh (by simp),d⟩
end
theorem zaJ (row:List Value):(Value.agg row.toArray).cells.toList=row:=by simp [Value.cells]
theorem Own.modLt {S:List Nat} {a b:SS} {B:Nat} {v:Value} {c:List Value} {z n:Nat} (h:Own B a v c z n) (m:Mod S a b) (hS:∀ j,j∈S→j<B):Own B b v c z n:=by
 obtain ⟨h1,h2⟩:=h
 refine ⟨h1,h2.imp id ?_⟩
 rintro ⟨i,e,h0,hm,hb,hi⟩
 exact ⟨i,e,h0,m.get hi (fun hx=>by have:=hS i hx;omega) hm,hb,zll hi m.next⟩
theorem Rd.row1 {st:SS} {row:List Value} {z:Nat} (h:row.length=z):Rd (st.new (.cells row z)) (.slice (some ⟨st.next,0,none⟩) 1 1) row z 1:=
 ⟨by rw [h,Nat.one_mul],.inr ⟨st.next,1,rfl,⟨z,SS.new_get⟩,by simp⟩⟩
theorem Own.push {b:Nat} {st:SS} {v:Value} {c row:List Value} {z n bt:Nat} (h:Own b st v c z n) (hb:b≤st.next) (hl:st.lim≤b) (hr:row.length=z) (hz:0<z) (h1:row.all one=true) (hs:(n+2)*bt≤2^44) (hn:n+1≤2^44):
  ∃ v' st',(st.new (.cells row z)).app z bt v (.slice (some ⟨st.next,0,none⟩) 1 1)=some (v',st')∧Own b st' v' (c++row) z (n+1)∧(∀ st0,st0.next≤b→Ext st0 st→Ext st0 st')∧st'.lim=st.lim∧st.next≤st'.next∧
   ∀ j,j<st.next→(∀ q,v≠.slice (some ⟨j,0,none⟩) q q)→st'.mem.get j=st.mem.get j:=by
 obtain ⟨v',st',g1,g2,g3,g4,g5,g6⟩:=(h.ext ((Ext.refl st).new (.cells row z))).app (Rd.row1 (st:=st) hr) (zlt hb (Nat.le_succ _)) hl hz h1 (bt:=bt) (by simpa [Nat.add_assoc] using hs) hn
 exact ⟨v',st',g1,g2,fun st0 h0 he=>g5 st0 h0 (he.new _),g3,zlt (Nat.le_succ _) g4,fun j hj hv=>by rw [g6 j (by simp;omega) hv,SS.new_old (by omega)]⟩
theorem Own.pushM {b:Nat} {st:SS} {v:Value} {c row:List Value} {z n bt:Nat} (h:Own b st v c z n) (hb:b≤st.next) (hl:st.lim≤b) (hr:row.length=z) (hz:0<z) (h1:row.all one=true) (hs:(n+2)*bt≤2^44) (hn:n+1≤2^44):
  ∃ v' st',(st.new (.cells row z)).app z bt v (.slice (some ⟨st.next,0,none⟩) 1 1)=some (v',st')∧Own b st' v' (c++row) z (n+1)∧st'.lim=st.lim∧st.next≤st'.next∧(∀ j,j<b→st'.mem.get j=st.mem.get j):=by
 obtain ⟨v',st',g1,g2,g3,g4,g5,g6⟩:=h.push hb hl hr hz h1 hs hn
 refine ⟨v',st',g1,g2,g4,g5,fun j hj=>g6 j (by omega) fun q e=>?_⟩
 obtain ⟨_,⟨rfl,_⟩ | ⟨i,rfl,_,_,hbi,_⟩⟩:=h
 ·cases e
 ·cases e;omega
structure Keep (B:Nat) (S:List Nat) (a b:SS):Prop where
 next:a.next≤b.next
 lim:b.lim=a.lim
 keep:∀ j,j<B→j∉S→b.mem.get j=a.mem.get j
section
variable {S : List Nat} {a b c : SS} {B i : Nat}
theorem Keep.refl (a:SS):Keep B S a a:=⟨zlr _,rfl,fun _ _ _=>rfl⟩
theorem Keep.then (h:Keep B S a b) (k:Keep B S b c):Keep B S a c:=⟨zlt h.next k.next,k.lim.trans h.lim,fun j hj hS=>(k.keep j hj hS).trans (h.keep j hj hS)⟩
theorem Mod.keepB (h:Mod S a b) (hB:B≤a.next):Keep B S a b:=⟨h.next,h.lim,fun j hj hS=>h.keep j (by omega) hS⟩
theorem Ext.keepB (h:Ext a b) (hB:B≤a.next):Keep B S a b:=⟨h.next,h.lim,fun j hj _=>h.keep j (by omega)⟩
theorem Keep.mod (h:Keep B S a b) (hB:a.next≤B):Mod S a b:=⟨h.next,h.lim,fun j hj hS=>h.keep j (by omega) hS⟩
theorem Keep.mono {B':Nat} {T:List Nat} (h:Keep B S a b) (hB:B'≤B) (hS:∀ j,j∈S→j<B'→j∈T):Keep B' T a b:=⟨h.next,h.lim,fun j hj hT=>h.keep j (by omega) fun hm=>hT (hS j hm hj)⟩
theorem Keep.thenX (h:Keep B S a b) (k:Ext b c) (hB:B≤b.next):Keep B S a c:=h.then (k.keepB hB)
theorem Keep.thenM (h:Keep B S a b) (k:Mod S b c) (hB:B≤b.next):Keep B S a c:=h.then (k.keepB hB)
theorem Keep.thenI (h:Keep B S a b) (k:Mod [i] b c) (hB:B≤b.next) (hi:B≤i∨i∈S):Keep B S a c:=h.then ⟨k.next,k.lim,fun j hj hS=>k.keep j (by omega) fun hm=>by
 have:j=i:=by simpa using hm
 subst this
 rcases hi with hi | hi
 ·omega
 ·exact hS hi⟩
theorem Keep.ll (h:Keep B S a b) (hl:a.lim≤a.next):b.lim≤b.next:=by rw [h.lim];exact zlt hl h.next
theorem At.keepB {row:List Value} (h:At a i row) (k:Keep B S a b) (hB:i<B) (hi:i∉S):At b i row:=⟨(k.keep i hB hi).trans h.1,zll h.2.1 k.next,by rw [k.lim];exact h.2.2⟩
theorem Own.cell {v:Value} {c:List Value} {z n:Nat} (h:Own B a v c z n):v.cells.toList=[v]∧one v=true:=by
 obtain ⟨_,⟨rfl,_⟩ | ⟨i,rfl,_⟩⟩:=h<;>exact ⟨rfl,rfl⟩
theorem Own.pushK {b:Nat} {st:SS} {v:Value} {c row:List Value} {z n bt:Nat} (h:Own b st v c z n) (hb:b≤st.next) (hl:st.lim≤b) (hr:row.length=z) (hz:0<z) (h1:row.all one=true) (hs:(n+2)*bt≤2^44) (hn:n+1≤2^44):
  ∃ v' st',(st.new (.cells row z)).app z bt v (.slice (some ⟨st.next,0,none⟩) 1 1)=some (v',st')∧Own b st' v' (c++row) z (n+1)∧∀ S,Keep b S st st':=by
 obtain ⟨v',st',g1,g2,g3,g4,g5⟩:=h.pushM hb hl hr hz h1 hs hn
 exact ⟨v',st',g1,g2,fun S=>⟨g4,g3,fun j hj _=>g5 j hj⟩⟩
end
theorem Own.pushN {b:Nat} {st:SS} {v:Value} {c row:List Value} {z n bt:Nat} (h:Own b st v c z n) (hb:b≤st.next) (hl:st.lim≤b) (hr:row.length=z) (hz:0<z) (h1:row.all one=true) (hs:(n+2)*bt≤2^44) (hn:n+1≤2^44):
  ∃ k st',(st.new (.cells row z)).app z bt v (.slice (some ⟨st.next,0,none⟩) 1 1)=some (.slice (some ⟨k,0,none⟩) (n+1) (n+1),st')∧st.next≤k∧Own b st' (.slice (some ⟨k,0,none⟩) (n+1) (n+1)) (c++row) z (n+1)∧st'.lim=st.lim∧st.next≤st'.next∧
   ∀ j,j<st.next→(∀ q,v≠.slice (some ⟨j,0,none⟩) q q)→st'.mem.get j=st.mem.get j:=by
 obtain ⟨v',st',g1,g2,g3,g4,g5,g6⟩:=h.push hb hl hr hz h1 hs hn
 have key:∃ k,v'=.slice (some ⟨k,0,none⟩) (n+1) (n+1)∧st.next≤k:=by
  have hx:=Rd.row1 (st:=st) hr
  obtain ⟨e1,e2⟩:=hx.first
  unfold SS.app at g1
  rw [e1] at g1
  simp only [zob] at g1
  have hm0:Nat.beq 1 0=false:=rfl
  obtain ⟨h2,h3⟩:=h
  rcases h3 with ⟨rfl,rfl⟩ | ⟨i,rfl,h0,hmem,hbi,hi⟩
  ·have q:(Nat.ble ((1+1)*bt) (2^44)&&Nat.ble 1 (2^44))=true:=by
    simp only [zae,Nat.ble_eq]
    simp only [Nat.zero_add] at hs
    exact ⟨hs,by omega⟩
   simp only [hm0,zcf,q,zct,e2,zob] at g1
   cases g1
   exact ⟨_,rfl,by simp⟩
  ·have q:(Nat.ble ((n+1+1)*bt) (2^44)&&Nat.ble (n+1) (2^44)&&Nat.ble (st.new (.cells row z)).lim i)=true:=by
    simp only [zae,Nat.ble_eq]
    exact ⟨⟨hs,hn⟩,by simp;omega⟩
   have q2:(Nat.beq z z&&(Nat.blt n (n+1)||Nat.ble (0+n*z) c.length))=true:=by
    have a:Nat.beq z z=true:=by rw [zaC];simp
    have b':Nat.blt n (n+1)=true:=by rw [Nat.blt_eq];omega
    rw [a,b'];rfl
   have hmem':(st.new (.cells row z)).mem.get i=some (.cells c z):=by rw [SS.new_old (by omega)];exact hmem
   simp only [hm0,zcf,q,zct,hmem',zob,q2,zgj h2,e2,h1] at g1
   cases g1
   exact ⟨_,rfl,by simp⟩
 obtain ⟨k,rfl,hk⟩:=key
 exact ⟨k,st',g1,hk,g2,g4,g5,g6⟩
theorem za9 {s:SS} {j0 j1 n:Nat} {row0 row1:List Value} (h0:At s j0 row0) (l0:row0.length=n) (h1:At s j1 row1) (l1:row1.length=n) (ho:row1.all one=true):
  ∃ s',s.ldN j1 0 n=some (.agg row1.toArray)∧s.stV j0 0 n (.agg row1.toArray)=some s'∧s'.rdN j0 0 n=some (.agg row1.toArray)∧Mod [j0] s s'∧At s' j0 row1:=by
 obtain ⟨s',e,a,m,_⟩:=h0.stV (k:=0) (zaJ row1) l1 ho (row':=row1) (by rw [zbB (by omega)];simp [l0,l1])
 exact ⟨s',h1.ldN l1,e,a.rdN l1,m,a⟩
def rowsF {α:Type} (f:α→List Value) (l:List α):List Value:=l.flatMap f
section
variable {α : Type} {f : α → List Value} {z : Nat}
theorem zbS (a b:List α):rowsF f (a++b)=rowsF f a++rowsF f b:=by simp [rowsF]
theorem zdh (a:α) (b:List α):rowsF f (a::b)=f a++rowsF f b:=by simp [rowsF]
theorem zcV (a:α):rowsF f [a]=f a:=by simp [rowsF]
theorem zhY (hz:∀ x,(f x).length=z) (l:List α):(rowsF f l).length=l.length*z:=by
 induction l with
 | nil=>simp [rowsF]
 | cons a l ih=>rw [zdh,List.length_append,ih,hz,List.length_cons,Nat.add_mul];omega
theorem zbv (hz:∀ x,(f x).length=z) (l:List α) (i:Nat) (x:α) (h:l[i]?=some x):((rowsF f l).drop (i*z)).take z=f x:=by
 induction l generalizing i with
 | nil=>cases h
 | cons a l ih=>
   rw [zdh]
   cases i with
   | zero=>
     have:a=x:=by simpa using h
     subst this
     rw [Nat.zero_mul,List.drop_zero,List.take_append_of_le_length (by rw [hz];omega),List.take_of_length_le (by rw [hz];omega)]
   | succ i=>
     have e:(i+1)*z=(f a).length+i*z:=by rw [hz,Nat.add_mul];omega
     rw [e,List.drop_append,List.drop_of_length_le (by omega),List.nil_append,Nat.add_sub_cancel_left]
     exact ih i (by simpa using h)
end
theorem zmM {i k:Nat} (h:i≤1099511627776) (hk:k≤1099511627776):IntKind.wrap .i64 ((i:Int)+(k:Int))=((i+k:Nat):Int):=by rw [wrap64 (by omega) (by omega)];omega
theorem za6 {i:Nat} (h:i≤1099511627776):IntKind.wrap .i64 ((i:Int)+1)=((i+1:Nat):Int):=zmM h (k:=1) (by omega)
end Go.E
namespace Go.Proofs.YtifploedaacedaaGreatDoorE
set_option maxRecDepth 20000
open Go Go.E Go.Proofs
def zf6:LoopI:=⟨[(0,.str),(9,.any),(10,.int .i64),(12,.int .i64)],[(.exit 6,[(0,.str),(9,.any),(10,.int .i64),(12,.int .i64)])]⟩
def zf7:LoopI:=⟨[(0,.str),(9,.any),(10,.int .i64),(11,.int .i64),(12,.int .i64)],[(.exit 4,[(0,.str),(9,.any),(10,.int .i64),(11,.int .i64)])]⟩
def zf8:LoopI:=⟨[(0,.str),(9,.any),(10,.int .i64),(12,.int .i64)],[(.exit 2,[(0,.str),(9,.any),(10,.int .i64),(12,.int .i64)])]⟩
def zgJ:LoopI:=⟨[(0,.str),(3,.int .i64),(4,.int .i64),(5,.int .u8),(6,.int .i64)],[(.exit 0,[(0,.str),(3,.int .i64),(5,.int .u8)])]⟩
def zgR (n:Nat):Option LoopI:=cond (Nat.beq n 5) (some zgJ) (cond (Nat.beq n 18) (some zf8) (cond (Nat.beq n 21) (some zf7) (cond (Nat.beq n 27) (some zf6) (none))))
noncomputable def strings_Fields (cf:zak) (lf:zac) (s':ByteArray) (st:SS):Option (Value×SS):=
 (lf 5 [.string s',.int .i64 0,.int .i64 1,.int .u8 0,.int .i64 0] st).bind fun a=>
 ((a.2.1[0]?).bind asS).bind fun b=>
 ((a.2.1[1]?).bind (asI .i64)).bind fun c=>
 ((a.2.1[2]?).bind (asI .u8)).bind fun d=>
 cond (decide (128≤d)) (
 (cf 167 [.string b,.func (.func 168) #[] #[]] a.2.2).bind fun e=>
 some (e.1,e.2)) (
 (zfb c c 16).bind fun _=>
 let f:SS:=a.2.2.new (.cells (zeX [.string ⟨#[]⟩] c) 1)
 (lf 18 [.string b,.slice (some ⟨a.2.2.next,0,none⟩) ((c:Int).toNat) ((c:Int).toNat),.int .i64 0,.int .i64 0] f).bind fun g=>
 ((g.2.1[0]?).bind asS).bind fun h=>
 (g.2.1[1]?).bind fun i=>
 ((g.2.1[2]?).bind (asI .i64)).bind fun j=>
 ((g.2.1[3]?).bind (asI .i64)).bind fun k=>
 (lf 21 [.string h,i,.int .i64 j,.int .i64 k,.int .i64 k] g.2.2).bind fun l=>
 ((l.2.1[0]?).bind asS).bind fun m=>
 (l.2.1[1]?).bind fun n=>
 ((l.2.1[2]?).bind (asI .i64)).bind fun o=>
 ((l.2.1[3]?).bind (asI .i64)).bind fun p=>
 cond (decide (p<(m.size:Int))) (
 (zbk m p (m.size:Int)).bind fun q=>
 (zar n o 1).bind fun r=>
 (l.2.2.st r.1 r.2 [.string q]).bind fun s=>
 some (n,s)) (
 some (n,l.2.2)))
noncomputable abbrev zaI:zac:=lS Tryz.prog Lk0 Tryz.f149 zgR
theorem zlc:Lk0.func 149=some (149,Tryz.f149):=by kernel_rfl
theorem zld [Sym] (s':ByteArray) (st:SS) {r:Value×SS} (h:strings_Fields cc zaI s' st=some r):cc 149 [.string s'] st=some r:=
 zah (li:=zgR) zai zaq zlc rfl (fun _=>rfl) (.trans (by kernel_rfl) h)
noncomputable def zeS (cf:zak) (lf:zac) (s':ByteArray) (n':Int) (wasSpace':Int) (setBits':Int) (i':Int) (st:SS):Option (Nat×List Value×SS):=
 cond (decide (i'<(s'.size:Int))) (
 ((zdu s' i').bind (asI .u8)).bind fun a=>
 let b:Int:=orI .u8 setBits' a
 (zbe (ptr 2 0) 256 a 1).bind fun c=>
 ((st.ld c.1 c.2).bind (asI .u8)).bind fun d=>
 let e:Int:=IntKind.wrap .i64 d
 let f:Int:=xorI .i64 (-1) e
 let g:Int:=zlN .i64 wasSpace' f
 let h:Int:=IntKind.wrap .i64 (n'+g)
 let i:Int:=IntKind.wrap .i64 (i'+1)
 lf 5 [.string s',.int .i64 h,.int .i64 e,.int .u8 b,.int .i64 i] st) (
 some (0,[.string s',.int .i64 n',.int .u8 setBits'],st))
theorem zfT [Sym] (s':ByteArray) (n':Int) (wasSpace':Int) (setBits':Int) (i':Int) (st:SS) {r:Nat×List Value×SS} (h:zeS cc zaI s' n' wasSpace' setBits' i' st=some r):zaI 5 [.string s',.int .i64 n',.int .i64 wasSpace',.int .u8 setBits',.int .i64 i'] st=some r:=
 zax zai zaq (key:=5) (I:=zgJ) rfl (by kernel_rfl) (by kernel_rfl) rfl rfl (.trans (by kernel_rfl) h)
noncomputable def zet (cf:zak) (lf:zac) (s':ByteArray) (a':Value) (na':Int) (i':Int) (st:SS):Option (Nat×List Value×SS):=
 cond (decide (i'<(s'.size:Int))) (
 ((zdu s' i').bind (asI .u8)).bind fun a=>
 (zbe (ptr 2 0) 256 a 1).bind fun b=>
 ((st.ld b.1 b.2).bind (asI .u8)).bind fun c=>
 cond (!(decide (c=0))) (
 let d:Int:=IntKind.wrap .i64 (i'+1)
 lf 18 [.string s',a',.int .i64 na',.int .i64 d] st) (
 some (0,[.string s',a',.int .i64 na',.int .i64 i'],st))) (
 some (0,[.string s',a',.int .i64 na',.int .i64 i'],st))
theorem ziL [Sym] (s':ByteArray) (a':Value) (na':Int) (i':Int) (st:SS) {r:Nat×List Value×SS} (h:zet cc zaI s' a' na' i' st=some r):zaI 18 [.string s',a',.int .i64 na',.int .i64 i'] st=some r:=
 zax zai zaq (key:=18) (I:=zf8) rfl (by kernel_rfl) (by kernel_rfl) rfl rfl (.trans (by kernel_rfl) h)
noncomputable def zdi (cf:zak) (lf:zac) (s':ByteArray) (a':Value) (na':Int) (fieldStart':Int) (i':Int) (st:SS):Option (Nat×List Value×SS):=
 cond (decide (i'<(s'.size:Int))) (
 ((zdu s' i').bind (asI .u8)).bind fun a=>
 (zbe (ptr 2 0) 256 a 1).bind fun b=>
 ((st.ld b.1 b.2).bind (asI .u8)).bind fun c=>
 cond (decide (c=0)) (
 let d:Int:=IntKind.wrap .i64 (i'+1)
 lf 21 [.string s',a',.int .i64 na',.int .i64 fieldStart',.int .i64 d] st) (
 (zbk s' fieldStart' i').bind fun e=>
 (zar a' na' 1).bind fun f=>
 (st.st f.1 f.2 [.string e]).bind fun g=>
 let h:Int:=IntKind.wrap .i64 (na'+1)
 let i:Int:=IntKind.wrap .i64 (i'+1)
 (lf 27 [.string s',a',.int .i64 h,.int .i64 i] g).bind fun j=>
 ((j.2.1[0]?).bind asS).bind fun k=>
 (j.2.1[1]?).bind fun l=>
 ((j.2.1[2]?).bind (asI .i64)).bind fun m=>
 ((j.2.1[3]?).bind (asI .i64)).bind fun n=>
 lf 21 [.string k,l,.int .i64 m,.int .i64 n,.int .i64 n] j.2.2)) (
 some (0,[.string s',a',.int .i64 na',.int .i64 fieldStart'],st))
theorem zdF [Sym] (s':ByteArray) (a':Value) (na':Int) (fieldStart':Int) (i':Int) (st:SS) {r:Nat×List Value×SS} (h:zdi cc zaI s' a' na' fieldStart' i' st=some r):zaI 21 [.string s',a',.int .i64 na',.int .i64 fieldStart',.int .i64 i'] st=some r:=
 zax zai zaq (key:=21) (I:=zf7) rfl (by kernel_rfl) (by kernel_rfl) rfl rfl (.trans (by kernel_rfl) h)
noncomputable def zeu (cf:zak) (lf:zac) (s':ByteArray) (a':Value) (na':Int) (i':Int) (st:SS):Option (Nat×List Value×SS):=
 cond (decide (i'<(s'.size:Int))) (
 ((zdu s' i').bind (asI .u8)).bind fun a=>
 (zbe (ptr 2 0) 256 a 1).bind fun b=>
 ((st.ld b.1 b.2).bind (asI .u8)).bind fun c=>
 cond (!(decide (c=0))) (
 let d:Int:=IntKind.wrap .i64 (i'+1)
 lf 27 [.string s',a',.int .i64 na',.int .i64 d] st) (
 some (0,[.string s',a',.int .i64 na',.int .i64 i'],st))) (
 some (0,[.string s',a',.int .i64 na',.int .i64 i'],st))
theorem ziM [Sym] (s':ByteArray) (a':Value) (na':Int) (i':Int) (st:SS) {r:Nat×List Value×SS} (h:zeu cc zaI s' a' na' i' st=some r):zaI 27 [.string s',a',.int .i64 na',.int .i64 i'] st=some r:=
 zax zai zaq (key:=27) (I:=zf6) rfl (by kernel_rfl) (by kernel_rfl) rfl rfl (.trans (by kernel_rfl) h)
noncomputable def zo7 (cf:zak) (lf:zac) (s':ByteArray) (st:SS):Option (Value×SS):=
 (cf 149 [.string s'] st).bind fun a=>
 some (a.1,a.2)
noncomputable abbrev zpE:zac:=lS Tryz.prog Lk0 Tryz.f136 zaG
theorem zpF:Lk0.func 136=some (136,Tryz.f136):=by kernel_rfl
theorem zpG [Sym] (s':ByteArray) (st:SS) {r:Value×SS} (h:zo7 cc zpE s' st=some r):cc 136 [.string s'] st=some r:=
 zah (li:=zaG) zai zaq zpF rfl (fun _=>rfl) (.trans (by kernel_rfl) h)
noncomputable def zbW (cf:zak) (lf:zac) (field':ByteArray) (st:SS):Option (Value×SS):=
 cond (eqT field' ⟨#[97,108,117]⟩) (
 (cf 136 [.string ⟨#[110,111,110,101,32,109,111,118,32,110,111,116,32,110,101,103,32,105,110,99,32,100,101,99,32,97,100,100,32,115,117,98,32,97,100,100,99,32,115,117,98,99,32,109,117,108,32,100,105,118,32,111,114,32,98,105,99,32,120,111,114,32,97,110,100,32,99,109,112,32,116,101,115,116,32,99,108,101,97,114,32,115,120,98,32,115,120,119,32,122,120,98,32,122,120,119,32,115,104,108,32,115,104,114,32,97,115,104,32,114,111,116,32,111,112,32,115,120,111,32,101,120,116,32,105,110,115,32,99,118,116]⟩] st).bind fun a=>
 some (a.1,a.2)) (
 cond (eqT field' ⟨#[97]⟩) (
 cond (eqT field' ⟨#[97]⟩) (
 (cf 136 [.string ⟨#[114,48,32,114,49,32,114,50,32,114,51,32,114,52,32,114,53,32,114,54,32,114,55,32,114,56,32,114,57,32,114,49,48,32,114,49,49,32,114,49,50,32,114,49,51,32,114,49,52,32,114,49,53,32,116,48,32,116,49,32,116,50,32,116,51,32,116,52,32,116,53,32,116,54,32,116,55,32,118,48,32,118,49,32,118,50,32,118,51,32,118,52,32,118,53,32,97,48,32,97,49,32,97,50,32,97,51,32,97,52,32,97,53,32,109,100,32,118,97,32,112,115,108,32,114,110,32,114,120,32,108,105,116,32,122,101,114,111,32,118,101,99,32,112,48,32,112,49,32,115,116,97,114,116,32,115,99,98,98,32,107,115,112,32,117,115,112,32,100,105,115,112,32,111,115,105,122,101,32,105,108,101,110,32,108,101,118,101,108,32,118,99,32,97,99,32,97,108,32,107,108,32,99,110,116,32,110,112]⟩] st).bind fun b=>
 some (b.1,b.2)) (
 cond (eqT field' ⟨#[115,105,122,101]⟩) (
 (cf 136 [.string ⟨#[98,121,116,101,32,119,111,114,100,32,108,111,110,103,32,111,119,110]⟩] st).bind fun c=>
 some (c.1,c.2)) (
 cond (eqT field' ⟨#[99,99]⟩) (
 (cf 136 [.string ⟨#[107,101,101,112,32,115,101,116,32,115,101,116,107]⟩] st).bind fun d=>
 some (d.1,d.2)) (
 cond (eqT field' ⟨#[109,101,109]⟩) (
 (cf 136 [.string ⟨#[110,111,110,101,32,114,100,32,119,114,32,112,114,111,98,101,32,98,108,100,32,98,115,116,32,98,112,117,116,32,98,103,101,116,32,98,99,108,114,32,105,102,32,114,100,112,32,107,115,116,32,114,111,119,32,117,110,114,111,119,32,114,111,119,97,32,102,108,117,115,104]⟩] st).bind fun e=>
 some (e.1,e.2)) (
 cond (eqT field' ⟨#[115,101,113]⟩) (
 (cf 136 [.string ⟨#[110,101,120,116,32,106,109,112,32,99,106,32,99,97,108,108,32,114,101,116,32,115,112,101,99,32,109,111,100,101,32,101,110,100]⟩] st).bind fun f=>
 some (f.1,f.2)) (
 cond (eqT field' ⟨#[99,111,110,100]⟩) (
 (cf 136 [.string ⟨#[97,108,119,97,121,115,32,122,32,110,122,32,110,101,103,32,112,111,115,32,99,32,110,99,32,117,115,101,114,32,107,101,114,110,101,108,32,102,112,100,32,110,111,102,112,100,32,116,97,107,101,110,32,109,97,116,99,104,32,107,49,32,107,50,32,107,51,32,108,97,115,116,114,101,103,32,102,32,114,101,97,100,115,32,105,110,100,101,120,32,100,105,118,32,108,101,115,115,97,108,117,32,97,108,117,49,32,115,116,114,105,110,103,32,110,111,105,110,100,101,120,32,110,111,114,101,97,100,115,32,111,118,101,114]⟩] st).bind fun g=>
 some (g.1,g.2)) (
 cond (eqT field' ⟨#[109,105,115,99]⟩) (
 (cf 136 [.string ⟨#[110,111,110,101,32,115,116,101,112,32,117,110,100,111,32,115,101,116,102,112,100,32,99,108,114,102,112,100,32,114,97,105,115,101,32,108,97,116,99,104,107,32,108,97,116,99,104,120,32,109,116,112,114,32,109,102,112,114,32,101,110,116,101,114,32,112,117,116,112,115,108,32,104,97,108,116,32,98,97,99,107,32,100,101,99,111,100,101,32,115,101,108,32,115,101,108,107,32,111,119,110,108,97,115,116,32,112,105,99,107,32,112,105,99,107,116,111,112,32,112,97,114,97,109,115,32,99,111,117,110,116]⟩] st).bind fun h=>
 some (h.1,h.2)) (
 some (.slice none 0 0,st))))))))) (
 cond (eqT field' ⟨#[98]⟩) (
 cond (eqT field' ⟨#[98]⟩) (
 (cf 136 [.string ⟨#[114,48,32,114,49,32,114,50,32,114,51,32,114,52,32,114,53,32,114,54,32,114,55,32,114,56,32,114,57,32,114,49,48,32,114,49,49,32,114,49,50,32,114,49,51,32,114,49,52,32,114,49,53,32,116,48,32,116,49,32,116,50,32,116,51,32,116,52,32,116,53,32,116,54,32,116,55,32,118,48,32,118,49,32,118,50,32,118,51,32,118,52,32,118,53,32,97,48,32,97,49,32,97,50,32,97,51,32,97,52,32,97,53,32,109,100,32,118,97,32,112,115,108,32,114,110,32,114,120,32,108,105,116,32,122,101,114,111,32,118,101,99,32,112,48,32,112,49,32,115,116,97,114,116,32,115,99,98,98,32,107,115,112,32,117,115,112,32,100,105,115,112,32,111,115,105,122,101,32,105,108,101,110,32,108,101,118,101,108,32,118,99,32,97,99,32,97,108,32,107,108,32,99,110,116,32,110,112]⟩] st).bind fun i=>
 some (i.1,i.2)) (
 cond (eqT field' ⟨#[115,105,122,101]⟩) (
 (cf 136 [.string ⟨#[98,121,116,101,32,119,111,114,100,32,108,111,110,103,32,111,119,110]⟩] st).bind fun j=>
 some (j.1,j.2)) (
 cond (eqT field' ⟨#[99,99]⟩) (
 (cf 136 [.string ⟨#[107,101,101,112,32,115,101,116,32,115,101,116,107]⟩] st).bind fun k=>
 some (k.1,k.2)) (
 cond (eqT field' ⟨#[109,101,109]⟩) (
 (cf 136 [.string ⟨#[110,111,110,101,32,114,100,32,119,114,32,112,114,111,98,101,32,98,108,100,32,98,115,116,32,98,112,117,116,32,98,103,101,116,32,98,99,108,114,32,105,102,32,114,100,112,32,107,115,116,32,114,111,119,32,117,110,114,111,119,32,114,111,119,97,32,102,108,117,115,104]⟩] st).bind fun l=>
 some (l.1,l.2)) (
 cond (eqT field' ⟨#[115,101,113]⟩) (
 (cf 136 [.string ⟨#[110,101,120,116,32,106,109,112,32,99,106,32,99,97,108,108,32,114,101,116,32,115,112,101,99,32,109,111,100,101,32,101,110,100]⟩] st).bind fun m=>
 some (m.1,m.2)) (
 cond (eqT field' ⟨#[99,111,110,100]⟩) (
 (cf 136 [.string ⟨#[97,108,119,97,121,115,32,122,32,110,122,32,110,101,103,32,112,111,115,32,99,32,110,99,32,117,115,101,114,32,107,101,114,110,101,108,32,102,112,100,32,110,111,102,112,100,32,116,97,107,101,110,32,109,97,116,99,104,32,107,49,32,107,50,32,107,51,32,108,97,115,116,114,101,103,32,102,32,114,101,97,100,115,32,105,110,100,101,120,32,100,105,118,32,108,101,115,115,97,108,117,32,97,108,117,49,32,115,116,114,105,110,103,32,110,111,105,110,100,101,120,32,110,111,114,101,97,100,115,32,111,118,101,114]⟩] st).bind fun n=>
 some (n.1,n.2)) (
 cond (eqT field' ⟨#[109,105,115,99]⟩) (
 (cf 136 [.string ⟨#[110,111,110,101,32,115,116,101,112,32,117,110,100,111,32,115,101,116,102,112,100,32,99,108,114,102,112,100,32,114,97,105,115,101,32,108,97,116,99,104,107,32,108,97,116,99,104,120,32,109,116,112,114,32,109,102,112,114,32,101,110,116,101,114,32,112,117,116,112,115,108,32,104,97,108,116,32,98,97,99,107,32,100,101,99,111,100,101,32,115,101,108,32,115,101,108,107,32,111,119,110,108,97,115,116,32,112,105,99,107,32,112,105,99,107,116,111,112,32,112,97,114,97,109,115,32,99,111,117,110,116]⟩] st).bind fun o=>
 some (o.1,o.2)) (
 some (.slice none 0 0,st))))))))) (
 cond (eqT field' ⟨#[100]⟩) (
 (cf 136 [.string ⟨#[114,48,32,114,49,32,114,50,32,114,51,32,114,52,32,114,53,32,114,54,32,114,55,32,114,56,32,114,57,32,114,49,48,32,114,49,49,32,114,49,50,32,114,49,51,32,114,49,52,32,114,49,53,32,116,48,32,116,49,32,116,50,32,116,51,32,116,52,32,116,53,32,116,54,32,116,55,32,118,48,32,118,49,32,118,50,32,118,51,32,118,52,32,118,53,32,97,48,32,97,49,32,97,50,32,97,51,32,97,52,32,97,53,32,109,100,32,118,97,32,112,115,108,32,114,110,32,114,120,32,108,105,116,32,122,101,114,111,32,118,101,99,32,112,48,32,112,49,32,115,116,97,114,116,32,115,99,98,98,32,107,115,112,32,117,115,112,32,100,105,115,112,32,111,115,105,122,101,32,105,108,101,110,32,108,101,118,101,108,32,118,99,32,97,99,32,97,108,32,107,108,32,99,110,116,32,110,112]⟩] st).bind fun p=>
 some (p.1,p.2)) (
 cond (eqT field' ⟨#[115,105,122,101]⟩) (
 (cf 136 [.string ⟨#[98,121,116,101,32,119,111,114,100,32,108,111,110,103,32,111,119,110]⟩] st).bind fun q=>
 some (q.1,q.2)) (
 cond (eqT field' ⟨#[99,99]⟩) (
 (cf 136 [.string ⟨#[107,101,101,112,32,115,101,116,32,115,101,116,107]⟩] st).bind fun r=>
 some (r.1,r.2)) (
 cond (eqT field' ⟨#[109,101,109]⟩) (
 (cf 136 [.string ⟨#[110,111,110,101,32,114,100,32,119,114,32,112,114,111,98,101,32,98,108,100,32,98,115,116,32,98,112,117,116,32,98,103,101,116,32,98,99,108,114,32,105,102,32,114,100,112,32,107,115,116,32,114,111,119,32,117,110,114,111,119,32,114,111,119,97,32,102,108,117,115,104]⟩] st).bind fun s=>
 some (s.1,s.2)) (
 cond (eqT field' ⟨#[115,101,113]⟩) (
 (cf 136 [.string ⟨#[110,101,120,116,32,106,109,112,32,99,106,32,99,97,108,108,32,114,101,116,32,115,112,101,99,32,109,111,100,101,32,101,110,100]⟩] st).bind fun t=>
 some (t.1,t.2)) (
 cond (eqT field' ⟨#[99,111,110,100]⟩) (
 (cf 136 [.string ⟨#[97,108,119,97,121,115,32,122,32,110,122,32,110,101,103,32,112,111,115,32,99,32,110,99,32,117,115,101,114,32,107,101,114,110,101,108,32,102,112,100,32,110,111,102,112,100,32,116,97,107,101,110,32,109,97,116,99,104,32,107,49,32,107,50,32,107,51,32,108,97,115,116,114,101,103,32,102,32,114,101,97,100,115,32,105,110,100,101,120,32,100,105,118,32,108,101,115,115,97,108,117,32,97,108,117,49,32,115,116,114,105,110,103,32,110,111,105,110,100,101,120,32,110,111,114,101,97,100,115,32,111,118,101,114]⟩] st).bind fun u=>
 some (u.1,u.2)) (
 cond (eqT field' ⟨#[109,105,115,99]⟩) (
 (cf 136 [.string ⟨#[110,111,110,101,32,115,116,101,112,32,117,110,100,111,32,115,101,116,102,112,100,32,99,108,114,102,112,100,32,114,97,105,115,101,32,108,97,116,99,104,107,32,108,97,116,99,104,120,32,109,116,112,114,32,109,102,112,114,32,101,110,116,101,114,32,112,117,116,112,115,108,32,104,97,108,116,32,98,97,99,107,32,100,101,99,111,100,101,32,115,101,108,32,115,101,108,107,32,111,119,110,108,97,115,116,32,112,105,99,107,32,112,105,99,107,116,111,112,32,112,97,114,97,109,115,32,99,111,117,110,116]⟩] st).bind fun v=>
 some (v.1,v.2)) (
 some (.slice none 0 0,st)))))))))))
noncomputable abbrev zoh:zac:=lS Tryz.prog Lk0 Tryz.f117 zaG
theorem zoi:Lk0.func 117=some (117,Tryz.f117):=by kernel_rfl
theorem zbs [Sym] (field':ByteArray) (st:SS) {r:Value×SS} (h:zbW cc zoh field' st=some r):cc 117 [.string field'] st=some r:=
 zah (li:=zaG) zai zaq zoi rfl (fun _=>rfl) (.trans (by kernel_rfl) h)
noncomputable def zdj (cf:zak) (lf:zac) (w':Value) (at0':Int) (st:SS):Option (Value×SS):=
 let a:SS:=st.new (.cells (w':Value).cells.toList 0)
 ((a.ld st.next 8).bind (asI .i64)).bind fun b=>
 cond (decide (b=0)) (
 let c:Int:=IntKind.wrap .i64 (at0'+1)
 let d:SS:=a.new (.cells ([.int .i64 c,.int .i64 1]) 2)
 some (.slice (some ⟨a.next,0,none⟩) 1 1,d)) (
 cond (decide (b=1)) (
 ((a.ld st.next 10).bind (asI .i64)).bind fun e=>
 let f:SS:=a.new (.cells ([.int .i64 e,.int .i64 1]) 2)
 some (.slice (some ⟨a.next,0,none⟩) 1 1,f)) (
 cond (decide (b=2)) (
 cond (decide (b=2)) (
 let g:Int:=IntKind.wrap .i64 (at0'+1)
 ((a.ld st.next 10).bind (asI .i64)).bind fun h=>
 let i:SS:=a.new (.cells ([.int .i64 g,.int .i64 1,.int .i64 h,.int .i64 1]) 2)
 some (.slice (some ⟨a.next,0,none⟩) 2 2,i)) (
 cond (decide (b=5)) (
 ((a.ld st.next 10).bind (asI .i64)).bind fun j=>
 let k:SS:=a.new (.cells ([.int .i64 j,.int .i64 64]) 2)
 some (.slice (some ⟨a.next,0,none⟩) 1 1,k)) (
 cond (decide (b=6)) (
 ((a.ld st.next 10).bind (asI .i64)).bind fun l=>
 let m:SS:=a.new (.cells ([.int .i64 l,.int .i64 16]) 2)
 some (.slice (some ⟨a.next,0,none⟩) 1 1,m)) (
 some (.slice none 0 0,a))))) (
 cond (decide (b=3)) (
 let n:Int:=IntKind.wrap .i64 (at0'+1)
 ((a.ld st.next 10).bind (asI .i64)).bind fun o=>
 let p:SS:=a.new (.cells ([.int .i64 n,.int .i64 1,.int .i64 o,.int .i64 1]) 2)
 some (.slice (some ⟨a.next,0,none⟩) 2 2,p)) (
 cond (decide (b=5)) (
 ((a.ld st.next 10).bind (asI .i64)).bind fun q=>
 let r:SS:=a.new (.cells ([.int .i64 q,.int .i64 64]) 2)
 some (.slice (some ⟨a.next,0,none⟩) 1 1,r)) (
 cond (decide (b=6)) (
 ((a.ld st.next 10).bind (asI .i64)).bind fun s=>
 let t:SS:=a.new (.cells ([.int .i64 s,.int .i64 16]) 2)
 some (.slice (some ⟨a.next,0,none⟩) 1 1,t)) (
 some (.slice none 0 0,a)))))))
noncomputable abbrev zoj:zac:=lS Tryz.prog Lk0 Tryz.f62 zaG
theorem zok:Lk0.func 62=some (62,Tryz.f62):=by kernel_rfl
theorem zcG [Sym] (w':Value) (at0':Int) (st:SS) {r:Value×SS} (h:zdj cc zoj w' at0' st=some r):cc 62 [w',.int .i64 at0'] st=some r:=
 zah (li:=zaG) zai zaq zok rfl (fun _=>rfl) (.trans (by kernel_rfl) h)
end Go.Proofs.YtifploedaacedaaGreatDoorE
namespace Go.Proofs.YtifploedaacedaaGreatDoorE
open Go Go.E Go.Proofs
def Simple (l:List UInt8):Bool:=l.all (fun b=>decide (b.toNat<128)&&(!Lib.isSp b||decide (b=32))&&(Lib.isSp b||decide (b≠32)))&&(pieces 32 l).all (fun p=>!p.isEmpty)
theorem Simple.byte {l:List UInt8} (h:Simple l=true) {b:UInt8} (hb:b∈l):b.toNat<128∧Lib.isSp b=decide (b=32):=by
 unfold Simple at h
 rw [zae] at h
 have:=List.all_eq_true.1 h.1 b hb
 simp only [zae,decide_eq_true_eq,Bool.or_eq_true,Bool.not_eq_true'] at this
 refine ⟨this.1.1,?_⟩
 rcases this.1.2 with h1 | h1
 ·rw [h1]
  rcases this.2 with h2 | h2
  ·rw [h1] at h2;cases h2
  ·rw [zdf h2]
 ·rw [zdt h1]
  rcases this.2 with h2 | h2
  ·exact h2
  ·exact absurd h1 h2
theorem Simple.piece {l:List UInt8} (h:Simple l=true) {p:List UInt8} (hp:p∈pieces 32 l):p≠[]:=by
 unfold Simple at h
 rw [zae] at h
 have:=List.all_eq_true.1 h.2 p hp
 intro e
 subst e
 cases this
def zjz:Bool→List UInt8→Nat
 | _,[]=>0
 | ws,b::r=>(if ws=true∧b≠32 then 1 else 0)+zjz (decide (b=32)) r
theorem zpH (l:List UInt8) (h:∀ p∈(pieces 32 l).tail,p≠[]):zjz false l+1=(pieces 32 l).length∧((pieces 32 l).head?≠some []→zjz true l=(pieces 32 l).length):=by
 induction l with
 | nil=>exact ⟨rfl,fun h=>absurd rfl h⟩
 | cons b r ih=>
   rw [zfS] at h ⊢
   by_cases hb:b=32
   ·subst hb
    rw [if_pos rfl] at h ⊢
    have h2:∀ p∈pieces 32 r,p≠[]:=h
    have hne:=zdM 32 r
    have ih':=ih fun p hp=>h2 p (List.mem_of_mem_tail hp)
    have hh:(pieces 32 r).head?≠some []:=by
     cases hp:pieces 32 r with
     | nil=>exact absurd hp hne
     | cons x y=>rw [hp] at h2;intro e;simp at e;exact h2 x (by simp) e
    refine ⟨?_,fun hc=>absurd rfl hc⟩
    show (if _ then _ else _)+zjz (decide ((32:UInt8)=32)) r+1=_
    rw [zdt rfl,ih'.2 hh]
    simp
   ·rw [if_neg hb] at h ⊢
    cases hp:pieces 32 r with
    | nil=>exact absurd hp (zdM 32 r)
    | cons x y=>
      rw [hp] at h ih
      have ih':=ih h
      have e:decide (b=32)=false:=zdf hb
      refine ⟨?_,fun _=>?_⟩
      ·show (if _ then _ else _)+zjz (decide (b=32)) r+1=_
       rw [e]
       simp at ih' ⊢
       omega
      ·show (if _ then _ else _)+zjz (decide (b=32)) r=_
       rw [e,if_pos ⟨rfl,hb⟩]
       simp at ih' ⊢
       omega
theorem zjA {i k len z n:Nat} (h:n<len):zbe (ptr i k) len (n:Int) z=some (i,k+n*z):=by
 have h1:(0:Int)≤(n:Int):=by omega
 have h2:(n:Int)<(len:Int):=by omega
 unfold ptr zbe
 simp only [zdt h1,zdt h2,Bool.and_self,zct,Int.toNat_natCast]
theorem zjB {st:SS} (hg:Gd st) {b:UInt8}:st.ld 2 (0+b.toNat*1)=some (.int .u8 (if Lib.isSp b=true then 1 else 0)):=by
 rw [SS.ld_table hg.gS]
 have hb:=b.toNat_lt
 have e:0+b.toNat*1=b.toNat:=by omega
 unfold asciiC Lib.asciiSpaceTab
 rw [e,List.getElem?_map,List.getElem?_map,List.getElem?_range hb]
 simp
theorem zuj {a b:Nat} (ha:a<128) (hb:b<128):∃ c:Nat,orI .u8 (a:Int) (b:Int)=(c:Int)∧c<128:=by
 refine ⟨a||| b,?_,Nat.or_lt_two_pow (n:=7) ha hb⟩
 have h:a||| b<128:=Nat.or_lt_two_pow (n:=7) ha hb
 unfold orI
 have e:((BitVec.ofInt 8 (a:Int)||| BitVec.ofInt 8 (b:Int)).toNat:Nat)=a||| b:=by
  rw [BitVec.toNat_or,BitVec.toNat_ofInt,BitVec.toNat_ofInt]
  congr 1<;>omega
 show IntKind.wrap .u8 (((BitVec.ofInt 8 (a:Int)||| BitVec.ofInt 8 (b:Int)).toNat:Nat):Int)=_
 rw [e,zfJ (by omega) (by omega)]
theorem zte (w x:Bool):zlN .i64 (if w=true then 1 else 0) (xorI .i64 (-1) (if x=true then 1 else 0))=if w=true∧x=false then 1 else 0:=by
 cases w<;>cases x<;>decide
theorem zpI [Sym] (s:ByteArray) (hs:s.size≤4294967296) (hsim:Simple (bl s)=true) (st:SS) (hg:Gd st):∀ (k i n sb:Nat) (ws:Bool),s.size=k+i→sb<128→n≤i→
  ∃ sb',sb'<128∧zaI 5 [.string s,.int .i64 n,.int .i64 (if ws=true then 1 else 0),.int .u8 sb,.int .i64 i] st=some (0,[.string s,.int .i64 ((n+zjz ws ((bl s).drop i):Nat):Int),.int .u8 ((sb':Nat):Int)],st):=by
 intro k
 induction k with
 | zero=>
   intro i n sb ws hk hsb hn
   have hlt:¬ (i:Int)<(s.size:Int):=by omega
   refine ⟨sb,hsb,zfT s _ _ _ _ st ?_⟩
   rw [List.drop_of_length_le (by rw [zaF];omega)]
   simp only [zeS,zdf hlt,zcf]
   rfl
 | succ k ih=>
   intro i n sb ws hk hsb hn
   obtain ⟨b,hb⟩:∃ b,(bl s)[i]?=some b:=⟨_,zge (by rw [zaF];omega)⟩
   have hlt:(i:Int)<(s.size:Int):=by omega
   obtain ⟨b128,bsp⟩:=Simple.byte hsim (zmg hb)
   obtain ⟨c,hc1,hc2⟩:=zuj hsb b128
   have he:zbe (ptr 2 0) 256 (b.toNat:Int) 1=some (2,0+b.toNat*1):=zjA (by have:=b.toNat_lt;omega)
   have hl:=zjB hg (b:=b)
   rw [bsp] at hl
   have hw:IntKind.wrap .i64 (if decide (b=32)=true then (1:Int) else 0)=(if decide (b=32)=true then 1 else 0):=by cases decide (b=32)<;>decide
   have hn1:IntKind.wrap .i64 ((n:Int)+(if ws=true∧decide (b=32)=false then 1 else 0))=((n+(if ws=true∧b≠32 then 1 else 0):Nat):Int):=by
    have e:(ws=true∧decide (b=32)=false)↔(ws=true∧b≠32):=by simp
    by_cases h:ws=true∧b≠32
    ·rw [if_pos (e.2 h),if_pos h,wrap64 (by omega) (by omega)];omega
    ·rw [if_neg (fun x=>h (e.1 x)),if_neg h,wrap64 (by omega) (by omega)];omega
   obtain ⟨sb',h1,h2⟩:=ih (i+1) (n+(if ws=true∧b≠32 then 1 else 0)) c (decide (b=32)) (by omega) hc2 (by split<;>omega)
   refine ⟨sb',h1,zfT s _ _ _ _ st ?_⟩
   have hd:=drop_cons hb
   have hcnt:n+zjz ws ((bl s).drop i)=n+(if ws=true∧b≠32 then 1 else 0)+zjz (decide (b=32)) ((bl s).drop (i+1)):=by
    rw [hd]
    show n+((if ws=true∧b≠32 then 1 else 0)+_)=_
    omega
   rw [hcnt]
   simp only [zeS,zdt hlt,zct,ziJ hb,zob,hc1,he,hl,zaa,zte,hw,hn1,za6 (show i≤1099511627776 by omega)]
   exact h2
theorem zuk [Sym] (s:ByteArray) (hs:s.size≤4294967296) (hsim:Simple (bl s)=true) (st:SS) (hg:Gd st) (a:Value) (na:Int) (i:Nat) (h:∀ b,(bl s)[i]?=some b→b≠32):
  zaI 18 [.string s,a,.int .i64 na,.int .i64 i] st=some (0,[.string s,a,.int .i64 na,.int .i64 i],st):=by
 refine ziL s a _ _ st ?_
 by_cases hlt:(i:Int)<(s.size:Int)
 ·obtain ⟨b,hb⟩:∃ b,(bl s)[i]?=some b:=⟨_,zge (by rw [zaF];omega)⟩
  obtain ⟨b128,bsp⟩:=Simple.byte hsim (zmg hb)
  have he:zbe (ptr 2 0) 256 (b.toNat:Int) 1=some (2,0+b.toNat*1):=zjA (by have:=b.toNat_lt;omega)
  have hl:=zjB hg (b:=b)
  rw [bsp,zdf (h b hb),if_neg (by decide)] at hl
  simp only [zet,zdt hlt,zct,ziJ hb,zob,he,hl,zaa,decide_true,znt,zcf]
 ·simp only [zet,zdf hlt,zcf]
theorem zul [Sym] (s:ByteArray) (hs:s.size≤4294967296) (hsim:Simple (bl s)=true) (st:SS) (hg:Gd st) (a:Value) (na:Int) (i:Nat) (h:∀ b,(bl s)[i]?=some b→b≠32):
  zaI 27 [.string s,a,.int .i64 na,.int .i64 i] st=some (0,[.string s,a,.int .i64 na,.int .i64 i],st):=by
 refine ziM s a _ _ st ?_
 by_cases hlt:(i:Int)<(s.size:Int)
 ·obtain ⟨b,hb⟩:∃ b,(bl s)[i]?=some b:=⟨_,zge (by rw [zaF];omega)⟩
  obtain ⟨b128,bsp⟩:=Simple.byte hsim (zmg hb)
  have he:zbe (ptr 2 0) 256 (b.toNat:Int) 1=some (2,0+b.toNat*1):=zjA (by have:=b.toNat_lt;omega)
  have hl:=zjB hg (b:=b)
  rw [bsp,zdf (h b hb),if_neg (by decide)] at hl
  simp only [zeu,zdt hlt,zct,ziJ hb,zob,he,hl,zaa,decide_true,znt,zcf]
 ·simp only [zeu,zdf hlt,zcf]
theorem zqO [Sym] (s:ByteArray) (hs:s.size≤4294967296) (hsim:Simple (bl s)=true) (N j:Nat) (hN:N=(pieces 32 (bl s)).length) (st0:SS) (hg:Gd st0) (hj0:st0.next≤j):∀ (k i f:Nat) (done:List (List UInt8)) (st:SS),s.size=k+i→f≤i→
  done++zcC (((bl s).drop f).take (i-f)) (pieces 32 ((bl s).drop i))=pieces 32 (bl s)→Ext st0 st→j<st.next→st.lim≤j→st.mem.get j=some (.cells (strs done++List.replicate (N-done.length) (Value.string ⟨#[]⟩)) 1)→
  ∃ f' done' st',zaI 21 [.string s,.slice (some ⟨j,0,none⟩) N N,.int .i64 done.length,.int .i64 f,.int .i64 i] st=some (0,[.string s,.slice (some ⟨j,0,none⟩) N N,.int .i64 ((done'.length:Nat):Int),.int .i64 ((f':Nat):Int)],st')∧
   Ext st0 st'∧st'.next=st.next∧st'.lim=st.lim∧done'++[(bl s).drop f']=pieces 32 (bl s)∧f'≤s.size∧st'.mem.get j=some (.cells (strs done'++List.replicate (N-done'.length) (Value.string ⟨#[]⟩)) 1):=by
 have hplen:=pieces_len 32 (bl s)
 rw [zaF] at hplen
 intro k
 induction k with
 | zero=>
   intro i f done st hk hf hp he hj hlim hm
   have hlt:¬ (i:Int)<(s.size:Int):=by omega
   refine ⟨f,done,st,zdF s _ _ _ _ st ?_,he,rfl,rfl,?_,by omega,hm⟩
   ·simp only [zdi,zdf hlt,zcf]
   ·rw [← hp,List.drop_of_length_le (i:=i) (by rw [zaF];omega)]
    show done++[_]=done++[_++[]]
    rw [List.append_nil,List.take_of_length_le (by rw [List.length_drop,zaF];omega)]
 | succ k ih=>
   intro i f done st hk hf hp he hj hlim hm
   obtain ⟨b,hb⟩:∃ b,(bl s)[i]?=some b:=⟨_,zge (by rw [zaF];omega)⟩
   have hlt:(i:Int)<(s.size:Int):=by omega
   obtain ⟨b128,bsp⟩:=Simple.byte hsim (zmg hb)
   have hea:zbe (ptr 2 0) 256 (b.toNat:Int) 1=some (2,0+b.toNat*1):=zjA (by have:=b.toNat_lt;omega)
   have hl:=zjB (hg.ext he) (b:=b)
   rw [bsp] at hl
   have hd:=drop_cons hb
   have hw:=za6 (show i≤1099511627776 by omega)
   by_cases h32:b=32
   ·rw [zdt h32,if_pos rfl] at hl
    rw [hd,zfS,if_pos h32] at hp
    have hp':done++((((bl s).drop f).take (i-f))++[])::pieces 32 ((bl s).drop (i+1))=pieces 32 (bl s):=hp
    rw [List.append_nil] at hp'
    have hdl:done.length<N:=by
     have:=congrArg List.length hp'
     simp at this
     omega
    have hsub:zbk s (f:Int) (i:Int)=some (mkS (((bl s).drop f).take (i-f))):=by
     have:=zfj (s:=s) (col:=f) (n:=i-f) (by omega)
     rw [show f+(i-f)=i by omega] at this
     exact this
    have hel:zar (.slice (some ⟨j,0,none⟩) N N) (done.length:Int) 1=some (j,0+done.length*1):=by
     unfold zar
     have h1:(0:Int)≤(done.length:Int):=by omega
     have h2:(done.length:Int)<(N:Int):=by omega
     simp only [zdt h1,zdt h2,Bool.and_self,zct,Int.toNat_natCast]
    have hst:st.st j (0+done.length*1) [.string (mkS (((bl s).drop f).take (i-f)))]=some (st.set j (some (.cells (strs (done++[((bl s).drop f).take (i-f)])++List.replicate (N-(done.length+1)) (Value.string ⟨#[]⟩)) 1))):=by
     refine SS.st_cells hm hlim rfl ?_
     obtain ⟨q,hq⟩:∃ q,N-done.length=q+1:=⟨N-done.length-1,by omega⟩
     have hq2:N-(done.length+1)=q:=by omega
     rw [hq,hq2,zbB (by simp [strs])]
     have:=zlY done q (((bl s).drop f).take (i-f))
     rw [show 0+done.length*1=done.length by omega]
     exact congrArg some this
    have hx:Ext st0 (st.set j (some (.cells (strs (done++[((bl s).drop f).take (i-f)])++List.replicate (N-(done.length+1)) (Value.string ⟨#[]⟩)) 1))):=he.set hj0 _
    have hnext:∀ b',(bl s)[i+1]?=some b'→b'≠32:=by
     intro b' hb' e
     have hd':=drop_cons hb'
     rw [hd',e,zfS,if_pos rfl] at hp'
     exact Simple.piece hsim (p:=[]) (by rw [← hp'];simp) rfl
    have hsk:=zul s hs hsim _ (hg.ext hx) (.slice (some ⟨j,0,none⟩) N N) ((done.length+1:Nat):Int) (i+1) hnext
    obtain ⟨f',done',st',d1,d2,d3,d4,d5,d6,d7⟩:=ih (i+1) (i+1) (done++[((bl s).drop f).take (i-f)]) (st.set j (some (.cells (strs (done++[((bl s).drop f).take (i-f)])++List.replicate (N-(done.length+1)) (Value.string ⟨#[]⟩)) 1))) (by omega) (zlr _) (by
      rw [Nat.sub_self,List.take_zero,zgB (zdM _ _),List.append_assoc];exact hp') hx hj hlim (by simp)
    have hdw:=za6 (show done.length≤1099511627776 by omega)
    have h10:¬ (1:Int)=0:=by omega
    refine ⟨f',done',st',zdF s _ _ _ _ st ?_,d2,d3,d4,d5,d6,d7⟩
    simp only [zdi,zdt hlt,zct,ziJ hb,zob,hea,hl,zaa,zdf h10,zcf,hsub,hel,hst,hdw,hw]
    rw [hsk,zob]
    simp only [zgs,zgz,zob,zab,zaa]
    simpa using d1
   ·rw [zdf h32,if_neg (by decide)] at hl
    have hcur:((bl s).drop f).take (i+1-f)=((bl s).drop f).take (i-f)++[b]:=by
     rw [show i+1-f=(i-f)+1 by omega]
     refine zpD ?_
     rw [List.getElem?_drop,show f+(i-f)=i by omega];exact hb
    obtain ⟨f',done',st',d1,d2,d3,d4,d5,d6,d7⟩:=ih (i+1) f done st (by omega) (by omega) (by
      rw [hcur,← zkr _ _ _ _ h32,← hd];exact hp) he hj hlim hm
    refine ⟨f',done',st',zdF s _ _ _ _ st ?_,d2,d3,d4,d5,d6,d7⟩
    simp only [zdi,zdt hlt,zct,ziJ hb,zob,hea,hl,zaa,decide_true,hw]
    exact d1
theorem zr0 [Sym] (s:ByteArray) (hs:s.size≤4294967296) (hsim:Simple (bl s)=true) (st:SS) (hg:Gd st) (hll:st.lim≤st.next):
  ∃ v st',cc 149 [.string s] st=some (v,st')∧Ext st st'∧Own st.next st' v (strs (pieces 32 (bl s))) 1 (pieces 32 (bl s)).length:=by
 have hplen:=pieces_len 32 (bl s)
 rw [zaF] at hplen
 have hall:∀ p∈pieces 32 (bl s),p≠[]:=fun p hp=>Simple.piece hsim hp
 have hne:=zdM 32 (bl s)
 have hhd:(pieces 32 (bl s)).head?≠some []:=by
  cases hp:pieces 32 (bl s) with
  | nil=>exact absurd hp hne
  | cons x y=>rw [hp] at hall;intro e;simp at e;exact hall x (by simp) e
 obtain ⟨sb,hsb,c1⟩:=zpI s hs hsim st hg s.size 0 0 0 true (by omega) (by omega) (by omega)
 have hcnt:=(zpH (bl s) (fun p hp=>hall p (List.mem_of_mem_tail hp))).2 hhd
 rw [List.drop_zero,Nat.zero_add,hcnt] at c1
 have c1':zaI 5 [.string s,.int .i64 0,.int .i64 1,.int .u8 0,.int .i64 0] st=some (0,[.string s,.int .i64 ((pieces 32 (bl s)).length:Int),.int .u8 (sb:Int)],st):=c1
 have h128:¬ (128:Int)≤(sb:Int):=by omega
 have hmk:zfb ((pieces 32 (bl s)).length:Int) ((pieces 32 (bl s)).length:Int) 16=some ():=zlX (by omega) (by omega) (by omega)
 have hz:zeX [Value.string ⟨#[]⟩] ((pieces 32 (bl s)).length:Int)=List.replicate (pieces 32 (bl s)).length (Value.string ⟨#[]⟩):=zjw _ _
 have x1:Ext st (st.new (.cells (List.replicate (pieces 32 (bl s)).length (Value.string ⟨#[]⟩)) 1)):=(Ext.refl st).new _
 have hfirst:∀ b,(bl s)[0]?=some b→b≠32:=by
  intro b hb e
  have hd:=drop_cons hb
  rw [List.drop_zero] at hd
  rw [hd,e,zfS,if_pos rfl] at hhd
  exact hhd rfl
 have hsk:=zuk s hs hsim _ (hg.ext x1) (.slice (some ⟨st.next,0,none⟩) (pieces 32 (bl s)).length (pieces 32 (bl s)).length) 0 0 hfirst
 obtain ⟨f',done',st',d1,d2,d3,d4,d5,d6,d7⟩:=zqO s hs hsim (pieces 32 (bl s)).length st.next rfl st hg (zlr _) s.size 0 0 [] (st.new (.cells (List.replicate (pieces 32 (bl s)).length (Value.string ⟨#[]⟩)) 1)) (by omega) (by omega) (by
   rw [List.drop_zero];show zcC (List.take (0-0) (bl s)) _=_;rw [Nat.sub_self,List.take_zero,zgB hne]) x1 (by simp) hll (by simp [strs])
 have d1':zaI 21 [.string s,.slice (some ⟨st.next,0,none⟩) (pieces 32 (bl s)).length (pieces 32 (bl s)).length,.int .i64 0,.int .i64 0,.int .i64 0] (st.new (.cells (List.replicate (pieces 32 (bl s)).length (Value.string ⟨#[]⟩)) 1))=some (0,[.string s,.slice (some ⟨st.next,0,none⟩) (pieces 32 (bl s)).length (pieces 32 (bl s)).length,.int .i64 ((done'.length:Nat):Int),.int .i64 ((f':Nat):Int)],st'):=d1
 have hlen:(pieces 32 (bl s)).length=done'.length+1:=by rw [← d5];simp
 have hlast:(bl s).drop f'≠[]:=hall _ (by rw [← d5];simp)
 have hf':f'<s.size:=by
  have:((bl s).drop f').length≠0:=fun e=>hlast (List.length_eq_zero_iff.1 e)
  rw [List.length_drop,zaF] at this
  omega
 have hlt:(f':Int)<(s.size:Int):=by omega
 have hsub:zbk s (f':Int) (s.size:Int)=some (mkS ((bl s).drop f')):=zkz (by omega)
 have hel:zar (.slice (some ⟨st.next,0,none⟩) (pieces 32 (bl s)).length (pieces 32 (bl s)).length) (done'.length:Int) 1=some (st.next,0+done'.length*1):=by
  unfold zar
  have h1:(0:Int)≤(done'.length:Int):=by omega
  have h2:(done'.length:Int)<((pieces 32 (bl s)).length:Int):=by omega
  simp only [zdt h1,zdt h2,Bool.and_self,zct,Int.toNat_natCast]
 have hst:st'.st st.next (0+done'.length*1) [.string (mkS ((bl s).drop f'))]=some (st'.set st.next (some (.cells (strs (pieces 32 (bl s))) 1))):=by
  refine SS.st_cells d7 (by rw [d4];exact hll) rfl ?_
  have hq:(pieces 32 (bl s)).length-done'.length=0+1:=by omega
  rw [hq,zbB (by simp [strs])]
  have:=zlY done' 0 ((bl s).drop f')
  rw [show 0+done'.length*1=done'.length by omega]
  exact congrArg some (this.trans (by rw [d5];simp))
 refine ⟨.slice (some ⟨st.next,0,none⟩) (pieces 32 (bl s)).length (pieces 32 (bl s)).length,st'.set st.next (some (.cells (strs (pieces 32 (bl s))) 1)),zld s st ?_,d2.set (zlr _) _,by simp,.inr ⟨st.next,rfl,by omega,by simp,zlr _,by simp [d3]⟩⟩
 simp only [strings_Fields]
 rw [c1',zob]
 simp only [zgs,zgz,zob,zab,zaa,zdf h128,zcf,hmk,hz,Int.toNat_natCast]
 have hsk':zaI 18 [.string s,.slice (some ⟨st.next,0,none⟩) (pieces 32 (bl s)).length (pieces 32 (bl s)).length,.int .i64 0,.int .i64 0] (st.new (.cells (List.replicate (pieces 32 (bl s)).length (Value.string ⟨#[]⟩)) 1))=some (0,[.string s,.slice (some ⟨st.next,0,none⟩) (pieces 32 (bl s)).length (pieces 32 (bl s)).length,.int .i64 0,.int .i64 0],st.new (.cells (List.replicate (pieces 32 (bl s)).length (Value.string ⟨#[]⟩)) 1)):=hsk
 rw [hsk',zob]
 simp only [zgs,zgz,zob,zab,zaa]
 have d1'':zaI 21 [.string s,.slice (some ⟨st.next,0,none⟩) (pieces 32 (bl s)).length (pieces 32 (bl s)).length,.int .i64 0,.int .i64 0,.int .i64 0] (st.new (.cells (List.replicate (pieces 32 (bl s)).length (Value.string ⟨#[]⟩)) 1))=_:=d1'
 rw [d1'',zob]
 simp only [zgs,zgz,zob,zab,zaa,zdt hlt,zct,hsub,hel,hst]
theorem row_ok [Sym] (s:ByteArray) (hs:s.size≤4294967296) (hsim:Simple (bl s)=true) (st:SS) (hg:Gd st) (hll:st.lim≤st.next):
  ∃ v st',cc 136 [.string s] st=some (v,st')∧Ext st st'∧Own st.next st' v (strs (pieces 32 (bl s))) 1 (pieces 32 (bl s)).length:=by
 obtain ⟨v,st',c,x,o⟩:=zr0 s hs hsim st hg hll
 refine ⟨v,st',zpG s st ?_,x,o⟩
 simp only [zo7,c,zob]
end Go.Proofs.YtifploedaacedaaGreatDoorE
namespace Go.Proofs.YtifploedaacedaaGreatDoorE
set_option maxRecDepth 20000
open Go Go.E Go.Proofs
def zfU:LoopI:=⟨[(1,.str),(7,.any),(8,.int .i64),(9,.int .i64)],[(.exit 0,[]),(.ret,[(4,.int .i64)])]⟩
def zf9 (n:Nat):Option LoopI:=cond (Nat.beq n 2) (some zfU) (none)
noncomputable def zhy (cf:zak) (lf:zac) (l':Value) (s':ByteArray) (st:SS):Option (Value×SS):=
 ((lenV l').bind (asI .i64)).bind fun a=>
 (lf 2 [.string s',l',.int .i64 a,.int .i64 0] (st.ro st.next)).bind fun b=>
 cond (Nat.beq b.1 0) (
 some (.int .i64 (-1),st.adv b.2.2.next)) (
 ((b.2.1[0]?).bind (asI .i64)).bind fun c=>
 some (.int .i64 c,st.adv b.2.2.next))
noncomputable abbrev zcl:zac:=lS Tryz.prog Lk0 Tryz.f47 zf9
theorem zj1:Lk0.func 47=some (47,Tryz.f47):=by kernel_rfl
theorem zj2 [Sym] (l':Value) (s':ByteArray) (st:SS) {r:Value×SS} (h:zhy cc zcl l' s' st=some r):cc 47 [l',.string s'] st=some r:=
 zah (li:=zf9) zai zaq zj1 rfl (fun _=>rfl) (.trans (by kernel_rfl) h)
noncomputable def zc2 (cf:zak) (lf:zac) (s':ByteArray) (t7':Value) (t8':Int) (t9':Int) (st:SS):Option (Nat×List Value×SS):=
 cond (decide (t9'<t8')) (
 (zar t7' t9' 1).bind fun a=>
 ((st.ld a.1 a.2).bind asS).bind fun b=>
 cond (eqT b s') (
 some (1,[.int .i64 t9'],st)) (
 let c:Int:=IntKind.wrap .i64 (t9'+1)
 lf 2 [.string s',t7',.int .i64 t8',.int .i64 c] st)) (
 some (0,[],st))
theorem ze4 [Sym] (s':ByteArray) (t7':Value) (t8':Int) (t9':Int) (st:SS) {r:Nat×List Value×SS} (h:zc2 cc zcl s' t7' t8' t9' st=some r):zcl 2 [.string s',t7',.int .i64 t8',.int .i64 t9'] st=some r:=
 zax zai zaq (key:=2) (I:=zfU) rfl (by kernel_rfl) (by kernel_rfl) rfl rfl (.trans (by kernel_rfl) h)
noncomputable def za4 (cf:zak) (lf:zac) (w':Value) (at0':Int) (st:SS):Option (Value×SS):=
 let a:SS:=st.new (.cells (w':Value).cells.toList 0)
 ((a.ld st.next 8).bind (asI .i64)).bind fun b=>
 cond (decide (b=0)) (
 let c:Int:=IntKind.wrap .i64 (at0'+1)
 let d:SS:=a.new (.cells ([.int .i64 c,.int .i64 1]) 2)
 some (.slice (some ⟨a.next,0,none⟩) 1 1,d)) (
 ((a.ld st.next 8).bind (asI .i64)).bind fun e=>
 cond (decide (e=1)) (
 ((a.ld st.next 10).bind (asI .i64)).bind fun f=>
 let g:SS:=a.new (.cells ([.int .i64 f,.int .i64 1]) 2)
 some (.slice (some ⟨a.next,0,none⟩) 1 1,g)) (
 ((a.ld st.next 8).bind (asI .i64)).bind fun h=>
 cond (decide (h=2)) (
 let i:Int:=IntKind.wrap .i64 (at0'+1)
 ((a.ld st.next 10).bind (asI .i64)).bind fun j=>
 let k:SS:=a.new (.cells ([.int .i64 i,.int .i64 1,.int .i64 j,.int .i64 1]) 2)
 some (.slice (some ⟨a.next,0,none⟩) 2 2,k)) (
 ((a.ld st.next 8).bind (asI .i64)).bind fun l=>
 cond (decide (l=3)) (
 let m:Int:=IntKind.wrap .i64 (at0'+1)
 ((a.ld st.next 10).bind (asI .i64)).bind fun n=>
 let o:SS:=a.new (.cells ([.int .i64 m,.int .i64 1,.int .i64 n,.int .i64 1]) 2)
 some (.slice (some ⟨a.next,0,none⟩) 2 2,o)) (
 ((a.ld st.next 8).bind (asI .i64)).bind fun p=>
 cond (decide (p=5)) (
 ((a.ld st.next 10).bind (asI .i64)).bind fun q=>
 let r:SS:=a.new (.cells ([.int .i64 q,.int .i64 64]) 2)
 some (.slice (some ⟨a.next,0,none⟩) 1 1,r)) (
 ((a.ld st.next 8).bind (asI .i64)).bind fun s=>
 cond (decide (s=6)) (
 ((a.ld st.next 10).bind (asI .i64)).bind fun t=>
 let u:SS:=a.new (.cells ([.int .i64 t,.int .i64 16]) 2)
 some (.slice (some ⟨a.next,0,none⟩) 1 1,u)) (
 some (.slice none 0 0,a)))))))
noncomputable abbrev ze5:zac:=lS Tryz.prog Lk0 Tryz.f21 zaG
theorem zij:Lk0.func 21=some (21,Tryz.f21):=by kernel_rfl
theorem zik [Sym] (w':Value) (at0':Int) (st:SS) {r:Value×SS} (h:za4 cc ze5 w' at0' st=some r):cc 21 [w',.int .i64 at0'] st=some r:=
 zah (li:=zaG) zai zaq zij rfl (fun _=>rfl) (.trans (by kernel_rfl) h)
end Go.Proofs.YtifploedaacedaaGreatDoorE
namespace Go.Proofs.YtifploedaacedaaGreatDoorE
open Go Go.E Go.Proofs
def c_alu:List UInt8:=[110,111,110,101,32,109,111,118,32,110,111,116,32,110,101,103,32,105,110,99,32,100,101,99,32,97,100,100,32,115,117,98,32,97,100,100,99,32,115,117,98,99,32,109,117,108,32,100,105,118,32,111,114,32,98,105,99,32,120,111,114,32,97,110,100,32,99,109,112,32,116,101,115,116,32,99,108,101,97,114,32,115,120,98,32,115,120,119,32,122,120,98,32,122,120,119,32,115,104,108,32,115,104,114,32,97,115,104,32,114,111,116,32,111,112,32,115,120,111,32,101,120,116,32,105,110,115,32,99,118,116]
def zk3:List UInt8:=[114,48,32,114,49,32,114,50,32,114,51,32,114,52,32,114,53,32,114,54,32,114,55,32,114,56,32,114,57,32,114,49,48,32,114,49,49,32,114,49,50,32,114,49,51,32,114,49,52,32,114,49,53,32,116,48,32,116,49,32,116,50,32,116,51,32,116,52,32,116,53,32,116,54,32,116,55,32,118,48,32,118,49,32,118,50,32,118,51,32,118,52,32,118,53,32,97,48,32,97,49,32,97,50,32,97,51,32,97,52,32,97,53,32,109,100,32,118,97,32,112,115,108,32,114,110,32,114,120,32,108,105,116,32,122,101,114,111,32,118,101,99,32,112,48,32,112,49,32,115,116,97,114,116,32,115,99,98,98,32,107,115,112,32,117,115,112,32,100,105,115,112,32,111,115,105,122,101,32,105,108,101,110,32,108,101,118,101,108,32,118,99,32,97,99,32,97,108,32,107,108,32,99,110,116,32,110,112]
def zr1:List UInt8:=[98,121,116,101,32,119,111,114,100,32,108,111,110,103,32,111,119,110]
def c_cc:List UInt8:=[107,101,101,112,32,115,101,116,32,115,101,116,107]
def c_mem:List UInt8:=[110,111,110,101,32,114,100,32,119,114,32,112,114,111,98,101,32,98,108,100,32,98,115,116,32,98,112,117,116,32,98,103,101,116,32,98,99,108,114,32,105,102,32,114,100,112,32,107,115,116,32,114,111,119,32,117,110,114,111,119,32,114,111,119,97,32,102,108,117,115,104]
def c_seq:List UInt8:=[110,101,120,116,32,106,109,112,32,99,106,32,99,97,108,108,32,114,101,116,32,115,112,101,99,32,109,111,100,101,32,101,110,100]
def zr2:List UInt8:=[97,108,119,97,121,115,32,122,32,110,122,32,110,101,103,32,112,111,115,32,99,32,110,99,32,117,115,101,114,32,107,101,114,110,101,108,32,102,112,100,32,110,111,102,112,100,32,116,97,107,101,110,32,109,97,116,99,104,32,107,49,32,107,50,32,107,51,32,108,97,115,116,114,101,103,32,102,32,114,101,97,100,115,32,105,110,100,101,120,32,100,105,118,32,108,101,115,115,97,108,117,32,97,108,117,49,32,115,116,114,105,110,103,32,110,111,105,110,100,101,120,32,110,111,114,101,97,100,115,32,111,118,101,114]
def zr3:List UInt8:=[110,111,110,101,32,115,116,101,112,32,117,110,100,111,32,115,101,116,102,112,100,32,99,108,114,102,112,100,32,114,97,105,115,101,32,108,97,116,99,104,107,32,108,97,116,99,104,120,32,109,116,112,114,32,109,102,112,114,32,101,110,116,101,114,32,112,117,116,112,115,108,32,104,97,108,116,32,98,97,99,107,32,100,101,99,111,100,101,32,115,101,108,32,115,101,108,107,32,111,119,110,108,97,115,116,32,112,105,99,107,32,112,105,99,107,116,111,112,32,112,97,114,97,109,115,32,99,111,117,110,116]
def namesT (f:List UInt8):List (List UInt8):=
 if f=[97,108,117] then pieces 32 c_alu else
 if f=[97] then pieces 32 zk3 else
 if f=[98] then pieces 32 zk3 else
 if f=[100] then pieces 32 zk3 else
 if f=[115,105,122,101] then pieces 32 zr1 else
 if f=[99,99] then pieces 32 c_cc else
 if f=[109,101,109] then pieces 32 c_mem else
 if f=[115,101,113] then pieces 32 c_seq else
 if f=[99,111,110,100] then pieces 32 zr2 else
 if f=[109,105,115,99] then pieces 32 zr3 else
 []
theorem ztf [Sym] (f:ByteArray) (st:SS) (hg:Gd st) (hll:st.lim≤st.next):
  ∃ v st',cc 117 [.string f] st=some (v,st')∧Ext st st'∧Own st.next st' v (strs (namesT (bl f))) 1 (namesT (bl f)).length:=by
 have R:∀ s:ByteArray,s.size≤4294967296→Simple (bl s)=true→∃ v st',((cc 136 [.string s] st).bind fun r=>some (r.1,r.2))=some (v,st')∧Ext st st'∧Own st.next st' v (strs (pieces 32 (bl s))) 1 (pieces 32 (bl s)).length:=fun s h1 h2=>by
  obtain ⟨v,st',c,x,o⟩:=row_ok s h1 h2 st hg hll
  exact ⟨v,st',by rw [c];rfl,x,o⟩
 by_cases h_alu:bl f=[97,108,117]
 ·have e:namesT (bl f)=pieces 32 c_alu:=by rw [h_alu];rfl
  obtain ⟨v,st',c,x,o⟩:=R ⟨#[110,111,110,101,32,109,111,118,32,110,111,116,32,110,101,103,32,105,110,99,32,100,101,99,32,97,100,100,32,115,117,98,32,97,100,100,99,32,115,117,98,99,32,109,117,108,32,100,105,118,32,111,114,32,98,105,99,32,120,111,114,32,97,110,100,32,99,109,112,32,116,101,115,116,32,99,108,101,97,114,32,115,120,98,32,115,120,119,32,122,120,98,32,122,120,119,32,115,104,108,32,115,104,114,32,97,115,104,32,114,111,116,32,111,112,32,115,120,111,32,101,120,116,32,105,110,115,32,99,118,116]⟩ (by decide+kernel) (by decide+kernel)
  have q_alu:eqT f ⟨#[97,108,117]⟩=true:=zdt h_alu
  refine ⟨v,st',zbs f st ?_,x,by rw [e];exact o⟩
  simp only [zbW,q_alu,zct,zcf]
  exact c
 have n_alu:eqT f ⟨#[97,108,117]⟩=false:=zdf h_alu
 by_cases h_a:bl f=[97]
 ·have e:namesT (bl f)=pieces 32 zk3:=by rw [h_a];rfl
  obtain ⟨v,st',c,x,o⟩:=R ⟨#[114,48,32,114,49,32,114,50,32,114,51,32,114,52,32,114,53,32,114,54,32,114,55,32,114,56,32,114,57,32,114,49,48,32,114,49,49,32,114,49,50,32,114,49,51,32,114,49,52,32,114,49,53,32,116,48,32,116,49,32,116,50,32,116,51,32,116,52,32,116,53,32,116,54,32,116,55,32,118,48,32,118,49,32,118,50,32,118,51,32,118,52,32,118,53,32,97,48,32,97,49,32,97,50,32,97,51,32,97,52,32,97,53,32,109,100,32,118,97,32,112,115,108,32,114,110,32,114,120,32,108,105,116,32,122,101,114,111,32,118,101,99,32,112,48,32,112,49,32,115,116,97,114,116,32,115,99,98,98,32,107,115,112,32,117,115,112,32,100,105,115,112,32,111,115,105,122,101,32,105,108,101,110,32,108,101,118,101,108,32,118,99,32,97,99,32,97,108,32,107,108,32,99,110,116,32,110,112]⟩ (by decide+kernel) (by decide+kernel)
  have q_a:eqT f ⟨#[97]⟩=true:=zdt h_a
  refine ⟨v,st',zbs f st ?_,x,by rw [e];exact o⟩
  simp only [zbW,n_alu,q_a,zct,zcf]
  exact c
 have n_a:eqT f ⟨#[97]⟩=false:=zdf h_a
 by_cases h_b:bl f=[98]
 ·have e:namesT (bl f)=pieces 32 zk3:=by rw [h_b];rfl
  obtain ⟨v,st',c,x,o⟩:=R ⟨#[114,48,32,114,49,32,114,50,32,114,51,32,114,52,32,114,53,32,114,54,32,114,55,32,114,56,32,114,57,32,114,49,48,32,114,49,49,32,114,49,50,32,114,49,51,32,114,49,52,32,114,49,53,32,116,48,32,116,49,32,116,50,32,116,51,32,116,52,32,116,53,32,116,54,32,116,55,32,118,48,32,118,49,32,118,50,32,118,51,32,118,52,32,118,53,32,97,48,32,97,49,32,97,50,32,97,51,32,97,52,32,97,53,32,109,100,32,118,97,32,112,115,108,32,114,110,32,114,120,32,108,105,116,32,122,101,114,111,32,118,101,99,32,112,48,32,112,49,32,115,116,97,114,116,32,115,99,98,98,32,107,115,112,32,117,115,112,32,100,105,115,112,32,111,115,105,122,101,32,105,108,101,110,32,108,101,118,101,108,32,118,99,32,97,99,32,97,108,32,107,108,32,99,110,116,32,110,112]⟩ (by decide+kernel) (by decide+kernel)
  have q_b:eqT f ⟨#[98]⟩=true:=zdt h_b
  refine ⟨v,st',zbs f st ?_,x,by rw [e];exact o⟩
  simp only [zbW,n_alu,n_a,q_b,zct,zcf]
  exact c
 have n_b:eqT f ⟨#[98]⟩=false:=zdf h_b
 by_cases h_d:bl f=[100]
 ·have e:namesT (bl f)=pieces 32 zk3:=by rw [h_d];rfl
  obtain ⟨v,st',c,x,o⟩:=R ⟨#[114,48,32,114,49,32,114,50,32,114,51,32,114,52,32,114,53,32,114,54,32,114,55,32,114,56,32,114,57,32,114,49,48,32,114,49,49,32,114,49,50,32,114,49,51,32,114,49,52,32,114,49,53,32,116,48,32,116,49,32,116,50,32,116,51,32,116,52,32,116,53,32,116,54,32,116,55,32,118,48,32,118,49,32,118,50,32,118,51,32,118,52,32,118,53,32,97,48,32,97,49,32,97,50,32,97,51,32,97,52,32,97,53,32,109,100,32,118,97,32,112,115,108,32,114,110,32,114,120,32,108,105,116,32,122,101,114,111,32,118,101,99,32,112,48,32,112,49,32,115,116,97,114,116,32,115,99,98,98,32,107,115,112,32,117,115,112,32,100,105,115,112,32,111,115,105,122,101,32,105,108,101,110,32,108,101,118,101,108,32,118,99,32,97,99,32,97,108,32,107,108,32,99,110,116,32,110,112]⟩ (by decide+kernel) (by decide+kernel)
  have q_d:eqT f ⟨#[100]⟩=true:=zdt h_d
  refine ⟨v,st',zbs f st ?_,x,by rw [e];exact o⟩
  simp only [zbW,n_alu,n_a,n_b,q_d,zct,zcf]
  exact c
 have n_d:eqT f ⟨#[100]⟩=false:=zdf h_d
 by_cases h_size:bl f=[115,105,122,101]
 ·have e:namesT (bl f)=pieces 32 zr1:=by rw [h_size];rfl
  obtain ⟨v,st',c,x,o⟩:=R ⟨#[98,121,116,101,32,119,111,114,100,32,108,111,110,103,32,111,119,110]⟩ (by decide+kernel) (by decide+kernel)
  have q_size:eqT f ⟨#[115,105,122,101]⟩=true:=zdt h_size
  refine ⟨v,st',zbs f st ?_,x,by rw [e];exact o⟩
  simp only [zbW,n_alu,n_a,n_b,n_d,q_size,zct,zcf]
  exact c
 have n_size:eqT f ⟨#[115,105,122,101]⟩=false:=zdf h_size
 by_cases h_cc:bl f=[99,99]
 ·have e:namesT (bl f)=pieces 32 c_cc:=by rw [h_cc];rfl
  obtain ⟨v,st',c,x,o⟩:=R ⟨#[107,101,101,112,32,115,101,116,32,115,101,116,107]⟩ (by decide+kernel) (by decide+kernel)
  have q_cc:eqT f ⟨#[99,99]⟩=true:=zdt h_cc
  refine ⟨v,st',zbs f st ?_,x,by rw [e];exact o⟩
  simp only [zbW,n_alu,n_a,n_b,n_d,n_size,q_cc,zct,zcf]
  exact c
 have n_cc:eqT f ⟨#[99,99]⟩=false:=zdf h_cc
 by_cases h_mem:bl f=[109,101,109]
 ·have e:namesT (bl f)=pieces 32 c_mem:=by rw [h_mem];rfl
  obtain ⟨v,st',c,x,o⟩:=R ⟨#[110,111,110,101,32,114,100,32,119,114,32,112,114,111,98,101,32,98,108,100,32,98,115,116,32,98,112,117,116,32,98,103,101,116,32,98,99,108,114,32,105,102,32,114,100,112,32,107,115,116,32,114,111,119,32,117,110,114,111,119,32,114,111,119,97,32,102,108,117,115,104]⟩ (by decide+kernel) (by decide+kernel)
  have q_mem:eqT f ⟨#[109,101,109]⟩=true:=zdt h_mem
  refine ⟨v,st',zbs f st ?_,x,by rw [e];exact o⟩
  simp only [zbW,n_alu,n_a,n_b,n_d,n_size,n_cc,q_mem,zct,zcf]
  exact c
 have n_mem:eqT f ⟨#[109,101,109]⟩=false:=zdf h_mem
 by_cases h_seq:bl f=[115,101,113]
 ·have e:namesT (bl f)=pieces 32 c_seq:=by rw [h_seq];rfl
  obtain ⟨v,st',c,x,o⟩:=R ⟨#[110,101,120,116,32,106,109,112,32,99,106,32,99,97,108,108,32,114,101,116,32,115,112,101,99,32,109,111,100,101,32,101,110,100]⟩ (by decide+kernel) (by decide+kernel)
  have q_seq:eqT f ⟨#[115,101,113]⟩=true:=zdt h_seq
  refine ⟨v,st',zbs f st ?_,x,by rw [e];exact o⟩
  simp only [zbW,n_alu,n_a,n_b,n_d,n_size,n_cc,n_mem,q_seq,zct,zcf]
  exact c
 have n_seq:eqT f ⟨#[115,101,113]⟩=false:=zdf h_seq
 by_cases h_cond:bl f=[99,111,110,100]
 ·have e:namesT (bl f)=pieces 32 zr2:=by rw [h_cond];rfl
  obtain ⟨v,st',c,x,o⟩:=R ⟨#[97,108,119,97,121,115,32,122,32,110,122,32,110,101,103,32,112,111,115,32,99,32,110,99,32,117,115,101,114,32,107,101,114,110,101,108,32,102,112,100,32,110,111,102,112,100,32,116,97,107,101,110,32,109,97,116,99,104,32,107,49,32,107,50,32,107,51,32,108,97,115,116,114,101,103,32,102,32,114,101,97,100,115,32,105,110,100,101,120,32,100,105,118,32,108,101,115,115,97,108,117,32,97,108,117,49,32,115,116,114,105,110,103,32,110,111,105,110,100,101,120,32,110,111,114,101,97,100,115,32,111,118,101,114]⟩ (by decide+kernel) (by decide+kernel)
  have q_cond:eqT f ⟨#[99,111,110,100]⟩=true:=zdt h_cond
  refine ⟨v,st',zbs f st ?_,x,by rw [e];exact o⟩
  simp only [zbW,n_alu,n_a,n_b,n_d,n_size,n_cc,n_mem,n_seq,q_cond,zct,zcf]
  exact c
 have n_cond:eqT f ⟨#[99,111,110,100]⟩=false:=zdf h_cond
 by_cases h_misc:bl f=[109,105,115,99]
 ·have e:namesT (bl f)=pieces 32 zr3:=by rw [h_misc];rfl
  obtain ⟨v,st',c,x,o⟩:=R ⟨#[110,111,110,101,32,115,116,101,112,32,117,110,100,111,32,115,101,116,102,112,100,32,99,108,114,102,112,100,32,114,97,105,115,101,32,108,97,116,99,104,107,32,108,97,116,99,104,120,32,109,116,112,114,32,109,102,112,114,32,101,110,116,101,114,32,112,117,116,112,115,108,32,104,97,108,116,32,98,97,99,107,32,100,101,99,111,100,101,32,115,101,108,32,115,101,108,107,32,111,119,110,108,97,115,116,32,112,105,99,107,32,112,105,99,107,116,111,112,32,112,97,114,97,109,115,32,99,111,117,110,116]⟩ (by decide+kernel) (by decide+kernel)
  have q_misc:eqT f ⟨#[109,105,115,99]⟩=true:=zdt h_misc
  refine ⟨v,st',zbs f st ?_,x,by rw [e];exact o⟩
  simp only [zbW,n_alu,n_a,n_b,n_d,n_size,n_cc,n_mem,n_seq,n_cond,q_misc,zct,zcf]
  exact c
 have n_misc:eqT f ⟨#[109,105,115,99]⟩=false:=zdf h_misc
 have e:namesT (bl f)=[]:=by simp only [namesT,if_neg h_alu,if_neg h_a,if_neg h_b,if_neg h_d,if_neg h_size,if_neg h_cc,if_neg h_mem,if_neg h_seq,if_neg h_cond,if_neg h_misc]
 refine ⟨.slice none 0 0,st,zbs f st ?_,.refl _,by rw [e];exact Own.nil _ _ _⟩
 simp only [zbW,n_alu,n_a,n_b,n_d,n_size,n_cc,n_mem,n_seq,n_cond,n_misc,zct,zcf]
theorem zum [Sym] (l:List (List UInt8)) (hl:l.length≤1099511627776) (s:ByteArray) (v:Value) (st:SS) (hv:Rd st v (strs l) 1 l.length):∀ (r:List (List UInt8)) (i:Nat),l.drop i=r→i≤l.length→
  zcl 2 [.string s,v,.int .i64 l.length,.int .i64 i] st=some (match r.findIdx? (fun x=>decide (x=bl s)) with | none=>(0,[],st) | some k=>(1,[.int .i64 ((i+k:Nat):Int)],st)):=by
 intro r
 induction r with
 | nil=>
   intro i hd hi
   have hlen:=congrArg List.length hd
   rw [List.length_drop] at hlen
   have h:¬ (i:Int)<(l.length:Int):=by simp at hlen;omega
   refine ze4 _ _ _ _ st ?_
   simp only [zc2,zdf h,zcf,List.findIdx?_nil]
 | cons p r ih=>
   intro i hd hi
   have hlen:=congrArg List.length hd
   rw [List.length_drop,List.length_cons] at hlen
   have h:(i:Int)<(l.length:Int):=by omega
   have hgp:l[i]?=some p:=by
    have:=List.getElem?_drop (xs:=l) (i:=i) (j:=0)
    rw [hd] at this
    simpa using this.symm
   have hd':l.drop (i+1)=r:=by rw [← List.drop_drop,hd];rfl
   obtain ⟨q,b1,_,b3⟩:=hv.load (j:=(i:Int)) (by omega) h (strs_get _ i p hgp) rfl
   have b3':st.ld q.1 q.2=some (.string (mkS p)):=by simpa using b3 0 (by omega)
   refine ze4 _ _ _ _ st ?_
   have hw:IntKind.wrap .i64 ((i:Int)+1)=((i+1:Nat):Int):=by rw [wrap64 (by omega) (by omega)];omega
   by_cases hp:p=bl s
   ·have he:eqT (mkS p) s=true:=by rw [zep,zbJ];exact zdt hp
    simp only [zc2,zdt h,zct,b1,b3',zob,zab,he,List.findIdx?_cons,zdt hp,if_true]
    rfl
   ·have he:eqT (mkS p) s=false:=by rw [zep,zbJ];exact zdf hp
    have:=ih (i+1) hd' (by omega)
    simp only [zc2,zdt h,zct,b1,b3',zob,zab,he,zcf,hw,List.findIdx?_cons,zdf hp]
    rw [this]
    cases r.findIdx? (fun x=>decide (x=bl s)) with
    | none=>rfl
    | some k=>simp;omega
def inT (l:List (List UInt8)) (s:List UInt8):Int:=match l.findIdx? (fun x=>decide (x=s)) with | none=> -1 | some k=>(k:Int)
theorem in_ok [Sym] (l:List (List UInt8)) (hl:l.length≤1099511627776) (s:ByteArray) (v:Value) (st:SS) (hv:Rd st v (strs l) 1 l.length):∃ n,st.next≤n∧cc 47 [v,.string s] st=some (.int .i64 (inT l (bl s)),st.adv n):=by
 have h:=zum l hl s v (st.ro st.next) hv l 0 rfl (Nat.zero_le _)
 have h':zcl 2 [.string s,v,.int .i64 l.length,.int .i64 0] (st.ro st.next)=_:=h
 refine ⟨st.next,zlr _,zj2 v s st ?_⟩
 simp only [zhy,hv.len,zob,zaa]
 rw [h',zob]
 unfold inT
 cases l.findIdx? (fun x=>decide (x=bl s)) with
 | none=>rfl
 | some k=>simp
end Go.Proofs.YtifploedaacedaaGreatDoorE
namespace Go.Proofs.YtifploedaacedaaGreatDoorE
open Go Go.E Go.Proofs
abbrev Wd:=List Int
def wRow (w:Wd):List Value:=w.map (.int .i64)
def wV (w:Wd):Value:=.agg (wRow w).toArray
theorem zhz (w:Wd) (i:Nat):(wRow w)[i]?=(w[i]?).map (.int .i64):=by unfold wRow;rw [List.getElem?_map]
theorem za7 (w:Wd):(wRow w).length=w.length:=by simp [wRow]
theorem zgq (w:Wd):(wRow w).all one=true:=by simp [wRow,one]
def zb2 (p:Int×Int):List Value:=[.int .i64 p.1,.int .i64 p.2]
def zbt (s tw a:Int):List (Int×Int):=
 if s=0 then [(a+1,1)] else if s=1 then [(tw,1)] else if s=2∨s=3 then [(a+1,1),(tw,1)] else if s=5 then [(tw,64)] else if s=6 then [(tw,16)] else []
theorem ztg [Sym] (w:Wd) (a s tw:Int) (h8:w[8]?=some s) (h10:w[10]?=some tw) (h0:0≤a) (h1:a≤1099511627776) (st:SS) (hll:st.lim≤st.next):
  ∃ v st',cc 62 [wV w,.int .i64 a] st=some (v,st')∧Ext st st'∧Own st.next st' v (rowsF zb2 (zbt s tw a)) 2 (zbt s tw a).length:=by
 have hw:IntKind.wrap .i64 (a+1)=a+1:=wrap64 (by omega) (by omega)
 have x1:Ext st (st.new (.cells (wRow w) 0)):=(Ext.refl st).new _
 have hm:(st.new (.cells (wRow w) 0)).mem.get st.next=some (.cells (wRow w) 0):=SS.new_get
 have l8:(st.new (.cells (wRow w) 0)).ld st.next 8=some (.int .i64 s):=by rw [SS.ld_cells hm,zhz,h8];rfl
 have l10:(st.new (.cells (wRow w) 0)).ld st.next 10=some (.int .i64 tw):=by rw [SS.ld_cells hm,zhz,h10];rfl
 have hc:(wV w).cells.toList=wRow w:=zaJ _
 have mk:∀ (l:List (Int×Int)),l≠[]→∃ v st',some (Value.slice (some ⟨(st.new (.cells (wRow w) 0)).next,0,none⟩) l.length l.length,(st.new (.cells (wRow w) 0)).new (.cells (rowsF zb2 l) 2))=some (v,st')∧Ext st st'∧Own st.next st' v (rowsF zb2 l) 2 l.length:=fun l hl=>by
  have hne:l.length≠0:=fun e=>hl (List.length_eq_zero_iff.1 e)
  exact ⟨_,_,rfl,x1.new _,⟨zhY (f:=zb2) (z:=2) (fun _=>rfl) l,.inr ⟨_,rfl,by omega,SS.new_get,by simp,by simp⟩⟩⟩
 have nil:∃ v st',some (Value.slice none 0 0,(st.new (.cells (wRow w) 0)))=some (v,st')∧Ext st st'∧Own st.next st' v (rowsF zb2 []) 2 0:=⟨_,_,rfl,x1,Own.nil _ _ _⟩
 unfold zbt
 by_cases s0:s=0
 ·rw [if_pos s0]
  obtain ⟨v,st',c,r⟩:=mk [(a+1,1)] (by simp)
  refine ⟨v,st',zcG _ _ st ?_,r⟩
  simp only [zdj,hc,l8,l10,zob,zaa,zdt s0,zct,hw]
  exact c
 rw [if_neg s0]
 by_cases s1:s=1
 ·rw [if_pos s1]
  obtain ⟨v,st',c,r⟩:=mk [(tw,1)] (by simp)
  refine ⟨v,st',zcG _ _ st ?_,r⟩
  simp only [zdj,hc,l8,l10,zob,zaa,zdf s0,zdt s1,zct,zcf,hw]
  exact c
 rw [if_neg s1]
 by_cases s2:s=2
 ·rw [if_pos (.inl s2)]
  obtain ⟨v,st',c,r⟩:=mk [(a+1,1),(tw,1)] (by simp)
  refine ⟨v,st',zcG _ _ st ?_,r⟩
  simp only [zdj,hc,l8,l10,zob,zaa,zdf s0,zdf s1,zdt s2,zct,zcf,hw]
  exact c
 by_cases s3:s=3
 ·rw [if_pos (.inr s3)]
  obtain ⟨v,st',c,r⟩:=mk [(a+1,1),(tw,1)] (by simp)
  refine ⟨v,st',zcG _ _ st ?_,r⟩
  simp only [zdj,hc,l8,l10,zob,zaa,zdf s0,zdf s1,zdf s2,zdt s3,zct,zcf,hw]
  exact c
 rw [if_neg (fun h=>h.elim s2 s3)]
 by_cases s5:s=5
 ·rw [if_pos s5]
  obtain ⟨v,st',c,r⟩:=mk [(tw,64)] (by simp)
  refine ⟨v,st',zcG _ _ st ?_,r⟩
  simp only [zdj,hc,l8,l10,zob,zaa,zdf s0,zdf s1,zdf s2,zdf s3,zdt s5,zct,zcf,hw]
  exact c
 rw [if_neg s5]
 by_cases s6:s=6
 ·rw [if_pos s6]
  obtain ⟨v,st',c,r⟩:=mk [(tw,16)] (by simp)
  refine ⟨v,st',zcG _ _ st ?_,r⟩
  simp only [zdj,hc,l8,l10,zob,zaa,zdf s0,zdf s1,zdf s2,zdf s3,zdf s5,zdt s6,zct,zcf,hw]
  exact c
 rw [if_neg s6]
 obtain ⟨v,st',c,r⟩:=nil
 refine ⟨v,st',zcG _ _ st ?_,r⟩
 simp only [zdj,hc,l8,l10,zob,zaa,zdf s0,zdf s1,zdf s2,zdf s3,zdf s5,zdf s6,zct,zcf,hw]
 exact c
theorem zr4 [Sym] (w:Wd) (a s tw:Int) (h8:w[8]?=some s) (h10:w[10]?=some tw) (h0:0≤a) (h1:a≤1099511627776) (st:SS) (hll:st.lim≤st.next):
  ∃ v st',cc 21 [wV w,.int .i64 a] st=some (v,st')∧Ext st st'∧Own st.next st' v (rowsF zb2 (zbt s tw a)) 2 (zbt s tw a).length:=by
 have hw:IntKind.wrap .i64 (a+1)=a+1:=wrap64 (by omega) (by omega)
 have x1:Ext st (st.new (.cells (wRow w) 0)):=(Ext.refl st).new _
 have hm:(st.new (.cells (wRow w) 0)).mem.get st.next=some (.cells (wRow w) 0):=SS.new_get
 have l8:(st.new (.cells (wRow w) 0)).ld st.next 8=some (.int .i64 s):=by rw [SS.ld_cells hm,zhz,h8];rfl
 have l10:(st.new (.cells (wRow w) 0)).ld st.next 10=some (.int .i64 tw):=by rw [SS.ld_cells hm,zhz,h10];rfl
 have hc:(wV w).cells.toList=wRow w:=zaJ _
 have mk:∀ (l:List (Int×Int)),l≠[]→∃ v st',some (Value.slice (some ⟨(st.new (.cells (wRow w) 0)).next,0,none⟩) l.length l.length,(st.new (.cells (wRow w) 0)).new (.cells (rowsF zb2 l) 2))=some (v,st')∧Ext st st'∧Own st.next st' v (rowsF zb2 l) 2 l.length:=fun l hl=>by
  have hne:l.length≠0:=fun e=>hl (List.length_eq_zero_iff.1 e)
  exact ⟨_,_,rfl,x1.new _,⟨zhY (f:=zb2) (z:=2) (fun _=>rfl) l,.inr ⟨_,rfl,by omega,SS.new_get,by simp,by simp⟩⟩⟩
 have nil:∃ v st',some (Value.slice none 0 0,(st.new (.cells (wRow w) 0)))=some (v,st')∧Ext st st'∧Own st.next st' v (rowsF zb2 []) 2 0:=⟨_,_,rfl,x1,Own.nil _ _ _⟩
 have go:∀ (l:List (Int×Int)),(∃ v st',za4 cc ze5 (wV w) a st=some (v,st')∧Ext st st'∧Own st.next st' v (rowsF zb2 l) 2 l.length)→
   ∃ v st',cc 21 [wV w,.int .i64 a] st=some (v,st')∧Ext st st'∧Own st.next st' v (rowsF zb2 l) 2 l.length:=fun l ⟨v,st',c,r⟩=>⟨v,st',zik _ _ st c,r⟩
 refine go _ ?_
 unfold zbt
 by_cases s0:s=0
 ·rw [if_pos s0]
  simp only [za4,hc,l8,l10,zob,zaa,zdt s0,zct,hw]
  exact mk [(a+1,1)] (by simp)
 rw [if_neg s0]
 by_cases s1:s=1
 ·rw [if_pos s1]
  simp only [za4,hc,l8,l10,zob,zaa,zdf s0,zdt s1,zct,zcf,hw]
  exact mk [(tw,1)] (by simp)
 rw [if_neg s1]
 by_cases s2:s=2
 ·rw [if_pos (.inl s2)]
  simp only [za4,hc,l8,l10,zob,zaa,zdf s0,zdf s1,zdt s2,zct,zcf,hw]
  exact mk [(a+1,1),(tw,1)] (by simp)
 by_cases s3:s=3
 ·rw [if_pos (.inr s3)]
  simp only [za4,hc,l8,l10,zob,zaa,zdf s0,zdf s1,zdf s2,zdt s3,zct,zcf,hw]
  exact mk [(a+1,1),(tw,1)] (by simp)
 rw [if_neg (fun h=>h.elim s2 s3)]
 by_cases s5:s=5
 ·rw [if_pos s5]
  simp only [za4,hc,l8,l10,zob,zaa,zdf s0,zdf s1,zdf s2,zdf s3,zdt s5,zct,zcf,hw]
  exact mk [(tw,64)] (by simp)
 rw [if_neg s5]
 by_cases s6:s=6
 ·rw [if_pos s6]
  simp only [za4,hc,l8,l10,zob,zaa,zdf s0,zdf s1,zdf s2,zdf s3,zdf s5,zdt s6,zct,zcf,hw]
  exact mk [(tw,16)] (by simp)
 rw [if_neg s6]
 simp only [za4,hc,l8,l10,zob,zaa,zdf s0,zdf s1,zdf s2,zdf s3,zdf s5,zdf s6,zct,zcf,hw]
 exact nil
end Go.Proofs.YtifploedaacedaaGreatDoorE
namespace Go.Proofs.YtifploedaacedaaGreatDoorE
set_option maxRecDepth 20000
open Go Go.E Go.Proofs
noncomputable def zjC (cf:zak) (lf:zac) (name':ByteArray) (st:SS):Option (Value×SS):=
 (cf 115 [.string name'] (st.ro st.next)).bind fun a=>
 ((some a.1).bind (asI .i64)).bind fun b=>
 cond (decide (0≤b)) (
 (zbe (ptr 0 0) 12 b 2).bind fun c=>
 ((a.2.ld c.1 (c.2+1)).bind (asI .i64)).bind fun d=>
 some (.int .i64 d,st.adv a.2.next)) (
 some (.int .i64 0,st.adv a.2.next))
noncomputable abbrev zol:zac:=lS Tryz.prog Lk0 Tryz.f98 zaG
theorem zom:Lk0.func 98=some (98,Tryz.f98):=by kernel_rfl
theorem zon [Sym] (name':ByteArray) (st:SS) {r:Value×SS} (h:zjC cc zol name' st=some r):cc 98 [.string name'] st=some r:=
 zah (li:=zaG) zai zaq zom rfl (fun _=>rfl) (.trans (by kernel_rfl) h)
noncomputable def zlD (cf:zak) (lf:zac) (name':ByteArray) (st:SS):Option (Value×SS):=
 let a:SS:=(st.ro st.next).new (.cells [.string name'] 0)
 (zmv 0 0 12 2 0 12).bind fun b=>
 (cf 134 [b,.func (.func 135) #[] #[ptr ((st.ro st.next).next) 0]] a).bind fun c=>
 ((some c.1).bind (asI .i64)).bind fun d=>
 some (.int .i64 d,st.adv c.2.next)
noncomputable abbrev znv:zac:=lS Tryz.prog Lk0 Tryz.f115 zaG
theorem znw:Lk0.func 115=some (115,Tryz.f115):=by kernel_rfl
theorem znx [Sym] (name':ByteArray) (st:SS) {r:Value×SS} (h:zlD cc znv name' st=some r):cc 115 [.string name'] st=some r:=
 zah (li:=zaG) zai zaq znw rfl (fun _=>rfl) (.trans (by kernel_rfl) h)
def zkC:LoopI:=⟨[(0,.any),(1,.any),(7,.int .i64),(8,.int .i64)],[(.exit 0,[]),(.ret,[(4,.int .i64)])]⟩
def zlE (n:Nat):Option LoopI:=cond (Nat.beq n 2) (some zkC) (none)
noncomputable def zl1 (cf:zak) (lf:zac) (s':Value) (q':Nat) (st:SS):Option (Value×SS):=
 ((lenV s').bind (asI .i64)).bind fun a=>
 (lf 2 [s',.func (.func 135) #[] #[ptr q' 0],.int .i64 a,.int .i64 0] (st.ro st.next)).bind fun b=>
 cond (Nat.beq b.1 0) (
 some (.int .i64 (-1),st.adv b.2.2.next)) (
 ((b.2.1[0]?).bind (asI .i64)).bind fun c=>
 some (.int .i64 c,st.adv b.2.2.next))
noncomputable abbrev zeb:zac:=lS Tryz.prog Lk0 Tryz.f134 zlE
theorem zpJ:Lk0.func 134=some (134,Tryz.f134):=by kernel_rfl
theorem zlF [Sym] (s':Value) (q':Nat) (st:SS) {r:Value×SS} (h:zl1 cc zeb s' q' st=some r):cc 134 [s',.func (.func 135) #[] #[ptr q' 0]] st=some r:=
 zah (li:=zlE) zai zaq zpJ rfl (fun _=>rfl) (.trans (by kernel_rfl) h)
noncomputable def zil (cf:zak) (lf:zac) (s':Value) (q':Nat) (t7':Int) (t8':Int) (st:SS):Option (Nat×List Value×SS):=
 cond (decide (t8'<t7')) (
 (zar s' t8' 2).bind fun a=>
 (st.ldN a.1 a.2 2).bind fun b=>
 (cf 135 [b,ptr q' 0] st).bind fun c=>
 ((some c.1).bind asB).bind fun d=>
 cond d (
 some (1,[.int .i64 t8'],c.2)) (
 let e:Int:=IntKind.wrap .i64 (t8'+1)
 lf 2 [s',.func (.func 135) #[] #[ptr q' 0],.int .i64 t7',.int .i64 e] c.2)) (
 some (0,[],st))
theorem zgr [Sym] (s':Value) (q':Nat) (t7':Int) (t8':Int) (st:SS) {r:Nat×List Value×SS} (h:zil cc zeb s' q' t7' t8' st=some r):zeb 2 [s',.func (.func 135) #[] #[ptr q' 0],.int .i64 t7',.int .i64 t8'] st=some r:=
 zax zai zaq (key:=2) (I:=zkC) rfl (by kernel_rfl) (by kernel_rfl) rfl rfl (.trans (by kernel_rfl) h)
noncomputable def zp9 (cf:zak) (lf:zac) (f':Value) (x1':Value) (st:SS):Option (Value×SS):=
 let a:SS:=(st.ro st.next).new (.cells (f':Value).cells.toList 0)
 ((a.ld ((st.ro st.next).next) 0).bind asS).bind fun b=>
 (addr? x1').bind fun c=>
 ((a.ld c.1 c.2).bind asS).bind fun d=>
 some (.bool (eqT b d),st.adv a.next)
noncomputable abbrev zqP:zac:=lS Tryz.prog Lk0 Tryz.f135 zaG
theorem zqQ:Lk0.func 135=some (135,Tryz.f135):=by kernel_rfl
theorem zqR [Sym] (f':Value) (x1':Value) (st:SS) {r:Value×SS} (h:zp9 cc zqP f' x1' st=some r):cc 135 [f',x1'] st=some r:=
 zah (li:=zaG) zai zaq zqQ rfl (fun _=>rfl) (.trans (by kernel_rfl) h)
noncomputable def zhZ (cf:zak) (lf:zac) (w':Value) (name':ByteArray) (x':Int) (st:SS):Option (Value×SS):=
 let a:SS:=(st.ro st.next).new (.cells (w':Value).cells.toList 0)
 let b:SS:=a.new (.cells [.int .i64 0,.int .i64 0,.int .i64 0,.int .i64 0,.int .i64 0,.int .i64 0,.int .i64 0,.int .i64 0,.int .i64 0,.int .i64 0,.int .i64 0,.int .i64 0] 0)
 (cf 115 [.string name'] b).bind fun c=>
 ((some c.1).bind (asI .i64)).bind fun d=>
 cond (decide (d<0)) (
 (c.2.ldN ((st.ro st.next).next) 0 12).bind fun e=>
 (c.2.stV a.next 0 12 e).bind fun f=>
 (f.rdN a.next 0 12).bind fun g=>
 cond (flat3 (.tuple #[g,.int .i64 5])) (some (.tuple #[g,.int .i64 5],st.adv f.next)) none) (
 (zbe (ptr 0 0) 12 d 2).bind fun h=>
 ((c.2.ld h.1 (h.2+1)).bind (asI .i64)).bind fun i=>
 (cf 118 [.int .i64 x',.int .i64 i] c.2).bind fun j=>
 ((some j.1).bind asB).bind fun k=>
 cond (!k) (
 (j.2.ldN ((st.ro st.next).next) 0 12).bind fun l=>
 (j.2.stV a.next 0 12 l).bind fun m=>
 (m.rdN a.next 0 12).bind fun n=>
 cond (flat3 (.tuple #[n,.int .i64 1])) (some (.tuple #[n,.int .i64 1],st.adv m.next)) none) (
 (cf 53 [ptr ((st.ro st.next).next) 0] j.2).bind fun o=>
 (zar o.1 d 1).bind fun p=>
 (o.2.ld p.1 p.2).bind fun q=>
 (zav q).bind fun r=>
 (addr? r).bind fun s=>
 (o.2.st s.1 s.2 [.int .i64 x']).bind fun t=>
 (t.ldN ((st.ro st.next).next) 0 12).bind fun u=>
 (t.stV a.next 0 12 u).bind fun v=>
 (v.rdN a.next 0 12).bind fun w=>
 cond (flat3 (.tuple #[w,.int .i64 0])) (some (.tuple #[w,.int .i64 0],st.adv v.next)) none))
noncomputable abbrev zo8:zac:=lS Tryz.prog Lk0 Tryz.f100 zaG
theorem zo9:Lk0.func 100=some (100,Tryz.f100):=by kernel_rfl
theorem zhA [Sym] (w':Value) (name':ByteArray) (x':Int) (st:SS) {r:Value×SS} (h:zhZ cc zo8 w' name' x' st=some r):cc 100 [w',.string name',.int .i64 x'] st=some r:=
 zah (li:=zaG) zai zaq zo9 rfl (fun _=>rfl) (.trans (by kernel_rfl) h)
noncomputable def zjD (cf:zak) (lf:zac) (x':Int) (bits':Int) (st:SS):Option (Value×SS):=
 cond (decide (0≤x')) (
 ((aI .shr .i64 x' bits').bind (asI .i64)).bind fun a=>
 some (.bool (decide (a=0)),st.adv (st.ro st.next).next)) (
 some (.bool false,st.adv (st.ro st.next).next))
noncomputable abbrev zoo:zac:=lS Tryz.prog Lk0 Tryz.f118 zaG
theorem zop:Lk0.func 118=some (118,Tryz.f118):=by kernel_rfl
theorem zoq [Sym] (x':Int) (bits':Int) (st:SS) {r:Value×SS} (h:zjD cc zoo x' bits' st=some r):cc 118 [.int .i64 x',.int .i64 bits'] st=some r:=
 zah (li:=zaG) zai zaq zop rfl (fun _=>rfl) (.trans (by kernel_rfl) h)
def ziN:LoopI:=⟨[(5,.any),(6,.int .i64),(7,.int .i64)],[(.exit 0,[]),(.ret,[(2,.bool)])]⟩
def zjV (n:Nat):Option LoopI:=cond (Nat.beq n 2) (some ziN) (none)
noncomputable def zjE (cf:zak) (lf:zac) (w':Value) (st:SS):Option (Value×SS):=
 let a:SS:=(st.ro st.next).new (.cells (w':Value).cells.toList 0)
 (cf 53 [ptr ((st.ro st.next).next) 0] a).bind fun b=>
 ((lenV b.1).bind (asI .i64)).bind fun c=>
 (lf 2 [b.1,.int .i64 c,.int .i64 0] b.2).bind fun d=>
 cond (Nat.beq d.1 0) (
 some (.bool true,st.adv d.2.2.next)) (
 ((d.2.1[0]?).bind asB).bind fun e=>
 some (.bool e,st.adv d.2.2.next))
noncomputable abbrev zd3:zac:=lS Tryz.prog Lk0 Tryz.f101 zjV
theorem zor:Lk0.func 101=some (101,Tryz.f101):=by kernel_rfl
theorem zos [Sym] (w':Value) (st:SS) {r:Value×SS} (h:zjE cc zd3 w' st=some r):cc 101 [w'] st=some r:=
 zah (li:=zjV) zai zaq zor rfl (fun _=>rfl) (.trans (by kernel_rfl) h)
noncomputable def zgN (cf:zak) (lf:zac) (t5':Value) (t6':Int) (t7':Int) (st:SS):Option (Nat×List Value×SS):=
 cond (decide (t7'<t6')) (
 (zar t5' t7' 1).bind fun a=>
 (st.ld a.1 a.2).bind fun b=>
 (zav b).bind fun c=>
 (addr? c).bind fun d=>
 ((st.ld d.1 d.2).bind (asI .i64)).bind fun e=>
 (zbe (ptr 0 0) 12 t7' 2).bind fun f=>
 ((st.ld f.1 (f.2+1)).bind (asI .i64)).bind fun g=>
 (cf 118 [.int .i64 e,.int .i64 g] st).bind fun h=>
 ((some h.1).bind asB).bind fun i=>
 cond (!i) (
 some (1,[.bool false],h.2)) (
 let j:Int:=IntKind.wrap .i64 (t7'+1)
 lf 2 [t5',.int .i64 t6',.int .i64 j] h.2)) (
 some (0,[],st))
theorem zfk [Sym] (t5':Value) (t6':Int) (t7':Int) (st:SS) {r:Nat×List Value×SS} (h:zgN cc zd3 t5' t6' t7' st=some r):zd3 2 [t5',.int .i64 t6',.int .i64 t7'] st=some r:=
 zax zai zaq (key:=2) (I:=ziN) rfl (by kernel_rfl) (by kernel_rfl) rfl rfl (.trans (by kernel_rfl) h)
def ziO:LoopI:=⟨[(4,.int .u64),(5,.int .i64),(11,.any),(12,.int .i64),(13,.int .i64)],[(.exit 0,[(4,.int .u64)])]⟩
def zjW (n:Nat):Option LoopI:=cond (Nat.beq n 5) (some ziO) (none)
noncomputable def zjF (cf:zak) (lf:zac) (w':Value) (st:SS):Option (Value×SS):=
 let a:SS:=(st.ro st.next).new (.cells (w':Value).cells.toList 0)
 (a.ldN ((st.ro st.next).next) 0 12).bind fun b=>
 (cf 101 [b] a).bind fun c=>
 ((some c.1).bind asB).bind fun d=>
 cond (!d) (
 some (.tuple #[.int .u64 0,.int .i64 1],st.adv c.2.next)) (
 (cf 53 [ptr ((st.ro st.next).next) 0] c.2).bind fun e=>
 ((lenV e.1).bind (asI .i64)).bind fun f=>
 (lf 5 [.int .u64 0,.int .i64 0,e.1,.int .i64 f,.int .i64 0] e.2).bind fun g=>
 ((g.2.1[0]?).bind (asI .u64)).bind fun h=>
 some (.tuple #[.int .u64 h,.int .i64 0],st.adv g.2.2.next))
noncomputable abbrev zd4:zac:=lS Tryz.prog Lk0 Tryz.f73 zjW
theorem zot:Lk0.func 73=some (73,Tryz.f73):=by kernel_rfl
theorem zjX [Sym] (w':Value) (st:SS) {r:Value×SS} (h:zjF cc zd4 w' st=some r):cc 73 [w'] st=some r:=
 zah (li:=zjW) zai zaq zot rfl (fun _=>rfl) (.trans (by kernel_rfl) h)
noncomputable def zjY (cf:zak) (lf:zac) (x':Int) (at0':Int) (t11':Value) (t12':Int) (t13':Int) (st:SS):Option (Nat×List Value×SS):=
 cond (decide (t13'<t12')) (
 (zar t11' t13' 1).bind fun a=>
 (st.ld a.1 a.2).bind fun b=>
 (zav b).bind fun c=>
 (addr? c).bind fun d=>
 ((st.ld d.1 d.2).bind (asI .i64)).bind fun e=>
 let f:Int:=IntKind.wrap .u64 e
 ((aI .shl .u64 f at0').bind (asI .u64)).bind fun g=>
 let h:Int:=orI .u64 x' g
 (zbe (ptr 0 0) 12 t13' 2).bind fun i=>
 ((st.ld i.1 (i.2+1)).bind (asI .i64)).bind fun j=>
 let k:Int:=IntKind.wrap .i64 (at0'+j)
 let l:Int:=IntKind.wrap .i64 (t13'+1)
 lf 5 [.int .u64 h,.int .i64 k,t11',.int .i64 t12',.int .i64 l] st) (
 some (0,[.int .u64 x'],st))
theorem zhB [Sym] (x':Int) (at0':Int) (t11':Value) (t12':Int) (t13':Int) (st:SS) {r:Nat×List Value×SS} (h:zjY cc zd4 x' at0' t11' t12' t13' st=some r):zd4 5 [.int .u64 x',.int .i64 at0',t11',.int .i64 t12',.int .i64 t13'] st=some r:=
 zax zai zaq (key:=5) (I:=ziO) rfl (by kernel_rfl) (by kernel_rfl) rfl rfl (.trans (by kernel_rfl) h)
def zhC:LoopI:=⟨[(0,.int .u64),(2,.any),(3,.any),(7,.any),(8,.int .i64),(9,.int .i64)],[(.exit 0,[(2,.any),(3,.any)])]⟩
def zh0 (n:Nat):Option LoopI:=cond (Nat.beq n 3) (some zhC) (none)
noncomputable def zkD (cf:zak) (lf:zac) (x':Int) (st:SS):Option (Value×SS):=
 let a:SS:=(st.ro st.next).new (.cells [.int .i64 0,.int .i64 0,.int .i64 0,.int .i64 0,.int .i64 0,.int .i64 0,.int .i64 0,.int .i64 0,.int .i64 0,.int .i64 0,.int .i64 0,.int .i64 0] 0)
 let b:SS:=a.new (.cells [.int .i64 0,.int .i64 0,.int .i64 0,.int .i64 0,.int .i64 0,.int .i64 0,.int .i64 0,.int .i64 0,.int .i64 0,.int .i64 0,.int .i64 0,.int .i64 0] 0)
 (cf 53 [ptr a.next 0] b).bind fun c=>
 ((lenV c.1).bind (asI .i64)).bind fun d=>
 (lf 3 [.int .u64 x',ptr ((st.ro st.next).next) 0,ptr a.next 0,c.1,.int .i64 d,.int .i64 0] c.2).bind fun e=>
 (e.2.1[0]?).bind fun f=>
 (e.2.1[1]?).bind fun g=>
 (addr? g).bind fun h=>
 (e.2.2.ldN h.1 h.2 12).bind fun i=>
 (addr? f).bind fun j=>
 (e.2.2.stV j.1 j.2 12 i).bind fun k=>
 (addr? f).bind fun l=>
 (k.rdN l.1 l.2 12).bind fun m=>
 cond (flat3 m) (some (m,st.adv k.next)) none
noncomputable abbrev zdk:zac:=lS Tryz.prog Lk0 Tryz.f20 zh0
theorem zmN:Lk0.func 20=some (20,Tryz.f20):=by kernel_rfl
theorem zmO [Sym] (x':Int) (st:SS) {r:Value×SS} (h:zkD cc zdk x' st=some r):cc 20 [.int .u64 x'] st=some r:=
 zah (li:=zh0) zai zaq zmN rfl (fun _=>rfl) (.trans (by kernel_rfl) h)
noncomputable def zfV (cf:zak) (lf:zac) (x':Int) (t2':Value) (w':Value) (t7':Value) (t8':Int) (t9':Int) (st:SS):Option (Nat×List Value×SS):=
 cond (decide (t9'<t8')) (
 (zar t7' t9' 1).bind fun a=>
 (st.ld a.1 a.2).bind fun b=>
 (zbe (ptr 0 0) 12 t9' 2).bind fun c=>
 ((st.ld c.1 (c.2+1)).bind (asI .i64)).bind fun d=>
 ((aI .shl .u64 1 d).bind (asI .u64)).bind fun e=>
 let f:Int:=IntKind.wrap .u64 (e-1)
 let g:Int:=zlN .u64 x' f
 let h:Int:=IntKind.wrap .i64 g
 (zav b).bind fun i=>
 (addr? i).bind fun j=>
 (st.st j.1 j.2 [.int .i64 h]).bind fun k=>
 ((aI .shr .u64 x' d).bind (asI .u64)).bind fun l=>
 let m:Int:=IntKind.wrap .i64 (t9'+1)
 lf 3 [.int .u64 l,t2',w',t7',.int .i64 t8',.int .i64 m] k) (
 some (0,[t2',w'],st))
theorem zgK [Sym] (x':Int) (t2':Value) (w':Value) (t7':Value) (t8':Int) (t9':Int) (st:SS) {r:Nat×List Value×SS} (h:zfV cc zdk x' t2' w' t7' t8' t9' st=some r):zdk 3 [.int .u64 x',t2',w',t7',.int .i64 t8',.int .i64 t9'] st=some r:=
 zax zai zaq (key:=3) (I:=zhC) rfl (by kernel_rfl) (by kernel_rfl) rfl rfl (.trans (by kernel_rfl) h)
noncomputable def zkE (cf:zak) (lf:zac) (w':Value) (st:SS):Option (Value×SS):=
 (zav w').bind fun a=>
 (addr? a).bind fun b=>
 (zav w').bind fun c=>
 (addr? c).bind fun d=>
 (zav w').bind fun e=>
 (addr? e).bind fun f=>
 (zav w').bind fun g=>
 (addr? g).bind fun h=>
 (zav w').bind fun i=>
 (addr? i).bind fun j=>
 (zav w').bind fun k=>
 (addr? k).bind fun l=>
 (zav w').bind fun m=>
 (addr? m).bind fun n=>
 (zav w').bind fun o=>
 (addr? o).bind fun p=>
 (zav w').bind fun q=>
 (addr? q).bind fun r=>
 (zav w').bind fun s=>
 (addr? s).bind fun t=>
 (zav w').bind fun u=>
 (addr? u).bind fun v=>
 (zav w').bind fun w=>
 (addr? w).bind fun x=>
 let y:SS:=st.new (.cells ([ptr b.1 b.2,ptr d.1 (d.2+1),ptr f.1 (f.2+2),ptr h.1 (h.2+3),ptr j.1 (j.2+4),ptr l.1 (l.2+5),ptr n.1 (n.2+6),ptr p.1 (p.2+7),ptr r.1 (r.2+8),ptr t.1 (t.2+9),ptr v.1 (v.2+10),ptr x.1 (x.2+11)]) 1)
 some (.slice (some ⟨st.next,0,none⟩) 12 12,y)
noncomputable abbrev zmP:zac:=lS Tryz.prog Lk0 Tryz.f53 zaG
theorem zmQ:Lk0.func 53=some (53,Tryz.f53):=by kernel_rfl
theorem zmR [Sym] (w':Value) (st:SS) {r:Value×SS} (h:zkE cc zmP w' st=some r):cc 53 [w'] st=some r:=
 zah (li:=zaG) zai zaq zmQ rfl (fun _=>rfl) (.trans (by kernel_rfl) h)
end Go.Proofs.YtifploedaacedaaGreatDoorE
namespace Go.Proofs.YtifploedaacedaaGreatDoorE
open Go Go.E Go.Proofs
def ze6 (x:List UInt8×Nat):List Value:=[.string (mkS x.1),.int .i64 x.2]
theorem zkF:fieldsC=rowsF ze6 zca:=rfl
def zh1 (f:List UInt8) (x:List UInt8×Nat):Bool:=decide (x.1=f)
def zfW (f:List UInt8):Option Nat:=zca.findIdx? (zh1 f)
def ixI:Option Nat→Int
 | none=> -1
 | some k=>(k:Int)
theorem zun {i:Nat} {x:List UInt8×Nat} (h:zca[i]?=some x):cut fieldsC (0+i*2) 2=some (ze6 x):=by
 rw [Nat.zero_add,zkF]
 exact zrL (zbv (f:=ze6) (z:=2) (fun _=>rfl) zca i x h) rfl
theorem zth {i:Nat} {x:List UInt8×Nat} (h:zca[i]?=some x):fieldsC[0+i*2+1]?=some (.int .i64 x.2):=by
 have:=zbv (f:=ze6) (z:=2) (fun _=>rfl) zca i x h
 rw [← zkF] at this
 have h1:=congrArg (·[1]?) this
 simp only [List.getElem?_take_of_lt (show 1<2 by omega),List.getElem?_drop] at h1
 rw [Nat.zero_add]
 exact h1
theorem zqS [Sym] (x:List UInt8×Nat) (f:List UInt8) (q:Nat) (st:SS) (hq:st.mem.get q=some (.cells [.string (mkS f)] 0)) (hlt:q<st.next):∃ n,st.next≤n∧cc 135 [.agg (ze6 x).toArray,ptr q 0] st=some (.bool (zh1 f x),st.adv n):=by
 refine ⟨st.next+1,by omega,zqR _ _ st ?_⟩
 have l0:((st.ro st.next).new (.cells (ze6 x) 0)).ld st.next 0=some (.string (mkS x.1)):=by
  have hm:((st.ro st.next).new (.cells (ze6 x) 0)).mem.get st.next=some (.cells (ze6 x) 0):=SS.new_get (st:=st.ro st.next)
  rw [SS.ld_cells hm];rfl
 have l1:((st.ro st.next).new (.cells (ze6 x) 0)).ld q 0=some (.string (mkS f)):=by
  rw [SS.ld_cells (c:=[.string (mkS f)]) (z:=0) (by rw [SS.new_old (by simp;omega)];exact hq)];rfl
 have he:eqT (mkS x.1) (mkS f)=zh1 f x:=by rw [zep,zbJ,zbJ];rfl
 simp only [zp9,zaJ,SS.ro_next,l0,zob,zab,zad,l1,he]
 rfl
theorem zti [Sym] (f:List UInt8) (q:Nat) (st0:SS) (hg:Gd st0) (hq:st0.mem.get q=some (.cells [.string (mkS f)] 0)) (hlt:q<st0.next):
  ∀ (k j:Nat) (st:SS),12=k+j→Ext st0 st→∃ e vs st',zeb 2 [.slice (some ⟨0,0,none⟩) 12 12,.func (.func 135) #[] #[ptr q 0],.int .i64 12,.int .i64 j] st=some (e,vs,st')∧Ext st0 st'∧
   ((e=0∧vs=[]∧(zca.drop j).findIdx? (zh1 f)=none)∨(∃ m:Nat,e=1∧(zca.drop j).findIdx? (zh1 f)=some m∧vs=[.int .i64 ((j+m:Nat):Int)])):=by
 intro k
 induction k with
 | zero=>
   intro j st hk he
   have:j=12:=by omega
   subst this
   exact ⟨0,[],st,zgr _ q _ _ st rfl,he,.inl ⟨rfl,rfl,rfl⟩⟩
 | succ k ih=>
   intro j st hk he
   obtain ⟨x,hx⟩:∃ x,zca[j]?=some x:=⟨_,zge (by show j<12;omega)⟩
   have hjl:(j:Int)<12:=by omega
   have hel:zar (.slice (some ⟨0,0,none⟩) 12 12) (j:Int) 2=some (0,0+j*2):=by
    unfold zar
    have h1:(0:Int)≤(j:Int):=by omega
    have h2:(j:Int)<((12:Nat):Int):=by omega
    simp only [zdt h1,zdt h2,Bool.and_self,zct,Int.toNat_natCast]
   have hld:st.ldN 0 (0+j*2) 2=some (.agg (ze6 x).toArray):=by rw [SS.ldN_table (hg.ext he).gF,zun hx];rfl
   obtain ⟨n,hn,c1⟩:=zqS x f q st (he.get hlt hq) (zll hlt he.next)
   have hd:=drop_cons hx
   have hw:=za6 (i:=j) (by omega)
   by_cases hf:zh1 f x=true
   ·refine ⟨1,[.int .i64 j],st.adv n,zgr _ q _ _ st ?_,he.adv (by have:=he.next;omega),.inr ⟨0,rfl,?_,rfl⟩⟩
    ·rw [hf] at c1
     simp only [zil,zdt hjl,zct,hel,zob,hld,c1,zaf]
    ·rw [hd,List.findIdx?_cons,hf];rfl
   ·have hf':zh1 f x=false:=by simpa using hf
    obtain ⟨e,vs,st',d1,d2,d3⟩:=ih (j+1) (st.adv n) (by omega) (he.adv (by have:=he.next;omega))
    rw [hf'] at c1
    refine ⟨e,vs,st',zgr _ q _ _ st ?_,d2,?_⟩
    ·simp only [zil,zdt hjl,zct,hel,zob,hld,c1,zaf,zcf,hw]
     exact d1
    ·rw [hd,List.findIdx?_cons,hf']
     rcases d3 with ⟨e1,e2,e3⟩ | ⟨m,e1,e2,e3⟩
     ·exact .inl ⟨e1,e2,by rw [e3];rfl⟩
     ·exact .inr ⟨m+1,e1,by rw [e2];rfl,by rw [e3,show j+1+m=j+(m+1) by omega]⟩
theorem zpa [Sym] (f:List UInt8) (st:SS) (hg:Gd st):∃ n,st.next≤n∧cc 115 [.string (mkS f)] st=some (.int .i64 (ixI (zfW f)),st.adv n):=by
 have g1:Gd ((st.ro st.next).new (.cells [.string (mkS f)] 0)):=(hg.ro (n:=st.next)).ext ((Ext.refl _).new _)
 have hm:((st.ro st.next).new (.cells [.string (mkS f)] 0)).mem.get st.next=some (.cells [.string (mkS f)] 0):=SS.new_get (st:=st.ro st.next)
 have g2:=g1.ro (n:=((st.ro st.next).new (.cells [.string (mkS f)] 0)).next)
 obtain ⟨e,vs,st',d1,d2,d3⟩:=zti f st.next _ g2 hm (by simp) 12 0 _ (by omega) (.refl _)
 have d1':zeb 2 [.slice (some ⟨0,0,none⟩) 12 12,.func (.func 135) #[] #[ptr st.next 0],.int .i64 12,.int .i64 0] (((st.ro st.next).new (.cells [.string (mkS f)] 0)).ro ((st.ro st.next).new (.cells [.string (mkS f)] 0)).next)=_:=d1
 have hnx:=d2.next
 simp at hnx
 have hsl:zmv 0 0 12 2 0 12=some (.slice (some ⟨0,0,none⟩) 12 12):=rfl
 have hlen:(lenV (.slice (some ⟨0,0,none⟩) 12 12)).bind (asI .i64)=some 12:=rfl
 have c:∀ z,(∃ e vs,zeb 2 [.slice (some ⟨0,0,none⟩) 12 12,.func (.func 135) #[] #[ptr st.next 0],.int .i64 12,.int .i64 0] (((st.ro st.next).new (.cells [.string (mkS f)] 0)).ro ((st.ro st.next).new (.cells [.string (mkS f)] 0)).next)=some (e,vs,st')∧((e=0∧z= -1)∨(e=1∧vs=[.int .i64 z])))→
   cc 134 [.slice (some ⟨0,0,none⟩) 12 12,.func (.func 135) #[] #[ptr st.next 0]] ((st.ro st.next).new (.cells [.string (mkS f)] 0))=some (.int .i64 z,((st.ro st.next).new (.cells [.string (mkS f)] 0)).adv st'.next):=by
  rintro z ⟨e,vs,h,⟨rfl,rfl⟩ | ⟨rfl,rfl⟩⟩
  ·refine zlF _ _ _ ?_
   have hb0:Nat.beq 0 0=true:=rfl
   simp only [zl1,hlen,zob,h,hb0,zct]
  ·refine zlF _ _ _ ?_
   have hb0:Nat.beq 1 0=false:=rfl
   simp only [zl1,hlen,zob,h,hb0,zcf,zgz,zaa]
 have c':=c (ixI (zfW f)) ⟨e,vs,d1',by
  rw [List.drop_zero] at d3
  rcases d3 with ⟨e1,e2,e3⟩ | ⟨m,e1,e2,e3⟩
  ·exact .inl ⟨e1,by unfold zfW;rw [e3];rfl⟩
  ·exact .inr ⟨e1,by unfold zfW;rw [e2,e3,Nat.zero_add];rfl⟩⟩
 refine ⟨st'.next,by omega,znx _ st ?_⟩
 simp only [zlD,hsl,zob,SS.ro_next,c',zaa]
 rfl
theorem zl2 {f:List UInt8} {k:Nat} (h:zfW f=some k):∃ x,zca[k]?=some x∧x.1=f∧k<12:=by
 unfold zfW at h
 obtain ⟨hlt,hp,_⟩:=List.findIdx?_eq_some_iff_getElem.1 h
 exact ⟨_,zge hlt,by simpa [zh1] using hp,hlt⟩
def zaz (k:Nat):Nat:=((zca[k]?).map (·.2)).getD 0
def zjG (f:List UInt8):Nat:=match zfW f with | none=>0 | some k=>zaz k
theorem zmS {k:Nat} (h:k<12):zbe (ptr 0 0) 12 (k:Int) 2=some (0,0+k*2):=by
 have h1:(0:Int)≤(k:Int):=by omega
 have h2:(k:Int)<((12:Nat):Int):=by omega
 unfold ptr zbe
 simp only [zdt h1,zdt h2,Bool.and_self,zct,Int.toNat_natCast]
theorem zkG {st:SS} (hg:Gd st) {k:Nat} (h:k<12):st.ld 0 (0+k*2+1)=some (.int .i64 (zaz k)):=by
 obtain ⟨x,hx⟩:∃ x,zca[k]?=some x:=⟨_,zge (by show k<12;omega)⟩
 rw [SS.ld_table hg.gF,zth hx]
 unfold zaz
 rw [hx];rfl
theorem zuo [Sym] (f:List UInt8) (st:SS) (hg:Gd st):∃ n,st.next≤n∧cc 98 [.string (mkS f)] st=some (.int .i64 (zjG f),st.adv n):=by
 obtain ⟨n,hn,c⟩:=zpa f (st.ro st.next) hg.ro
 refine ⟨n,hn,zon _ st ?_⟩
 unfold zjG
 cases hk:zfW f with
 | none=>
   rw [hk] at c
   have h0:¬ (0:Int)≤ixI none:=by decide
   simp only [zjC,c,zob,zaa,zdf h0,zcf]
   rfl
 | some k=>
   rw [hk] at c
   obtain ⟨x,_,_,hlt⟩:=zl2 hk
   have h0:(0:Int)≤ixI (some k):=Int.natCast_nonneg k
   have e1:zbe (ptr 0 0) 12 (ixI (some k)) 2=some (0,0+k*2):=zmS hlt
   have e2:((st.ro st.next).adv n).ld 0 (0+k*2+1)=some (.int .i64 (zaz k)):=zkG (hg.ro.ext ((Ext.refl _).adv hn)) hlt
   simp only [zjC,c,zob,zaa,zdt h0,zct,e1,e2]
   rfl
end Go.Proofs.YtifploedaacedaaGreatDoorE
