/- Parts of the proof of UcodeBuilds, packed by a program: an evaluator over the given code, functions as plain texts, their laws. -/
import Derived.KernelRfl
import Derived.Test.YtifploedaacedaaGreatDoorPBB
set_option linter.unusedVariables false
set_option linter.unusedSimpArgs false
namespace Go.E
open Go
def PT.vals {α:Type}:PT α→(Nat→Nat)→List (Nat×α)
 | .nil,_=>[]
 | .node l v r,f=>(match v with | some x=>[(f 0,x)] | none=>[])++(l.vals (fun k=>f (2*k+1))++r.vals (fun k=>f (2*k+2)))
theorem PT.AL {α:Type} {p:Nat→α→Prop}:∀ (t:PT α) (f:Nat→Nat),(∀ x∈t.vals f,p x.1 x.2)→t.All p f
 | .nil,_,_=>trivial
 | .node l v r,f,h=>⟨fun x hx=>by
   subst hx
   exact h (f 0,x) (by simp [PT.vals]),PT.AL l _ fun x hx=>h x (by simp [PT.vals,hx]),PT.AL r _ fun x hx=>h x (by simp [PT.vals,hx])⟩
theorem PT.all_map {α β:Type} {p:Nat→α→Prop} {g h:Nat×α→β} {t:PT α} (hp:∀ x:Nat×α,g x=h x→p x.1 x.2) (e:(t.vals fun k=>k).map g=(t.vals fun k=>k).map h):t.All p fun k=>k:=
 PT.AL t _ fun x hx=>hp x (List.map_inj_left.1 e x hx)
noncomputable def zL {α:Type} (x:α):PT α:=.node .nil (some x) .nil
noncomputable def zN {α:Type} (l:PT α) (x:α) (r:PT α):PT α:=.node l (some x) r
end Go.E
namespace Go.Proofs.YtifploedaacedaaGreatDoorE
open Go Go.E Go.Proofs
set_option maxRecDepth 100000
open Tryz in
noncomputable def tyT:PT TypeInfo:=zN (zN (zN (zN (zN (zN (zN (zN (zL t255) t127 .nil) t63 (zL t191)) t31 (zN (zN (zL t287) t159 .nil) t95 (zL t223))) t15 (zN (zN (zN (zL t271) t143 .nil) t79 (zL t207)) t47 (zN (zL t175)
 t111 (zL t239)))) t7 (zN (zN (zN (zN (zL t263) t135 .nil) t71 (zL t199)) t39 (zN (zL t167) t103 (zL t231))) t23 (zN (zN (zN (zL t279) t151 .nil) t87 (zL t215)) t55 (zN (zL t183) t119 (zL t247))))) t3 (zN (zN (zN (zN (zN (zL t259) t131
 .nil) t67 (zL t195)) t35 (zN (zL t163) t99 (zL t227))) t19 (zN (zN (zN (zL t275) t147 .nil) t83 (zL t211)) t51 (zN (zL t179) t115 (zL t243)))) t11 (zN (zN (zN (zN (zL t267) t139 .nil) t75 (zL t203)) t43 (zN (zL t171) t107 (zL t235))) t27
 (zN (zN (zN (zL t283) t155 .nil) t91 (zL t219)) t59 (zN (zL t187) t123 (zL t251)))))) t1 (zN (zN (zN (zN (zN (zN (zL t257) t129 .nil) t65 (zL t193)) t33 (zN (zL t161) t97 (zL t225))) t17 (zN (zN (zN (zL t273) t145 .nil) t81 (zL t209)) t49
 (zN (zL t177) t113 (zL t241)))) t9 (zN (zN (zN (zN (zL t265) t137 .nil) t73 (zL t201)) t41 (zN (zL t169) t105 (zL t233))) t25 (zN (zN (zN (zL t281) t153 .nil) t89 (zL t217)) t57 (zN (zL t185) t121 (zL t249))))) t5 (zN (zN (zN (zN (zN (zL
 t261) t133 .nil) t69 (zL t197)) t37 (zN (zL t165) t101 (zL t229))) t21 (zN (zN (zN (zL t277) t149 .nil) t85 (zL t213)) t53 (zN (zL t181) t117 (zL t245)))) t13 (zN (zN (zN (zN (zL t269) t141 .nil) t77 (zL t205)) t45 (zN (zL t173) t109 (zL
 t237))) t29 (zN (zN (zN (zL t285) t157 .nil) t93 (zL t221)) t61 (zN (zL t189) t125 (zL t253))))))) t0 (zN (zN (zN (zN (zN (zN (zN (zL t256) t128 .nil) t64 (zL t192)) t32 (zN (zL t160) t96 (zL t224))) t16 (zN (zN (zN (zL t272) t144 .nil)
 t80 (zL t208)) t48 (zN (zL t176) t112 (zL t240)))) t8 (zN (zN (zN (zN (zL t264) t136 .nil) t72 (zL t200)) t40 (zN (zL t168) t104 (zL t232))) t24 (zN (zN (zN (zL t280) t152 .nil) t88 (zL t216)) t56 (zN (zL t184) t120 (zL t248))))) t4 (zN
 (zN (zN (zN (zN (zL t260) t132 .nil) t68 (zL t196)) t36 (zN (zL t164) t100 (zL t228))) t20 (zN (zN (zN (zL t276) t148 .nil) t84 (zL t212)) t52 (zN (zL t180) t116 (zL t244)))) t12 (zN (zN (zN (zN (zL t268) t140 .nil) t76 (zL t204)) t44 (zN
 (zL t172) t108 (zL t236))) t28 (zN (zN (zN (zL t284) t156 .nil) t92 (zL t220)) t60 (zN (zL t188) t124 (zL t252)))))) t2 (zN (zN (zN (zN (zN (zN (zL t258) t130 .nil) t66 (zL t194)) t34 (zN (zL t162) t98 (zL t226))) t18 (zN (zN (zN (zL t274)
 t146 .nil) t82 (zL t210)) t50 (zN (zL t178) t114 (zL t242)))) t10 (zN (zN (zN (zN (zL t266) t138 .nil) t74 (zL t202)) t42 (zN (zL t170) t106 (zL t234))) t26 (zN (zN (zN (zL t282) t154 .nil) t90 (zL t218)) t58 (zN (zL t186) t122 (zL
 t250))))) t6 (zN (zN (zN (zN (zN (zL t262) t134 .nil) t70 (zL t198)) t38 (zN (zL t166) t102 (zL t230))) t22 (zN (zN (zN (zL t278) t150 .nil) t86 (zL t214)) t54 (zN (zL t182) t118 (zL t246)))) t14 (zN (zN (zN (zN (zL t270) t142 .nil) t78
 (zL t206)) t46 (zN (zL t174) t110 (zL t238))) t30 (zN (zN (zN (zL t286) t158 .nil) t94 (zL t222)) t62 (zN (zL t190) t126 (zL t254)))))))
open Tryz in
noncomputable def unT:PT TypeDesc:=zN (zN (zN (zN (zN (zN (zN (zN (zL t255.desc) t126.desc .nil) t63.desc (zL t191.desc)) t31.desc (zN (zN (zL t287.desc) t159.desc .nil) t94.desc (zL t223.desc))) t15.desc (zN (zN (zN (zL
 t271.desc) t143.desc .nil) t79.desc (zL t207.desc)) t46.desc (zN (zL t175.desc) t111.desc (zL t239.desc)))) t7.desc (zN (zN (zN (zN (zL t262.desc) t134.desc .nil) t71.desc (zL t198.desc)) t38.desc (zN (zL t167.desc) t103.desc (zL
 t231.desc))) t23.desc (zN (zN (zN (zL t278.desc) t151.desc .nil) t87.desc (zL t215.desc)) t55.desc (zN (zL t183.desc) t119.desc (zL t247.desc))))) t3.desc (zN (zN (zN (zN (zN (zL t258.desc) t131.desc .nil) t67.desc (zL t195.desc)) t34.desc
 (zN (zL t163.desc) t99.desc (zL t227.desc))) t18.desc (zN (zN (zN (zL t275.desc) t146.desc .nil) t83.desc (zL t211.desc)) t51.desc (zN (zL t179.desc) t115.desc (zL t243.desc)))) t9.desc (zN (zN (zN (zN (zL t267.desc) t138.desc .nil)
 t75.desc (zL t203.desc)) t43.desc (zN (zL t171.desc) t106.desc (zL t235.desc))) t27.desc (zN (zN (zN (zL t21.desc) t155.desc .nil) t91.desc (zL t219.desc)) t59.desc (zN (zL t187.desc) t123.desc (zL t251.desc)))))) t1.desc (zN (zN (zN (zN
 (zN (zN (zL t257.desc) t129.desc .nil) t65.desc (zL t193.desc)) t33.desc (zN (zL t161.desc) t27.desc (zL t225.desc))) t17.desc (zN (zN (zN (zL t273.desc) t145.desc .nil) t81.desc (zL t209.desc)) t49.desc (zN (zL t177.desc) t113.desc (zL
 t241.desc)))) t9.desc (zN (zN (zN (zN (zL t265.desc) t137.desc .nil) t73.desc (zL t201.desc)) t41.desc (zN (zL t169.desc) t105.desc (zL t233.desc))) t25.desc (zN (zN (zN (zL t5.desc) t153.desc .nil) t89.desc (zL t217.desc)) t57.desc (zN
 (zL t185.desc) t120.desc (zL t249.desc))))) t5.desc (zN (zN (zN (zN (zN (zL t261.desc) t133.desc .nil) t69.desc (zL t197.desc)) t37.desc (zN (zL t165.desc) t101.desc (zL t229.desc))) t21.desc (zN (zN (zN (zL t277.desc) t149.desc .nil)
 t85.desc (zL t213.desc)) t53.desc (zN (zL t181.desc) t117.desc (zL t245.desc)))) t13.desc (zN (zN (zN (zN (zL t268.desc) t141.desc .nil) t76.desc (zL t205.desc)) t45.desc (zN (zL t173.desc) t108.desc (zL t237.desc))) t29.desc (zN (zN (zN
 (zL t285.desc) t157.desc .nil) t93.desc (zL t221.desc)) t61.desc (zN (zL t189.desc) t125.desc (zL t253.desc))))))) t0.desc (zN (zN (zN (zN (zN (zN (zN (zL t256.desc) t128.desc .nil) t64.desc (zL t192.desc)) t32.desc (zN (zL t160.desc)
 t96.desc (zL t224.desc))) t16.desc (zN (zN (zN (zL t272.desc) t144.desc .nil) t79.desc (zL t207.desc)) t48.desc (zN (zL t176.desc) t112.desc (zL t240.desc)))) t7.desc (zN (zN (zN (zN (zL t264.desc) t136.desc .nil) t72.desc (zL t200.desc))
 t40.desc (zN (zL t168.desc) t104.desc (zL t232.desc))) t24.desc (zN (zN (zN (zL t5.desc) t152.desc .nil) t88.desc (zL t216.desc)) t56.desc (zN (zL t184.desc) t120.desc (zL t247.desc))))) t4.desc (zN (zN (zN (zN (zN (zL t260.desc) t132.desc
 .nil) t68.desc (zL t196.desc)) t36.desc (zN (zL t164.desc) t100.desc (zL t3.desc))) t20.desc (zN (zN (zN (zL t275.desc) t148.desc .nil) t84.desc (zL t212.desc)) t52.desc (zN (zL t180.desc) t116.desc (zL t244.desc)))) t12.desc (zN (zN (zN
 (zN (zL t268.desc) t140.desc .nil) t76.desc (zL t204.desc)) t44.desc (zN (zL t172.desc) t108.desc (zL t236.desc))) t3.desc (zN (zN (zN (zL t21.desc) t106.desc .nil) t91.desc (zL t220.desc)) t60.desc (zN (zL t188.desc) t124.desc (zL
 t251.desc)))))) t2.desc (zN (zN (zN (zN (zN (zN (zL t258.desc) t130.desc .nil) t66.desc (zL t194.desc)) t34.desc (zN (zL t162.desc) t98.desc (zL t226.desc))) t18.desc (zN (zN (zN (zL t274.desc) t146.desc .nil) t82.desc (zL t210.desc))
 t50.desc (zN (zL t178.desc) t114.desc (zL t241.desc)))) t9.desc (zN (zN (zN (zN (zL t265.desc) t138.desc .nil) t74.desc (zL t202.desc)) t42.desc (zN (zL t170.desc) t106.desc (zL t234.desc))) t25.desc (zN (zN (zN (zL t282.desc) t153.desc
 .nil) t90.desc (zL t218.desc)) t58.desc (zN (zL t186.desc) t122.desc (zL t250.desc))))) t5.desc (zN (zN (zN (zN (zN (zL t262.desc) t134.desc .nil) t70.desc (zL t198.desc)) t38.desc (zN (zL t166.desc) t101.desc (zL t230.desc))) t22.desc (zN
 (zN (zN (zL t278.desc) t120.desc .nil) t86.desc (zL t214.desc)) t54.desc (zN (zL t182.desc) t118.desc (zL t246.desc)))) t13.desc (zN (zN (zN (zN (zL t270.desc) t142.desc .nil) t78.desc (zL t206.desc)) t46.desc (zN (zL t174.desc) t110.desc
 (zL t238.desc))) t30.desc (zN (zN (zN (zL t285.desc) t157.desc .nil) t94.desc (zL t222.desc)) t62.desc (zN (zL t190.desc) t126.desc (zL t254.desc)))))))
open Tryz in
noncomputable def fnT:PT (FuncId×Func):=(.node (.node (zN (zN (zN (zN (zN (zL (127,f127)) (63,f63) .nil) (31,f31) (zN (zL (159,f159)) (95,f95) .nil)) (15,f15) (zN (zL (79,f79)) (47,f47) (zN (zL (175,f175)) (111,
 f111) .nil))) (7,f7) (zN (zN (zN (zL (135,f135)) (71,f71) .nil) (39,f39) (zN (zL (167,f167)) (103,f103) .nil)) (23,f23) (zN (zN (zL (151,f151)) (87,f87) .nil) (55,f55) (zL (119,f119))))) (3,f3) (zN (zN (zN (zN (zL (131,f131))
 (67,f67) .nil) (35,f35) (zN (zL (163,f163)) (99,f99) .nil)) (19,f19) (zN (zN (zL (147,f147)) (83,f83) .nil) (51,f51) (zN (zL (179,f179)) (115,f115) .nil))) (11,f11) (zN (zN (zN (zL (139,f139)) (75,f75) .nil) (43,f43) (zN (zL
 (171,f171)) (107,f107) .nil)) (27,f27) (zN (zN (zL (155,f155)) (91,f91) .nil) (59,f59) (zL (123,f123)))))) none (zN (zN (zN (zN (zN (zL (129,f129)) (65,f65) .nil) (33,f33) (zN (zL (161,f161)) (97,f97) .nil)) (17,f17) (zN (zN
 (zL (145,f145)) (81,f81) .nil) (49,f49) (zN (zL (177,f177)) (113,f113) .nil))) (9,f9) (zN (zN (zN (zL (137,f137)) (73,f73) .nil) (41,f41) (zN (zL (169,f169)) (105,f105) .nil)) (25,f25) (zN (zN (zL (153,f153)) (89,f89) .nil)
 (57,f57) (zL (121,f121))))) (5,f5) (zN (zN (zN (zN (zL (133,f133)) (69,f69) .nil) (37,f37) (zN (zL (165,f165)) (101,f101) .nil)) (21,f21) (zN (zN (zL (149,f149)) (85,f85) .nil) (53,f53) (zN (zL (181,f181)) (117,f117) .nil)))
 (13,f13) (zN (zN (zN (zL (141,f141)) (77,f77) .nil) (45,f45) (zN (zL (173,f173)) (109,f109) .nil)) (29,f29) (zN (zL (93,f93)) (61,f61) (zL (125,f125))))))) none (zN (zN (zN (zN (zN (zN (zL (128,f128)) (64,f64) .nil) (32,f32)
 (zN (zL (160,f160)) (96,f96) .nil)) (16,f16) (zN (zN (zL (144,f144)) (80,f80) .nil) (48,f48) (zN (zL (176,f176)) (112,f112) .nil))) (8,f8) (zN (zN (zN (zL (136,f136)) (72,f72) .nil) (40,f40) (zN (zL (168,f168)) (104,f104)
 .nil)) (24,f24) (zN (zN (zL (152,f152)) (88,f88) .nil) (56,f56) (zL (120,f120))))) (4,f4) (zN (zN (zN (zN (zL (132,f132)) (68,f68) .nil) (36,f36) (zN (zL (164,f164)) (100,f100) .nil)) (20,f20) (zN (zL (84,f84)) (52,f52) (zN
 (zL (180,f180)) (116,f116) .nil))) (12,f12) (zN (zN (zN (zL (140,f140)) (76,f76) .nil) (44,f44) (zN (zL (172,f172)) (108,f108) .nil)) (28,f28) (zN (zN (zL (156,f156)) (92,f92) .nil) (60,f60) (zL (124,f124)))))) (2,f2) (zN (zN
 (zN (zN (zN (zL (130,f130)) (66,f66) .nil) (34,f34) (zN (zL (162,f162)) (98,f98) .nil)) (18,f18) (zN (zN (zL (146,f146)) (82,f82) .nil) (50,f50) (zN (zL (178,f178)) (114,f114) .nil))) (10,f10) (zN (zN (zN (zL (138,f138)) (74,
 f74) .nil) (42,f42) (zN (zL (170,f170)) (106,f106) .nil)) (26,f26) (zN (zN (zL (154,f154)) (90,f90) (zL (218,f218))) (58,f58) (zL (122,f122))))) (6,f6) (zN (zN (zN (zN (zL (134,f134)) (70,f70) .nil) (38,f38) (zN (zL (166,
 f166)) (102,f102) .nil)) (22,f22) (zN (zN (zL (150,f150)) (86,f86) .nil) (54,f54) (zN (zL (182,f182)) (118,f118) .nil))) (14,f14) (zN (zN (zN (zL (142,f142)) (78,f78) .nil) (46,f46) (zN (zL (174,f174)) (110,f110) .nil)) (30,
 f30) (zN (zN (zL (158,f158)) (94,f94) .nil) (62,f62) (zL (126,f126))))))))
theorem OY:tyT.All (InfP Tryz.prog) (fun k=>k):=PT.all_map (g:=fun x=>Tryz.prog.info? x.1) (h:=fun x=>some x.2) (fun _ e=>e) (by kernel_rfl)
theorem OX:unT.All (UndP Tryz.prog) (fun k=>k):=PT.all_map (g:=fun x=>Tryz.prog.underlying x.1) (h:=fun x=>some x.2) (fun _ e=>e) (by kernel_rfl)
theorem QC:fnT.All (FnP Tryz.prog) (fun k=>k):=PT.all_map (g:=fun x=>(fun args w=>(callFunc x.1 args).run Tryz.prog w,Tryz.prog.funcs[x.2.1]?)) (h:=fun x=>(fun args w=>.ok (.enter x.2.1 args) w,some x.2.2)) (fun _ e=>⟨fun args w=>congrFun (congrFun (congrArg Prod.fst e) args) w,congrArg Prod.snd e⟩) (by kernel_rfl)
def AU:List (List UInt8×Nat):=[([97,108,117],5),([97],6),([98],6),([100],6),([108,105,116],8),([115,105,122,101],2),([99,99],2),([109,101,109],4),([115,101,113],3),([99,111,110,100],5),([116,111],11),([109,105,115,99],6)]
def y7:List Value:=AU.flatMap fun x=>[.string ⟨⟨x.1⟩⟩,.int .i64 x.2]
def EH:List Value:=Lib.asciiSpaceTab.map fun z=>.int .u8 z
def ZY (f:Nat):Bool:=Nat.beq f 110||Nat.beq f 132
def ZX (f:Nat) (vs:List Value):Option Value:=
 cond (ZY f) (match vs with
  | [.string s,.int .u8 c]=>some (.int .i64 (Lib.indexByte s.data.toList c.toNat.toUInt8))
  | _=>none)
 (cond (Nat.beq f 128) (match vs with
  | [.string s,.string t]=>(match t.data.toList with
    | [c]=>some (.int .i64 (Lib.countByte s.data.toList c))
    | _=>none)
  | _=>none)
 (cond (Nat.beq f 129) (match vs with
  | [.string s,.string t]=>(match t.data.toList with
    | [c]=>some (.int .i64 (Lib.indexByte s.data.toList c))
    | _=>none)
  | _=>none) none))
def QE (f:Nat) (vs:List Value):Option Value:=
 cond (Nat.beq f 102) (match vs with
  | [.int .i64 n]=>cond (decide (0≤n)&&decide (n<100)) (some (.string ⟨(Lib.decDigits n.toNat).toArray⟩)) none
  | _=>none) (ZX f vs)
def Jy (nx g:Nat):NK:=⟨nx,nx+1,[(g,.table [.chan (some g)])],[],.iface 230 (.pointer (some ⟨nx,0,none⟩))⟩
def NR (f:Nat) (vs:List Value) (nx:Nat):Option NK:=
 cond (Nat.beq f 147) (match vs with
  | [.string _,.string s,.int .i64 _,.int .i64 _,.iface t (.int .i64 k)]=>cond (Nat.ble s.size 281474976710656&&Nat.beq t 228) (cond (decide (k=2)) (some (Jy nx 6)) (cond (decide (k=1)) (some (Jy nx 7)) none)) none
  | _=>none) none
def VA:List Nat:=[107,109,69,91,81,82,112,113,133,47,46,75,22,18,77,34,56,98,115,100,118,101,73,20,135,134,116,96,114,97,99,72,15,25,35,12,86,61,88,64,87,104,103,123,124,122,138,60,38,40]
noncomputable def Lk0:Lk where
 info t:=tyT.get t
 und t:=unT.get t
 func f:=fnT.get f
 glob g:=Nat.beq g 6||Nat.beq g 7||Nat.beq g 0||Nat.beq g 2
 ext:=QE
 con:=NR
 Aq f:=VA.any (Nat.beq f)
theorem zqz {t:ByteArray} {c:UInt8} (h:t.data.toList=[c]):t=⟨#[c]⟩:=by
 cases t with
 | mk d=>cases d with
   | mk l=>simp only at h;rw [h]
theorem zwC {f:Nat} {vs:List Value} {v:Value} (h:ZX f vs=some v):(∀ x∈vs,flat3 x=true)∧flat3 v=true∧∀ w,
  ∃ j,(∀ bs w,(callFunc f bs).run Tryz.prog w=.ok (.enter j bs) w)∧Calls Tryz.prog j vs.toArray w fun e w'=>e=.returned v∧RowKit.Below w.heap.size w w':=by
 have still:∀ (w w':World),w'=w→RowKit.Below w.heap.size w w':=fun w w' e=>by subst e;exact ⟨rfl,rfl,rfl,fF _,fun _ _=>rfl⟩
 unfold ZX at h
 cases hi:ZY f with
 | true=>
   rw [hi] at h
   simp only [cu] at h
   split at h
   ·rename_i s c
    cases h
    refine ⟨fun x hx=>by simp at hx;rcases hx with rfl | rfl<;>rfl,rfl,fun w=>?_⟩
    unfold ZY at hi
    simp only [Bool.or_eq_true,pW,decide_eq_true_eq] at hi
    rcases hi with rfl | rfl
    ·exact ⟨110,Tryz.call110,(Tryz.strings_IndexByte s c w).mono fun e w' ⟨h1,h2⟩=>⟨h1,still w w' h2⟩⟩
    ·exact ⟨132,Tryz.call132,(Tryz.stringslite_IndexByte s c w).mono fun e w' ⟨h1,h2⟩=>⟨h1,still w w' h2⟩⟩
   ·cases h
 | false=>
   rw [hi] at h
   simp only [dn] at h
   cases AA:Nat.beq f 128 with
   | true=>
     rw [AA] at h
     have:=beq_true AA
     subst this
     simp only [cu] at h
     split at h
     ·rename_i s t
      split at h
      ·rename_i c hc
       cases h
       have:=zqz hc
       subst this
       exact ⟨fun x hx=>by simp at hx;rcases hx with rfl | rfl<;>rfl,rfl,fun w=>⟨128,Tryz.call128,(Tryz.strings_Count_one s c w).mono fun e w' ⟨h1,h2⟩=>⟨h1,still w w' h2⟩⟩⟩
      ·cases h
     ·cases h
   | false=>
     rw [AA] at h
     simp only [dn] at h
     cases h60:Nat.beq f 129 with
     | true=>
       rw [h60] at h
       have:=beq_true h60
       subst this
       simp only [cu] at h
       split at h
       ·rename_i s t
        split at h
        ·rename_i c hc
         cases h
         have:=zqz hc
         subst this
         exact ⟨fun x hx=>by simp at hx;rcases hx with rfl | rfl<;>rfl,rfl,fun w=>⟨129,Tryz.call129,(Tryz.strings_Index_one s c w).mono fun e w' ⟨h1,h2⟩=>⟨h1,still w w' h2⟩⟩⟩
        ·cases h
       ·cases h
     | false=>rw [h60] at h;cases h
theorem zxG {f:Nat} {vs:List Value} {v:Value} (h:QE f vs=some v):(∀ x∈vs,flat3 x=true)∧flat3 v=true∧∀ w,
  ∃ j,(∀ bs w,(callFunc f bs).run Tryz.prog w=.ok (.enter j bs) w)∧Calls Tryz.prog j vs.toArray w fun e w'=>e=.returned v∧RowKit.Below w.heap.size w w':=by
 have still:∀ (w w':World),w'=w→RowKit.Below w.heap.size w w':=fun w w' e=>by subst e;exact ⟨rfl,rfl,rfl,fF _,fun _ _=>rfl⟩
 unfold QE at h
 cases hi:Nat.beq f 102 with
 | false=>rw [hi] at h;exact zwC h
 | true=>
   rw [hi] at h
   simp only [cu] at h
   have hf:f=102:=by rw [pW] at hi;exact of_decide_eq_true hi
   subst hf
   split at h
   ·rename_i n
    cases hc:(decide (0≤n)&&decide (n<100)) with
    | false=>rw [hc] at h;cases h
    | true=>
      rw [hc] at h
      simp only [cu] at h
      cases h
      simp only [mX,decide_eq_true_eq] at hc
      refine ⟨fun x hx=>by simp at hx;subst hx;rfl,rfl,fun w=>⟨102,Tryz.call102,?_⟩⟩
      have hn:(n.toNat:Int)=n:=Int.toNat_of_nonneg hc.1
      have:=Tryz.strconv_Itoa_small n.toNat (by omega) w
      rw [hn] at this
      exact this.mono fun e w' ⟨h1,h2⟩=>⟨h1,still w w' h2⟩
   ·cases h
theorem gu [Sym]:Lk0.Ok Tryz.prog where
 zF _ _ _ _ _ h:=by cases h
 Ak _ _ h:=by cases h
 info t i h:=PT.zh tyT _ OY t i h
 und t d h:=PT.zh unT _ OX t d h
 func f j fn h:=PT.zh fnT _ QC f (j,fn) h
 mixed:=by kernel_rfl
 ext f vs v h:=by
  obtain ⟨h1,h2,h3⟩:=zxG h
  exact ⟨h1,h2,fun w=>.inl (h3 w)⟩
theorem gy:Jr Lk0:=⟨fun _ _ _ _=>rfl⟩
structure Js [Sym]:Prop where
 e4:∃ t u,Sym.v 6=.iface t u
 e5:∃ t u,Sym.v 7=.iface t u
theorem zs9 [Sym] {g nx:Nat} {fn s:ByteArray} {base bits k:Int} (hs:s.size≤281474976710656) (he:∃ t u,Sym.v g=.iface t u)
  (hc:∀ (ev:Value) (w:World),w.cell? ⟨g,0,none⟩=some ev→(ev=.nilIface∨∃ te pe,ev=.iface te pe)→
   Calls Tryz.prog 147 #[.string fn,.string s,.int .i64 base,.int .i64 bits,.iface 228 (.int .i64 k)] w fun e w'=>∃ N,e=.returned (.iface 230 (.pointer (some ⟨N,0,none⟩)))∧w.heap.size≤N∧w'.heap[N]?=some (.cells #[.string fn,.string s,ev] 248 (0,0))∧RowKit.Below w.heap.size w w'):
  FB Tryz.prog 147 [.string fn,.string s,.int .i64 base,.int .i64 bits,.iface 228 (.int .i64 k)] (Jy nx g):=by
 refine ⟨fun x hx=>by simp at hx;rcases hx with rfl | rfl | rfl | rfl | rfl<;>rfl,147,Tryz.call147,fun w pl hob=>?_⟩
 obtain ⟨hb,hoo,obj,hobj,_,arr,T,fr,rfl,hcells⟩:=hob (g,.table [.chan (some g)]) (by simp [Jy])
 obtain ⟨v',hv',KY⟩:=hcells 0 (.chan (some g)) rfl
 have hv2:v'=Sym.v g:=by cases KY;rfl
 subst hv2
 have hcell:w.cell? ⟨g,0,none⟩=some (Sym.v g):=by
  unfold World.cell?
  simp only [hobj]
  rw [hoo] at hv'
  simpa using hv'
 refine (hc (Sym.v g) w hcell (.inr he)).mono fun e w' ⟨N,h1,h2,h3,h4⟩=>?_
 refine ⟨_,fun i=>if i=nx then some ⟨N,0,3,0⟩ else none,h1,?_⟩
 have hN:N<w'.heap.size:=(Array.getElem?_eq_some_iff.1 h3).1
 refine ⟨.iface (.ptr (p:=⟨N,0,3,0⟩) (by simp)),h4,fun i p hp=>?_,fun i p hp=>?_,fun i p ob hp ho=>by simp [Jy] at ho,fun i j p q hp hq hi=>by simp [Jy] at hi⟩
 ·split at hp
  ·rename_i e;cases hp;subst e
   exact .inr ⟨fF _,Nat.lt_succ_self _,h2⟩
  ·cases hp
 ·split at hp
  ·cases hp;exact hN
  ·cases hp
theorem zxH [Sym] (hE:Js):Q8 Tryz.prog Lk0:=by
 intro f vs nx c h
 have h0:NR f vs nx=some c:=h
 clear h
 unfold NR at h0
 obtain ⟨hf,h1⟩:=AX h0
 clear h0
 have:=beq_true hf
 subst this
 split at h1
 ·rename_i fn s base bits t k
  obtain ⟨hq,h2⟩:=AX h1
  clear h1
  simp only [mX,Nat.ble_eq] at hq
  have:=beq_true hq.2
  subst this
  cases k2:decide (k=2) with
  | true=>
    rw [k2] at h2;cases h2
    have:=of_decide_eq_true k2
    subst this
    exact zs9 hq.1 hE.e4 fun ev w hv hev=>Tryz.toError_syntax _ _ _ _ ev w hq.1 hv hev
  | false=>
    rw [k2] at h2
    cases k1:decide (k=1) with
    | true=>
      rw [k1] at h2;cases h2
      have:=of_decide_eq_true k1
      subst this
      exact zs9 hq.1 hE.e5 fun ev w hv hev=>Tryz.toError_range _ _ _ _ ev w hq.1 hv hev
    | false=>rw [k1] at h2;cases h2
 ·cases h1
noncomputable abbrev cc:fQ:=cS Tryz.prog Lk0
end Go.Proofs.YtifploedaacedaaGreatDoorE
namespace Go.Proofs.YtifploedaacedaaGreatDoorE
set_option maxRecDepth 20000
open Go Go.E Go.Proofs
noncomputable def znW (cf:fQ) (lf:eX) (c':Int) (st:SS):Option (Value×SS):=
 cond (decide (97≤c')) (
 cond (decide (c'≤122)) (
 some (.bool true,st)) (
 cond (decide (65≤c')) (
 cond (decide (c'≤90)) (
 some (.bool true,st)) (
 some (.bool (decide (c'=95)),st))) (
 some (.bool (decide (c'=95)),st)))) (
 cond (decide (65≤c')) (
 cond (decide (c'≤90)) (
 some (.bool true,st)) (
 some (.bool (decide (c'=95)),st))) (
 some (.bool (decide (c'=95)),st)))
noncomputable abbrev zpW:eX:=lS Tryz.prog Lk0 Tryz.f106 lQ
theorem zpX:Lk0.func 106=some (106,Tryz.f106):=by kernel_rfl
theorem zpY [Sym] (c':Int) (st:SS) {r:Value×SS} (h:znW cc zpW c' st=some r):cc 106 [.int .u8 c'] st=some r:=
 mF (li:=lQ) gu gy zpX rfl (fun _=>rfl) (.trans (by kernel_rfl) h)
noncomputable def zpb (cf:fQ) (lf:eX) (c':Int) (st:SS):Option (Value×SS):=
 cond (decide (48≤c')) (
 some (.bool (decide (c'≤57)),st)) (
 some (.bool false,st))
noncomputable abbrev zqW:eX:=lS Tryz.prog Lk0 Tryz.f108 lQ
theorem zqX:Lk0.func 108=some (108,Tryz.f108):=by kernel_rfl
theorem zqY [Sym] (c':Int) (st:SS) {r:Value×SS} (h:zpb cc zqW c' st=some r):cc 108 [.int .u8 c'] st=some r:=
 mF (li:=lQ) gu gy zqX rfl (fun _=>rfl) (.trans (by kernel_rfl) h)
def zmR:eu:=⟨[(0,.str),(6,.any)],[(.exit 0,[(0,.str)]),(.ret,[(2,.int .i64)])]⟩
def znX (n:Nat):Option eu:=cond (Nat.beq n 2) (some zmR) (none)
noncomputable def zoj (cf:fQ) (lf:eX) (s':ByteArray) (st:SS):Option (Value×SS):=
 let a:SS:=(st.ro st.next).new (.iter s' 0)
 (lf 2 [.string s',ptr ((st.ro st.next).next) 0] a).bind fun b=>
 cond (Nat.beq b.1 0) (
 ((b.2.1[0]?).bind asS).bind fun c=>
 some (.int .i64 (c.size:Int),st.dw b.2.2.next)) (
 ((b.2.1[0]?).bind (ay .i64)).bind fun d=>
 some (.int .i64 d,st.dw b.2.2.next))
noncomputable abbrev YF:eX:=lS Tryz.prog Lk0 Tryz.f107 znX
theorem zsx:Lk0.func 107=some (107,Tryz.f107):=by kernel_rfl
theorem zsy [Sym] (s':ByteArray) (st:SS) {r:Value×SS} (h:zoj cc YF s' st=some r):cc 107 [.string s'] st=some r:=
 mF (li:=znX) gu gy zsx rfl (fun _=>rfl) (.trans (by kernel_rfl) h)
noncomputable def RQ (cf:fQ) (lf:eX) (s':ByteArray) (zO:Value) (st:SS):Option (Nat×List Value×SS):=
 (aj zO).bind fun a=>
 cond (Nat.beq a.2 0) (
 (st.BJ a.1).bind fun q2=>
 cond (Nat.ble st.lim a.1) (
 cond (decide (q2.2<q2.1.size)) (
 let b:SS:=st.set a.1 (some (.iter q2.1 (q2.2+(Utf8.decode q2.1 q2.2).2)))
 cond (decide (128≤((Utf8.decode q2.1 q2.2).1:Int))) (
 some (1,[.int .i64 (q2.2:Int)],b)) (
 let c:Int:=IntKind.wrap .u8 ((Utf8.decode q2.1 q2.2).1:Int)
 (cf 106 [.int .u8 c] b).bind fun d=>
 ((some d.1).bind lF).bind fun e=>
 cond (!e) (
 let f:Int:=IntKind.wrap .u8 ((Utf8.decode q2.1 q2.2).1:Int)
 (cf 108 [.int .u8 f] d.2).bind fun g=>
 ((some g.1).bind lF).bind fun h=>
 cond (!h) (
 some (1,[.int .i64 (q2.2:Int)],g.2)) (
 lf 2 [.string s',zO] g.2)) (
 lf 2 [.string s',zO] d.2))) (
 some (0,[.string s'],st))) none) none
theorem YT [Sym] (s':ByteArray) (zO:Value) (st:SS) {r:Nat×List Value×SS} (h:RQ cc YF s' zO st=some r):YF 2 [.string s',zO] st=some r:=
 oM gu gy (key:=2) (I:=zmR) rfl (by kernel_rfl) (by kernel_rfl) rfl rfl (.trans (by kernel_rfl) h)
def zgR:eu:=⟨[(0,.str),(1,.int .u8),(5,.any),(6,.int .i64),(7,.int .i64)],[(.exit 0,[(5,.any)])]⟩
def zhg (n:Nat):Option eu:=cond (Nat.beq n 4) (some zgR) (none)
noncomputable def ziz (cf:fQ) (lf:eX) (s':ByteArray) (c':Int) (st:SS):Option (Value×SS):=
 (lf 4 [.string s',.int .u8 c',.slice none 0 0,.int .i64 0,.int .i64 0] st).bind fun a=>
 (a.2.1[0]?).bind fun b=>
 some (b,a.2.2)
noncomputable abbrev SB:eX:=lS Tryz.prog Lk0 Tryz.f50 zhg
theorem zlG:Lk0.func 50=some (50,Tryz.f50):=by kernel_rfl
theorem zlH [Sym] (s':ByteArray) (c':Int) (st:SS) {r:Value×SS} (h:ziz cc SB s' c' st=some r):cc 50 [.string s',.int .u8 c'] st=some r:=
 mF (li:=zhg) gu gy zlG rfl (fun _=>rfl) (.trans (by kernel_rfl) h)
noncomputable def UR (cf:fQ) (lf:eX) (s':ByteArray) (c':Int) (out':Value) (mJ:Int) (i':Int) (st:SS):Option (Nat×List Value×SS):=
 cond (decide (i'≤(s'.size:Int))) (
 cond (decide (i'=(s'.size:Int))) (
 (rM s' mJ i').bind fun a=>
 let b:SS:=st.new (.cells ([.string a]) 1)
 (b.app 1 16 out' (.slice (some ⟨st.next,0,none⟩) 1 1)).bind fun c=>
 let d:Int:=IntKind.wrap .i64 (i'+1)
 let e:Int:=IntKind.wrap .i64 (i'+1)
 lf 4 [.string s',.int .u8 c',c.1,.int .i64 d,.int .i64 e] c.2) (
 ((zI s' i').bind (ay .u8)).bind fun f=>
 cond (decide (f=c')) (
 (rM s' mJ i').bind fun g=>
 let h:SS:=st.new (.cells ([.string g]) 1)
 (h.app 1 16 out' (.slice (some ⟨st.next,0,none⟩) 1 1)).bind fun i=>
 let j:Int:=IntKind.wrap .i64 (i'+1)
 let k:Int:=IntKind.wrap .i64 (i'+1)
 lf 4 [.string s',.int .u8 c',i.1,.int .i64 j,.int .i64 k] i.2) (
 let l:Int:=IntKind.wrap .i64 (i'+1)
 lf 4 [.string s',.int .u8 c',out',.int .i64 mJ,.int .i64 l] st))) (
 some (0,[out'],st))
theorem Zf [Sym] (s':ByteArray) (c':Int) (out':Value) (mJ:Int) (i':Int) (st:SS) {r:Nat×List Value×SS} (h:UR cc SB s' c' out' mJ i' st=some r):SB 4 [.string s',.int .u8 c',out',.int .i64 mJ,.int .i64 i'] st=some r:=
 oM gu gy (key:=4) (I:=zgR) rfl (by kernel_rfl) (by kernel_rfl) rfl rfl (.trans (by kernel_rfl) h)
end Go.Proofs.YtifploedaacedaaGreatDoorE
namespace Go.Proofs.YtifploedaacedaaGreatDoorE
open Go Go.E Go.Proofs
def DX (c:Int):Bool:=(decide (97≤c)&&decide (c≤122))||(decide (65≤c)&&decide (c≤90))||decide (c=95)
def ET (c:Int):Bool:=decide (48≤c)&&decide (c≤57)
theorem Yw [Sym] (c:Int) (st:SS):cc 106 [.int .u8 c] st=some (.bool (DX c),st):=by
 refine zpY c st ?_
 unfold znW DX
 cases decide (97≤c)<;>cases decide (c≤122)<;>cases decide (65≤c)<;>cases decide (c≤90)<;>simp
theorem digit_ok [Sym] (c:Int) (st:SS):cc 108 [.int .u8 c] st=some (.bool (ET c),st):=by
 refine zqY c st ?_
 unfold zpb ET
 cases decide (48≤c)<;>cases decide (c≤57)<;>simp
def nameB (b:UInt8):Bool:=DX b.toNat||ET b.toNat
theorem zwD {b:UInt8} (h:nameB b=true):b.toNat<128:=by
 unfold nameB DX ET at h
 simp only [Bool.or_eq_true,mX,decide_eq_true_eq] at h
 omega
def lZ (l:List UInt8):Nat:=(l.takeWhile nameB).length
theorem Fj {s:ByteArray} {i:Nat} {b:UInt8} (h:(bl s)[i]?=some b):s.get! i=b:=by
 unfold bl at h
 rw [Array.getElem?_toList] at h
 show s.data[i]! =b
 rw [getElem!_def,h]
theorem zrL {s:ByteArray} {i:Nat} {b:UInt8} (h:(bl s)[i]?=some b) (hb:b.toNat<128):Utf8.decode s i=(b.toNat,1):=by
 unfold Utf8.decode
 simp only [Nat.add_zero,Fj h,if_pos hb]
theorem ztW {s:ByteArray} {i:Nat} {b:UInt8} (h:(bl s)[i]?=some b) (hb:128≤b.toNat):128≤(Utf8.decode s i).1:=by
 unfold Utf8.decode
 simp only [Nat.add_zero,Fj h,if_neg (Nat.not_lt.2 hb)]
 repeat' split
 all_goals simp_all [Utf8.runeError]
 all_goals omega
theorem drop_cons {α:Type} {l:List α} {i:Nat} {b:α} (h:l[i]?=some b):l.drop i=b::l.drop (i+1):=by
 obtain ⟨h1,h2⟩:=List.getElem?_eq_some_iff.1 h
 rw [List.drop_eq_getElem_cons h1,h2]
theorem RG {b:UInt8} {l:List UInt8}:lZ (b::l)=if nameB b then 1+lZ l else 0:=by
 unfold lZ
 simp only [List.takeWhile_cons]
 split<;>simp;omega
theorem RP (s:ByteArray):(bl s).drop s.size=[]:=by
 rw [List.drop_eq_nil_iff];simp
theorem zwE [Sym] (s:ByteArray) (i:Nat):∀ (k p:Nat) (st:SS),k+p=s.size→st.mem.get i=some (.iter s p)→st.lim≤i→
  ∃ idx vs st',YF 2 [.string s,ptr i 0] st=some (idx,vs,st')∧st'.next=st.next∧
   ((idx=0∧vs=[.string s]∧p+lZ ((bl s).drop p)=s.size)∨(idx=1∧vs=[.int .i64 ((p+lZ ((bl s).drop p):Nat):Int)])):=by
 intro k
 induction k with
 | zero=>
   intro p st hk hm hl
   have hp:p=s.size:=by omega
   subst hp
   refine ⟨0,[.string s],st,YT s _ st ?_,rfl,.inl ⟨rfl,rfl,by rw [RP];rfl⟩⟩
   simp [RQ,aj,ptr,SS.rV hm,hl]
 | succ k ih=>
   intro p st hk hm hl
   have hlt:p<s.size:=by omega
   have hb:∃ b,(bl s)[p]?=some b:=⟨_,mW (by rw [tC];exact hlt)⟩
   obtain ⟨b,hb⟩:=hb
   have hd:=drop_cons hb
   by_cases hbig:128≤b.toNat
   ·have hdec:=ztW hb hbig
    have hn:nameB b=false:=by
     cases h:nameB b with
     | false=>rfl
     | true=>have:=zwD h;omega
    refine ⟨1,[.int .i64 (p:Int)],st.set i (some (.iter s (p+(Utf8.decode s p).2))),YT s _ st ?_,rfl,.inr ⟨rfl,by rw [hd,RG,hn];simp⟩⟩
    have h128:(128:Int)≤((Utf8.decode s p).1:Int):=by omega
    simp [RQ,aj,ptr,SS.rV hm,hl,hlt,h128]
   ·have hdec:=zrL hb (by omega)
    have h128:¬ (128:Int)≤(b.toNat:Int):=by omega
    have hw:IntKind.wrap .u8 (b.toNat:Int)=b.toNat:=J4 (by omega) (Ve b)
    cases hn:nameB b with
    | false=>
      unfold nameB at hn
      simp only [Bool.or_eq_false_iff] at hn
      refine ⟨1,[.int .i64 (p:Int)],st.set i (some (.iter s (p+1))),YT s _ st ?_,rfl,.inr ⟨rfl,by rw [hd,RG,nameB,hn.1,hn.2];simp⟩⟩
      simp [RQ,aj,ptr,SS.rV hm,hl,hlt,hdec,h128,hw,Yw,digit_ok,hn.1,hn.2]
    | true=>
      obtain ⟨idx,vs,st',h1,h2,h3⟩:=ih (p+1) (st.set i (some (.iter s (p+1)))) (by omega) (by simp) hl
      refine ⟨idx,vs,st',YT s _ st ?_,h2,?_⟩
      ·have hn':=hn
       unfold nameB at hn'
       cases hl1:DX b.toNat with
       | true=>simpa [RQ,aj,ptr,SS.rV hm,hl,hlt,hdec,h128,hw,Yw,hl1] using h1
       | false=>
         rw [hl1,Bool.false_or] at hn'
         simpa [RQ,aj,ptr,SS.rV hm,hl,hlt,hdec,h128,hw,Yw,digit_ok,hl1,hn'] using h1
      ·rw [hd,RG,hn,if_pos rfl]
       rcases h3 with ⟨a,b',c⟩ | ⟨a,b'⟩
       ·exact .inl ⟨a,b',by omega⟩
       ·exact .inr ⟨a,by rw [b'];congr 2;omega⟩
theorem Mc [Sym] (s:ByteArray) (st:SS):∃ n,st.next≤n∧cc 107 [.string s] st=some (.int .i64 (lZ (bl s):Nat),st.dw n):=by
 obtain ⟨idx,vs,st',h1,h2,h3⟩:=zwE s st.next s.size 0 ((st.ro st.next).new (.iter s 0)) (by omega) (SS.fV (st:=st.ro st.next)) (fF _)
 refine ⟨st'.next,by rw [h2];simp,zsy s st ?_⟩
 rcases h3 with ⟨rfl,rfl,h⟩ | ⟨rfl,rfl⟩
 ·simp only [List.drop_zero,Nat.zero_add] at h
  simp [zoj,h1,h]
 ·simp [zoj,h1]
def mkS (l:List UInt8):ByteArray:=⟨⟨l⟩⟩
@[simp] theorem vW (l:List UInt8):bl (mkS l)=l:=rfl
@[simp] theorem PZ (s:ByteArray):mkS (bl s)=s:=by cases s with | mk d=>cases d;rfl
@[simp] theorem Oo (l:List UInt8):(mkS l).size=l.length:=rfl
theorem Oy (s:ByteArray) (l h:Nat):s.extract l h=mkS (((bl s).take h).drop l):=by
 rw [← zlF,PZ]
theorem JC (a b:ByteArray):fA a b=decide (bl a=bl b):=rfl
def pieces (c:UInt8):List UInt8→List (List UInt8)
 | []=>[[]]
 | b::r=>if b=c then []::pieces c r else match pieces c r with
   | []=>[[b]]
   | x::y=>(b::x)::y
def ES (cur:List UInt8):List (List UInt8)→List (List UInt8)
 | []=>[cur]
 | x::y=>(cur++x)::y
theorem MF (c:UInt8) (l:List UInt8):pieces c l≠[]:=by
 cases l with
 | nil=>simp [pieces]
 | cons b r=>
   unfold pieces
   split
   ·simp
   ·split<;>simp
theorem YE {p:List (List UInt8)} (h:p≠[]):ES [] p=p:=by cases p with | nil=>exact absurd rfl h | cons x y=>rfl
theorem zmS (cur:List UInt8) (b c:UInt8) (r:List UInt8) (h:b≠c):ES cur (pieces c (b::r))=ES (cur++[b]) (pieces c r):=by
 show ES cur (if b=c then []::pieces c r else match pieces c r with
  | []=>[[b]]
  | x::y=>(b::x)::y)=_
 rw [if_neg h]
 have:=MF c r
 cases hp:pieces c r with
 | nil=>exact absurd hp this
 | cons x y=>simp [ES]
theorem pieces_len (c:UInt8) (l:List UInt8):(pieces c l).length≤l.length+1:=by
 induction l with
 | nil=>simp [pieces]
 | cons b r ih=>
   unfold pieces
   split
   ·simp;omega
   ·split<;>rename_i h<;>rw [h] at ih<;>simp at ih ⊢<;>omega
def strs (l:List (List UInt8)):List Value:=l.map fun x=>.string (mkS x)
@[simp] theorem zyq (l:List (List UInt8)):(strs l).length=l.length:=by simp [strs]
theorem Ox (a b:List (List UInt8)):strs (a++b)=strs a++strs b:=by simp [strs]
theorem zok (l:List (List UInt8)):(strs l).all one=true:=by simp [strs,one]
theorem Rd.new1 {st:SS} {row:List Value} {z:Nat} (h:row.length=z):Rd (st.new (.cells row z)) (.slice (some ⟨st.next,0,none⟩) 1 1) row z 1:=
 ⟨by rw [h,Nat.one_mul],.inr ⟨st.next,1,rfl,⟨z,SS.fV⟩,by simp⟩⟩
theorem zwF [Sym] (s:ByteArray) (c:UInt8) (hs:s.size≤4294967296) (st0:SS) (hl:st0.lim≤st0.next):∀ (k i from':Nat) (done:List (List UInt8)) (out:Value) (st:SS),k+i=s.size→from'≤i→done.length≤i→Ext st0 st→Own st0.next st out (strs done) 1 done.length→
  ∃ v st',SB 4 [.string s,.int .u8 c.toNat,out,.int .i64 from',.int .i64 i] st=some (0,[v],st')∧Ext st0 st'∧
   Own st0.next st' v (strs (done++ES (((bl s).take i).drop from') (pieces c ((bl s).drop i)))) 1 (done++ES (((bl s).take i).drop from') (pieces c ((bl s).drop i))).length:=by
 have fin:∀ (j f:Nat) (out:Value) (st:SS),s.size<j→SB 4 [.string s,.int .u8 c.toNat,out,.int .i64 f,.int .i64 j] st=some (0,[out],st):=fun j f out st hj=>by
  refine Zf s _ out _ _ st ?_
  have:¬ (j:Int)≤(s.size:Int):=by omega
  simp [UR,this]
 have add:∀ (i from':Nat) (done:List (List UInt8)) (out:Value) (st:SS),i≤s.size→from'≤i→done.length≤i→Ext st0 st→Own st0.next st out (strs done) 1 done.length→
   ∃ v st',(st.new (.cells ([.string (mkS (((bl s).take i).drop from'))]) 1)).app 1 16 out (.slice (some ⟨st.next,0,none⟩) 1 1)=some (v,st')∧Ext st0 st'∧Own st0.next st' v (strs (done++[((bl s).take i).drop from'])) 1 (done++[((bl s).take i).drop from']).length:=fun i from' done out st hi hf hd he ho=>by
  obtain ⟨v,st',h1,h2,_,_,h5,_⟩:=(ho.ext (.new (.refl st) (.cells [.string (mkS (((bl s).take i).drop from'))] 1))).app (Rd.new1 (by rfl)) (by have:=he.next;simp;omega) (by rw [SS.KO,he.lim];exact hl) (by omega) (by rfl) (bt:=16) (by omega) (by omega)
  refine ⟨v,st',h1,h5 st0 (fF _) (he.new _),?_⟩
  rw [Ox,List.length_append]
  exact h2
 intro k
 induction k with
 | zero=>
   intro i from' done out st hk hf hd he ho
   have hi:i=s.size:=by omega
   subst hi
   obtain ⟨v,st',h1,h2,h3⟩:=add s.size from' done out st (fF _) hf hd he ho
   refine ⟨v,st',Zf s _ out _ _ st ?_,h2,?_⟩
   ·have hw:IntKind.wrap .i64 ((s.size:Int)+1)=((s.size+1:Nat):Int):=by rw [wrap64 (by omega) (by omega)];omega
    simp [UR,J3 (s:=s) (l:=from') (h:=s.size) (by omega) (by omega) (by omega),Oy,h1,hw]
    simpa using fin (s.size+1) (s.size+1) v st' (by omega)
   ·rw [RP]
    simpa [pieces,ES] using h3
 | succ k ih=>
   intro i from' done out st hk hf hd he ho
   have hlt:i<s.size:=by omega
   obtain ⟨b,hb⟩:∃ b,(bl s)[i]?=some b:=⟨_,mW (by rw [tC];exact hlt)⟩
   obtain ⟨b',hb',hidx⟩:=Rh (s:=s) (i:=(i:Int)) (by omega) (by omega)
   have:b'=b:=by simp at hb';rw [hb] at hb';cases hb';rfl
   subst this
   have h1:(i:Int)≤(s.size:Int):=by omega
   have h2:¬ (i:Int)=(s.size:Int):=by omega
   have hw:IntKind.wrap .i64 ((i:Int)+1)=((i+1:Nat):Int):=by rw [wrap64 (by omega) (by omega)];omega
   by_cases hc:b'=c
   ·subst hc
    obtain ⟨v,st',g1,g2,g3⟩:=add i from' done out st (by omega) hf hd he ho
    obtain ⟨w,mZ,f1,f2,f3⟩:=ih (i+1) (i+1) (done++[((bl s).take i).drop from']) v st' (by omega) (by omega) (by simp;omega) g2 g3
    refine ⟨w,mZ,Zf s _ out _ _ st ?_,f2,?_⟩
    ·simp [UR,h1,h2,hidx,J3 (s:=s) (l:=from') (h:=i) (by omega) (by omega) (by omega),Oy,g1,hw]
     simpa using f1
    ·have e:((bl s).take (i+1)).drop (i+1)=[]:=by rw [List.drop_eq_nil_iff];simp;omega
     rw [e,YE (MF _ _)] at f3
     have e2:ES (((bl s).take i).drop from') (pieces b' ((bl s).drop i))=((bl s).take i).drop from'::pieces b' ((bl s).drop (i+1)):=by
      rw [drop_cons hb]
      simp [pieces,ES]
     rw [e2]
     simpa using f3
   ·obtain ⟨w,mZ,f1,f2,f3⟩:=ih (i+1) from' done out st (by omega) (by omega) (by omega) he ho
    have hne:¬ (b'.toNat:Int)=(c.toNat:Int):=fun h=>hc (UInt8.toNat_inj.1 (by omega))
    refine ⟨w,mZ,Zf s _ out _ _ st ?_,f2,?_⟩
    ·simp [UR,h1,h2,hidx,hne,hw]
     simpa using f1
    ·have e:ES (((bl s).take i).drop from') (pieces c ((bl s).drop i))=ES (((bl s).take (i+1)).drop from') (pieces c ((bl s).drop (i+1))):=by
      rw [drop_cons hb,zmS _ _ _ _ hc,List.take_add_one,hb]
      congr 1
      have hlen:from'≤((bl s).take i).length:=by simp;omega
      rw [List.drop_append_of_le_length hlen]
      rfl
     rw [e];exact f3
theorem Rf [Sym] (s:ByteArray) (c:UInt8) (hs:s.size≤4294967296) (st:SS) (hl:st.lim≤st.next):∃ v st',cc 50 [.string s,.int .u8 c.toNat] st=some (v,st')∧Ext st st'∧
  Own st.next st' v (strs (pieces c (bl s))) 1 (pieces c (bl s)).length:=by
 obtain ⟨v,st',h1,h2,h3⟩:=zwF s c hs st hl s.size 0 0 [] (.slice none 0 0) st (by omega) (by omega) (by simp) (.refl _) (Own.nil _ _ _)
 refine ⟨v,st',zlH s _ st ?_,h2,?_⟩
 ·have h1':SB 4 [.string s,.int .u8 c.toNat,.slice none 0 0,.int .i64 0,.int .i64 0] st=some (0,[v],st'):=by simpa using h1
  simp [ziz,h1']
 ·simpa [YE (MF _ _)] using h3
end Go.Proofs.YtifploedaacedaaGreatDoorE
namespace Go.Proofs.YtifploedaacedaaGreatDoorE
set_option maxRecDepth 20000
open Go Go.E Go.Proofs
noncomputable def strings_Split (cf:fQ) (lf:eX) (s':ByteArray) (sep':ByteArray) (st:SS):Option (Value×SS):=
 (cf 105 [.string s',.string sep',.int .i64 0,.int .i64 (-1)] st).bind fun a=>
 some (a.1,a.2)
noncomputable abbrev zol:eX:=lS Tryz.prog Lk0 Tryz.f89 lQ
theorem zom:Lk0.func 89=some (89,Tryz.f89):=by kernel_rfl
theorem zon [Sym] (s':ByteArray) (sep':ByteArray) (st:SS) {r:Value×SS} (h:strings_Split cc zol s' sep' st=some r):cc 89 [.string s',.string sep'] st=some r:=
 mF (li:=lQ) gu gy zom rfl (fun _=>rfl) (.trans (by kernel_rfl) h)
def zgT:eu:=⟨[(0,.str),(1,.str),(2,.int .i64),(3,.int .i64),(9,.any),(10,.int .i64)],[(.exit 0,[(0,.str),(9,.any),(10,.int .i64)])]⟩
def zhI (n:Nat):Option eu:=cond (Nat.beq n 11) (some zgT) (none)
noncomputable def strings_genSplit (cf:fQ) (lf:eX) (s':ByteArray) (sep':ByteArray) (nD:Int) (n':Int) (st:SS):Option (Value×SS):=
 cond (decide (n'=0)) (
 some (.slice none 0 0,st)) (
 cond (fA sep' ⟨#[]⟩) (
 (cf 127 [.string s',.int .i64 n'] st).bind fun a=>
 some (a.1,a.2)) (
 cond (decide (n'<0)) (
 (cf 128 [.string s',.string sep'] st).bind fun b=>
 ((some b.1).bind (ay .i64)).bind fun c=>
 let d:Int:=IntKind.wrap .i64 (c+1)
 let e:Int:=IntKind.wrap .i64 ((s'.size:Int)+1)
 let f:Int:=if e<d then e else d
 (EO f f 16).bind fun _=>
 let g:SS:=b.2.new (.cells (EU [.string ⟨#[]⟩] f) 1)
 let h:Int:=IntKind.wrap .i64 (f-1)
 (lf 11 [.string s',.string sep',.int .i64 nD,.int .i64 h,.slice (some ⟨b.2.next,0,none⟩) ((f:Int).toNat) ((f:Int).toNat),.int .i64 0] g).bind fun i=>
 ((i.2.1[0]?).bind asS).bind fun j=>
 (i.2.1[1]?).bind fun k=>
 ((i.2.1[2]?).bind (ay .i64)).bind fun l=>
 (fK k l 1).bind fun m=>
 (i.2.2.st m.1 m.2 [.string j]).bind fun n=>
 let o:Int:=IntKind.wrap .i64 (l+1)
 (n.Bd k 1 0 o).bind fun p=>
 some (p,n)) (
 let q:Int:=IntKind.wrap .i64 ((s'.size:Int)+1)
 let r:Int:=if q<n' then q else n'
 (EO r r 16).bind fun _=>
 let s:SS:=st.new (.cells (EU [.string ⟨#[]⟩] r) 1)
 let t:Int:=IntKind.wrap .i64 (r-1)
 (lf 11 [.string s',.string sep',.int .i64 nD,.int .i64 t,.slice (some ⟨st.next,0,none⟩) ((r:Int).toNat) ((r:Int).toNat),.int .i64 0] s).bind fun u=>
 ((u.2.1[0]?).bind asS).bind fun v=>
 (u.2.1[1]?).bind fun w=>
 ((u.2.1[2]?).bind (ay .i64)).bind fun x=>
 (fK w x 1).bind fun y=>
 (u.2.2.st y.1 y.2 [.string v]).bind fun z=>
 let A:Int:=IntKind.wrap .i64 (x+1)
 (z.Bd w 1 0 A).bind fun B=>
 some (B,z))))
noncomputable abbrev UQ:eX:=lS Tryz.prog Lk0 Tryz.f105 zhI
theorem zml:Lk0.func 105=some (105,Tryz.f105):=by kernel_rfl
theorem zmm [Sym] (s':ByteArray) (sep':ByteArray) (nD:Int) (n':Int) (st:SS) {r:Value×SS} (h:strings_genSplit cc UQ s' sep' nD n' st=some r):cc 105 [.string s',.string sep',.int .i64 nD,.int .i64 n'] st=some r:=
 mF (li:=zhI) gu gy zml rfl (fun _=>rfl) (.trans (by kernel_rfl) h)
noncomputable def zeS (cf:fQ) (lf:eX) (s':ByteArray) (sep':ByteArray) (nD:Int) (n':Int) (a':Value) (i':Int) (st:SS):Option (Nat×List Value×SS):=
 cond (decide (i'<n')) (
 (cf 129 [.string s',.string sep'] st).bind fun a=>
 ((some a.1).bind (ay .i64)).bind fun b=>
 cond (decide (b<0)) (
 some (0,[.string s',a',.int .i64 i'],a.2)) (
 let c:Int:=IntKind.wrap .i64 (b+nD)
 (rM s' 0 c).bind fun d=>
 (fK a' i' 1).bind fun e=>
 (a.2.st e.1 e.2 [.string d]).bind fun f=>
 let g:Int:=IntKind.wrap .i64 (b+(sep'.size:Int))
 (rM s' g (s'.size:Int)).bind fun h=>
 let i:Int:=IntKind.wrap .i64 (i'+1)
 lf 11 [.string h,.string sep',.int .i64 nD,.int .i64 n',a',.int .i64 i] f)) (
 some (0,[.string s',a',.int .i64 i'],st))
theorem zfR [Sym] (s':ByteArray) (sep':ByteArray) (nD:Int) (n':Int) (a':Value) (i':Int) (st:SS) {r:Nat×List Value×SS} (h:zeS cc UQ s' sep' nD n' a' i' st=some r):UQ 11 [.string s',.string sep',.int .i64 nD,.int .i64 n',a',.int .i64 i'] st=some r:=
 oM gu gy (key:=11) (I:=zgT) rfl (by kernel_rfl) (by kernel_rfl) rfl rfl (.trans (by kernel_rfl) h)
noncomputable def zgd (cf:fQ) (lf:eX) (s':ByteArray) (lK:ByteArray) (st:SS):Option (Value×SS):=
 (cf 160 [.string s',.string lK] st).bind fun a=>
 ((some a.1).bind lF).bind fun b=>
 cond (!b) (
 some (.tuple #[.string s',.bool false],a.2)) (
 (rM s' (lK.size:Int) (s'.size:Int)).bind fun c=>
 some (.tuple #[.string c,.bool true],a.2))
noncomputable abbrev ziL:eX:=lS Tryz.prog Lk0 Tryz.f145 lQ
theorem ziM:Lk0.func 145=some (145,Tryz.f145):=by kernel_rfl
theorem ziN [Sym] (s':ByteArray) (lK:ByteArray) (st:SS) {r:Value×SS} (h:zgd cc ziL s' lK st=some r):cc 145 [.string s',.string lK] st=some r:=
 mF (li:=lQ) gu gy ziM rfl (fun _=>rfl) (.trans (by kernel_rfl) h)
noncomputable def zgf (cf:fQ) (lf:eX) (s':ByteArray) (lK:ByteArray) (st:SS):Option (Value×SS):=
 cond (decide ((lK.size:Int)≤(s'.size:Int))) (
 (rM s' 0 (lK.size:Int)).bind fun s1=>
 some (.bool (fA s1 lK),st)) (
 some (.bool false,st))
noncomputable abbrev ziO:eX:=lS Tryz.prog Lk0 Tryz.f160 lQ
theorem ziP:Lk0.func 160=some (160,Tryz.f160):=by kernel_rfl
theorem ziQ [Sym] (s':ByteArray) (lK:ByteArray) (st:SS) {r:Value×SS} (h:zgf cc ziO s' lK st=some r):cc 160 [.string s',.string lK] st=some r:=
 mF (li:=lQ) gu gy ziP rfl (fun _=>rfl) (.trans (by kernel_rfl) h)
noncomputable def strings_CutPrefix (cf:fQ) (lf:eX) (s':ByteArray) (lK:ByteArray) (st:SS):Option (Value×SS):=
 (cf 145 [.string s',.string lK] st).bind fun a=>
 ((fM a.1 0).bind asS).bind fun b=>
 ((fM a.1 1).bind lF).bind fun c=>
 some (.tuple #[.string b,.bool c],a.2)
noncomputable abbrev zlI:eX:=lS Tryz.prog Lk0 Tryz.f130 lQ
theorem zlJ:Lk0.func 130=some (130,Tryz.f130):=by kernel_rfl
theorem zlK [Sym] (s':ByteArray) (lK:ByteArray) (st:SS) {r:Value×SS} (h:strings_CutPrefix cc zlI s' lK st=some r):cc 130 [.string s',.string lK] st=some r:=
 mF (li:=lQ) gu gy zlJ rfl (fun _=>rfl) (.trans (by kernel_rfl) h)
noncomputable def zf4 (cf:fQ) (lf:eX) (s':ByteArray) (base':Int) (vC:Int) (st:SS):Option (Value×SS):=
 (cf 146 [.string s',.int .i64 base',.int .i64 vC] st).bind fun a=>
 ((fM a.1 0).bind (ay .u64)).bind fun b=>
 (fM a.1 1).bind fun c=>
 (((J5 c).bind fun r=>some (.bool !r)).bind lF).bind fun d=>
 cond d (
 (cf 147 [.string ⟨#[80,97,114,115,101,85,105,110,116]⟩,.string s',.int .i64 base',.int .i64 vC,c] a.2).bind fun e=>
 some (.tuple #[.int .u64 b,e.1],e.2)) (
 some (.tuple #[.int .u64 b,.nilIface],a.2))
noncomputable abbrev zlL:eX:=lS Tryz.prog Lk0 Tryz.f131 lQ
theorem zlM:Lk0.func 131=some (131,Tryz.f131):=by kernel_rfl
theorem zhh [Sym] (s':ByteArray) (base':Int) (vC:Int) (st:SS) {r:Value×SS} (h:zf4 cc zlL s' base' vC st=some r):cc 131 [.string s',.int .i64 base',.int .i64 vC] st=some r:=
 mF (li:=lQ) gu gy zlM rfl (fun _=>rfl) (.trans (by kernel_rfl) h)
noncomputable def zkH (cf:fQ) (lf:eX) (c':Int) (st:SS):Option (Value×SS):=
 let n1:Int:=GV .u8 c' 32
 some (.int .u8 n1,st)
noncomputable abbrev znB:eX:=lS Tryz.prog Lk0 Tryz.f161 lQ
theorem znC:Lk0.func 161=some (161,Tryz.f161):=by kernel_rfl
theorem znD [Sym] (c':Int) (st:SS) {r:Value×SS} (h:zkH cc znB c' st=some r):cc 161 [.int .u8 c'] st=some r:=
 mF (li:=lQ) gu gy znC rfl (fun _=>rfl) (.trans (by kernel_rfl) h)
def zqA:eu:=⟨[(1,.int .i64),(8,.bool),(9,.str),(10,.int .u64),(11,.int .u64),(12,.bool),(13,.int .u64),(99,.any),(100,.int .i64),(101,.int .i64)],[(.exit 3,[(9,.str),(12,.bool),(13,.int .u64)]),(.ret,[(6,.int .u64),(7,.any)])]⟩
def zta (n:Nat):Option eu:=cond (Nat.beq n 36) (some zqA) (none)
noncomputable def PK (cf:fQ) (lf:eX) (s':ByteArray) (st:SS):Option (Value×SS):=
 cond (fA s' ⟨#[]⟩) (
 some (.tuple #[.int .u64 0,.iface 228 (.int .i64 2)],st)) (
 let a:Int:=LX .u64 1 31
 let c:Int:=IntKind.wrap .u64 (a-1)
 let d:SS:=st.new (.cells (s'.data.toList.map fun b=>.int .u8 b.toNat) 1)
 (lf 36 [.int .i64 10,.bool false,.string s',.int .u64 1844674407370955162,.int .u64 c,.bool false,.int .u64 0,.slice (some ⟨st.next,0,none⟩) s'.size s'.size,.int .i64 ((s'.size:Nat):Int),.int .i64 0] d).bind fun e=>
 cond (Nat.beq e.1 0) (
 ((e.2.1[0]?).bind asS).bind fun f=>
 ((e.2.1[1]?).bind lF).bind fun g=>
 ((e.2.1[2]?).bind (ay .u64)).bind fun h=>
 cond g (
 (cf 162 [.string f] e.2.2).bind fun i=>
 ((some i.1).bind lF).bind fun j=>
 cond (!j) (
 some (.tuple #[.int .u64 0,.iface 228 (.int .i64 2)],i.2)) (
 some (.tuple #[.int .u64 h,.nilIface],i.2))) (
 some (.tuple #[.int .u64 h,.nilIface],e.2.2))) (
 ((e.2.1[0]?).bind (ay .u64)).bind fun k=>
 (e.2.1[1]?).bind fun l=>
 some (.tuple #[.int .u64 k,l],e.2.2)))
noncomputable abbrev Ru:eX:=lS Tryz.prog Lk0 Tryz.f146 zta
theorem zxI:Lk0.func 146=some (146,Tryz.f146):=by kernel_rfl
theorem ztb [Sym] (s':ByteArray) (st:SS) {r:Value×SS} (h:PK cc Ru s' st=some r):cc 146 [.string s',.int .i64 10,.int .i64 31] st=some r:=
 mF (li:=zta) gu gy zxI rfl (fun _=>rfl) (.trans (by kernel_rfl) h)
noncomputable def J9 (cf:fQ) (lf:eX) (base':Int) (s0':ByteArray) (cutoff':Int) (fO:Int) (lI:Bool) (n':Int) (Bc:Value) (vZ:Int) (tN:Int) (st:SS):Option (Nat×List Value×SS):=
 cond (decide (tN<vZ)) (
 (fK Bc tN 1).bind fun a=>
 ((st.ld a.1 a.2).bind (ay .u8)).bind fun b=>
 cond (decide (b=95)) (
 cond (decide (48≤b)) (
 cond (decide (b≤57)) (
 let c:Int:=IntKind.wrap .u8 (b-48)
 let d:Int:=IntKind.wrap .u8 base'
 cond (decide (d≤c)) (
 some (1,[.int .u64 0,.iface 228 (.int .i64 2)],st)) (
 cond (decide (cutoff'≤n')) (
 some (1,[.int .u64 fO,.iface 228 (.int .i64 1)],st)) (
 let e:Int:=IntKind.wrap .u64 base'
 let f:Int:=IntKind.wrap .u64 (n'*e)
 let g:Int:=IntKind.wrap .u64 c
 let h:Int:=IntKind.wrap .u64 (f+g)
 cond (decide (h<f)) (
 some (1,[.int .u64 fO,.iface 228 (.int .i64 1)],st)) (
 cond (decide (fO<h)) (
 some (1,[.int .u64 fO,.iface 228 (.int .i64 1)],st)) (
 let i:Int:=IntKind.wrap .i64 (tN+1)
 lf 36 [.int .i64 base',.bool false,.string s0',.int .u64 cutoff',.int .u64 fO,.bool lI,.int .u64 h,Bc,.int .i64 vZ,.int .i64 i] st))))) (
 (cf 161 [.int .u8 b] st).bind fun j=>
 ((some j.1).bind (ay .u8)).bind fun k=>
 cond (decide (97≤k)) (
 (cf 161 [.int .u8 b] j.2).bind fun l=>
 ((some l.1).bind (ay .u8)).bind fun m=>
 cond (decide (m≤122)) (
 (cf 161 [.int .u8 b] l.2).bind fun n=>
 ((some n.1).bind (ay .u8)).bind fun o=>
 let p:Int:=IntKind.wrap .u8 (o-97)
 let q:Int:=IntKind.wrap .u8 (p+10)
 let r:Int:=IntKind.wrap .u8 base'
 cond (decide (r≤q)) (
 some (1,[.int .u64 0,.iface 228 (.int .i64 2)],n.2)) (
 cond (decide (cutoff'≤n')) (
 some (1,[.int .u64 fO,.iface 228 (.int .i64 1)],n.2)) (
 let s:Int:=IntKind.wrap .u64 base'
 let t:Int:=IntKind.wrap .u64 (n'*s)
 let u:Int:=IntKind.wrap .u64 q
 let v:Int:=IntKind.wrap .u64 (t+u)
 cond (decide (v<t)) (
 some (1,[.int .u64 fO,.iface 228 (.int .i64 1)],n.2)) (
 cond (decide (fO<v)) (
 some (1,[.int .u64 fO,.iface 228 (.int .i64 1)],n.2)) (
 let w:Int:=IntKind.wrap .i64 (tN+1)
 lf 36 [.int .i64 base',.bool false,.string s0',.int .u64 cutoff',.int .u64 fO,.bool lI,.int .u64 v,Bc,.int .i64 vZ,.int .i64 w] n.2))))) (
 some (1,[.int .u64 0,.iface 228 (.int .i64 2)],l.2))) (
 some (1,[.int .u64 0,.iface 228 (.int .i64 2)],j.2)))) (
 (cf 161 [.int .u8 b] st).bind fun x=>
 ((some x.1).bind (ay .u8)).bind fun y=>
 cond (decide (97≤y)) (
 (cf 161 [.int .u8 b] x.2).bind fun z=>
 ((some z.1).bind (ay .u8)).bind fun A=>
 cond (decide (A≤122)) (
 (cf 161 [.int .u8 b] z.2).bind fun B=>
 ((some B.1).bind (ay .u8)).bind fun C=>
 let D:Int:=IntKind.wrap .u8 (C-97)
 let E:Int:=IntKind.wrap .u8 (D+10)
 let F:Int:=IntKind.wrap .u8 base'
 cond (decide (F≤E)) (
 some (1,[.int .u64 0,.iface 228 (.int .i64 2)],B.2)) (
 cond (decide (cutoff'≤n')) (
 some (1,[.int .u64 fO,.iface 228 (.int .i64 1)],B.2)) (
 let G:Int:=IntKind.wrap .u64 base'
 let H:Int:=IntKind.wrap .u64 (n'*G)
 let I:Int:=IntKind.wrap .u64 E
 let J:Int:=IntKind.wrap .u64 (H+I)
 cond (decide (J<H)) (
 some (1,[.int .u64 fO,.iface 228 (.int .i64 1)],B.2)) (
 cond (decide (fO<J)) (
 some (1,[.int .u64 fO,.iface 228 (.int .i64 1)],B.2)) (
 let K:Int:=IntKind.wrap .i64 (tN+1)
 lf 36 [.int .i64 base',.bool false,.string s0',.int .u64 cutoff',.int .u64 fO,.bool lI,.int .u64 J,Bc,.int .i64 vZ,.int .i64 K] B.2))))) (
 some (1,[.int .u64 0,.iface 228 (.int .i64 2)],z.2))) (
 some (1,[.int .u64 0,.iface 228 (.int .i64 2)],x.2)))) (
 cond (decide (48≤b)) (
 cond (decide (b≤57)) (
 let L:Int:=IntKind.wrap .u8 (b-48)
 let M:Int:=IntKind.wrap .u8 base'
 cond (decide (M≤L)) (
 some (1,[.int .u64 0,.iface 228 (.int .i64 2)],st)) (
 cond (decide (cutoff'≤n')) (
 some (1,[.int .u64 fO,.iface 228 (.int .i64 1)],st)) (
 let N:Int:=IntKind.wrap .u64 base'
 let O:Int:=IntKind.wrap .u64 (n'*N)
 let P:Int:=IntKind.wrap .u64 L
 let Q:Int:=IntKind.wrap .u64 (O+P)
 cond (decide (Q<O)) (
 some (1,[.int .u64 fO,.iface 228 (.int .i64 1)],st)) (
 cond (decide (fO<Q)) (
 some (1,[.int .u64 fO,.iface 228 (.int .i64 1)],st)) (
 let R:Int:=IntKind.wrap .i64 (tN+1)
 lf 36 [.int .i64 base',.bool false,.string s0',.int .u64 cutoff',.int .u64 fO,.bool lI,.int .u64 Q,Bc,.int .i64 vZ,.int .i64 R] st))))) (
 (cf 161 [.int .u8 b] st).bind fun S=>
 ((some S.1).bind (ay .u8)).bind fun T=>
 cond (decide (97≤T)) (
 (cf 161 [.int .u8 b] S.2).bind fun U=>
 ((some U.1).bind (ay .u8)).bind fun V=>
 cond (decide (V≤122)) (
 (cf 161 [.int .u8 b] U.2).bind fun W=>
 ((some W.1).bind (ay .u8)).bind fun X=>
 let Y:Int:=IntKind.wrap .u8 (X-97)
 let Z:Int:=IntKind.wrap .u8 (Y+10)
 let aA:Int:=IntKind.wrap .u8 base'
 cond (decide (aA≤Z)) (
 some (1,[.int .u64 0,.iface 228 (.int .i64 2)],W.2)) (
 cond (decide (cutoff'≤n')) (
 some (1,[.int .u64 fO,.iface 228 (.int .i64 1)],W.2)) (
 let aB:Int:=IntKind.wrap .u64 base'
 let aC:Int:=IntKind.wrap .u64 (n'*aB)
 let aD:Int:=IntKind.wrap .u64 Z
 let aE:Int:=IntKind.wrap .u64 (aC+aD)
 cond (decide (aE<aC)) (
 some (1,[.int .u64 fO,.iface 228 (.int .i64 1)],W.2)) (
 cond (decide (fO<aE)) (
 some (1,[.int .u64 fO,.iface 228 (.int .i64 1)],W.2)) (
 let aF:Int:=IntKind.wrap .i64 (tN+1)
 lf 36 [.int .i64 base',.bool false,.string s0',.int .u64 cutoff',.int .u64 fO,.bool lI,.int .u64 aE,Bc,.int .i64 vZ,.int .i64 aF] W.2))))) (
 some (1,[.int .u64 0,.iface 228 (.int .i64 2)],U.2))) (
 some (1,[.int .u64 0,.iface 228 (.int .i64 2)],S.2)))) (
 (cf 161 [.int .u8 b] st).bind fun aG=>
 ((some aG.1).bind (ay .u8)).bind fun aH=>
 cond (decide (97≤aH)) (
 (cf 161 [.int .u8 b] aG.2).bind fun aI=>
 ((some aI.1).bind (ay .u8)).bind fun aJ=>
 cond (decide (aJ≤122)) (
 (cf 161 [.int .u8 b] aI.2).bind fun aK=>
 ((some aK.1).bind (ay .u8)).bind fun aL=>
 let aM:Int:=IntKind.wrap .u8 (aL-97)
 let aN:Int:=IntKind.wrap .u8 (aM+10)
 let aO:Int:=IntKind.wrap .u8 base'
 cond (decide (aO≤aN)) (
 some (1,[.int .u64 0,.iface 228 (.int .i64 2)],aK.2)) (
 cond (decide (cutoff'≤n')) (
 some (1,[.int .u64 fO,.iface 228 (.int .i64 1)],aK.2)) (
 let aP:Int:=IntKind.wrap .u64 base'
 let aQ:Int:=IntKind.wrap .u64 (n'*aP)
 let aR:Int:=IntKind.wrap .u64 aN
 let aS:Int:=IntKind.wrap .u64 (aQ+aR)
 cond (decide (aS<aQ)) (
 some (1,[.int .u64 fO,.iface 228 (.int .i64 1)],aK.2)) (
 cond (decide (fO<aS)) (
 some (1,[.int .u64 fO,.iface 228 (.int .i64 1)],aK.2)) (
 let aT:Int:=IntKind.wrap .i64 (tN+1)
 lf 36 [.int .i64 base',.bool false,.string s0',.int .u64 cutoff',.int .u64 fO,.bool lI,.int .u64 aS,Bc,.int .i64 vZ,.int .i64 aT] aK.2))))) (
 some (1,[.int .u64 0,.iface 228 (.int .i64 2)],aI.2))) (
 some (1,[.int .u64 0,.iface 228 (.int .i64 2)],aG.2))))) (
 some (0,[.string s0',.bool lI,.int .u64 n'],st))
theorem znY [Sym] (base':Int) (s0':ByteArray) (cutoff':Int) (fO:Int) (lI:Bool) (n':Int) (Bc:Value) (vZ:Int) (tN:Int) (st:SS) {r:Nat×List Value×SS} (h:J9 cc Ru base' s0' cutoff' fO lI n' Bc vZ tN st=some r):Ru 36 [.int .i64 base',.bool false,.string s0',.int .u64 cutoff',.int .u64 fO,.bool lI,.int .u64 n',Bc,.int .i64 vZ,.int .i64 tN] st=some r:=
 oM gu gy (key:=36) (I:=zqA) rfl (by kernel_rfl) (by kernel_rfl) rfl rfl (.trans (by kernel_rfl) h)
def zvd:eu:=⟨[(1,.int .i64),(8,.bool),(9,.str),(10,.int .u64),(11,.int .u64),(12,.bool),(13,.int .u64),(99,.any),(100,.int .i64),(101,.int .i64)],[(.exit 3,[(9,.str),(12,.bool),(13,.int .u64)]),(.ret,[(6,.int .u64),(7,.any)])]⟩
def ztc (n:Nat):Option eu:=cond (Nat.beq n 36) (some zvd) (none)
noncomputable def PI (cf:fQ) (lf:eX) (s':ByteArray) (st:SS):Option (Value×SS):=
 cond (fA s' ⟨#[]⟩) (
 some (.tuple #[.int .u64 0,.iface 228 (.int .i64 2)],st)) (
 let a:Int:=LX .u64 1 31
 let c:Int:=IntKind.wrap .u64 (a-1)
 let d:SS:=st.new (.cells (s'.data.toList.map fun b=>.int .u8 b.toNat) 1)
 (lf 36 [.int .i64 16,.bool false,.string s',.int .u64 1152921504606846976,.int .u64 c,.bool false,.int .u64 0,.slice (some ⟨st.next,0,none⟩) s'.size s'.size,.int .i64 ((s'.size:Nat):Int),.int .i64 0] d).bind fun e=>
 cond (Nat.beq e.1 0) (
 ((e.2.1[0]?).bind asS).bind fun f=>
 ((e.2.1[1]?).bind lF).bind fun g=>
 ((e.2.1[2]?).bind (ay .u64)).bind fun h=>
 cond g (
 (cf 162 [.string f] e.2.2).bind fun i=>
 ((some i.1).bind lF).bind fun j=>
 cond (!j) (
 some (.tuple #[.int .u64 0,.iface 228 (.int .i64 2)],i.2)) (
 some (.tuple #[.int .u64 h,.nilIface],i.2))) (
 some (.tuple #[.int .u64 h,.nilIface],e.2.2))) (
 ((e.2.1[0]?).bind (ay .u64)).bind fun k=>
 (e.2.1[1]?).bind fun l=>
 some (.tuple #[.int .u64 k,l],e.2.2)))
noncomputable abbrev ztd:eX:=lS Tryz.prog Lk0 Tryz.f146 ztc
theorem zxJ:Lk0.func 146=some (146,Tryz.f146):=by kernel_rfl
theorem zte [Sym] (s':ByteArray) (st:SS) {r:Value×SS} (h:PI cc ztd s' st=some r):cc 146 [.string s',.int .i64 16,.int .i64 31] st=some r:=
 mF (li:=ztc) gu gy zxJ rfl (fun _=>rfl) (.trans (by kernel_rfl) h)
noncomputable def Us (cf:fQ) (lf:eX) (s':ByteArray) (st:SS):Option (Value×SS):=
 (cf 130 [.string s',.string ⟨#[48,120]⟩] (st.ro st.next)).bind fun a=>
 ((fM a.1 0).bind asS).bind fun b=>
 ((fM a.1 1).bind lF).bind fun c=>
 cond c (
 (cf 131 [.string b,.int .i64 16,.int .i64 31] a.2).bind fun d=>
 ((fM d.1 0).bind (ay .u64)).bind fun e=>
 (fM d.1 1).bind fun f=>
 let g:Int:=IntKind.wrap .i64 e
 (((J5 f).bind fun r=>some (.bool r)).bind lF).bind fun h=>
 cond h (
 (cf 110 [.string b,.int .u8 95] d.2).bind fun i=>
 ((some i.1).bind (ay .i64)).bind fun j=>
 some (.tuple #[.int .i64 g,.bool (decide (j<0))],st.dw i.2.next)) (
 some (.tuple #[.int .i64 g,.bool false],st.dw d.2.next))) (
 (cf 131 [.string s',.int .i64 10,.int .i64 31] a.2).bind fun k=>
 ((fM k.1 0).bind (ay .u64)).bind fun l=>
 (fM k.1 1).bind fun m=>
 let n:Int:=IntKind.wrap .i64 l
 (((J5 m).bind fun r=>some (.bool r)).bind lF).bind fun o=>
 cond o (
 (cf 110 [.string s',.int .u8 95] k.2).bind fun p=>
 ((some p.1).bind (ay .i64)).bind fun q=>
 some (.tuple #[.int .i64 n,.bool (decide (q<0))],st.dw p.2.next)) (
 some (.tuple #[.int .i64 n,.bool false],st.dw k.2.next)))
noncomputable abbrev zpZ:eX:=lS Tryz.prog Lk0 Tryz.f109 lQ
theorem zp0:Lk0.func 109=some (109,Tryz.f109):=by kernel_rfl
theorem zkI [Sym] (s':ByteArray) (st:SS) {r:Value×SS} (h:Us cc zpZ s' st=some r):cc 109 [.string s'] st=some r:=
 mF (li:=lQ) gu gy zp0 rfl (fun _=>rfl) (.trans (by kernel_rfl) h)
end Go.Proofs.YtifploedaacedaaGreatDoorE
namespace Go.Proofs.YtifploedaacedaaGreatDoorE
open Go Go.E Go.Proofs
theorem zqB (c:UInt8) (l:List UInt8):(Lib.indexByte l c= -1∧pieces c l=[l]∧l.count c=0)∨
  ∃ m:Nat,Lib.indexByte l c=m∧m<l.length∧pieces c l=l.take m::pieces c (l.drop (m+1))∧l.count c=(l.drop (m+1)).count c+1:=by
 induction l with
 | nil=>exact .inl ⟨rfl,rfl,rfl⟩
 | cons b r ih=>
   by_cases hb:b=c
   ·subst hb
    refine .inr ⟨0,?_,by simp,?_,?_⟩
    ·simp [Lib.indexByte]
    ·simp [pieces]
    ·simp
   ·rcases ih with ⟨h1,h2,h3⟩ | ⟨m,h1,h2,h3,h4⟩
    ·refine .inl ⟨?_,?_,?_⟩
     ·simp [Lib.indexByte,hb,h1]
     ·simp [pieces,hb,h2]
     ·simp [List.count_cons,hb,h3]
    ·refine .inr ⟨m+1,?_,by simp;omega,?_,?_⟩
     ·have:¬ ((m:Int)= -1):=by omega
      simp [Lib.indexByte,hb,h1,this]
     ·simp [pieces,hb,h3]
     ·simp [List.count_cons,hb,h4]
theorem Yj {n:Int} {z:Nat} (h0:0≤n) (h1:n≤1099511627776) (h2:n*z≤70368744177664):EO n n z=some ():=by
 unfold EO
 simp [h0,h1,h2]
theorem zlO (v:Value) (n:Nat):EU [v] (n:Int)=List.replicate n v:=by
 unfold EU
 apply List.ext_getElem
 ·simp
 ·intro i h1 h2
  simp
  have:i%1=0:=Nat.mod_one i
  simp [this]
theorem zoo (done:List (List UInt8)) (k:Nat) (x:List UInt8):(strs done++List.replicate (k+1) (Value.string ⟨#[]⟩)).take done.length++([.string (mkS x)]++(strs done++List.replicate (k+1) (Value.string ⟨#[]⟩)).drop (done.length+1))=strs (done++[x])++List.replicate k (Value.string ⟨#[]⟩):=by
 rw [Ox,List.take_append_of_le_length (by simp),List.take_of_length_le (by simp),List.drop_append]
 have h1:(strs done).drop (done.length+1)=[]:=by rw [List.drop_eq_nil_iff];simp
 rw [h1]
 simp [strs]
theorem count_le (c:UInt8) (l:List UInt8):l.count c≤l.length:=List.count_le_length
theorem zxK (c:UInt8) (s:ByteArray) (st:SS) [Sym]:cc 129 [.string s,.string ⟨#[c]⟩] st=some (.int .i64 (Lib.indexByte (bl s) c),st):=
 Yx (by rfl) st
theorem zwG (c:UInt8) (s:ByteArray) (st:SS) [Sym]:cc 128 [.string s,.string ⟨#[c]⟩] st=some (.int .i64 ((bl s).count c:Nat),st):=
 Yx (by rfl) st
theorem zjh (c:UInt8) (s:ByteArray) (st:SS) [Sym]:cc 110 [.string s,.int .u8 c.toNat] st=some (.int .i64 (Lib.indexByte (bl s) c),st):=by
 refine Yx ?_ st
 show some (Value.int .i64 (Lib.indexByte s.data.toList (c.toNat:Int).toNat.toUInt8))=_
 have:((c.toNat:Int).toNat).toUInt8=c:=by simp
 rw [this];rfl
theorem ztX [Sym] (c:UInt8) (N b:Nat) (st0:SS) (hN:N≤4294967296):∀ (k:Nat) (rest:ByteArray) (done:List (List UInt8)) (st:SS),k=(bl rest).count c→done.length+k=N→rest.size≤4294967296→
  st.mem.get b=some (.cells (strs done++List.replicate (k+1) (.string ⟨#[]⟩)) 1)→st.lim≤b→st0.next≤b→b<st.next→Ext st0 st→
  ∃ (rest':ByteArray) (front:List (List UInt8)) (st':SS),UQ 11 [.string rest,.string ⟨#[c]⟩,.int .i64 0,.int .i64 N,.slice (some ⟨b,0,none⟩) (N+1) (N+1),.int .i64 done.length] st=some (0,[.string rest',.slice (some ⟨b,0,none⟩) (N+1) (N+1),.int .i64 N],st')∧
   st'.mem.get b=some (.cells (strs (done++front)++[.string ⟨#[]⟩]) 1)∧front++[bl rest']=pieces c (bl rest)∧(done++front).length=N∧st'.lim≤b∧b<st'.next∧Ext st0 st':=by
 intro k
 induction k with
 | zero=>
   intro rest done st hk hd hs hm hl hb0 hb he
   rcases zqB c (bl rest) with ⟨h1,h2,h3⟩ | ⟨m,h1,h2,h3,h4⟩
   ·refine ⟨rest,[],st,zfR rest _ 0 _ _ _ st ?_,by simpa using hm,by simp [h2],by simp;omega,hl,hb,he⟩
    have:¬ ((done.length:Int)<(N:Int)):=by omega
    simp [zeS,this]
    omega
   ·omega
 | succ k ih=>
   intro rest done st hk hd hs hm hl hb0 hb he
   rcases zqB c (bl rest) with ⟨h1,h2,h3⟩ | ⟨m,h1,h2,h3,h4⟩
   ·omega
   ·rw [tC] at h2
    have hlt:(done.length:Int)<(N:Int):=by omega
    have hm0:¬ ((m:Int)<0):=by omega
    have hw:IntKind.wrap .i64 (m:Int)=m:=wrap64 (by omega) (by omega)
    have hw1:IntKind.wrap .i64 ((m:Int)+1)=((m+1:Nat):Int):=by rw [wrap64 (by omega) (by omega)];omega
    have hwd:IntKind.wrap .i64 ((done.length:Int)+1)=(((done++[(bl rest).take m]).length:Nat):Int):=by rw [wrap64 (by omega) (by omega)];simp
    have hb1:bl (rest.extract (m+1) rest.size)=(bl rest).drop (m+1):=by
     rw [zlF,List.take_of_length_le (by simp)]
    have hst:st.st b done.length [.string (mkS ((bl rest).take m))]=some (st.set b (some (.cells (strs (done++[(bl rest).take m])++List.replicate (k+1) (.string ⟨#[]⟩)) 1))):=
     SS.mM hm hl (by rfl) (by
      rw [DY (by simp),← zoo]
      rfl)
    obtain ⟨rest',front,st',e1,e2,e3,e4,e5,e6,e7⟩:=ih (rest.extract (m+1) rest.size) (done++[(bl rest).take m]) (st.set b (some (.cells (strs (done++[(bl rest).take m])++List.replicate (k+1) (.string ⟨#[]⟩)) 1)))
     (by rw [hb1];omega) (by simp;omega) (by simp;omega) (by simp) hl hb0 hb (he.set hb0 _)
    refine ⟨rest',(bl rest).take m::front,st',zfR rest _ 0 _ _ _ st ?_,by simpa using e2,by rw [h3,← hb1,← e3];rfl,by simpa using e4,e5,e6,e7⟩
    have hel:fK (.slice (some ⟨b,0,none⟩) (N+1) (N+1)) (done.length:Int) 1=some (b,done.length):=by
     unfold fK
     have:(done.length:Int)<((N+1:Nat):Int):=by omega
     simp only [zdt this]
     simp
    have hs1:rM rest 0 (m:Int)=some (mkS ((bl rest).take m)):=by rw [J3 (by omega) (by omega) (by omega),Oy];simp
    have hs2:rM rest ((m+1:Nat):Int) (rest.size:Int)=some (rest.extract (m+1) rest.size):=by rw [J3 (by omega) (by omega) (by omega)];simp
    have hsz:(((⟨#[c]⟩:ByteArray).size:Nat):Int)=1:=rfl
    simp only [zeS,zdt hlt,cu,zxK,bf,eP,h1,bg hm0,dn,Int.add_zero,hw,hs1,hel,hst,hsz,hw1,hs2,hwd]
    exact e1
theorem split_ok [Sym] (s:ByteArray) (c:UInt8) (hs:s.size≤4294967296) (st:SS) (hl:st.lim≤st.next):∃ v st',cc 89 [.string s,.string ⟨#[c]⟩] st=some (v,st')∧Ext st st'∧
  Rd st' v (strs (pieces c (bl s))) 1 (pieces c (bl s)).length:=by
 have hc:=count_le c (bl s)
 rw [tC] at hc
 obtain ⟨rest',front,st',e1,e2,e3,e4,e5,e6,e7⟩:=ztX c ((bl s).count c) st.next st (by omega) _ s [] (st.new (.cells (List.replicate ((bl s).count c+1) (.string ⟨#[]⟩)) 1)) rfl (by simp) hs (by simp [strs]) hl (fF _) (by simp) ((Ext.refl st).new _)
 simp only [List.nil_append] at e2 e4
 have hlen:(pieces c (bl s)).length=(bl s).count c+1:=by rw [← e3];simp [e4]
 have hst:st'.st st.next ((bl s).count c) [.string rest']=some (st'.set st.next (some (.cells (strs (pieces c (bl s))) 1))):=
  SS.mM e2 e5 (by rfl) (by
   rw [← e4,DY (by simp),← e3]
   rw [List.take_append_of_le_length (by simp),List.take_of_length_le (by simp),Ox]
   congr 2
   simp [strs])
 have hw1:IntKind.wrap .i64 (((bl s).count c:Nat)+1:Int)=(((bl s).count c+1:Nat):Int):=by rw [wrap64 (by omega) (by omega)];omega
 have hw2:IntKind.wrap .i64 ((s.size:Int)+1)=((s.size+1:Nat):Int):=by rw [wrap64 (by omega) (by omega)];omega
 have hw3:IntKind.wrap .i64 ((((bl s).count c+1:Nat):Int)-1)=(((bl s).count c:Nat):Int):=by rw [wrap64 (by omega) (by omega)];omega
 have hmin:(if ((s.size+1:Nat):Int)<(((bl s).count c+1:Nat):Int) then ((s.size+1:Nat):Int) else (((bl s).count c+1:Nat):Int))=(((bl s).count c+1:Nat):Int):=by split<;>omega
 have hmk:EO (((bl s).count c+1:Nat):Int) (((bl s).count c+1:Nat):Int) 16=some ():=Yj (by omega) (by omega) (by omega)
 have hel:fK (.slice (some ⟨st.next,0,none⟩) ((bl s).count c+1) ((bl s).count c+1)) (((bl s).count c:Nat):Int) 1=some (st.next,(bl s).count c):=by
  unfold fK
  have:(((bl s).count c:Nat):Int)<(((bl s).count c+1:Nat):Int):=by omega
  simp only [zdt this]
  simp
 have hre:(st'.set st.next (some (.cells (strs (pieces c (bl s))) 1))).Bd (.slice (some ⟨st.next,0,none⟩) ((bl s).count c+1) ((bl s).count c+1)) 1 0 (((bl s).count c+1:Nat):Int)=some (.slice (some ⟨st.next,0,none⟩) ((bl s).count c+1) ((bl s).count c+1)):=by
  unfold SS.Bd
  simp
  rfl
 refine ⟨.slice (some ⟨st.next,0,none⟩) ((bl s).count c+1) ((bl s).count c+1),st'.set st.next (some (.cells (strs (pieces c (bl s))) 1)),zon s _ st ?_,e7.set (fF _) _,by simp,.inr ⟨st.next,(bl s).count c+1,by rw [hlen],⟨1,by simp⟩,e6⟩⟩
 have hgen:cc 105 [.string s,.string ⟨#[c]⟩,.int .i64 0,.int .i64 (-1)] st=some (.slice (some ⟨st.next,0,none⟩) ((bl s).count c+1) ((bl s).count c+1),st'.set st.next (some (.cells (strs (pieces c (bl s))) 1))):=by
  refine zmm s _ 0 (-1) st ?_
  have h0:fA (⟨#[c]⟩:ByteArray) ⟨#[]⟩=false:=by rfl
  have hm1:decide ((-1:Int)=0)=false:=rfl
  have hm2:decide ((-1:Int)<0)=true:=rfl
  simp only [strings_genSplit,hm1,dn,h0,hm2,cu,zwG,bf,eP,hw1,hw2,hmin,hmk,zlO,hw3]
  have e1':UQ 11 [.string s,.string ⟨#[c]⟩,.int .i64 0,.int .i64 (((bl s).count c:Nat):Int),.slice (some ⟨st.next,0,none⟩) (Int.toNat (((bl s).count c+1:Nat):Int)) (Int.toNat (((bl s).count c+1:Nat):Int)),.int .i64 0] (st.new (.cells (List.replicate ((bl s).count c+1) (.string ⟨#[]⟩)) 1))=some (0,[.string rest',.slice (some ⟨st.next,0,none⟩) ((bl s).count c+1) ((bl s).count c+1),.int .i64 (((bl s).count c:Nat):Int)],st'):=e1
  rw [e1']
  simp only [bf,iZ,lN,fP,eP,hel,hst,hw1,hre]
 simp only [strings_Split,hgen,bf]
end Go.Proofs.YtifploedaacedaaGreatDoorE
namespace Go.Proofs.YtifploedaacedaaGreatDoorE
set_option maxRecDepth 20000
open Go Go.E Go.Proofs
def zme:eu:=⟨[(0,.str),(1,.int .i64),(7,.any),(8,.int .i64)],[(.exit 0,[(0,.str),(1,.int .i64),(7,.any)]),(.ret,[(4,.any),(5,.int .i64),(6,.bool)])]⟩
def zmT (n:Nat):Option eu:=cond (Nat.beq n 3) (some zme) (none)
noncomputable def zmU (cf:fQ) (lf:eX) (s':ByteArray) (lD:Int) (st:SS):Option (Value×SS):=
 (lf 3 [.string s',.int .i64 lD,.slice none 0 0,.int .i64 0] st).bind fun a=>
 cond (Nat.beq a.1 0) (
 ((a.2.1[0]?).bind asS).bind fun b=>
 ((a.2.1[1]?).bind (ay .i64)).bind fun c=>
 (a.2.1[2]?).bind fun d=>
 let e:Int:=IntKind.wrap .i64 ((b.size:Int)+1)
 let f:SS:=a.2.2.new (.cells ([.int .i64 0,.string ⟨#[]⟩,.int .i64 0,.int .i64 c,.int .i64 e]) 5)
 (f.app 5 48 d (.slice (some ⟨a.2.2.next,0,none⟩) 1 1)).bind fun g=>
 some (.tuple #[g.1,.int .i64 0,.bool true],g.2)) (
 (a.2.1[0]?).bind fun h=>
 ((a.2.1[1]?).bind (ay .i64)).bind fun i=>
 ((a.2.1[2]?).bind lF).bind fun j=>
 some (.tuple #[h,.int .i64 i,.bool j],a.2.2))
noncomputable abbrev Hu:eX:=lS Tryz.prog Lk0 Tryz.f90 zmT
theorem zrM:Lk0.func 90=some (90,Tryz.f90):=by kernel_rfl
theorem zmV [Sym] (s':ByteArray) (lD:Int) (st:SS) {r:Value×SS} (h:zmU cc Hu s' lD st=some r):cc 90 [.string s',.int .i64 lD] st=some r:=
 mF (li:=zmT) gu gy zrM rfl (fun _=>rfl) (.trans (by kernel_rfl) h)
noncomputable def Ht (cf:fQ) (lf:eX) (s':ByteArray) (lD:Int) (out':Value) (col':Int) (st:SS):Option (Nat×List Value×SS):=
 cond (decide (col'<(s'.size:Int))) (
 let a:Int:=IntKind.wrap .i64 (col'+1)
 let b:SS:=st.new (.cells [.int .i64 0,.string ⟨#[]⟩,.int .i64 0,.int .i64 0,.int .i64 0] 0)
 (b.st st.next 0 [.int .i64 0,.string ⟨#[]⟩,.int .i64 0,.int .i64 lD,.int .i64 a]).bind fun c=>
 ((zI s' col').bind (ay .u8)).bind fun d=>
 cond (decide (d=59)) (
 lf 3 [.string s',.int .i64 lD,out',.int .i64 (s'.size:Int)] c) (
 cond (decide (d=32)) (
 let e:Int:=IntKind.wrap .i64 (col'+1)
 lf 3 [.string s',.int .i64 lD,out',.int .i64 e] c) (
 cond (decide (d=9)) (
 let f:Int:=IntKind.wrap .i64 (col'+1)
 lf 3 [.string s',.int .i64 lD,out',.int .i64 f] c) (
 cond (decide (d=13)) (
 let g:Int:=IntKind.wrap .i64 (col'+1)
 lf 3 [.string s',.int .i64 lD,out',.int .i64 g] c) (
 (cf 106 [.int .u8 d] c).bind fun h=>
 ((some h.1).bind lF).bind fun i=>
 cond i (
 (rM s' col' (s'.size:Int)).bind fun j=>
 (cf 107 [.string j] h.2).bind fun k=>
 ((some k.1).bind (ay .i64)).bind fun l=>
 let m:Int:=IntKind.wrap .i64 (col'+l)
 (rM s' col' m).bind fun n=>
 (k.2.st st.next 0 [.int .i64 1]).bind fun o=>
 (o.st st.next 1 [.string n]).bind fun p=>
 ((p.ld st.next 1).bind asS).bind fun q=>
 cond (decide (24<(q.size:Int))) (
 ((p.ld st.next 4).bind (ay .i64)).bind fun r=>
 some (1,[.slice none 0 0,.int .i64 r,.bool false],p)) (
 ((p.ld st.next 1).bind asS).bind fun s=>
 let t:Int:=IntKind.wrap .i64 (col'+(s.size:Int))
 (p.eF st.next 0 5).bind fun u=>
 (nX u 5).bind fun v=>
 let w:SS:=p.new (.cells (v++([])) 5)
 (w.app 5 48 out' (.slice (some ⟨p.next,0,none⟩) 1 1)).bind fun x=>
 lf 3 [.string s',.int .i64 lD,x.1,.int .i64 t] x.2)) (
 (cf 108 [.int .u8 d] h.2).bind fun y=>
 ((some y.1).bind lF).bind fun z=>
 cond z (
 (rM s' col' (s'.size:Int)).bind fun A=>
 (cf 107 [.string A] y.2).bind fun B=>
 ((some B.1).bind (ay .i64)).bind fun C=>
 let D:Int:=IntKind.wrap .i64 (col'+C)
 (rM s' col' D).bind fun E=>
 (B.2.st st.next 0 [.int .i64 2]).bind fun F=>
 (F.st st.next 1 [.string E]).bind fun G=>
 ((G.ld st.next 1).bind asS).bind fun H=>
 (cf 109 [.string H] G).bind fun I=>
 ((fM I.1 0).bind (ay .i64)).bind fun J=>
 ((fM I.1 1).bind lF).bind fun K=>
 (I.2.st st.next 2 [.int .i64 J]).bind fun L=>
 cond (!K) (
 ((L.ld st.next 4).bind (ay .i64)).bind fun M=>
 some (1,[.slice none 0 0,.int .i64 M,.bool false],L)) (
 ((L.ld st.next 1).bind asS).bind fun N=>
 let O:Int:=IntKind.wrap .i64 (col'+(N.size:Int))
 (L.eF st.next 0 5).bind fun P=>
 (nX P 5).bind fun Q=>
 let R:SS:=L.new (.cells (Q++([])) 5)
 (R.app 5 48 out' (.slice (some ⟨L.next,0,none⟩) 1 1)).bind fun S=>
 lf 3 [.string s',.int .i64 lD,S.1,.int .i64 O] S.2)) (
 (cf 110 [.string ⟨#[58,61,46,43,45]⟩,.int .u8 d] y.2).bind fun T=>
 ((some T.1).bind (ay .i64)).bind fun U=>
 cond (decide (0≤U)) (
 let V:Int:=IntKind.wrap .i64 (col'+1)
 (rM s' col' V).bind fun W=>
 (T.2.st st.next 0 [.int .i64 3]).bind fun X=>
 (X.st st.next 1 [.string W]).bind fun Y=>
 ((Y.ld st.next 1).bind asS).bind fun Z=>
 let aA:Int:=IntKind.wrap .i64 (col'+(Z.size:Int))
 (Y.eF st.next 0 5).bind fun aB=>
 (nX aB 5).bind fun aC=>
 let aD:SS:=Y.new (.cells (aC++([])) 5)
 (aD.app 5 48 out' (.slice (some ⟨Y.next,0,none⟩) 1 1)).bind fun aE=>
 lf 3 [.string s',.int .i64 lD,aE.1,.int .i64 aA] aE.2) (
 ((T.2.ld st.next 4).bind (ay .i64)).bind fun aF=>
 some (1,[.slice none 0 0,.int .i64 aF,.bool false],T.2))))))))) (
 some (0,[.string s',.int .i64 lD,out'],st))
theorem Hr [Sym] (s':ByteArray) (lD:Int) (out':Value) (col':Int) (st:SS) {r:Nat×List Value×SS} (h:Ht cc Hu s' lD out' col' st=some r):Hu 3 [.string s',.int .i64 lD,out',.int .i64 col'] st=some r:=
 oM gu gy (key:=3) (I:=zme) rfl (by kernel_rfl) (by kernel_rfl) rfl rfl (.trans (by kernel_rfl) h)
def zmW:eu:=⟨[(3,.any),(5,.any),(16,.any),(17,.int .i64),(18,.int .i64)],[(.exit 0,[(3,.any),(5,.any)]),(.ret,[(2,.any),(3,.any),(4,.int .i64)])]⟩
def znZ (n:Nat):Option eu:=cond (Nat.beq n 5) (some zmW) (none)
noncomputable def zop (cf:fQ) (lf:eX) (text':ByteArray) (st:SS):Option (Value×SS):=
 let a:SS:=st.new (.cells [.int .i64 0,.int .i64 0] 0)
 cond (decide (131072<(text'.size:Int))) (
 (a.st st.next 0 [.int .i64 0,.int .i64 0]).bind fun b=>
 (b.fH st.next 0 2).bind fun c=>
 some (.tuple #[.slice none 0 0,c,.int .i64 3],b)) (
 (cf 89 [.string text',.string ⟨#[10]⟩] a).bind fun d=>
 ((lenV d.1).bind (ay .i64)).bind fun e=>
 (lf 5 [ptr st.next 0,.slice none 0 0,d.1,.int .i64 e,.int .i64 0] d.2).bind fun f=>
 cond (Nat.beq f.1 0) (
 (f.2.1[0]?).bind fun g=>
 (f.2.1[1]?).bind fun h=>
 (aj g).bind fun i=>
 (f.2.2.st i.1 i.2 [.int .i64 0,.int .i64 0]).bind fun j=>
 (aj g).bind fun k=>
 (j.fH k.1 k.2 2).bind fun l=>
 some (.tuple #[h,l,.int .i64 0],j)) (
 (f.2.1[0]?).bind fun m=>
 (f.2.1[1]?).bind fun n=>
 ((f.2.1[2]?).bind (ay .i64)).bind fun o=>
 (aj n).bind fun p=>
 (f.2.2.fH p.1 p.2 2).bind fun q=>
 some (.tuple #[m,q,.int .i64 o],f.2.2)))
noncomputable abbrev RN:eX:=lS Tryz.prog Lk0 Tryz.f67 znZ
theorem zsz:Lk0.func 67=some (67,Tryz.f67):=by kernel_rfl
theorem zn0 [Sym] (text':ByteArray) (st:SS) {r:Value×SS} (h:zop cc RN text' st=some r):cc 67 [.string text'] st=some r:=
 mF (li:=znZ) gu gy zsz rfl (fun _=>rfl) (.trans (by kernel_rfl) h)
noncomputable def YD (cf:fQ) (lf:eX) (nC:Value) (out':Value) (tK:Value) (vN:Int) (rP:Int) (st:SS):Option (Nat×List Value×SS):=
 cond (decide (rP<vN)) (
 (fK tK rP 1).bind fun a=>
 ((st.ld a.1 a.2).bind asS).bind fun b=>
 let c:Int:=IntKind.wrap .i64 (rP+1)
 (cf 90 [.string b,.int .i64 c] st).bind fun d=>
 (fM d.1 0).bind fun e=>
 ((fM d.1 1).bind (ay .i64)).bind fun f=>
 ((fM d.1 2).bind lF).bind fun g=>
 cond (!g) (
 let h:Int:=IntKind.wrap .i64 (rP+1)
 (aj nC).bind fun i=>
 (d.2.st i.1 i.2 [.int .i64 h,.int .i64 f]).bind fun j=>
 some (1,[.slice none 0 0,nC,.int .i64 4],j)) (
 (d.2.app 5 48 out' e).bind fun k=>
 let l:Int:=IntKind.wrap .i64 (rP+1)
 lf 5 [nC,k.1,tK,.int .i64 vN,.int .i64 l] k.2)) (
 some (0,[nC,out'],st))
theorem zhW [Sym] (nC:Value) (out':Value) (tK:Value) (vN:Int) (rP:Int) (st:SS) {r:Nat×List Value×SS} (h:YD cc RN nC out' tK vN rP st=some r):RN 5 [nC,out',tK,.int .i64 vN,.int .i64 rP] st=some r:=
 oM gu gy (key:=5) (I:=zmW) rfl (by kernel_rfl) (by kernel_rfl) rfl rfl (.trans (by kernel_rfl) h)
noncomputable def zhi (cf:fQ) (lf:eX) (c':Int) (st:SS):Option (Value×SS):=
 cond (decide (97≤c')) (
 cond (decide (c'≤122)) (
 some (.bool true,st)) (
 cond (decide (65≤c')) (
 cond (decide (c'≤90)) (
 some (.bool true,st)) (
 some (.bool (decide (c'=95)),st))) (
 some (.bool (decide (c'=95)),st)))) (
 cond (decide (65≤c')) (
 cond (decide (c'≤90)) (
 some (.bool true,st)) (
 some (.bool (decide (c'=95)),st))) (
 some (.bool (decide (c'=95)),st)))
noncomputable abbrev zjC:eX:=lS Tryz.prog Lk0 Tryz.f78 lQ
theorem zjD:Lk0.func 78=some (78,Tryz.f78):=by kernel_rfl
theorem zjE [Sym] (c':Int) (st:SS) {r:Value×SS} (h:zhi cc zjC c' st=some r):cc 78 [.int .u8 c'] st=some r:=
 mF (li:=lQ) gu gy zjD rfl (fun _=>rfl) (.trans (by kernel_rfl) h)
noncomputable def UO (cf:fQ) (lf:eX) (c':Int) (base':Int) (st:SS):Option (Value×SS):=
 cond (decide (48≤c')) (
 cond (decide (c'≤57)) (
 let n1:Int:=IntKind.wrap .u8 (c'-48)
 let n2:Int:=IntKind.wrap .i64 n1
 cond (decide (97≤c')) (
 cond (decide (c'≤102)) (
 let n3:Int:=IntKind.wrap .u8 (c'-97)
 let n4:Int:=IntKind.wrap .i64 n3
 let n5:Int:=IntKind.wrap .i64 (n4+10)
 cond (decide (65≤c')) (
 cond (decide (c'≤70)) (
 let n6:Int:=IntKind.wrap .u8 (c'-65)
 let n7:Int:=IntKind.wrap .i64 n6
 let n8:Int:=IntKind.wrap .i64 (n7+10)
 cond (decide (base'≤n8)) (
 some (.int .i64 (-1),st)) (
 some (.int .i64 n8,st))) (
 cond (decide (base'≤n5)) (
 some (.int .i64 (-1),st)) (
 some (.int .i64 n5,st)))) (
 cond (decide (base'≤n5)) (
 some (.int .i64 (-1),st)) (
 some (.int .i64 n5,st)))) (
 cond (decide (65≤c')) (
 cond (decide (c'≤70)) (
 let n9:Int:=IntKind.wrap .u8 (c'-65)
 let n10:Int:=IntKind.wrap .i64 n9
 let n11:Int:=IntKind.wrap .i64 (n10+10)
 cond (decide (base'≤n11)) (
 some (.int .i64 (-1),st)) (
 some (.int .i64 n11,st))) (
 cond (decide (base'≤n2)) (
 some (.int .i64 (-1),st)) (
 some (.int .i64 n2,st)))) (
 cond (decide (base'≤n2)) (
 some (.int .i64 (-1),st)) (
 some (.int .i64 n2,st))))) (
 cond (decide (65≤c')) (
 cond (decide (c'≤70)) (
 let n12:Int:=IntKind.wrap .u8 (c'-65)
 let n13:Int:=IntKind.wrap .i64 n12
 let n14:Int:=IntKind.wrap .i64 (n13+10)
 cond (decide (base'≤n14)) (
 some (.int .i64 (-1),st)) (
 some (.int .i64 n14,st))) (
 cond (decide (base'≤n2)) (
 some (.int .i64 (-1),st)) (
 some (.int .i64 n2,st)))) (
 cond (decide (base'≤n2)) (
 some (.int .i64 (-1),st)) (
 some (.int .i64 n2,st))))) (
 cond (decide (97≤c')) (
 cond (decide (c'≤102)) (
 let n15:Int:=IntKind.wrap .u8 (c'-97)
 let n16:Int:=IntKind.wrap .i64 n15
 let n17:Int:=IntKind.wrap .i64 (n16+10)
 cond (decide (65≤c')) (
 cond (decide (c'≤70)) (
 let n18:Int:=IntKind.wrap .u8 (c'-65)
 let n19:Int:=IntKind.wrap .i64 n18
 let n20:Int:=IntKind.wrap .i64 (n19+10)
 cond (decide (base'≤n20)) (
 some (.int .i64 (-1),st)) (
 some (.int .i64 n20,st))) (
 cond (decide (base'≤n17)) (
 some (.int .i64 (-1),st)) (
 some (.int .i64 n17,st)))) (
 cond (decide (base'≤n17)) (
 some (.int .i64 (-1),st)) (
 some (.int .i64 n17,st)))) (
 cond (decide (65≤c')) (
 cond (decide (c'≤70)) (
 let n21:Int:=IntKind.wrap .u8 (c'-65)
 let n22:Int:=IntKind.wrap .i64 n21
 let n23:Int:=IntKind.wrap .i64 (n22+10)
 cond (decide (base'≤n23)) (
 some (.int .i64 (-1),st)) (
 some (.int .i64 n23,st))) (
 cond (decide (base'≤(-1))) (
 some (.int .i64 (-1),st)) (
 some (.int .i64 (-1),st)))) (
 cond (decide (base'≤(-1))) (
 some (.int .i64 (-1),st)) (
 some (.int .i64 (-1),st))))) (
 cond (decide (65≤c')) (
 cond (decide (c'≤70)) (
 let n24:Int:=IntKind.wrap .u8 (c'-65)
 let n25:Int:=IntKind.wrap .i64 n24
 let n26:Int:=IntKind.wrap .i64 (n25+10)
 cond (decide (base'≤n26)) (
 some (.int .i64 (-1),st)) (
 some (.int .i64 n26,st))) (
 cond (decide (base'≤(-1))) (
 some (.int .i64 (-1),st)) (
 some (.int .i64 (-1),st)))) (
 cond (decide (base'≤(-1))) (
 some (.int .i64 (-1),st)) (
 some (.int .i64 (-1),st)))))) (
 cond (decide (97≤c')) (
 cond (decide (c'≤102)) (
 let n27:Int:=IntKind.wrap .u8 (c'-97)
 let n28:Int:=IntKind.wrap .i64 n27
 let n29:Int:=IntKind.wrap .i64 (n28+10)
 cond (decide (65≤c')) (
 cond (decide (c'≤70)) (
 let n30:Int:=IntKind.wrap .u8 (c'-65)
 let n31:Int:=IntKind.wrap .i64 n30
 let n32:Int:=IntKind.wrap .i64 (n31+10)
 cond (decide (base'≤n32)) (
 some (.int .i64 (-1),st)) (
 some (.int .i64 n32,st))) (
 cond (decide (base'≤n29)) (
 some (.int .i64 (-1),st)) (
 some (.int .i64 n29,st)))) (
 cond (decide (base'≤n29)) (
 some (.int .i64 (-1),st)) (
 some (.int .i64 n29,st)))) (
 cond (decide (65≤c')) (
 cond (decide (c'≤70)) (
 let n33:Int:=IntKind.wrap .u8 (c'-65)
 let n34:Int:=IntKind.wrap .i64 n33
 let n35:Int:=IntKind.wrap .i64 (n34+10)
 cond (decide (base'≤n35)) (
 some (.int .i64 (-1),st)) (
 some (.int .i64 n35,st))) (
 cond (decide (base'≤(-1))) (
 some (.int .i64 (-1),st)) (
 some (.int .i64 (-1),st)))) (
 cond (decide (base'≤(-1))) (
 some (.int .i64 (-1),st)) (
 some (.int .i64 (-1),st))))) (
 cond (decide (65≤c')) (
 cond (decide (c'≤70)) (
 let n36:Int:=IntKind.wrap .u8 (c'-65)
 let n37:Int:=IntKind.wrap .i64 n36
 let n38:Int:=IntKind.wrap .i64 (n37+10)
 cond (decide (base'≤n38)) (
 some (.int .i64 (-1),st)) (
 some (.int .i64 n38,st))) (
 cond (decide (base'≤(-1))) (
 some (.int .i64 (-1),st)) (
 some (.int .i64 (-1),st)))) (
 cond (decide (base'≤(-1))) (
 some (.int .i64 (-1),st)) (
 some (.int .i64 (-1),st)))))
noncomputable abbrev zj7:eX:=lS Tryz.prog Lk0 Tryz.f79 lQ
theorem zj8:Lk0.func 79=some (79,Tryz.f79):=by kernel_rfl
theorem zj9 [Sym] (c':Int) (base':Int) (st:SS) {r:Value×SS} (h:UO cc zj7 c' base' st=some r):cc 79 [.int .u8 c',.int .i64 base'] st=some r:=
 mF (li:=lQ) gu gy zj8 rfl (fun _=>rfl) (.trans (by kernel_rfl) h)
def zfu:eu:=⟨[(0,.str),(3,.int .i64),(4,.int .i64),(5,.int .i64)],[(.exit 0,[(0,.str),(4,.int .i64)]),(.ret,[(2,.int .i64)])]⟩
def zfS (n:Nat):Option eu:=cond (Nat.beq n 7) (some zfu) (none)
noncomputable def zhj (cf:fQ) (lf:eX) (s':ByteArray) (st:SS):Option (Value×SS):=
 cond (decide (2≤(s'.size:Int))) (
 (rM s' 0 2).bind fun a=>
 cond (fA a ⟨#[48,120]⟩) (
 (rM s' 2 (s'.size:Int)).bind fun b=>
 (lf 7 [.string b,.int .i64 16,.int .i64 0,.int .i64 0] st).bind fun c=>
 cond (Nat.beq c.1 0) (
 ((c.2.1[0]?).bind asS).bind fun d=>
 ((c.2.1[1]?).bind (ay .i64)).bind fun e=>
 cond (fA d ⟨#[]⟩) (
 some (.int .i64 (-1),c.2.2)) (
 cond (decide (2147483647<e)) (
 some (.int .i64 (-1),c.2.2)) (
 some (.int .i64 e,c.2.2)))) (
 ((c.2.1[0]?).bind (ay .i64)).bind fun f=>
 some (.int .i64 f,c.2.2))) (
 (lf 7 [.string s',.int .i64 10,.int .i64 0,.int .i64 0] st).bind fun g=>
 cond (Nat.beq g.1 0) (
 ((g.2.1[0]?).bind asS).bind fun h=>
 ((g.2.1[1]?).bind (ay .i64)).bind fun i=>
 cond (fA h ⟨#[]⟩) (
 some (.int .i64 (-1),g.2.2)) (
 cond (decide (2147483647<i)) (
 some (.int .i64 (-1),g.2.2)) (
 some (.int .i64 i,g.2.2)))) (
 ((g.2.1[0]?).bind (ay .i64)).bind fun j=>
 some (.int .i64 j,g.2.2)))) (
 (lf 7 [.string s',.int .i64 10,.int .i64 0,.int .i64 0] st).bind fun k=>
 cond (Nat.beq k.1 0) (
 ((k.2.1[0]?).bind asS).bind fun l=>
 ((k.2.1[1]?).bind (ay .i64)).bind fun m=>
 cond (fA l ⟨#[]⟩) (
 some (.int .i64 (-1),k.2.2)) (
 cond (decide (2147483647<m)) (
 some (.int .i64 (-1),k.2.2)) (
 some (.int .i64 m,k.2.2)))) (
 ((k.2.1[0]?).bind (ay .i64)).bind fun n=>
 some (.int .i64 n,k.2.2)))
noncomputable abbrev JF:eX:=lS Tryz.prog Lk0 Tryz.f80 zfS
theorem zjF:Lk0.func 80=some (80,Tryz.f80):=by kernel_rfl
theorem zjG [Sym] (s':ByteArray) (st:SS) {r:Value×SS} (h:zhj cc JF s' st=some r):cc 80 [.string s'] st=some r:=
 mF (li:=zfS) gu gy zjF rfl (fun _=>rfl) (.trans (by kernel_rfl) h)
noncomputable def MO (cf:fQ) (lf:eX) (s':ByteArray) (base':Int) (n':Int) (i':Int) (st:SS):Option (Nat×List Value×SS):=
 cond (decide (i'<(s'.size:Int))) (
 ((zI s' i').bind (ay .u8)).bind fun a=>
 (cf 79 [.int .u8 a,.int .i64 base'] st).bind fun b=>
 ((some b.1).bind (ay .i64)).bind fun c=>
 cond (decide (c<0)) (
 some (1,[.int .i64 (-1)],b.2)) (
 ((aI .quo .i64 2147483647 base').bind (ay .i64)).bind fun d=>
 cond (decide (d<n')) (
 some (1,[.int .i64 (-1)],b.2)) (
 let e:Int:=IntKind.wrap .i64 (n'*base')
 let f:Int:=IntKind.wrap .i64 (e+c)
 let g:Int:=IntKind.wrap .i64 (i'+1)
 lf 7 [.string s',.int .i64 base',.int .i64 f,.int .i64 g] b.2))) (
 some (0,[.string s',.int .i64 n'],st))
theorem OM [Sym] (s':ByteArray) (base':Int) (n':Int) (i':Int) (st:SS) {r:Nat×List Value×SS} (h:MO cc JF s' base' n' i' st=some r):JF 7 [.string s',.int .i64 base',.int .i64 n',.int .i64 i'] st=some r:=
 oM gu gy (key:=7) (I:=zfu) rfl (by kernel_rfl) (by kernel_rfl) rfl rfl (.trans (by kernel_rfl) h)
def zgh:eu:=⟨[(0,.str),(1,.int .i64),(6,.any),(7,.int .i64),(8,.int .u8),(9,.int .i64)],[(.exit 2,[(0,.str),(1,.int .i64),(6,.any),(7,.int .i64),(8,.int .u8),(9,.int .i64)])]⟩
def zgi:eu:=⟨[(0,.str),(1,.int .i64),(6,.any),(7,.int .i64)],[(.exit 0,[(0,.str),(1,.int .i64),(6,.any)]),(.ret,[(4,.any),(5,.int .i64)])]⟩
def zgU (n:Nat):Option eu:=cond (Nat.beq n 3) (some zgi) (cond (Nat.beq n 6) (some zgh) (none))
noncomputable def zfv (cf:fQ) (lf:eX) (s':ByteArray) (lD:Int) (st:SS):Option (Value×SS):=
 (lf 3 [.string s',.int .i64 lD,.slice none 0 0,.int .i64 0] st).bind fun a=>
 cond (Nat.beq a.1 0) (
 ((a.2.1[0]?).bind asS).bind fun b=>
 ((a.2.1[1]?).bind (ay .i64)).bind fun c=>
 (a.2.1[2]?).bind fun d=>
 let e:Int:=IntKind.wrap .i64 ((b.size:Int)+1)
 let f:SS:=a.2.2.new (.cells ([.int .i64 0,.string ⟨#[]⟩,.int .i64 0,.int .i64 c,.int .i64 e]) 5)
 (f.app 5 48 d (.slice (some ⟨a.2.2.next,0,none⟩) 1 1)).bind fun g=>
 some (.tuple #[g.1,.int .i64 0],g.2)) (
 (a.2.1[0]?).bind fun h=>
 ((a.2.1[1]?).bind (ay .i64)).bind fun i=>
 some (.tuple #[h,.int .i64 i],a.2.2))
noncomputable abbrev JH:eX:=lS Tryz.prog Lk0 Tryz.f51 zgU
theorem zkJ:Lk0.func 51=some (51,Tryz.f51):=by kernel_rfl
theorem zgV [Sym] (s':ByteArray) (lD:Int) (st:SS) {r:Value×SS} (h:zfv cc JH s' lD st=some r):cc 51 [.string s',.int .i64 lD] st=some r:=
 mF (li:=zgU) gu gy zkJ rfl (fun _=>rfl) (.trans (by kernel_rfl) h)
noncomputable def Hy (cf:fQ) (lf:eX) (s':ByteArray) (lD:Int) (out':Value) (i':Int) (st:SS):Option (Nat×List Value×SS):=
 cond (decide (i'<(s'.size:Int))) (
 ((zI s' i').bind (ay .u8)).bind fun a=>
 cond (!(decide (a=59))) (
 ((zI s' i').bind (ay .u8)).bind fun b=>
 (lf 6 [.string s',.int .i64 lD,out',.int .i64 i',.int .u8 b,.int .i64 0] st).bind fun c=>
 ((c.2.1[0]?).bind asS).bind fun d=>
 ((c.2.1[1]?).bind (ay .i64)).bind fun e=>
 (c.2.1[2]?).bind fun f=>
 ((c.2.1[3]?).bind (ay .i64)).bind fun g=>
 ((c.2.1[4]?).bind (ay .u8)).bind fun h=>
 ((c.2.1[5]?).bind (ay .i64)).bind fun i=>
 cond (decide (h=32)) (
 let j:Int:=IntKind.wrap .i64 (g+1)
 lf 3 [.string d,.int .i64 e,f,.int .i64 j] c.2.2) (
 cond (decide (h=9)) (
 let k:Int:=IntKind.wrap .i64 (g+1)
 lf 3 [.string d,.int .i64 e,f,.int .i64 k] c.2.2) (
 cond (decide (h=13)) (
 let l:Int:=IntKind.wrap .i64 (g+1)
 lf 3 [.string d,.int .i64 e,f,.int .i64 l] c.2.2) (
 let m:Int:=IntKind.wrap .i64 (g+1)
 let n:SS:=c.2.2.new (.cells [.int .i64 0,.string ⟨#[]⟩,.int .i64 0,.int .i64 0,.int .i64 0] 0)
 (n.st c.2.2.next 0 [.int .i64 0,.string ⟨#[]⟩,.int .i64 0,.int .i64 e,.int .i64 m]).bind fun o=>
 cond (decide (0<i)) (
 (cf 78 [.int .u8 h] o).bind fun p=>
 ((some p.1).bind lF).bind fun q=>
 cond q (
 (p.2.st c.2.2.next 0 [.int .i64 1]).bind fun r=>
 let s:Int:=IntKind.wrap .i64 (g+i)
 (rM d g s).bind fun t=>
 (r.st c.2.2.next 1 [.string t]).bind fun u=>
 cond (decide (24<i)) (
 let v:Int:=IntKind.wrap .i64 (g+1)
 some (1,[.slice none 0 0,.int .i64 v],u)) (
 (u.eF c.2.2.next 0 5).bind fun w=>
 (nX w 5).bind fun x=>
 let y:SS:=u.new (.cells (x++([])) 5)
 (y.app 5 48 f (.slice (some ⟨u.next,0,none⟩) 1 1)).bind fun z=>
 ((z.2.ld c.2.2.next 1).bind asS).bind fun A=>
 let B:Int:=IntKind.wrap .i64 (g+(A.size:Int))
 lf 3 [.string d,.int .i64 e,z.1,.int .i64 B] z.2)) (
 cond (decide (0<i)) (
 (p.2.st c.2.2.next 0 [.int .i64 2]).bind fun C=>
 let D:Int:=IntKind.wrap .i64 (g+i)
 (rM d g D).bind fun E=>
 (C.st c.2.2.next 1 [.string E]).bind fun F=>
 ((F.ld c.2.2.next 1).bind asS).bind fun G=>
 (cf 80 [.string G] F).bind fun H=>
 ((some H.1).bind (ay .i64)).bind fun I=>
 (H.2.st c.2.2.next 2 [.int .i64 I]).bind fun J=>
 ((J.ld c.2.2.next 2).bind (ay .i64)).bind fun K=>
 cond (decide (K<0)) (
 let L:Int:=IntKind.wrap .i64 (g+1)
 some (1,[.slice none 0 0,.int .i64 L],J)) (
 (J.eF c.2.2.next 0 5).bind fun M=>
 (nX M 5).bind fun N=>
 let O:SS:=J.new (.cells (N++([])) 5)
 (O.app 5 48 f (.slice (some ⟨J.next,0,none⟩) 1 1)).bind fun P=>
 ((P.2.ld c.2.2.next 1).bind asS).bind fun Q=>
 let R:Int:=IntKind.wrap .i64 (g+(Q.size:Int))
 lf 3 [.string d,.int .i64 e,P.1,.int .i64 R] P.2)) (
 cond (decide (h=58)) (
 (p.2.st c.2.2.next 0 [.int .i64 3]).bind fun S=>
 let T:Int:=IntKind.wrap .i64 (g+1)
 (rM d g T).bind fun U=>
 (S.st c.2.2.next 1 [.string U]).bind fun V=>
 (V.eF c.2.2.next 0 5).bind fun W=>
 (nX W 5).bind fun X=>
 let Y:SS:=V.new (.cells (X++([])) 5)
 (Y.app 5 48 f (.slice (some ⟨V.next,0,none⟩) 1 1)).bind fun Z=>
 ((Z.2.ld c.2.2.next 1).bind asS).bind fun aA=>
 let aB:Int:=IntKind.wrap .i64 (g+(aA.size:Int))
 lf 3 [.string d,.int .i64 e,Z.1,.int .i64 aB] Z.2) (
 cond (decide (h=61)) (
 (p.2.st c.2.2.next 0 [.int .i64 3]).bind fun aC=>
 let aD:Int:=IntKind.wrap .i64 (g+1)
 (rM d g aD).bind fun aE=>
 (aC.st c.2.2.next 1 [.string aE]).bind fun aF=>
 (aF.eF c.2.2.next 0 5).bind fun aG=>
 (nX aG 5).bind fun aH=>
 let aI:SS:=aF.new (.cells (aH++([])) 5)
 (aI.app 5 48 f (.slice (some ⟨aF.next,0,none⟩) 1 1)).bind fun aJ=>
 ((aJ.2.ld c.2.2.next 1).bind asS).bind fun aK=>
 let aL:Int:=IntKind.wrap .i64 (g+(aK.size:Int))
 lf 3 [.string d,.int .i64 e,aJ.1,.int .i64 aL] aJ.2) (
 cond (decide (h=46)) (
 (p.2.st c.2.2.next 0 [.int .i64 3]).bind fun aM=>
 let aN:Int:=IntKind.wrap .i64 (g+1)
 (rM d g aN).bind fun aO=>
 (aM.st c.2.2.next 1 [.string aO]).bind fun aP=>
 (aP.eF c.2.2.next 0 5).bind fun aQ=>
 (nX aQ 5).bind fun aR=>
 let aS:SS:=aP.new (.cells (aR++([])) 5)
 (aS.app 5 48 f (.slice (some ⟨aP.next,0,none⟩) 1 1)).bind fun aT=>
 ((aT.2.ld c.2.2.next 1).bind asS).bind fun aU=>
 let aV:Int:=IntKind.wrap .i64 (g+(aU.size:Int))
 lf 3 [.string d,.int .i64 e,aT.1,.int .i64 aV] aT.2) (
 cond (decide (h=43)) (
 (p.2.st c.2.2.next 0 [.int .i64 3]).bind fun aW=>
 let aX:Int:=IntKind.wrap .i64 (g+1)
 (rM d g aX).bind fun aY=>
 (aW.st c.2.2.next 1 [.string aY]).bind fun aZ=>
 (aZ.eF c.2.2.next 0 5).bind fun bA=>
 (nX bA 5).bind fun bB=>
 let bC:SS:=aZ.new (.cells (bB++([])) 5)
 (bC.app 5 48 f (.slice (some ⟨aZ.next,0,none⟩) 1 1)).bind fun bD=>
 ((bD.2.ld c.2.2.next 1).bind asS).bind fun bE=>
 let bF:Int:=IntKind.wrap .i64 (g+(bE.size:Int))
 lf 3 [.string d,.int .i64 e,bD.1,.int .i64 bF] bD.2) (
 cond (decide (h=45)) (
 (p.2.st c.2.2.next 0 [.int .i64 3]).bind fun bG=>
 let bH:Int:=IntKind.wrap .i64 (g+1)
 (rM d g bH).bind fun bI=>
 (bG.st c.2.2.next 1 [.string bI]).bind fun bJ=>
 (bJ.eF c.2.2.next 0 5).bind fun bK=>
 (nX bK 5).bind fun bL=>
 let bM:SS:=bJ.new (.cells (bL++([])) 5)
 (bM.app 5 48 f (.slice (some ⟨bJ.next,0,none⟩) 1 1)).bind fun bN=>
 ((bN.2.ld c.2.2.next 1).bind asS).bind fun bO=>
 let bP:Int:=IntKind.wrap .i64 (g+(bO.size:Int))
 lf 3 [.string d,.int .i64 e,bN.1,.int .i64 bP] bN.2) (
 let bQ:Int:=IntKind.wrap .i64 (g+1)
 some (1,[.slice none 0 0,.int .i64 bQ],p.2))))))))) (
 cond (decide (0<i)) (
 (o.st c.2.2.next 0 [.int .i64 2]).bind fun bR=>
 let bS:Int:=IntKind.wrap .i64 (g+i)
 (rM d g bS).bind fun bT=>
 (bR.st c.2.2.next 1 [.string bT]).bind fun bU=>
 ((bU.ld c.2.2.next 1).bind asS).bind fun bV=>
 (cf 80 [.string bV] bU).bind fun bW=>
 ((some bW.1).bind (ay .i64)).bind fun bX=>
 (bW.2.st c.2.2.next 2 [.int .i64 bX]).bind fun bY=>
 ((bY.ld c.2.2.next 2).bind (ay .i64)).bind fun bZ=>
 cond (decide (bZ<0)) (
 let cA:Int:=IntKind.wrap .i64 (g+1)
 some (1,[.slice none 0 0,.int .i64 cA],bY)) (
 (bY.eF c.2.2.next 0 5).bind fun cB=>
 (nX cB 5).bind fun cC=>
 let cD:SS:=bY.new (.cells (cC++([])) 5)
 (cD.app 5 48 f (.slice (some ⟨bY.next,0,none⟩) 1 1)).bind fun cE=>
 ((cE.2.ld c.2.2.next 1).bind asS).bind fun cF=>
 let cG:Int:=IntKind.wrap .i64 (g+(cF.size:Int))
 lf 3 [.string d,.int .i64 e,cE.1,.int .i64 cG] cE.2)) (
 cond (decide (h=58)) (
 (o.st c.2.2.next 0 [.int .i64 3]).bind fun cH=>
 let cI:Int:=IntKind.wrap .i64 (g+1)
 (rM d g cI).bind fun cJ=>
 (cH.st c.2.2.next 1 [.string cJ]).bind fun cK=>
 (cK.eF c.2.2.next 0 5).bind fun cL=>
 (nX cL 5).bind fun cM=>
 let cN:SS:=cK.new (.cells (cM++([])) 5)
 (cN.app 5 48 f (.slice (some ⟨cK.next,0,none⟩) 1 1)).bind fun cO=>
 ((cO.2.ld c.2.2.next 1).bind asS).bind fun cP=>
 let cQ:Int:=IntKind.wrap .i64 (g+(cP.size:Int))
 lf 3 [.string d,.int .i64 e,cO.1,.int .i64 cQ] cO.2) (
 cond (decide (h=61)) (
 (o.st c.2.2.next 0 [.int .i64 3]).bind fun cR=>
 let cS:Int:=IntKind.wrap .i64 (g+1)
 (rM d g cS).bind fun cT=>
 (cR.st c.2.2.next 1 [.string cT]).bind fun cU=>
 (cU.eF c.2.2.next 0 5).bind fun cV=>
 (nX cV 5).bind fun cW=>
 let cX:SS:=cU.new (.cells (cW++([])) 5)
 (cX.app 5 48 f (.slice (some ⟨cU.next,0,none⟩) 1 1)).bind fun cY=>
 ((cY.2.ld c.2.2.next 1).bind asS).bind fun cZ=>
 let dA:Int:=IntKind.wrap .i64 (g+(cZ.size:Int))
 lf 3 [.string d,.int .i64 e,cY.1,.int .i64 dA] cY.2) (
 cond (decide (h=46)) (
 (o.st c.2.2.next 0 [.int .i64 3]).bind fun dB=>
 let dC:Int:=IntKind.wrap .i64 (g+1)
 (rM d g dC).bind fun dD=>
 (dB.st c.2.2.next 1 [.string dD]).bind fun dE=>
 (dE.eF c.2.2.next 0 5).bind fun dF=>
 (nX dF 5).bind fun dG=>
 let dH:SS:=dE.new (.cells (dG++([])) 5)
 (dH.app 5 48 f (.slice (some ⟨dE.next,0,none⟩) 1 1)).bind fun dI=>
 ((dI.2.ld c.2.2.next 1).bind asS).bind fun dJ=>
 let dK:Int:=IntKind.wrap .i64 (g+(dJ.size:Int))
 lf 3 [.string d,.int .i64 e,dI.1,.int .i64 dK] dI.2) (
 cond (decide (h=43)) (
 (o.st c.2.2.next 0 [.int .i64 3]).bind fun dL=>
 let dM:Int:=IntKind.wrap .i64 (g+1)
 (rM d g dM).bind fun dN=>
 (dL.st c.2.2.next 1 [.string dN]).bind fun dO=>
 (dO.eF c.2.2.next 0 5).bind fun dP=>
 (nX dP 5).bind fun dQ=>
 let dR:SS:=dO.new (.cells (dQ++([])) 5)
 (dR.app 5 48 f (.slice (some ⟨dO.next,0,none⟩) 1 1)).bind fun dS=>
 ((dS.2.ld c.2.2.next 1).bind asS).bind fun dT=>
 let dU:Int:=IntKind.wrap .i64 (g+(dT.size:Int))
 lf 3 [.string d,.int .i64 e,dS.1,.int .i64 dU] dS.2) (
 cond (decide (h=45)) (
 (o.st c.2.2.next 0 [.int .i64 3]).bind fun dV=>
 let dW:Int:=IntKind.wrap .i64 (g+1)
 (rM d g dW).bind fun dX=>
 (dV.st c.2.2.next 1 [.string dX]).bind fun dY=>
 (dY.eF c.2.2.next 0 5).bind fun dZ=>
 (nX dZ 5).bind fun gA=>
 let gB:SS:=dY.new (.cells (gA++([])) 5)
 (gB.app 5 48 f (.slice (some ⟨dY.next,0,none⟩) 1 1)).bind fun gC=>
 ((gC.2.ld c.2.2.next 1).bind asS).bind fun gD=>
 let gE:Int:=IntKind.wrap .i64 (g+(gD.size:Int))
 lf 3 [.string d,.int .i64 e,gC.1,.int .i64 gE] gC.2) (
 let gF:Int:=IntKind.wrap .i64 (g+1)
 some (1,[.slice none 0 0,.int .i64 gF],o)))))))))))) (
 some (0,[.string s',.int .i64 lD,out'],st))) (
 some (0,[.string s',.int .i64 lD,out'],st))
theorem JG [Sym] (s':ByteArray) (lD:Int) (out':Value) (i':Int) (st:SS) {r:Nat×List Value×SS} (h:Hy cc JH s' lD out' i' st=some r):JH 3 [.string s',.int .i64 lD,out',.int .i64 i'] st=some r:=
 oM gu gy (key:=3) (I:=zgi) rfl (by kernel_rfl) (by kernel_rfl) rfl rfl (.trans (by kernel_rfl) h)
noncomputable def Sm (cf:fQ) (lf:eX) (s':ByteArray) (lD:Int) (out':Value) (i':Int) (c':Int) (n':Int) (st:SS):Option (Nat×List Value×SS):=
 let a:Int:=IntKind.wrap .i64 (i'+n')
 cond (decide (a<(s'.size:Int))) (
 let b:Int:=IntKind.wrap .i64 (i'+n')
 ((zI s' b).bind (ay .u8)).bind fun c=>
 (cf 78 [.int .u8 c] st).bind fun d=>
 ((some d.1).bind lF).bind fun e=>
 cond e (
 let f:Int:=IntKind.wrap .i64 (n'+1)
 lf 6 [.string s',.int .i64 lD,out',.int .i64 i',.int .u8 c',.int .i64 f] d.2) (
 let g:Int:=IntKind.wrap .i64 (i'+n')
 ((zI s' g).bind (ay .u8)).bind fun h=>
 (cf 79 [.int .u8 h,.int .i64 10] d.2).bind fun i=>
 ((some i.1).bind (ay .i64)).bind fun j=>
 cond (decide (0≤j)) (
 let k:Int:=IntKind.wrap .i64 (n'+1)
 lf 6 [.string s',.int .i64 lD,out',.int .i64 i',.int .u8 c',.int .i64 k] i.2) (
 some (0,[.string s',.int .i64 lD,out',.int .i64 i',.int .u8 c',.int .i64 n'],i.2)))) (
 some (0,[.string s',.int .i64 lD,out',.int .i64 i',.int .u8 c',.int .i64 n'],st))
theorem zfw [Sym] (s':ByteArray) (lD:Int) (out':Value) (i':Int) (c':Int) (n':Int) (st:SS) {r:Nat×List Value×SS} (h:Sm cc JH s' lD out' i' c' n' st=some r):JH 6 [.string s',.int .i64 lD,out',.int .i64 i',.int .u8 c',.int .i64 n'] st=some r:=
 oM gu gy (key:=6) (I:=zgh) rfl (by kernel_rfl) (by kernel_rfl) rfl rfl (.trans (by kernel_rfl) h)
def zgW:eu:=⟨[(3,.any),(4,.any),(10,.any),(11,.int .i64),(12,.int .i64)],[(.exit 0,[(3,.any),(4,.any)]),(.ret,[(2,.any),(3,.any)])]⟩
def zhk (n:Nat):Option eu:=cond (Nat.beq n 3) (some zgW) (none)
noncomputable def zf5 (cf:fQ) (lf:eX) (text':ByteArray) (st:SS):Option (Value×SS):=
 let a:SS:=st.new (.cells [.int .i64 0,.int .i64 0] 0)
 (cf 50 [.string text',.int .u8 10] a).bind fun b=>
 ((lenV b.1).bind (ay .i64)).bind fun c=>
 (lf 3 [ptr st.next 0,.slice none 0 0,b.1,.int .i64 c,.int .i64 0] b.2).bind fun d=>
 cond (Nat.beq d.1 0) (
 (d.2.1[0]?).bind fun e=>
 (d.2.1[1]?).bind fun f=>
 (aj e).bind fun g=>
 (d.2.2.st g.1 g.2 [.int .i64 0,.int .i64 0]).bind fun h=>
 (aj e).bind fun i=>
 (h.fH i.1 i.2 2).bind fun j=>
 some (.tuple #[f,j],h)) (
 (d.2.1[0]?).bind fun k=>
 (d.2.1[1]?).bind fun l=>
 (aj l).bind fun m=>
 (d.2.2.fH m.1 m.2 2).bind fun n=>
 some (.tuple #[k,n],d.2.2))
noncomputable abbrev SA:eX:=lS Tryz.prog Lk0 Tryz.f49 zhk
theorem zlP:Lk0.func 49=some (49,Tryz.f49):=by kernel_rfl
theorem zhl [Sym] (text':ByteArray) (st:SS) {r:Value×SS} (h:zf5 cc SA text' st=some r):cc 49 [.string text'] st=some r:=
 mF (li:=zhk) gu gy zlP rfl (fun _=>rfl) (.trans (by kernel_rfl) h)
noncomputable def YX (cf:fQ) (lf:eX) (nC:Value) (out':Value) (Ip:Value) (Aj:Int) (oW:Int) (st:SS):Option (Nat×List Value×SS):=
 cond (decide (oW<Aj)) (
 (fK Ip oW 1).bind fun a=>
 ((st.ld a.1 a.2).bind asS).bind fun b=>
 let c:Int:=IntKind.wrap .i64 (oW+1)
 (cf 51 [.string b,.int .i64 c] st).bind fun d=>
 (fM d.1 0).bind fun e=>
 ((fM d.1 1).bind (ay .i64)).bind fun f=>
 cond (decide (0<f)) (
 let g:Int:=IntKind.wrap .i64 (oW+1)
 (aj nC).bind fun h=>
 (d.2.st h.1 h.2 [.int .i64 g,.int .i64 f]).bind fun i=>
 some (1,[.slice none 0 0,nC],i)) (
 (d.2.app 5 48 out' e).bind fun j=>
 let k:Int:=IntKind.wrap .i64 (oW+1)
 lf 3 [nC,j.1,Ip,.int .i64 Aj,.int .i64 k] j.2)) (
 some (0,[nC,out'],st))
theorem zdV [Sym] (nC:Value) (out':Value) (Ip:Value) (Aj:Int) (oW:Int) (st:SS) {r:Nat×List Value×SS} (h:YX cc SA nC out' Ip Aj oW st=some r):SA 3 [nC,out',Ip,.int .i64 Aj,.int .i64 oW] st=some r:=
 oM gu gy (key:=3) (I:=zgW) rfl (by kernel_rfl) (by kernel_rfl) rfl rfl (.trans (by kernel_rfl) h)
end Go.Proofs.YtifploedaacedaaGreatDoorE
namespace Go.Proofs.YtifploedaacedaaGreatDoorE
open Go Go.E Go.Proofs
structure Gd (st:SS):Prop where
 g4:st.mem.get 6=some (.table [.chan (some 6)])
 g5:st.mem.get 7=some (.table [.chan (some 7)])
 gF:st.mem.get 0=some (.table y7)
 gS:st.mem.get 2=some (.table EH)
 nx:12≤st.next
theorem Gd.ext {st st':SS} (h:Gd st) (he:Ext st st'):Gd st':=
 ⟨he.get (by have:=h.nx;omega) h.g4,he.get (by have:=h.nx;omega) h.g5,he.get (by have:=h.nx;omega) h.gF,he.get (by have:=h.nx;omega) h.gS,lT h.nx he.next⟩
theorem Gd.ro {st:SS} {n:Nat} (h:Gd st):Gd (st.ro n):=⟨h.g4,h.g5,h.gF,h.gS,h.nx⟩
theorem zn1 (p l:List UInt8):(l.take p.length=p)↔p.isPrefixOf l=true:=by
 rw [List.isPrefixOf_iff_prefix,List.prefix_iff_eq_take]
 exact eq_comm
theorem zrN [Sym] (s p:ByteArray) (st:SS):cc 160 [.string s,.string p] st=some (.bool ((bl p).isPrefixOf (bl s)),st):=by
 refine ziQ s p st ?_
 unfold zgf
 by_cases h:(p.size:Int)≤(s.size:Int)
 ·simp only [zdt h,cu,J3 (s:=s) (l:=0) (h:=p.size) (by omega) (by omega) h,bf,JC]
  congr 3
  rw [Bool.eq_iff_iff,decide_eq_true_eq,← zn1,zlF,tC]
  simp
 ·simp only [bg h,dn]
  congr 3
  have:(bl p).isPrefixOf (bl s)=false:=by
   rw [Bool.eq_false_iff]
   intro hp
   rw [List.isPrefixOf_iff_prefix] at hp
   have:=hp.length_le
   simp at this
   omega
  rw [this]
theorem zrO [Sym] (s p:ByteArray) (st:SS):cc 130 [.string s,.string p] st=some (.tuple #[.string (if (bl p).isPrefixOf (bl s) then mkS ((bl s).drop p.size) else s),.bool ((bl p).isPrefixOf (bl s))],st):=by
 have h1:cc 145 [.string s,.string p] st=some (.tuple #[.string (if (bl p).isPrefixOf (bl s) then mkS ((bl s).drop p.size) else s),.bool ((bl p).isPrefixOf (bl s))],st):=by
  refine ziN s p st ?_
  unfold zgd
  rw [zrN]
  cases hp:(bl p).isPrefixOf (bl s) with
  | false=>simp
  | true=>
    have hp':=hp
    rw [List.isPrefixOf_iff_prefix] at hp'
    have:=hp'.length_le
    simp only [tC] at this
    simp [J3 (s:=s) (l:=p.size) (h:=s.size) (by omega) (by omega) (by omega),Oy]
    rw [List.take_of_length_le (by simp)]
 refine zlK s p st ?_
 unfold strings_CutPrefix
 rw [h1]
 rfl
def CJ (b:UInt8):Nat:=(GV .u8 b.toNat 32).toNat
theorem zmX (n:Int):0≤IntKind.wrap .u8 n∧IntKind.wrap .u8 n<256:=by
 rw [← X9]
 show 0≤((EP n 256:Nat):Int)∧((EP n 256:Nat):Int)<256
 rw [Ua _ _ (by decide)]
 omega
theorem zve (b:UInt8):GV .u8 b.toNat 32=(CJ b:Int):=by
 have:=(zmX ((BitVec.ofInt 8 b.toNat||| BitVec.ofInt 8 32).toNat:Nat)).1
 unfold CJ
 rw [Int.toNat_of_nonneg]
 exact this
theorem P6 (b:UInt8):CJ b<256:=by
 have:=(zmX ((BitVec.ofInt 8 b.toNat||| BitVec.ofInt 8 32).toNat:Nat)).2
 have h2:=zve b
 have h3:GV .u8 b.toNat 32<256:=this
 omega
theorem zwH [Sym] (b:UInt8) (st:SS):cc 161 [.int .u8 b.toNat] st=some (.int .u8 (CJ b),st):=by
 refine znD _ st ?_
 unfold zkH
 rw [zve]
def FD (b:UInt8):Option Nat:=if 48≤b.toNat∧b.toNat≤57 then some (b.toNat-48) else if 97≤CJ b∧CJ b≤122 then some (CJ b-87) else none
def vV (B:Nat):Nat→List UInt8→Option (Option Nat)
 | n,[]=>some (some n)
 | n,b::r=>match FD b with
   | none=>none
   | some d=>if B≤d then none else if 2147483647<n*B+d then some none else vV B (n*B+d) r
def JJ (x:Option (Option Nat)) (s:ByteArray) (st:SS):Nat×List Value×SS:=match x with
 | none=>(1,[.int .u64 0,.iface 228 (.int .i64 2)],st)
 | some none=>(1,[.int .u64 2147483647,.iface 228 (.int .i64 1)],st)
 | some (some m)=>(0,[.string s,.bool false,.int .u64 m],st)
theorem ztf [Sym] (s s0:ByteArray) (B:Nat) (hB:0<B∧B≤16) (C:Int) (hC:2147483648≤C) (i cap:Nat) (st:SS) (hs:s.size≤4294967296) (hm:st.mem.get i=some (.cells (s.data.toList.map fun b=>.int .u8 b.toNat) 1)):∀ (l:List UInt8) (p n:Nat),(bl s).drop p=l→p≤s.size→n≤2147483647→
  Ru 36 [.int .i64 B,.bool false,.string s0,.int .u64 C,.int .u64 2147483647,.bool false,.int .u64 n,.slice (some ⟨i,0,none⟩) s.size cap,.int .i64 s.size,.int .i64 p] st=some (JJ (vV B n l) s0 st):=by
 intro l
 induction l with
 | nil=>
   intro p n hp hle hn
   have hps:p=s.size:=by
    rw [List.drop_eq_nil_iff,tC] at hp
    omega
   subst hps
   refine znY _ _ _ _ _ _ _ _ _ st ?_
   simp [J9,vV,JJ]
 | cons b r ih=>
   intro p n hp hle hn
   have hb:(bl s)[p]?=some b:=by
    have:=congrArg (·[0]?) hp
    simpa using this
   have hlt:p<s.size:=by
    obtain ⟨h,_⟩:=List.getElem?_eq_some_iff.1 hb
    simpa using h
   have hr:(bl s).drop (p+1)=r:=by
    have:=drop_cons hb
    rw [hp] at this
    exact (List.cons.inj this).2.symm
   have hlt':(p:Int)<(s.size:Int):=by omega
   have hel:fK (.slice (some ⟨i,0,none⟩) s.size cap) (p:Int) 1=some (i,p):=by
    unfold fK
    simp [hlt]
   have hld:(st.ld i p).bind (ay .u8)=some (b.toNat:Int):=by
    rw [SS.eU hm,List.getElem?_map]
    show (((bl s)[p]?).map _).bind _=_
    rw [hb]
    rfl
   have hwp:IntKind.wrap .i64 ((p:Int)+1)=((p+1:Nat):Int):=by rw [wrap64 (by omega) (by omega)];omega
   have hB8:IntKind.wrap .u8 (B:Int)=B:=J4 (by omega) (by omega)
   have Qz:IntKind.wrap .u64 (B:Int)=B:=Ho (by omega) (by omega)
   have hmul:n*B≤2147483647*16:=Nat.mul_le_mul hn hB.2
   have I5:IntKind.wrap .u64 ((n:Int)*(B:Int))=((n*B:Nat):Int):=by
    rw [← Int.natCast_mul]
    exact Ho (by omega) (by omega)
   have hCn:¬ C≤(n:Int):=by omega
   have hlow:=P6 b
   have hbl:=b.toNat_lt
   have fin:∀ d:Nat,d<256→FD b=some d→∀ (q:Int),q=d→
    (cond (decide ((B:Int)≤q)) (some (1,[Value.int .u64 0,.iface 228 (.int .i64 2)],st)) (
     cond (decide (C≤(n:Int))) (some (1,[.int .u64 2147483647,.iface 228 (.int .i64 1)],st)) (
      cond (decide (IntKind.wrap .u64 (((n*B:Nat):Int)+IntKind.wrap .u64 q)<((n*B:Nat):Int))) (some (1,[.int .u64 2147483647,.iface 228 (.int .i64 1)],st)) (
       cond (decide (2147483647<IntKind.wrap .u64 (((n*B:Nat):Int)+IntKind.wrap .u64 q))) (some (1,[.int .u64 2147483647,.iface 228 (.int .i64 1)],st)) (
        Ru 36 [.int .i64 B,.bool false,.string s0,.int .u64 C,.int .u64 2147483647,.bool false,.int .u64 (IntKind.wrap .u64 (((n*B:Nat):Int)+IntKind.wrap .u64 q)),.slice (some ⟨i,0,none⟩) s.size cap,.int .i64 s.size,.int .i64 ((p+1:Nat):Int)] st)))))=some (JJ (vV B n (b::r)) s0 st):=by
    intro d hd hv q hq
    subst hq
    have hw1:IntKind.wrap .u64 (d:Int)=d:=Ho (by omega) (by omega)
    have hw2:IntKind.wrap .u64 (((n*B:Nat):Int)+(d:Int))=((n*B+d:Nat):Int):=by
     rw [← Int.natCast_add]
     exact Ho (by omega) (by omega)
    have hnl:¬ (((n*B+d:Nat):Int)<((n*B:Nat):Int)):=by omega
    rw [hw1,hw2,bg hCn,bg hnl]
    unfold vV
    rw [hv]
    by_cases h1:B≤d
    ·have h1':(B:Int)≤(d:Int):=by omega
     simp [h1,JJ]
    ·have h1':¬ (B:Int)≤(d:Int):=by omega
     rw [bg h1']
     simp only [dn,h1,if_false]
     by_cases h2:2147483647<n*B+d
     ·have h2':(2147483647:Int)<((n*B+d:Nat):Int):=by omega
      rw [zdt h2',if_pos h2]
      rfl
     ·have h2':¬ (2147483647:Int)<((n*B+d:Nat):Int):=by omega
      rw [bg h2',if_neg h2]
      exact ih (p+1) (n*B+d) hr (by omega) (by omega)
   refine znY _ _ _ _ _ _ _ _ _ st ?_
   by_cases hdig:48≤b.toNat∧b.toNat≤57
   ·have h1:(48:Int)≤(b.toNat:Int):=by omega
    have h2:(b.toNat:Int)≤57:=by omega
    have h3:¬ (b.toNat:Int)=95:=by omega
    have hw:IntKind.wrap .u8 ((b.toNat:Int)-48)=((b.toNat-48:Nat):Int):=by rw [J4 (by omega) (by omega)];omega
    have:=fin (b.toNat-48) (by omega) (by unfold FD;rw [if_pos hdig]) _ rfl
    simp only [J9,zdt hlt',cu,hel,bf,hld,bg h3,dn,zdt h1,zdt h2,hw,hB8,Qz,I5,hwp]
    exact this
   ·have hlo:=zwH b st
    have Je:decide ((48:Int)≤(b.toNat:Int))=false∨(decide ((48:Int)≤(b.toNat:Int))=true∧decide ((b.toNat:Int)≤57)=false):=by
     by_cases h:(48:Int)≤(b.toNat:Int)
     ·exact .inr ⟨zdt h,bg (by omega)⟩
     ·exact .inl (bg h)
    by_cases h1:97≤CJ b
    ·have h1':(97:Int)≤(CJ b:Int):=by omega
     have hw1:IntKind.wrap .u8 ((CJ b:Int)-97)=((CJ b-97:Nat):Int):=by rw [J4 (by omega) (by omega)];omega
     by_cases h2:CJ b≤122
     ·have h2':(CJ b:Int)≤122:=by omega
      have hw2:IntKind.wrap .u8 (((CJ b-97:Nat):Int)+10)=((CJ b-87:Nat):Int):=by rw [J4 (by omega) (by omega)];omega
      have:=fin (CJ b-87) (by omega) (by unfold FD;rw [if_neg hdig,if_pos ⟨h1,h2⟩]) _ rfl
      rcases Je with h48 | ⟨h48,h57⟩
      ·cases h95:decide ((b.toNat:Int)=95)
       all_goals
        simp only [J9,zdt hlt',cu,hel,bf,hld,h95,dn,h48,hlo,eP,zdt h1',zdt h2',hw1,hw2,hB8,Qz,I5,hwp]
        exact this
      ·cases h95:decide ((b.toNat:Int)=95)
       all_goals
        simp only [J9,zdt hlt',cu,hel,bf,hld,h95,dn,h48,h57,hlo,eP,zdt h1',zdt h2',hw1,hw2,hB8,Qz,I5,hwp]
        exact this
     ·have h2':¬ (CJ b:Int)≤122:=by omega
      have hv:FD b=none:=by unfold FD;rw [if_neg hdig,if_neg (by omega)]
      have e:vV B n (b::r)=none:=by unfold vV;rw [hv]
      rw [e]
      rcases Je with h48 | ⟨h48,h57⟩
      ·cases h95:decide ((b.toNat:Int)=95)
       all_goals
        simp only [J9,zdt hlt',cu,hel,bf,hld,h95,dn,h48,hlo,eP,zdt h1',bg h2',JJ]
      ·cases h95:decide ((b.toNat:Int)=95)
       all_goals
        simp only [J9,zdt hlt',cu,hel,bf,hld,h95,dn,h48,h57,hlo,eP,zdt h1',bg h2',JJ]
    ·have h1':¬ (97:Int)≤(CJ b:Int):=by omega
     have hv:FD b=none:=by unfold FD;rw [if_neg hdig,if_neg (by omega)]
     have e:vV B n (b::r)=none:=by unfold vV;rw [hv]
     rw [e]
     rcases Je with h48 | ⟨h48,h57⟩
     ·cases h95:decide ((b.toNat:Int)=95)
      all_goals
       simp only [J9,zdt hlt',cu,hel,bf,hld,h95,dn,h48,hlo,eP,bg h1',JJ]
     ·cases h95:decide ((b.toNat:Int)=95)
      all_goals
       simp only [J9,zdt hlt',cu,hel,bf,hld,h95,dn,h48,h57,hlo,eP,bg h1',JJ]
def vU (B:Nat) (l:List UInt8):Option (Option Nat):=if l=[] then none else vV B 0 l
def zG (x:Option (Option Nat)):Int×Option Nat:=match x with
 | none=>(0,some 4)
 | some none=>(2147483647,some 5)
 | some (some m)=>(m,none)
def FC (x:Option (Option Nat)):Int×Bool:=((zG x).1,(zG x).2.isNone)
def KJ (x:Option (Option Nat)):Value:=match x with
 | none=>.iface 228 (.int .i64 2)
 | some none=>.iface 228 (.int .i64 1)
 | some (some m)=>.nilIface
theorem Ug (s:ByteArray):fA s ⟨#[]⟩=decide (bl s=[]):=rfl
theorem zxL [Sym] (s:ByteArray) (hs:s.size≤4294967296) (st:SS):∃ st',cc 146 [.string s,.int .i64 10,.int .i64 31] st=some (.tuple #[.int .u64 (zG (vU 10 (bl s))).1,KJ (vU 10 (bl s))],st')∧Ext st st':=by
 have hsh:IntKind.wrap .u64 (LX .u64 1 31-1)=2147483647:=by decide
 by_cases h0:bl s=[]
 ·refine ⟨st,ztb s st ?_,.refl _⟩
  simp [PK,Ug,h0,vU,zG,KJ]
 ·refine ⟨st.new (.cells (s.data.toList.map fun b=>.int .u8 b.toNat) 1),ztb s st ?_,(Ext.refl st).new _⟩
  have:=ztf s s 10 (by omega) 1844674407370955162 (by omega) st.next s.size (st.new (.cells (s.data.toList.map fun b=>.int .u8 b.toNat) 1)) hs (by simp) (bl s) 0 0 rfl (by omega) (by omega)
  have H8:Ru 36 [.int .i64 10,.bool false,.string s,.int .u64 1844674407370955162,.int .u64 2147483647,.bool false,.int .u64 0,.slice (some ⟨st.next,0,none⟩) s.size s.size,.int .i64 ((s.size:Nat):Int),.int .i64 0] (st.new (.cells (s.data.toList.map fun b=>.int .u8 b.toNat) 1))=_:=this
  simp only [PK,Ug,bg h0,dn,hsh,H8,bf,vU,if_neg h0]
  rcases vV 10 0 (bl s) with _ | _ | m<;>simp [JJ,zG,KJ]
theorem zxM [Sym] (s:ByteArray) (hs:s.size≤4294967296) (st:SS):∃ st',cc 146 [.string s,.int .i64 16,.int .i64 31] st=some (.tuple #[.int .u64 (zG (vU 16 (bl s))).1,KJ (vU 16 (bl s))],st')∧Ext st st':=by
 have hsh:IntKind.wrap .u64 (LX .u64 1 31-1)=2147483647:=by decide
 by_cases h0:bl s=[]
 ·refine ⟨st,zte s st ?_,.refl _⟩
  simp [PI,Ug,h0,vU,zG,KJ]
 ·refine ⟨st.new (.cells (s.data.toList.map fun b=>.int .u8 b.toNat) 1),zte s st ?_,(Ext.refl st).new _⟩
  have:=ztf s s 16 (by omega) 1152921504606846976 (by omega) st.next s.size (st.new (.cells (s.data.toList.map fun b=>.int .u8 b.toNat) 1)) hs (by simp) (bl s) 0 0 rfl (by omega) (by omega)
  have H8:ztd 36 [.int .i64 16,.bool false,.string s,.int .u64 1152921504606846976,.int .u64 2147483647,.bool false,.int .u64 0,.slice (some ⟨st.next,0,none⟩) s.size s.size,.int .i64 ((s.size:Nat):Int),.int .i64 0] (st.new (.cells (s.data.toList.map fun b=>.int .u8 b.toNat) 1))=_:=this
  simp only [PI,Ug,bg h0,dn,hsh,H8,bf,vU,if_neg h0]
  rcases vV 16 0 (bl s) with _ | _ | m<;>simp [JJ,zG,KJ]
theorem zwI [Sym] {st:SS} (hg:Gd st) (fn s:ByteArray) (hs:s.size≤4294967296) (base bits:Int) (x:Option (Option Nat)) (hx:(zG x).2.isNone=false):
  cc 147 [.string fn,.string s,.int .i64 base,.int .i64 bits,KJ x] st=some (.iface 230 (.pointer (some ⟨st.next,0,none⟩)),st.dw (st.next+1)):=by
 have hq:Nat.ble s.size 281474976710656=true:=by rw [Nat.ble_eq];omega
 have hn:=hg.nx
 rcases x with _ | _ | m
 ·have h:=zqy (P:=Tryz.prog) (L:=Lk0) (f:=147) (args:=[.string fn,.string s,.int .i64 base,.int .i64 bits,.iface 228 (.int .i64 2)]) (st:=st) (c:=Jy st.next 6) (by rfl)
   (by show NR 147 [.string fn,.string s,.int .i64 base,.int .i64 bits,.iface 228 (.int .i64 2)] st.next=_;simp [NR, -zrK,hq]) (by
    have h4:Nat.blt 6 st.next=true:=by rw [Nat.blt_eq];omega
    have hgl:Lk0.glob 6=true:=rfl
    simp [Jy,hg.g4,Jv,JO,h4,hgl])
  exact h
 ·have h:=zqy (P:=Tryz.prog) (L:=Lk0) (f:=147) (args:=[.string fn,.string s,.int .i64 base,.int .i64 bits,.iface 228 (.int .i64 1)]) (st:=st) (c:=Jy st.next 7) (by rfl)
   (by show NR 147 [.string fn,.string s,.int .i64 base,.int .i64 bits,.iface 228 (.int .i64 1)] st.next=_;simp [NR, -zrK,hq]) (by
    have h4:Nat.blt 7 st.next=true:=by rw [Nat.blt_eq];omega
    have hgl:Lk0.glob 7=true:=rfl
    simp [Jy,hg.g5,Jv,JO,h4,hgl])
  exact h
 ·cases hx
theorem zmY [Sym] {st:SS} (hg:Gd st) (s:ByteArray) (hs:s.size≤4294967296) (base:Int) (B:Nat) (hb:(base=10∧B=10)∨(base=16∧B=16)):
  ∃ e st',cc 131 [.string s,.int .i64 base,.int .i64 31] st=some (.tuple #[.int .u64 (zG (vU B (bl s))).1,e],st')∧J5 e=some (zG (vU B (bl s))).2.isNone∧Ext st st':=by
 have h:∃ st',cc 146 [.string s,.int .i64 base,.int .i64 31] st=some (.tuple #[.int .u64 (zG (vU B (bl s))).1,KJ (vU B (bl s))],st')∧Ext st st':=by
  rcases hb with ⟨rfl,rfl⟩ | ⟨rfl,rfl⟩
  ·exact zxL s hs st
  ·exact zxM s hs st
 obtain ⟨st',h1,h2⟩:=h
 have hE:J5 (KJ (vU B (bl s)))=some (zG (vU B (bl s))).2.isNone:=by
  rcases vU B (bl s) with _ | _ | m<;>rfl
 cases hx:(zG (vU B (bl s))).2.isNone with
 | true=>
   refine ⟨.nilIface,st',zhh s _ _ st ?_,rfl,h2⟩
   rw [hx] at hE
   simp [zf4,h1,fM,hE]
 | false=>
   refine ⟨.iface 230 (.pointer (some ⟨st'.next,0,none⟩)),st'.dw (st'.next+1),zhh s _ _ st ?_,rfl,h2.dw (Nat.le_succ _)⟩
   rw [hx] at hE
   simp [zf4,h1,fM,hE,zwI (hg.ext h2) _ s hs _ _ _ hx]
def JR (l:List UInt8):Bool:=[48,120].isPrefixOf l
def zB (l:List UInt8):Option (Option Nat):=if JR l then vU 16 (l.drop 2) else vU 10 l
theorem zrP {B n m:Nat} {l:List UInt8} (h:vV B n l=some (some m)):Lib.indexByte l 95= -1:=by
 induction l generalizing n with
 | nil=>rfl
 | cons b r ih=>
   unfold vV at h
   split at h
   ·cases h
   ·rename_i d hd
    split at h
    ·cases h
    ·split at h
     ·cases h
     ·have hb:b≠95:=by
       rintro rfl
       have:FD 95=none:=by decide
       rw [this] at hd;cases hd
      simp [Lib.indexByte,hb,ih h]
theorem zqC {B:Nat} {l:List UInt8} (h:(zG (vU B l)).2.isNone=true):Lib.indexByte l 95= -1:=by
 unfold vU at h
 split at h
 ·cases h
 ·cases hp:vV B 0 l with
  | none=>rw [hp] at h;cases h
  | some x=>cases x with
    | none=>rw [hp] at h;cases h
    | some m=>exact zrP hp
theorem Uf {B:Nat} {l:List UInt8}:0≤(zG (vU B l)).1∧(zG (vU B l)).1≤2147483647:=by
 have:∀ (l:List UInt8) (n m:Nat),n≤2147483647→vV B n l=some (some m)→m≤2147483647:=by
  intro l
  induction l with
  | nil=>intro n m hn h;cases h;exact hn
  | cons b r ih=>
    intro n m hn h
    unfold vV at h
    split at h
    ·cases h
    ·split at h
     ·cases h
     ·split at h
      ·cases h
      ·exact ih _ _ (by omega) h
 unfold vU
 split
 ·simp [zG]
 ·cases hp:vV B 0 l with
  | none=>simp [zG]
  | some x=>cases x with
    | none=>simp [zG]
    | some m=>have:=this l 0 m (by omega) hp;simp only [zG];omega
theorem zvf [Sym] {st:SS} (hg:Gd st) (s:ByteArray) (hs:s.size≤4294967296):∃ n,st.next≤n∧cc 109 [.string s] st=some (.tuple #[.int .i64 (FC (zB (bl s))).1,.bool (FC (zB (bl s))).2],st.dw n):=by
 have hcut:=zrO s ⟨#[48,120]⟩ (st.ro st.next)
 have hp:(bl (⟨#[48,120]⟩:ByteArray))=[48,120]:=rfl
 have hsz:(⟨#[48,120]⟩:ByteArray).size=2:=rfl
 rw [hp,hsz] at hcut
 cases hh:JR (bl s) with
 | true=>
   have hh':=hh
   unfold JR at hh'
   rw [hh'] at hcut
   obtain ⟨e,st',h1,h2,h3⟩:=zmY (st:=st.ro st.next) (hg.ro) (mkS ((bl s).drop 2)) (by simp;omega) 16 16 (.inr ⟨rfl,rfl⟩)
   rw [vW] at h1 h2
   refine ⟨st'.next,h3.next,zkI s st ?_⟩
   have hw:=wrap64 (n:=(zG (vU 16 ((bl s).drop 2))).1) (by have:=Uf (B:=16) (l:=(bl s).drop 2);omega) (by have:=Uf (B:=16) (l:=(bl s).drop 2);omega)
   have hi:=zjh 95 (mkS ((bl s).drop 2)) st'
   cases hx:(zG (vU 16 ((bl s).drop 2))).2.isNone with
   | true=>
     rw [hx] at h2
     have hu:=zqC hx
     have hi':cc 110 [.string (mkS ((bl s).drop 2)),.int .u8 95] st'=_:=hi
     rw [vW,hu] at hi'
     simp [Us,hcut,fM,h1,h2,hw,zB,hh,FC,hx,hi']
   | false=>
     rw [hx] at h2
     simp [Us,hcut,fM,h1,h2,hw,zB,hh,FC,hx]
 | false=>
   have hh':=hh
   unfold JR at hh'
   rw [hh'] at hcut
   obtain ⟨e,st',h1,h2,h3⟩:=zmY (st:=st.ro st.next) (hg.ro) s hs 10 10 (.inl ⟨rfl,rfl⟩)
   refine ⟨st'.next,h3.next,zkI s st ?_⟩
   have hw:=wrap64 (n:=(zG (vU 10 (bl s))).1) (by have:=Uf (B:=10) (l:=bl s);omega) (by have:=Uf (B:=10) (l:=bl s);omega)
   have hi:=zjh 95 s st'
   cases hx:(zG (vU 10 (bl s))).2.isNone with
   | true=>
     rw [hx] at h2
     have hu:=zqC hx
     have hi':cc 110 [.string s,.int .u8 95] st'=_:=hi
     rw [hu] at hi'
     simp [Us,hcut,fM,h1,h2,hw,zB,hh,FC,hx,hi']
   | false=>
     rw [hx] at h2
     simp [Us,hcut,fM,h1,h2,hw,zB,hh,FC,hx]
end Go.Proofs.YtifploedaacedaaGreatDoorE
namespace Go.Proofs.YtifploedaacedaaGreatDoorE
open Go Go.E Go.Proofs
structure Tok where
 kd:Nat
 tx:List UInt8
 nm:Int
 col:Nat
def xG (at':Int) (t:Tok):List Value:=[.int .i64 t.kd,.string (mkS t.tx),.int .i64 t.nm,.int .i64 at',.int .i64 t.col]
def AQ (at':Int):List Tok→List Value
 | []=>[]
 | t::r=>xG at' t++AQ at' r
theorem zmZ (at':Int) (a b:List Tok):AQ at' (a++b)=AQ at' a++AQ at' b:=by
 induction a with
 | nil=>rfl
 | cons t r ih=>simp [AQ,ih]
theorem zvg (at':Int) (a:List Tok):(AQ at' a).all one=true:=by
 induction a with
 | nil=>rfl
 | cons t r ih=>simp [AQ,ih,xG,one]
inductive Stp where
 | stop | blank | bad
 | tok (kd n:Nat) (x:Int)
def numO (x:Option (Option Nat)):Option Nat:=x.getD none
def LY (c:UInt8):Bool:=decide (0≤Lib.indexByte [58,61,46,43,45] c)
def stepT:List UInt8→Stp
 | []=>.stop
 | c::r=>if (c.toNat:Int)=59 then .stop
   else if (c.toNat:Int)=32∨(c.toNat:Int)=9∨(c.toNat:Int)=13 then .blank
   else if DX c.toNat=true then (if 24<lZ (c::r) then .bad else .tok 1 (lZ (c::r)) 0)
   else if ET c.toNat=true then (match numO (zB ((c::r).take (lZ (c::r)))) with
    | some m=>.tok 2 (lZ (c::r)) m
    | none=>.bad)
   else if LY c=true then .tok 3 1 0 else .bad
def ZW (t:Tok):Except Nat (List Tok)→Except Nat (List Tok)
 | .ok ts=>.ok (t::ts)
 | .error e=>.error e
def zX:Nat→Nat→List UInt8→Except Nat (List Tok)
 | 0,_,_=>.ok []
 | k+1,col,l=>match stepT l with
   | .stop=>.ok []
   | .blank=>zX k (col+1) (l.drop 1)
   | .tok kd n x=>ZW ⟨kd,l.take n,x,col+1⟩ (zX k (col+n) (l.drop n))
   | .bad=>.error (col+1)
structure TK (st rY:SS) (row:List Value):Prop where
 mem:rY.mem.get st.next=some (.cells row 0)
 ext:Ext st rY
 lt:st.next<rY.next
theorem TK.new {st:SS} {r row:List Value} (hl:st.lim≤st.next) (h1:row.all one=true) (hr:r.length=row.length):∃ rY,(st.new (.cells r 0)).st st.next 0 row=some rY∧TK st rY row:=by
 refine ⟨_,SS.mM SS.fV hl h1 (c':=row) ?_,?_,?_,?_⟩
 ·rw [DY (by omega)]
  simp [hr]
 ·simp
 ·exact ((Ext.refl st).new _).set (fF _) _
 ·simp
theorem TK.st {st rY:SS} {row row' vs:List Value} {k:Nat} (h:TK st rY row) (hl:st.lim≤st.next) (h1:vs.all one=true) (hs:FU row k vs=some row'):∃ O1,rY.st st.next k vs=some O1∧TK st O1 row'∧O1.next=rY.next:=
 ⟨_,SS.mM h.mem (by rw [h.ext.lim];exact hl) h1 hs,⟨by simp,h.ext.set (fF _) _,h.lt⟩,rfl⟩
theorem TK.dw {st rY:SS} {row:List Value} {n:Nat} (h:TK st rY row) (hn:rY.next≤n):TK st (rY.dw n) row:=
 ⟨h.mem,h.ext.dw hn,pz h.lt hn⟩
theorem TK.ld {st rY:SS} {row:List Value} {k:Nat} (h:TK st rY row):rY.ld st.next k=row[k]?:=SS.eU h.mem
theorem TK.eF {st rY:SS} {row:List Value} {n:Nat} (h:TK st rY row) (hn:row.length=n):rY.eF st.next 0 n=some (.agg row.toArray):=by
 rw [SS.rU h.mem,Md hn];rfl
theorem YJ {row:List Value} {n:Nat} (hn:row.length=n):nX (.agg row.toArray) n=some row:=by
 unfold nX
 have:(Value.agg row.toArray).cells=row.toArray:=rfl
 rw [this]
 simp [hn]
theorem cells5 (a b c d e:Value):nX (.agg [a,b,c,d,e].toArray) 5=some [a,b,c,d,e]:=rfl
theorem own_ne {b:Nat} {st:SS} {v:Value} {c:List Value} {z n j:Nat} (h:Own b st v c z n) (hj:st.next≤j):∀ q,v≠.slice (some ⟨j,0,none⟩) q q:=by
 obtain ⟨_,⟨rfl,_⟩ | ⟨i,rfl,_,_,_,hi⟩⟩:=h
 ·intro q h;cases h
 ·intro q h;cases h;omega
theorem TK.app {st0 st rY:SS} {row c:List Value} {out:Value} {n z bt:Nat} (h:TK st rY row) (he:Ext st0 st) (ho:Own st0.next st out c z n) (hr:row.length=z) (hz:0<z) (hl:st0.lim≤st0.next) (h1:row.all one=true) (hs:(n+2)*bt≤2^44) (hn:n+1≤2^44):
  ∃ v st',(rY.new (.cells row z)).app z bt out (.slice (some ⟨rY.next,0,none⟩) 1 1)=some (v,st')∧Ext st0 st'∧Own st0.next st' v (c++row) z (n+1)∧st'.mem.get st.next=some (.cells row 0):=by
 have e1:Ext st (rY.new (.cells row z)):=h.ext.new _
 have e0:Ext st0 (rY.new (.cells row z)):=he.trans e1
 obtain ⟨v,st',g1,g2,g3,g4,g5,g6⟩:=(ho.ext e1).app (Rd.new1 (st:=rY) hr) e0.next (by rw [e0.lim];exact hl) hz h1 (bt:=bt) (by simpa [Nat.add_assoc] using hs) hn
 refine ⟨v,st',g1,g5 st0 (fF _) e0,g2,?_⟩
 rw [g6 st.next (by simp;have:=h.lt;omega) (own_ne ho (fF _)),SS.nM (by have:=h.lt;omega)]
 exact h.mem
theorem XR (l:List UInt8):lZ l≤l.length:=by
 unfold lZ
 exact (List.takeWhile_sublist _).length_le
theorem Rw {c:UInt8} {r:List UInt8} (h:nameB c=true):0<lZ (c::r):=by rw [RG,if_pos h];omega
theorem Om {s:ByteArray} {col n:Nat} (h:col+n≤s.size):rM s (col:Int) ((col+n:Nat):Int)=some (mkS (((bl s).drop col).take n)):=by
 rw [J3 (by omega) (by omega) (by omega),Oy]
 simp only [Int.toNat_natCast]
 rw [List.drop_take,Nat.add_sub_cancel_left]
theorem zm0 {s:ByteArray} {col:Nat} (h:col≤s.size):rM s (col:Int) (s.size:Int)=some (mkS ((bl s).drop col)):=by
 rw [J3 (by omega) (by omega) (by omega),Oy]
 simp only [Int.toNat_natCast]
 rw [List.take_of_length_le (by simp)]
def CY (o9:Nat→List Value) (s:ByteArray) (at':Int) (st0:SS) (done:List Tok) (r:Option (Nat×List Value×SS)):Except Nat (List Tok)→Prop
 | .ok ts=>∃ v st',r=some (0,[.string s,.int .i64 at',v],st')∧Ext st0 st'∧Own st0.next st' v (AQ at' (done++ts)) 5 (done++ts).length∧(done++ts).length≤s.size
 | .error c=>∃ st',r=some (1,o9 c,st')∧Ext st0 st'
theorem CY.to {o9:Nat→List Value} {s:ByteArray} {at':Int} {st0:SS} {done:List Tok} {r r':Option (Nat×List Value×SS)} {x:Except Nat (List Tok)} (h:CY o9 s at' st0 done r x) (hr:∀ y,r=some y→r'=some y):CY o9 s at' st0 done r' x:=by
 cases x with
 | ok ts=>obtain ⟨v,st',a,b⟩:=h;exact ⟨v,st',hr _ a,b⟩
 | error c=>obtain ⟨st',a,b⟩:=h;exact ⟨st',hr _ a,b⟩
theorem CY.cons {o9:Nat→List Value} {s:ByteArray} {at':Int} {st0:SS} {done:List Tok} {t:Tok} {r:Option (Nat×List Value×SS)} {x:Except Nat (List Tok)} (h:CY o9 s at' st0 (done++[t]) r x):CY o9 s at' st0 done r (ZW t x):=by
 cases x with
 | ok ts=>
   have e:done++[t]++ts=done++t::ts:=by simp
   obtain ⟨v,st',a,b,c,d⟩:=h
   rw [e] at c d
   exact ⟨v,st',a,b,c,d⟩
 | error c=>exact h
theorem CY.tok {o9:Nat→List Value} {s:ByteArray} {at':Int} {st0 st O1:SS} {done:List Tok} {out:Value} {kd n col k:Nat} {x:Int} {lf:eX} (hs:s.size≤4294967296) (hl0:st0.lim≤st0.next) (hd:done.length≤col) (he:Ext st0 st) (ho:Own st0.next st out (AQ at' done) 5 done.length) (hn0:0<n) (hn:col+n≤s.size)
  (tk:TK st O1 [.int .i64 kd,.string (mkS (((bl s).drop col).take n)),.int .i64 x,.int .i64 at',.int .i64 ((col+1:Nat):Int)])
  (ih:∀ (done:List Tok) (out:Value) (st:SS),done.length≤col+n→Ext st0 st→Own st0.next st out (AQ at' done) 5 done.length→CY o9 s at' st0 done (lf 3 [.string s,.int .i64 at',out,.int .i64 ((col+n:Nat):Int)] st) (zX k (col+n) ((bl s).drop (col+n))))
  (step:∀ v CU,(O1.new (.cells [.int .i64 kd,.string (mkS (((bl s).drop col).take n)),.int .i64 x,.int .i64 at',.int .i64 ((col+1:Nat):Int)] 5)).app 5 48 out (.slice (some ⟨O1.next,0,none⟩) 1 1)=some (v,CU)→CU.mem.get st.next=some (.cells [.int .i64 kd,.string (mkS (((bl s).drop col).take n)),.int .i64 x,.int .i64 at',.int .i64 ((col+1:Nat):Int)] 0)→
      ∀ y,lf 3 [.string s,.int .i64 at',v,.int .i64 ((col+n:Nat):Int)] CU=some y→lf 3 [.string s,.int .i64 at',out,.int .i64 col] st=some y):
  CY o9 s at' st0 done (lf 3 [.string s,.int .i64 at',out,.int .i64 col] st) (ZW ⟨kd,((bl s).drop col).take n,x,col+1⟩ (zX k (col+n) (((bl s).drop col).drop n))):=by
 obtain ⟨v,CU,b1,b2,b3,b4⟩:=tk.app he ho rfl (by omega) hl0 (by rfl) (bt:=48) (by omega) (by omega)
 have hrow:AQ at' done++[.int .i64 kd,.string (mkS (((bl s).drop col).take n)),.int .i64 x,.int .i64 at',.int .i64 ((col+1:Nat):Int)]=AQ at' (done++[⟨kd,((bl s).drop col).take n,x,col+1⟩]):=by
  rw [zmZ];rfl
 have hlen:done.length+1=(done++[(⟨kd,((bl s).drop col).take n,x,col+1⟩:Tok)]).length:=by simp
 rw [hrow,hlen] at b3
 rw [List.drop_drop]
 exact ((ih _ v CU (by simp;omega) b2 b3).cons).to (step v CU b1 b4)
theorem zrQ {L r:List UInt8} {c:UInt8} (h:L=c::r):stepT L=if (c.toNat:Int)=59 then .stop
  else if (c.toNat:Int)=32∨(c.toNat:Int)=9∨(c.toNat:Int)=13 then .blank
  else if DX c.toNat=true then (if 24<lZ L then .bad else .tok 1 (lZ L) 0)
  else if ET c.toNat=true then (match numO (zB (L.take (lZ L))) with
   | some m=>.tok 2 (lZ L) m
   | none=>.bad)
  else if LY c=true then .tok 3 1 0 else .bad:=by subst h;rfl
theorem zvh [Sym] (s:ByteArray) (at':Int) (hs:s.size≤4294967296) (st0:SS) (hg:Gd st0) (hl0:st0.lim≤st0.next):∀ (k col:Nat) (done:List Tok) (out:Value) (st:SS),s.size≤k+col→col≤s.size→done.length≤col→Ext st0 st→Own st0.next st out (AQ at' done) 5 done.length→
  CY (fun c=>[.slice none 0 0,.int .i64 c,.bool false]) s at' st0 done (Hu 3 [.string s,.int .i64 at',out,.int .i64 col] st) (zX k col ((bl s).drop col)):=by
 intro k
 induction k with
 | zero=>
   intro col done out st hk hc hd he ho
   have:col=s.size:=by omega
   subst this
   refine ⟨out,st,Hr s _ out _ st ?_,he,by simpa using ho,by simpa using hd⟩
   simp [Ht]
 | succ k ih=>
   intro col done out st hk hc hd he ho
   have hfin:∀ (rY:SS),Hu 3 [.string s,.int .i64 at',out,.int .i64 s.size] rY=some (0,[.string s,.int .i64 at',out],rY):=by
    intro rY
    refine Hr s _ out _ rY ?_
    simp [Ht]
   by_cases hlt:col<s.size
   ·obtain ⟨c,hb⟩:∃ c,(bl s)[col]?=some c:=⟨_,mW (by rw [tC];exact hlt)⟩
    have hdc:=drop_cons hb
    have hix:(zI s (col:Int)).bind (ay .u8)=some (c.toNat:Int):=by
     obtain ⟨b',hb',hidx⟩:=Rh (s:=s) (i:=(col:Int)) (by omega) (by omega)
     have:b'=c:=by simp at hb';rw [hb] at hb';cases hb';rfl
     subst this
     rw [hidx];simp
    have hlt':(col:Int)<(s.size:Int):=by omega
    have hw1:IntKind.wrap .i64 ((col:Int)+1)=((col+1:Nat):Int):=by rw [wrap64 (by omega) (by omega)];omega
    have hl:st.lim≤st.next:=by rw [he.lim];have:=he.next;omega
    obtain ⟨pV,e3,t3⟩:=TK.new (st:=st) (r:=[.int .i64 0,.string ⟨#[]⟩,.int .i64 0,.int .i64 0,.int .i64 0]) (row:=[.int .i64 0,.string ⟨#[]⟩,.int .i64 0,.int .i64 at',.int .i64 ((col+1:Nat):Int)]) hl (by rfl) rfl
    have he3:Ext st0 pV:=he.trans t3.ext
    have ho3:=ho.ext t3.ext
    have hL:=zrQ hdc
    have hrl:lZ ((bl s).drop col)≤s.size-col:=by
     have:=XR ((bl s).drop col)
     simpa using this
    unfold zX
    rw [hL]
    by_cases AA:(c.toNat:Int)=59
    ·rw [if_pos AA]
     refine ⟨out,pV,Hr s _ out _ st ?_,he3,by simpa using ho3,by simp;omega⟩
     simp only [Ht,zdt hlt',cu,hw1,e3,bf,hix,zdt AA]
     exact hfin pV
    rw [if_neg AA]
    by_cases hbk:(c.toNat:Int)=32∨(c.toNat:Int)=9∨(c.toNat:Int)=13
    ·rw [if_pos hbk]
     simp only [List.drop_drop]
     refine (ih (col+1) done out pV (by omega) (by omega) (by omega) he3 ho3).to ?_
     intro r hr
     refine Hr s _ out _ st ?_
     simp only [Ht,zdt hlt',cu,hw1,e3,bf,hix,bg AA,dn]
     rcases hbk with h | h | h
     ·simp only [zdt h,cu,hr]
     ·have h':¬ (c.toNat:Int)=32:=by omega
      simp only [zdt h,cu,hr,bg h',dn]
     ·have h':¬ (c.toNat:Int)=32:=by omega
      have h'':¬ (c.toNat:Int)=9:=by omega
      simp only [zdt h,cu,hr,bg h',bg h'',dn]
    rw [if_neg hbk]
    have h32:¬ (c.toNat:Int)=32:=fun h=>hbk (.inl h)
    have h9:¬ (c.toNat:Int)=9:=fun h=>hbk (.inr (.inl h))
    have h13:¬ (c.toNat:Int)=13:=fun h=>hbk (.inr (.inr h))
    have hsub:=zm0 (s:=s) (col:=col) (by omega)
    have hlet:=Yw (c.toNat:Int)
    have hdig:=digit_ok (c.toNat:Int)
    by_cases hlt1:DX c.toNat=true
    ·rw [if_pos hlt1]
     have hpos:0<lZ ((bl s).drop col):=by rw [hdc];exact Rw (by unfold nameB;rw [hlt1];rfl)
     obtain ⟨m,hm,hrun⟩:=Mc (mkS ((bl s).drop col)) pV
     rw [vW] at hrun
     have t4:=t3.dw hm
     obtain ⟨Gi,e5,t5,n5⟩:=t4.st (k:=0) (vs:=[.int .i64 1]) (row':=[.int .i64 1,.string ⟨#[]⟩,.int .i64 0,.int .i64 at',.int .i64 ((col+1:Nat):Int)]) hl (by rfl) rfl
     obtain ⟨BU,e6,t6,n6⟩:=t5.st (k:=1) (vs:=[.string (mkS (((bl s).drop col).take (lZ ((bl s).drop col))))]) (row':=[.int .i64 1,.string (mkS (((bl s).drop col).take (lZ ((bl s).drop col)))),.int .i64 0,.int .i64 at',.int .i64 ((col+1:Nat):Int)]) hl (by rfl) rfl
     have hw2:IntKind.wrap .i64 ((col:Int)+(lZ ((bl s).drop col):Nat))=((col+lZ ((bl s).drop col):Nat):Int):=by rw [wrap64 (by omega) (by omega)];omega
     have hmid:=Om (s:=s) (col:=col) (n:=lZ ((bl s).drop col)) (by omega)
     have hsz:(mkS (((bl s).drop col).take (lZ ((bl s).drop col)))).size=lZ ((bl s).drop col):=by simp;omega
     have common:Ht cc Hu s at' out col st=cond (decide ((24:Int)<(lZ ((bl s).drop col):Nat))) (some (1,[.slice none 0 0,.int .i64 ((col+1:Nat):Int),.bool false],BU))
       ((((BU.new (.cells [.int .i64 1,.string (mkS (((bl s).drop col).take (lZ ((bl s).drop col)))),.int .i64 0,.int .i64 at',.int .i64 ((col+1:Nat):Int)] 5)).app 5 48 out (.slice (some ⟨BU.next,0,none⟩) 1 1))).bind fun Vy=>Hu 3 [.string s,.int .i64 at',Vy.1,.int .i64 ((col+lZ ((bl s).drop col):Nat):Int)] Vy.2):=by
      simp only [Ht,zdt hlt',cu,hw1,e3,bf,hix,bg AA,dn,bg h32,bg h9,bg h13,hlet,hlt1,mg,hsub,hrun,eP,hw2,hmid,e5,e6,t6.ld,t6.eF (n:=5) rfl,lN,iZ,fP,hsz,cells5,List.append_nil]
     by_cases WJ:24<lZ ((bl s).drop col)
     ·rw [if_pos WJ]
      refine ⟨BU,Hr s _ out _ st ?_,he.trans t6.ext⟩
      rw [common,zdt (by omega)]
      rfl
     ·rw [if_neg WJ]
      refine CY.tok hs hl0 hd he ho hpos (by omega) t6 (fun done out st hd he ho=>ih _ done out st (by omega) (by omega) hd he ho) ?_
      intro v CU hv _ y hy
      refine Hr s _ out _ st ?_
      rw [common,bg (by omega),dn]
      have hv':((BU.new (.cells [.int .i64 1,.string (mkS (((bl s).drop col).take (lZ ((bl s).drop col)))),.int .i64 0,.int .i64 at',.int .i64 ((col+1:Nat):Int)] 5)).app 5 48 out (.slice (some ⟨BU.next,0,none⟩) 1 1))=some (v,CU):=hv
      rw [hv']
      exact hy
    rw [if_neg hlt1]
    have Aw:DX c.toNat=false:=Bool.eq_false_iff.2 hlt1
    by_cases hd1:ET c.toNat=true
    ·rw [if_pos hd1]
     have hpos:0<lZ ((bl s).drop col):=by rw [hdc];exact Rw (by unfold nameB;rw [hd1];simp)
     obtain ⟨m,hm,hrun⟩:=Mc (mkS ((bl s).drop col)) pV
     rw [vW] at hrun
     have t4:=t3.dw hm
     obtain ⟨Gi,e5,t5,n5⟩:=t4.st (k:=0) (vs:=[.int .i64 2]) (row':=[.int .i64 2,.string ⟨#[]⟩,.int .i64 0,.int .i64 at',.int .i64 ((col+1:Nat):Int)]) hl (by rfl) rfl
     obtain ⟨BU,e6,t6,n6⟩:=t5.st (k:=1) (vs:=[.string (mkS (((bl s).drop col).take (lZ ((bl s).drop col))))]) (row':=[.int .i64 2,.string (mkS (((bl s).drop col).take (lZ ((bl s).drop col)))),.int .i64 0,.int .i64 at',.int .i64 ((col+1:Nat):Int)]) hl (by rfl) rfl
     obtain ⟨m2,hm2,hnum⟩:=zvf (hg.ext (he.trans t6.ext)) (mkS (((bl s).drop col).take (lZ ((bl s).drop col)))) (by simp;omega)
     rw [vW] at hnum
     have t7:=t6.dw hm2
     obtain ⟨Iq,e8,t8,n8⟩:=t7.st (k:=2) (vs:=[.int .i64 (FC (zB (((bl s).drop col).take (lZ ((bl s).drop col))))).1]) (row':=[.int .i64 2,.string (mkS (((bl s).drop col).take (lZ ((bl s).drop col)))),.int .i64 (FC (zB (((bl s).drop col).take (lZ ((bl s).drop col))))).1,.int .i64 at',.int .i64 ((col+1:Nat):Int)]) hl (by rfl) rfl
     have hw2:IntKind.wrap .i64 ((col:Int)+(lZ ((bl s).drop col):Nat))=((col+lZ ((bl s).drop col):Nat):Int):=by rw [wrap64 (by omega) (by omega)];omega
     have hmid:=Om (s:=s) (col:=col) (n:=lZ ((bl s).drop col)) (by omega)
     have hsz:(mkS (((bl s).drop col).take (lZ ((bl s).drop col)))).size=lZ ((bl s).drop col):=by simp;omega
     have common:Ht cc Hu s at' out col st=cond (!(FC (zB (((bl s).drop col).take (lZ ((bl s).drop col))))).2) (some (1,[.slice none 0 0,.int .i64 ((col+1:Nat):Int),.bool false],Iq))
       ((((Iq.new (.cells [.int .i64 2,.string (mkS (((bl s).drop col).take (lZ ((bl s).drop col)))),.int .i64 (FC (zB (((bl s).drop col).take (lZ ((bl s).drop col))))).1,.int .i64 at',.int .i64 ((col+1:Nat):Int)] 5)).app 5 48 out (.slice (some ⟨Iq.next,0,none⟩) 1 1))).bind fun Vy=>Hu 3 [.string s,.int .i64 at',Vy.1,.int .i64 ((col+lZ ((bl s).drop col):Nat):Int)] Vy.2):=by
      simp only [Ht,zdt hlt',cu,hw1,e3,bf,hix,bg AA,dn,bg h32,bg h9,bg h13,hlet,Aw,hdig,hd1,mg,hsub,hrun,eP,hw2,hmid,e5,e6,t6.ld,hnum,fM,e8,t8.ld,t8.eF (n:=5) rfl,lN,iZ,fP,hsz,cells5,List.append_nil,List.getElem?_toArray]
     cases hx:zB (((bl s).drop col).take (lZ ((bl s).drop col))) with
     | some y=>cases y with
       | some w=>
         have hx2:FC (zB (((bl s).drop col).take (lZ ((bl s).drop col))))=((w:Int),true):=by rw [hx];rfl
         rw [hx2] at common t8
         simp only [numO,Option.getD_some]
         refine CY.tok hs hl0 hd he ho hpos (by omega) t8 (fun done out st hd he ho=>ih _ done out st (by omega) (by omega) hd he ho) ?_
         intro v CU hv _ y hy
         refine Hr s _ out _ st ?_
         rw [common,lY,dn]
         have hv':((Iq.new (.cells [.int .i64 2,.string (mkS (((bl s).drop col).take (lZ ((bl s).drop col)))),.int .i64 (w:Int),.int .i64 at',.int .i64 ((col+1:Nat):Int)] 5)).app 5 48 out (.slice (some ⟨Iq.next,0,none⟩) 1 1))=some (v,CU):=hv
         rw [hv']
         exact hy
       | none=>
         have hx2:(FC (zB (((bl s).drop col).take (lZ ((bl s).drop col))))).2=false:=by rw [hx];rfl
         rw [hx2] at common
         refine ⟨Iq,Hr s _ out _ st ?_,he.trans t8.ext⟩
         rw [common]
         rfl
     | none=>
       have hx2:(FC (zB (((bl s).drop col).take (lZ ((bl s).drop col))))).2=false:=by rw [hx];rfl
       rw [hx2] at common
       refine ⟨Iq,Hr s _ out _ st ?_,he.trans t8.ext⟩
       rw [common]
       rfl
    rw [if_neg hd1]
    have Lm:ET c.toNat=false:=Bool.eq_false_iff.2 hd1
    have hsg:=zjh c ⟨#[58,61,46,43,45]⟩ pV
    by_cases hs1:LY c=true
    ·rw [if_pos hs1]
     have hs1':(0:Int)≤Lib.indexByte (bl ⟨#[58,61,46,43,45]⟩) c:=of_decide_eq_true hs1
     obtain ⟨Gi,e5,t5,n5⟩:=t3.st (k:=0) (vs:=[.int .i64 3]) (row':=[.int .i64 3,.string ⟨#[]⟩,.int .i64 0,.int .i64 at',.int .i64 ((col+1:Nat):Int)]) hl (by rfl) rfl
     obtain ⟨BU,e6,t6,n6⟩:=t5.st (k:=1) (vs:=[.string (mkS (((bl s).drop col).take 1))]) (row':=[.int .i64 3,.string (mkS (((bl s).drop col).take 1)),.int .i64 0,.int .i64 at',.int .i64 ((col+1:Nat):Int)]) hl (by rfl) rfl
     have hmid:=Om (s:=s) (col:=col) (n:=1) (by omega)
     have hsz:(mkS (((bl s).drop col).take 1)).size=1:=by simp;omega
     have hw2:IntKind.wrap .i64 ((col:Int)+((1:Nat):Int))=((col+1:Nat):Int):=hw1
     refine CY.tok hs hl0 hd he ho (by omega) (by omega) t6 (fun done out st hd he ho=>ih _ done out st (by omega) (by omega) hd he ho) ?_
     intro v CU hv _ y hy
     refine Hr s _ out _ st ?_
     have hv':((BU.new (.cells [.int .i64 3,.string (mkS (((bl s).drop col).take 1)),.int .i64 0,.int .i64 at',.int .i64 ((col+1:Nat):Int)] 5)).app 5 48 out (.slice (some ⟨BU.next,0,none⟩) 1 1))=some (v,CU):=hv
     simp only [Ht,zdt hlt',cu,hw1,e3,bf,hix,bg AA,dn,bg h32,bg h9,bg h13,hlet,Aw,hdig,Lm,mg,hsg,eP,zdt hs1',hmid,e5,e6,t6.ld,t6.eF (n:=5) rfl,lN,iZ,fP,hsz,hw2,cells5,List.append_nil,hv']
     exact hy
    ·rw [if_neg hs1]
     have hs1':¬ (0:Int)≤Lib.indexByte (bl ⟨#[58,61,46,43,45]⟩) c:=fun h=>hs1 (zdt h)
     refine ⟨pV,Hr s _ out _ st ?_,he3⟩
     simp only [Ht,zdt hlt',cu,hw1,e3,bf,hix,bg AA,dn,bg h32,bg h9,bg h13,hlet,Aw,hdig,Lm,mg,hsg,eP,bg hs1',t3.ld,lN,iZ]
   ·have:col=s.size:=by omega
    subst this
    have hnil:(bl s).drop s.size=[]:=RP s
    rw [hnil]
    exact ⟨out,st,hfin st,he,by simpa [stepT] using ho,by simpa using hd⟩
end Go.Proofs.YtifploedaacedaaGreatDoorE
namespace Go.Proofs.YtifploedaacedaaGreatDoorE
open Go Go.E Go.Proofs
def FI (l:List UInt8):Tok:=⟨0,[],0,l.length+1⟩
def zJ (l:List UInt8):Except Nat (List Tok):=match zX l.length 0 l with
 | .ok ts=>.ok (ts++[FI l])
 | .error c=>.error c
def NH (okv:Value→List Value) (o9:Nat→List Value) (s:ByteArray) (at':Int) (st:SS) (r:Option (Value×SS)):Except Nat (List Tok)→Prop
 | .ok ts=>∃ v st',r=some (.tuple (okv v).toArray,st')∧Ext st st'∧Own st.next st' v (AQ at' ts) 5 ts.length∧ts.length≤s.size+1
 | .error c=>∃ st',r=some (.tuple (o9 c).toArray,st')∧Ext st st'
theorem ztg {st st':SS} {v:Value} {at':Int} {ts:List Tok} (s:ByteArray) (hs:s.size≤4294967296) (hl:st.lim≤st.next) (he:Ext st st') (ho:Own st.next st' v (AQ at' ts) 5 ts.length) (hn:ts.length≤s.size):
  ∃ w mZ,(st'.new (.cells [.int .i64 0,.string ⟨#[]⟩,.int .i64 0,.int .i64 at',.int .i64 ((s.size+1:Nat):Int)] 5)).app 5 48 v (.slice (some ⟨st'.next,0,none⟩) 1 1)=some (w,mZ)∧Ext st mZ∧
   Own st.next mZ w (AQ at' (ts++[FI (bl s)])) 5 (ts++[FI (bl s)]).length∧(ts++[FI (bl s)]).length≤s.size+1:=by
 have e0:Ext st (st'.new (.cells [.int .i64 0,.string ⟨#[]⟩,.int .i64 0,.int .i64 at',.int .i64 ((s.size+1:Nat):Int)] 5)):=he.new _
 obtain ⟨w,mZ,g1,g2,g3,g4,g5,g6⟩:=(ho.ext ((Ext.refl st').new (.cells [.int .i64 0,.string ⟨#[]⟩,.int .i64 0,.int .i64 at',.int .i64 ((s.size+1:Nat):Int)] 5))).app (Rd.new1 (st:=st') rfl) e0.next (by rw [e0.lim];exact hl) (by omega) (by rfl) (bt:=48) (by omega) (by omega)
 refine ⟨w,mZ,g1,g5 st (fF _) e0,?_,by simp;omega⟩
 have e1:AQ at' (ts++[FI (bl s)])=AQ at' ts++[.int .i64 0,.string ⟨#[]⟩,.int .i64 0,.int .i64 at',.int .i64 ((s.size+1:Nat):Int)]:=by
  rw [zmZ]
  show _++(xG at' (FI (bl s))++[])=_
  simp [xG,FI,mkS]
 rw [e1,List.length_append]
 exact g2
theorem zxN [Sym] {st:SS} (hg:Gd st) (hl:st.lim≤st.next) (s:ByteArray) (hs:s.size≤4294967296) (at':Int):
  NH (fun v=>[v,.int .i64 0,.bool true]) (fun c=>[.slice none 0 0,.int .i64 c,.bool false]) s at' st (cc 90 [.string s,.int .i64 at'] st) (zJ (bl s)):=by
 have h:=zvh s at' hs st hg hl s.size 0 [] (.slice none 0 0) st (by omega) (by omega) (by simp) (.refl _) (Own.nil _ _ _)
 simp only [List.drop_zero] at h
 have hw:IntKind.wrap .i64 ((s.size:Int)+1)=((s.size+1:Nat):Int):=by rw [wrap64 (by omega) (by omega)];omega
 unfold zJ
 rw [tC]
 cases hx:zX s.size 0 (bl s) with
 | ok ts=>
   rw [hx] at h
   obtain ⟨v,st',a,b,c,d⟩:=h
   obtain ⟨w,mZ,e1,e2,e3,e4⟩:=ztg s hs hl b c d
   refine ⟨w,mZ,zmV s at' st ?_,e2,e3,e4⟩
   have a':Hu 3 [.string s,.int .i64 at',.slice none 0 0,.int .i64 0] st=some (0,[.string s,.int .i64 at',v],st'):=a
   have hb0:Nat.beq 0 0=true:=rfl
   simp only [zmU,a',bf,hb0,cu,lN,iZ,fP,eP,hw,e1]
 | error c=>
   rw [hx] at h
   obtain ⟨st',a,b⟩:=h
   refine ⟨st',zmV s at' st ?_,b⟩
   have a':Hu 3 [.string s,.int .i64 at',.slice none 0 0,.int .i64 0] st=some (1,[.slice none 0 0,.int .i64 c,.bool false],st'):=a
   have hb0:Nat.beq 1 0=false:=rfl
   simp only [zmU,a',bf,hb0,dn,lN,iZ,mg,eP]
theorem zpc [Sym] (c:Int) (st:SS):cc 78 [.int .u8 c] st=some (.bool (DX c),st):=by
 refine zjE c st ?_
 unfold zhi DX
 cases decide (97≤c)<;>cases decide (c≤122)<;>cases decide (65≤c)<;>cases decide (c≤90)<;>simp
def Bh (b:Nat):Int:=if 48≤b∧b≤57 then (b:Int)-48 else if 97≤b∧b≤102 then (b:Int)-87 else if 65≤b∧b≤70 then (b:Int)-55 else -1
theorem zm1 [Sym] (b:UInt8) (base:Int) (st:SS):cc 79 [.int .u8 b.toNat,.int .i64 base] st=some (.int .i64 (if base≤Bh b.toNat then -1 else Bh b.toNat),st):=by
 refine zj9 _ base st ?_
 have hb:=b.toNat_lt
 generalize b.toNat=n at*
 by_cases hA:48≤n∧n≤57
 ·have e:Bh n=(n:Int)-48:=by unfold Bh;rw [if_pos hA]
  have h1:(48:Int)≤(n:Int):=by omega
  have h2:(n:Int)≤57:=by omega
  have h3:¬ (97:Int)≤(n:Int):=by omega
  have h4:¬ (65:Int)≤(n:Int):=by omega
  have hw1:IntKind.wrap .u8 ((n:Int)-48)=(n:Int)-48:=J4 (by omega) (by omega)
  have hw2:IntKind.wrap .i64 ((n:Int)-48)=(n:Int)-48:=wrap64 (by omega) (by omega)
  simp only [UO,zdt h1,zdt h2,bg h3,bg h4,cu,dn,hw1,hw2,e]
  by_cases hbase:base≤(n:Int)-48
  ·rw [zdt hbase,if_pos hbase];rfl
  ·rw [bg hbase,if_neg hbase];rfl
 ·by_cases hB:97≤n∧n≤102
  ·have e:Bh n=(n:Int)-87:=by unfold Bh;rw [if_neg hA,if_pos hB]
   have h1:(48:Int)≤(n:Int):=by omega
   have h2:¬ (n:Int)≤57:=by omega
   have h3:(97:Int)≤(n:Int):=by omega
   have h3':(n:Int)≤102:=by omega
   have h4:(65:Int)≤(n:Int):=by omega
   have h5:¬ (n:Int)≤70:=by omega
   have hw1:IntKind.wrap .u8 ((n:Int)-97)=(n:Int)-97:=J4 (by omega) (by omega)
   have hw2:IntKind.wrap .i64 ((n:Int)-97)=(n:Int)-97:=wrap64 (by omega) (by omega)
   have hw3:IntKind.wrap .i64 ((n:Int)-97+10)=(n:Int)-87:=by rw [wrap64 (by omega) (by omega)];omega
   simp only [UO,zdt h1,bg h2,zdt h3,zdt h3',zdt h4,bg h5,cu,dn,hw1,hw2,hw3,e]
   by_cases hbase:base≤(n:Int)-87
   ·rw [zdt hbase,if_pos hbase];rfl
   ·rw [bg hbase,if_neg hbase];rfl
  ·by_cases hC:65≤n∧n≤70
   ·have e:Bh n=(n:Int)-55:=by unfold Bh;rw [if_neg hA,if_neg hB,if_pos hC]
    have h1:(48:Int)≤(n:Int):=by omega
    have h2:¬ (n:Int)≤57:=by omega
    have h3:¬ (97:Int)≤(n:Int):=by omega
    have h4:(65:Int)≤(n:Int):=by omega
    have h5:(n:Int)≤70:=by omega
    have hw1:IntKind.wrap .u8 ((n:Int)-65)=(n:Int)-65:=J4 (by omega) (by omega)
    have hw2:IntKind.wrap .i64 ((n:Int)-65)=(n:Int)-65:=wrap64 (by omega) (by omega)
    have hw3:IntKind.wrap .i64 ((n:Int)-65+10)=(n:Int)-55:=by rw [wrap64 (by omega) (by omega)];omega
    simp only [UO,zdt h1,bg h2,bg h3,zdt h4,zdt h5,cu,dn,hw1,hw2,hw3,e]
    by_cases hbase:base≤(n:Int)-55
    ·rw [zdt hbase,if_pos hbase];rfl
    ·rw [bg hbase,if_neg hbase];rfl
   ·have e:Bh n= -1:=by unfold Bh;rw [if_neg hA,if_neg hB,if_neg hC]
    rw [e]
    have r:(if base≤(-1:Int) then (-1:Int) else -1)= -1:=by split<;>rfl
    rw [r]
    have q:∀ st:SS,cond (decide (base≤(-1:Int))) (some (Value.int .i64 (-1),st)) (some (.int .i64 (-1),st))=some (.int .i64 (-1),st):=fun st=>by cases decide (base≤(-1:Int))<;>rfl
    unfold UO
    have hA':(decide ((48:Int)≤n)=false)∨(decide ((48:Int)≤n)=true∧decide ((n:Int)≤57)=false):=by
     by_cases h:(48:Int)≤n
     ·exact .inr ⟨zdt h,bg (by omega)⟩
     ·exact .inl (bg h)
    have hB':(decide ((97:Int)≤n)=false)∨(decide ((97:Int)≤n)=true∧decide ((n:Int)≤102)=false):=by
     by_cases h:(97:Int)≤n
     ·exact .inr ⟨zdt h,bg (by omega)⟩
     ·exact .inl (bg h)
    have hC':(decide ((65:Int)≤n)=false)∨(decide ((65:Int)≤n)=true∧decide ((n:Int)≤70)=false):=by
     by_cases h:(65:Int)≤n
     ·exact .inr ⟨zdt h,bg (by omega)⟩
     ·exact .inl (bg h)
    rcases hA' with h1 | ⟨h1,h2⟩<;>rcases hB' with h3 | ⟨h3,h4⟩<;>rcases hC' with h5 | ⟨h5,h6⟩<;>simp only [*,cu,dn]
theorem zxO (b:UInt8) (B:Nat) (hB:B=10∨B=16):(if (B:Int)≤Bh b.toNat then (-1:Int) else Bh b.toNat)=match FD b with
  | some d=>if B≤d then -1 else (d:Int)
  | none=> -1:=by
 have hall:∀ n:Fin 256,(∀ B:Fin 2,(if ((if B=0 then 10 else 16:Nat):Int)≤Bh (UInt8.ofNat n.val).toNat then (-1:Int) else Bh (UInt8.ofNat n.val).toNat)=match FD (UInt8.ofNat n.val) with
  | some d=>if (if B=0 then 10 else 16)≤d then -1 else (d:Int)
  | none=> -1):=by decide+kernel
 have h:=hall ⟨b.toNat,b.toNat_lt⟩ (if B=10 then 0 else 1)
 have hb:UInt8.ofNat b.toNat=b:=by simp
 simp only [hb] at h
 rcases hB with rfl | rfl
 ·simpa using h
 ·simpa using h
theorem zxP (b:UInt8):decide ((0:Int)≤(if (10:Int)≤Bh b.toNat then -1 else Bh b.toNat))=ET b.toNat:=by
 have hall:∀ n:Fin 256,decide ((0:Int)≤(if (10:Int)≤Bh n.val then -1 else Bh n.val))=ET n.val:=by decide+kernel
 exact hall ⟨b.toNat,b.toNat_lt⟩
theorem Vk (b:UInt8):LY b=(decide ((b.toNat:Int)=58)||decide ((b.toNat:Int)=61)||decide ((b.toNat:Int)=46)||decide ((b.toNat:Int)=43)||decide ((b.toNat:Int)=45)):=by
 have hall:∀ n:Fin 256,LY (UInt8.ofNat n.val)=(decide ((n.val:Int)=58)||decide ((n.val:Int)=61)||decide ((n.val:Int)=46)||decide ((n.val:Int)=43)||decide ((n.val:Int)=45)):=by decide+kernel
 have h:=hall ⟨b.toNat,b.toNat_lt⟩
 have hb:UInt8.ofNat b.toNat=b:=by simp
 simp only [hb] at h
 exact h
def G9 (x:Option (Option Nat)):Int:=match numO x with
 | some m=>m
 | none=> -1
theorem zvi [Sym] (s:ByteArray) (B:Nat) (hB:B=10∨B=16) (st:SS) (hs:s.size≤4294967296):∀ (l:List UInt8) (p n:Nat),(bl s).drop p=l→p≤s.size→n≤2147483647→
  (∃ m:Nat,JF 7 [.string s,.int .i64 B,.int .i64 n,.int .i64 p] st=some (0,[.string s,.int .i64 m],st)∧m<4294967296∧(if 2147483647<m then -1 else (m:Int))=G9 (vV B n l))∨
  (JF 7 [.string s,.int .i64 B,.int .i64 n,.int .i64 p] st=some (1,[.int .i64 (-1)],st)∧ -1=G9 (vV B n l)):=by
 have hq:(aI .quo .i64 2147483647 (B:Int)).bind (ay .i64)=some ((2147483647/B:Nat):Int):=by
  rcases hB with rfl | rfl<;>rfl
 have hB0:0<B:=by omega
 intro l
 induction l with
 | nil=>
   intro p n hp hle hn
   have hps:p=s.size:=by
    rw [List.drop_eq_nil_iff,tC] at hp
    omega
   subst hps
   refine .inl ⟨n,OM s _ _ _ st ?_,by omega,?_⟩
   ·simp [MO]
   ·rw [if_neg (by omega)];rfl
 | cons b r ih=>
   intro p n hp hle hn
   have hb:(bl s)[p]?=some b:=by
    have:=congrArg (·[0]?) hp
    simpa using this
   have hlt:p<s.size:=by
    obtain ⟨h,_⟩:=List.getElem?_eq_some_iff.1 hb
    simpa using h
   have hr:(bl s).drop (p+1)=r:=by
    have:=drop_cons hb
    rw [hp] at this
    exact (List.cons.inj this).2.symm
   have hix:∀ (q:Nat) (x:UInt8),(bl s)[q]?=some x→(zI s (q:Int)).bind (ay .u8)=some (x.toNat:Int):=by
    intro q x hx
    have hq':q<s.size:=by
     obtain ⟨h,_⟩:=List.getElem?_eq_some_iff.1 hx
     simpa using h
    obtain ⟨b',hb',hidx⟩:=Rh (s:=s) (i:=(q:Int)) (by omega) (by omega)
    have:b'=x:=by simp at hb';rw [hx] at hb';cases hb';rfl
    subst this
    rw [hidx];simp
   have hlt':(p:Int)<(s.size:Int):=by omega
   have hwp:IntKind.wrap .i64 ((p:Int)+1)=((p+1:Nat):Int):=by rw [wrap64 (by omega) (by omega)];omega
   have hd:=zm1 b (B:Int) st
   rw [zxO b B hB] at hd
   cases hv:FD b with
   | none=>
     rw [hv] at hd
     have hpg:vV B n (b::r)=none:=by unfold vV;rw [hv]
     refine .inr ⟨OM s _ _ _ st ?_,by rw [hpg];rfl⟩
     simp [MO,hlt',hix p b hb,hd]
   | some d=>
     rw [hv] at hd
     by_cases h1:B≤d
     ·simp only [if_pos h1] at hd
      have hpg:vV B n (b::r)=none:=by unfold vV;rw [hv];simp [h1]
      refine .inr ⟨OM s _ _ _ st ?_,by rw [hpg];rfl⟩
      simp [MO,hlt',hix p b hb,hd]
     ·simp only [if_neg h1] at hd
      have hd0:¬ (d:Int)<0:=by omega
      by_cases h2:2147483647/B<n
      ·have hbig:2147483647<n*B:=(Nat.div_lt_iff_lt_mul hB0).1 h2
       have hpg:vV B n (b::r)=some none:=by unfold vV;rw [hv];simp only [if_neg h1];rw [if_pos (by omega)]
       refine .inr ⟨OM s _ _ _ st ?_,by rw [hpg];rfl⟩
       have h2':((2147483647/B:Nat):Int)<(n:Int):=by omega
       simp only [MO,zdt hlt',cu,hix p b hb,bf,hd,eP,bg hd0,dn,hq,zdt h2']
      ·have h2':¬ ((2147483647/B:Nat):Int)<(n:Int):=by omega
       have hsm:n*B≤2147483647:=by
        have:=(Nat.le_div_iff_mul_le hB0).1 (Nat.le_of_not_lt h2)
        exact this
       have hw1:IntKind.wrap .i64 ((n:Int)*(B:Int))=((n*B:Nat):Int):=by
        rw [← Int.natCast_mul]
        exact wrap64 (by omega) (by omega)
       have hw2:IntKind.wrap .i64 (((n*B:Nat):Int)+(d:Int))=((n*B+d:Nat):Int):=by
        rw [← Int.natCast_add]
        exact wrap64 (by omega) (by omega)
       have step:∀ y,JF 7 [.string s,.int .i64 B,.int .i64 ((n*B+d:Nat):Int),.int .i64 ((p+1:Nat):Int)] st=some y→JF 7 [.string s,.int .i64 B,.int .i64 n,.int .i64 p] st=some y:=by
        intro y hy
        refine OM s _ _ _ st ?_
        simp only [MO,zdt hlt',cu,hix p b hb,bf,hd,eP,bg hd0,dn,hq,bg h2',hw1,hw2,hwp]
        exact hy
       by_cases h3:2147483647<n*B+d
       ·have hpg:vV B n (b::r)=some none:=by unfold vV;rw [hv];simp only [if_neg h1];rw [if_pos h3]
        cases hr':r with
        | nil=>
          rw [hr'] at hr
          have hps:p+1=s.size:=by
           rw [List.drop_eq_nil_iff,tC] at hr
           omega
          refine .inl ⟨n*B+d,step _ (OM s _ _ _ st ?_),by omega,?_⟩
          ·have:¬ ((p+1:Nat):Int)<(s.size:Int):=by omega
           simp only [MO,bg this,dn]
          ·rw [← hr',hpg,if_pos h3];rfl
        | cons b2 r2=>
          rw [hr'] at hr
          have hb2:(bl s)[p+1]?=some b2:=by
           have:=congrArg (·[0]?) hr
           simpa using this
          have hlt2:p+1<s.size:=by
           obtain ⟨h,_⟩:=List.getElem?_eq_some_iff.1 hb2
           simpa using h
          have Wp:((p+1:Nat):Int)<(s.size:Int):=by omega
          refine .inr ⟨step _ (OM s _ _ _ st ?_),by rw [← hr',hpg];rfl⟩
          have hd2:=zm1 b2 (B:Int) st
          generalize (if (B:Int)≤Bh b2.toNat then (-1:Int) else Bh b2.toNat)=d2 at hd2
          have hbig:((2147483647/B:Nat):Int)<((n*B+d:Nat):Int):=by
           have:2147483647/B≤2147483647:=Nat.div_le_self _ _
           omega
          simp only [MO,zdt Wp,cu,hix (p+1) b2 hb2,bf,hd2,eP,hq,zdt hbig]
          cases decide (d2<0)<;>rfl
       ·have hpg:vV B n (b::r)=vV B (n*B+d) r:=by
         show (match FD b with
          | none=>none
          | some d=>if B≤d then none else if 2147483647<n*B+d then some none else vV B (n*B+d) r)=_
         rw [hv]
         simp only [if_neg h1,if_neg h3]
        rw [hpg]
        rcases ih (p+1) (n*B+d) hr (by omega) (by omega) with ⟨m,a,b',c⟩ | ⟨a,b'⟩
        ·exact .inl ⟨m,step _ a,b',c⟩
        ·exact .inr ⟨step _ a,b'⟩
theorem zrR [Sym] (s:ByteArray) (B:Nat) (hB:B=10∨B=16) (st:SS) (hs:s.size≤4294967296):
  ((JF 7 [.string s,.int .i64 B,.int .i64 0,.int .i64 0] st).bind fun r3=>
  cond (Nat.beq r3.1 0) (
   ((r3.2.1[0]?).bind asS).bind fun s4=>
   ((r3.2.1[1]?).bind (ay .i64)).bind fun n5=>
   cond (fA s4 ⟨#[]⟩) (
    some (Value.int .i64 (-1),r3.2.2)) (
    cond (decide (2147483647<n5)) (
     some (.int .i64 (-1),r3.2.2)) (
     some (.int .i64 n5,r3.2.2)))) (
   ((r3.2.1[0]?).bind (ay .i64)).bind fun n6=>
   some (.int .i64 n6,r3.2.2)))=some (.int .i64 (G9 (vU B (bl s))),st):=by
 have hb0:Nat.beq 0 0=true:=rfl
 have hb1:Nat.beq 1 0=false:=rfl
 rcases zvi s B hB st hs (bl s) 0 0 rfl (by omega) (by omega) with ⟨m,a,b,c⟩ | ⟨a,b⟩
 ·have a':JF 7 [.string s,.int .i64 B,.int .i64 0,.int .i64 0] st=some (0,[.string s,.int .i64 m],st):=a
  rw [a']
  simp only [bf,hb0,cu,lN,iZ,fP,eP,Ug]
  unfold vU
  by_cases h0:bl s=[]
  ·rw [zdt h0,if_pos h0];rfl
  ·rw [bg h0,if_neg h0,← c,dn]
   by_cases hm:2147483647<m
   ·rw [zdt (by omega),if_pos hm];rfl
   ·rw [bg (by omega),if_neg hm];rfl
 ·have a':JF 7 [.string s,.int .i64 B,.int .i64 0,.int .i64 0] st=some (1,[.int .i64 (-1)],st):=a
  rw [a']
  simp only [bf,hb1,dn,iZ,eP]
  unfold vU
  by_cases h0:bl s=[]
  ·rw [h0] at b;exact absurd b (by simp [vV,G9,numO])
  ·rw [if_neg h0,← b]
theorem ztZ [Sym] (s:ByteArray) (hs:s.size≤4294967296) (st:SS):cc 80 [.string s] st=some (.int .i64 (G9 (zB (bl s))),st):=by
 refine zjG s st ?_
 unfold zhj zB
 have h10:=zrR s 10 (.inl rfl) st hs
 by_cases h2:2≤s.size
 ·have h2':(2:Int)≤(s.size:Int):=by omega
  have hsub:rM s 0 2=some (mkS ((bl s).take 2)):=by rw [J3 (by omega) (by omega) (by omega),Oy];rfl
  have htl:rM s 2 (s.size:Int)=some (mkS ((bl s).drop 2)):=zm0 (s:=s) (col:=2) h2
  have heq:fA (mkS ((bl s).take 2)) ⟨#[48,120]⟩=JR (bl s):=by
   rw [JC,vW]
   unfold JR
   rw [Bool.eq_iff_iff,decide_eq_true_eq]
   exact zn1 [48,120] (bl s)
  have h16:=zrR (mkS ((bl s).drop 2)) 16 (.inr rfl) st (by simp;omega)
  simp only [zdt h2',cu,hsub,bf,heq,htl]
  cases hh:JR (bl s) with
  | true=>simp only [cu,if_true];exact h16
  | false=>simp only [dn];exact h10
 ·have h2':¬ (2:Int)≤(s.size:Int):=by omega
  have hh:JR (bl s)=false:=by
   unfold JR
   rw [Bool.eq_false_iff]
   intro hp
   rw [List.isPrefixOf_iff_prefix] at hp
   have:=hp.length_le
   simp at this
   omega
  simp only [bg h2',dn,hh]
  exact h10
end Go.Proofs.YtifploedaacedaaGreatDoorE
namespace Go.Proofs.YtifploedaacedaaGreatDoorE
open Go Go.E Go.Proofs
theorem zvj [Sym] (s:ByteArray) (at':Int) (out:Value) (i:Nat) (c:Int) (st:SS) (hs:s.size≤4294967296):∀ (k n:Nat),s.size≤k+(i+n)→i+n≤s.size→
  JH 6 [.string s,.int .i64 at',out,.int .i64 i,.int .u8 c,.int .i64 n] st=some (0,[.string s,.int .i64 at',out,.int .i64 i,.int .u8 c,.int .i64 ((n+lZ ((bl s).drop (i+n)):Nat):Int)],st):=by
 intro k
 induction k with
 | zero=>
   intro n hk hn
   have he:i+n=s.size:=by omega
   have hw:IntKind.wrap .i64 ((i:Int)+(n:Int))=(s.size:Int):=by rw [wrap64 (by omega) (by omega)];omega
   refine zfw s _ out _ _ _ st ?_
   rw [he,RP]
   simp [Sm,hw,lZ]
 | succ k ih=>
   intro n hk hn
   have hw:IntKind.wrap .i64 ((i:Int)+(n:Int))=((i+n:Nat):Int):=by rw [wrap64 (by omega) (by omega)];omega
   refine zfw s _ out _ _ _ st ?_
   by_cases hlt:i+n<s.size
   ·obtain ⟨b,hb⟩:∃ b,(bl s)[i+n]?=some b:=⟨_,mW (by rw [tC];exact hlt)⟩
    have hdc:=drop_cons hb
    have hix:(zI s ((i+n:Nat):Int)).bind (ay .u8)=some (b.toNat:Int):=by
     obtain ⟨b',hb',hidx⟩:=Rh (s:=s) (i:=((i+n:Nat):Int)) (by omega) (by omega)
     have:b'=b:=by rw [Int.toNat_natCast,hb] at hb';cases hb';rfl
     subst this
     rw [hidx];simp
    have hlt':((i+n:Nat):Int)<(s.size:Int):=by omega
    have hwn:IntKind.wrap .i64 ((n:Int)+1)=((n+1:Nat):Int):=by rw [wrap64 (by omega) (by omega)];omega
    have hlet:=zpc (b.toNat:Int) st
    have hdig:=zm1 b 10 st
    have h10:=zxP b
    have next:=ih (n+1) (by omega) (by omega)
    rw [hdc,RG]
    have hrun:n+1+lZ ((bl s).drop (i+(n+1)))=n+(1+lZ ((bl s).drop (i+n+1))):=by rw [Nat.add_assoc];rfl
    rw [hrun] at next
    by_cases hl:DX b.toNat=true
    ·have hn:nameB b=true:=by unfold nameB;rw [hl];rfl
     rw [if_pos hn]
     simp only [Sm,hw,zdt hlt',cu,hix,bf,hlet,hl,mg,hwn]
     exact next
    ·have hl':DX b.toNat=false:=Bool.eq_false_iff.2 hl
     cases hd:ET b.toNat with
     | true=>
       have hn:nameB b=true:=by unfold nameB;rw [hd];simp
       rw [hd] at h10
       rw [if_pos hn]
       simp only [Sm,hw,zdt hlt',cu,hix,bf,hlet,hl',mg,hwn,dn,hdig,eP,h10]
       exact next
     | false=>
       have hn:nameB b=false:=by unfold nameB;rw [hl',hd];rfl
       rw [hd] at h10
       rw [hn]
       simp only [Sm,hw,zdt hlt',cu,hix,bf,hlet,hl',mg,hwn,dn,hdig,eP,h10]
       rfl
   ·have he:i+n=s.size:=by omega
    rw [he] at hw ⊢
    rw [RP]
    simp [Sm,hw,lZ]
theorem zt0 [Sym] (s:ByteArray) (at':Int) (hs:s.size≤4294967296) (st0:SS) (hl0:st0.lim≤st0.next):∀ (k col:Nat) (done:List Tok) (out:Value) (st:SS),s.size≤k+col→col≤s.size→done.length≤col→Ext st0 st→Own st0.next st out (AQ at' done) 5 done.length→
  CY (fun c=>[.slice none 0 0,.int .i64 c]) s at' st0 done (JH 3 [.string s,.int .i64 at',out,.int .i64 col] st) (zX k col ((bl s).drop col)):=by
 intro k
 induction k with
 | zero=>
   intro col done out st hk hc hd he ho
   have:col=s.size:=by omega
   subst this
   refine ⟨out,st,JG s _ out _ st ?_,he,by simpa using ho,by simpa using hd⟩
   simp [Hy]
 | succ k ih=>
   intro col done out st hk hc hd he ho
   by_cases hlt:col<s.size
   ·obtain ⟨c,hb⟩:∃ c,(bl s)[col]?=some c:=⟨_,mW (by rw [tC];exact hlt)⟩
    have hdc:=drop_cons hb
    have hix:(zI s (col:Int)).bind (ay .u8)=some (c.toNat:Int):=by
     obtain ⟨b',hb',hidx⟩:=Rh (s:=s) (i:=(col:Int)) (by omega) (by omega)
     have:b'=c:=by simp at hb';rw [hb] at hb';cases hb';rfl
     subst this
     rw [hidx];simp
    have hlt':(col:Int)<(s.size:Int):=by omega
    have hw1:IntKind.wrap .i64 ((col:Int)+1)=((col+1:Nat):Int):=by rw [wrap64 (by omega) (by omega)];omega
    have hl:st.lim≤st.next:=by rw [he.lim];have:=he.next;omega
    have hL:=zrQ hdc
    have hrl:lZ ((bl s).drop col)≤s.size-col:=by
     have:=XR ((bl s).drop col)
     simpa using this
    have hrun:JH 6 [.string s,.int .i64 at',out,.int .i64 col,.int .u8 c.toNat,.int .i64 0] st=some (0,[.string s,.int .i64 at',out,.int .i64 col,.int .u8 c.toNat,.int .i64 (lZ ((bl s).drop col):Nat)],st):=by
     have:=zvj s at' out col c.toNat st hs s.size 0 (by omega) (by omega)
     simpa using this
    unfold zX
    rw [hL]
    by_cases AA:(c.toNat:Int)=59
    ·rw [if_pos AA]
     refine ⟨out,st,JG s _ out _ st ?_,he,by simpa using ho,by simp;omega⟩
     simp only [Hy,zdt hlt',cu,bf,hix,zdt AA,lY,dn]
    rw [if_neg AA]
    by_cases hbk:(c.toNat:Int)=32∨(c.toNat:Int)=9∨(c.toNat:Int)=13
    ·rw [if_pos hbk]
     simp only [List.drop_drop]
     refine (ih (col+1) done out st (by omega) (by omega) (by omega) he ho).to ?_
     intro r hr
     refine JG s _ out _ st ?_
     simp only [Hy,zdt hlt',cu,bf,hix,bg AA,nJ,hrun,lN,iZ,fP,eP]
     rcases hbk with h | h | h
     ·simp only [zdt h,cu,hw1,hr]
     ·have h':¬ (c.toNat:Int)=32:=by omega
      simp only [zdt h,cu,hw1,hr,bg h',dn]
     ·have h':¬ (c.toNat:Int)=32:=by omega
      have h'':¬ (c.toNat:Int)=9:=by omega
      simp only [zdt h,cu,hw1,hr,bg h',bg h'',dn]
    rw [if_neg hbk]
    obtain ⟨pV,e3,t3⟩:=TK.new (st:=st) (r:=[.int .i64 0,.string ⟨#[]⟩,.int .i64 0,.int .i64 0,.int .i64 0]) (row:=[.int .i64 0,.string ⟨#[]⟩,.int .i64 0,.int .i64 at',.int .i64 ((col+1:Nat):Int)]) hl (by rfl) rfl
    have h32:¬ (c.toNat:Int)=32:=fun h=>hbk (.inl h)
    have h9:¬ (c.toNat:Int)=9:=fun h=>hbk (.inr (.inl h))
    have h13:¬ (c.toNat:Int)=13:=fun h=>hbk (.inr (.inr h))
    have hlet:=zpc (c.toNat:Int)
    by_cases hlt1:DX c.toNat=true
    ·rw [if_pos hlt1]
     have hpos:0<lZ ((bl s).drop col):=by rw [hdc];exact Rw (by unfold nameB;rw [hlt1];rfl)
     have hpos':(0:Int)<(lZ ((bl s).drop col):Nat):=by omega
     obtain ⟨Gi,e5,t5,n5⟩:=t3.st (k:=0) (vs:=[.int .i64 1]) (row':=[.int .i64 1,.string ⟨#[]⟩,.int .i64 0,.int .i64 at',.int .i64 ((col+1:Nat):Int)]) hl (by rfl) rfl
     obtain ⟨BU,e6,t6,n6⟩:=t5.st (k:=1) (vs:=[.string (mkS (((bl s).drop col).take (lZ ((bl s).drop col))))]) (row':=[.int .i64 1,.string (mkS (((bl s).drop col).take (lZ ((bl s).drop col)))),.int .i64 0,.int .i64 at',.int .i64 ((col+1:Nat):Int)]) hl (by rfl) rfl
     have hw2:IntKind.wrap .i64 ((col:Int)+(lZ ((bl s).drop col):Nat))=((col+lZ ((bl s).drop col):Nat):Int):=by rw [wrap64 (by omega) (by omega)];omega
     have hmid:=Om (s:=s) (col:=col) (n:=lZ ((bl s).drop col)) (by omega)
     have hsz:(mkS (((bl s).drop col).take (lZ ((bl s).drop col)))).size=lZ ((bl s).drop col):=by simp;omega
     by_cases WJ:24<lZ ((bl s).drop col)
     ·rw [if_pos WJ]
      have QA:(24:Int)<(lZ ((bl s).drop col):Nat):=by omega
      refine ⟨BU,JG s _ out _ st ?_,he.trans t6.ext⟩
      simp only [Hy,zdt hlt',cu,bf,hix,bg AA,nJ,hrun,lN,iZ,fP,eP,bg h32,bg h9,bg h13,dn,hw1,e3,zdt hpos',hlet,hlt1,mg,e5,hw2,hmid,e6,zdt QA]
     ·rw [if_neg WJ]
      have QA:¬ (24:Int)<(lZ ((bl s).drop col):Nat):=by omega
      refine CY.tok hs hl0 hd he ho hpos (by omega) t6 (fun done out st hd he ho=>ih _ done out st (by omega) (by omega) hd he ho) ?_
      intro v CU hv hz y hy
      refine JG s _ out _ st ?_
      have hv':((BU.new (.cells [.int .i64 1,.string (mkS (((bl s).drop col).take (lZ ((bl s).drop col)))),.int .i64 0,.int .i64 at',.int .i64 ((col+1:Nat):Int)] 5)).app 5 48 out (.slice (some ⟨BU.next,0,none⟩) 1 1))=some (v,CU):=hv
      simp only [Hy,zdt hlt',cu,bf,hix,bg AA,nJ,hrun,lN,iZ,fP,eP,bg h32,bg h9,bg h13,dn,hw1,e3,zdt hpos',hlet,hlt1,mg,e5,hw2,hmid,e6,bg QA,t6.eF (n:=5) rfl,cells5,List.append_nil,hv',SS.eU hz,hsz]
      exact hy
    rw [if_neg hlt1]
    have Aw:DX c.toNat=false:=Bool.eq_false_iff.2 hlt1
    by_cases hd1:ET c.toNat=true
    ·rw [if_pos hd1]
     have hpos:0<lZ ((bl s).drop col):=by rw [hdc];exact Rw (by unfold nameB;rw [hd1];simp)
     have hpos':(0:Int)<(lZ ((bl s).drop col):Nat):=by omega
     obtain ⟨Gi,e5,t5,n5⟩:=t3.st (k:=0) (vs:=[.int .i64 2]) (row':=[.int .i64 2,.string ⟨#[]⟩,.int .i64 0,.int .i64 at',.int .i64 ((col+1:Nat):Int)]) hl (by rfl) rfl
     obtain ⟨BU,e6,t6,n6⟩:=t5.st (k:=1) (vs:=[.string (mkS (((bl s).drop col).take (lZ ((bl s).drop col))))]) (row':=[.int .i64 2,.string (mkS (((bl s).drop col).take (lZ ((bl s).drop col)))),.int .i64 0,.int .i64 at',.int .i64 ((col+1:Nat):Int)]) hl (by rfl) rfl
     have hnum:=ztZ (mkS (((bl s).drop col).take (lZ ((bl s).drop col)))) (by simp;omega) BU
     rw [vW] at hnum
     obtain ⟨Iq,e8,t8,n8⟩:=t6.st (k:=2) (vs:=[.int .i64 (G9 (zB (((bl s).drop col).take (lZ ((bl s).drop col)))))]) (row':=[.int .i64 2,.string (mkS (((bl s).drop col).take (lZ ((bl s).drop col)))),.int .i64 (G9 (zB (((bl s).drop col).take (lZ ((bl s).drop col))))),.int .i64 at',.int .i64 ((col+1:Nat):Int)]) hl (by rfl) rfl
     have hw2:IntKind.wrap .i64 ((col:Int)+(lZ ((bl s).drop col):Nat))=((col+lZ ((bl s).drop col):Nat):Int):=by rw [wrap64 (by omega) (by omega)];omega
     have hmid:=Om (s:=s) (col:=col) (n:=lZ ((bl s).drop col)) (by omega)
     have hsz:(mkS (((bl s).drop col).take (lZ ((bl s).drop col)))).size=lZ ((bl s).drop col):=by simp;omega
     cases hx:numO (zB (((bl s).drop col).take (lZ ((bl s).drop col)))) with
     | some w=>
       have hx2:G9 (zB (((bl s).drop col).take (lZ ((bl s).drop col))))=(w:Int):=by unfold G9;rw [hx]
       have hx3:¬ (w:Int)<0:=by omega
       rw [hx2] at hnum e8 t8
       refine CY.tok hs hl0 hd he ho hpos (by omega) t8 (fun done out st hd he ho=>ih _ done out st (by omega) (by omega) hd he ho) ?_
       intro v CU hv hz y hy
       refine JG s _ out _ st ?_
       have hv':((Iq.new (.cells [.int .i64 2,.string (mkS (((bl s).drop col).take (lZ ((bl s).drop col)))),.int .i64 (w:Int),.int .i64 at',.int .i64 ((col+1:Nat):Int)] 5)).app 5 48 out (.slice (some ⟨Iq.next,0,none⟩) 1 1))=some (v,CU):=hv
       simp only [Hy,zdt hlt',cu,bf,hix,bg AA,nJ,hrun,lN,iZ,fP,eP,bg h32,bg h9,bg h13,dn,hw1,e3,zdt hpos',hlet,Aw,mg,e5,hw2,hmid,e6,t6.ld,hnum,e8,t8.ld,bg hx3,t8.eF (n:=5) rfl,cells5,List.append_nil,hv',SS.eU hz,hsz]
       exact hy
     | none=>
       have hx2:G9 (zB (((bl s).drop col).take (lZ ((bl s).drop col))))= -1:=by unfold G9;rw [hx]
       rw [hx2] at hnum e8 t8
       have hm1:decide ((-1:Int)<0)=true:=rfl
       refine ⟨Iq,JG s _ out _ st ?_,he.trans t8.ext⟩
       simp only [Hy,zdt hlt',cu,bf,hix,bg AA,nJ,hrun,lN,iZ,fP,eP,bg h32,bg h9,bg h13,dn,hw1,e3,zdt hpos',hlet,Aw,mg,e5,hw2,hmid,e6,t6.ld,hnum,e8,t8.ld,hm1]
    rw [if_neg hd1]
    have Lm:ET c.toNat=false:=Bool.eq_false_iff.2 hd1
    have hzero:lZ ((bl s).drop col)=0:=by
     rw [hdc,RG]
     have:nameB c=false:=by unfold nameB;rw [Aw,Lm];rfl
     rw [this];rfl
    have hz0:¬ (0:Int)<((0:Nat):Int):=by omega
    rw [hzero] at hrun
    have hsg:=Vk c
    by_cases hs1:LY c=true
    ·rw [if_pos hs1]
     rw [hs1] at hsg
     obtain ⟨Gi,e5,t5,n5⟩:=t3.st (k:=0) (vs:=[.int .i64 3]) (row':=[.int .i64 3,.string ⟨#[]⟩,.int .i64 0,.int .i64 at',.int .i64 ((col+1:Nat):Int)]) hl (by rfl) rfl
     obtain ⟨BU,e6,t6,n6⟩:=t5.st (k:=1) (vs:=[.string (mkS (((bl s).drop col).take 1))]) (row':=[.int .i64 3,.string (mkS (((bl s).drop col).take 1)),.int .i64 0,.int .i64 at',.int .i64 ((col+1:Nat):Int)]) hl (by rfl) rfl
     have hmid:=Om (s:=s) (col:=col) (n:=1) (by omega)
     have hsz:(mkS (((bl s).drop col).take 1)).size=1:=by simp;omega
     have hw2:IntKind.wrap .i64 ((col:Int)+((1:Nat):Int))=((col+1:Nat):Int):=hw1
     refine CY.tok hs hl0 hd he ho (by omega) (by omega) t6 (fun done out st hd he ho=>ih _ done out st (by omega) (by omega) hd he ho) ?_
     intro v CU hv hz y hy
     refine JG s _ out _ st ?_
     have hv':((BU.new (.cells [.int .i64 3,.string (mkS (((bl s).drop col).take 1)),.int .i64 0,.int .i64 at',.int .i64 ((col+1:Nat):Int)] 5)).app 5 48 out (.slice (some ⟨BU.next,0,none⟩) 1 1))=some (v,CU):=hv
     have tail:∀ (a b c d e:Bool),true=(a||b||c||d||e)→∀ (X Y:Option (Nat×List Value×SS)),cond a X (cond b X (cond c X (cond d X (cond e X Y))))=X:=by
      intro a b c d e h X Y
      cases a<;>cases b<;>cases c<;>cases d<;>cases e<;>first | rfl | cases h
     simp only [Hy,zdt hlt',cu,bf,hix,bg AA,nJ,hrun,lN,iZ,fP,eP,bg h32,bg h9,bg h13,dn,hw1,e3,bg hz0,e5,hmid,e6,t6.eF (n:=5) rfl,cells5,List.append_nil,hv',SS.eU hz,hsz,hw2]
     rw [tail _ _ _ _ _ hsg]
     exact hy
    ·rw [if_neg hs1]
     have hs1':LY c=false:=Bool.eq_false_iff.2 hs1
     rw [hs1'] at hsg
     refine ⟨pV,JG s _ out _ st ?_,he.trans t3.ext⟩
     simp only [Hy,zdt hlt',cu,bf,hix,bg AA,nJ,hrun,lN,iZ,fP,eP,bg h32,bg h9,bg h13,dn,hw1,e3,bg hz0]
     have tail:∀ (a b c d e:Bool),false=(a||b||c||d||e)→∀ (X1 X2 X3 X4 X5 Y:Option (Nat×List Value×SS)),cond a X1 (cond b X2 (cond c X3 (cond d X4 (cond e X5 Y))))=Y:=by
      intro a b c d e h X1 X2 X3 X4 X5 Y
      cases a<;>cases b<;>cases c<;>cases d<;>cases e<;>first | rfl | cases h
     rw [tail _ _ _ _ _ hsg]
   ·have:col=s.size:=by omega
    subst this
    have hnil:(bl s).drop s.size=[]:=RP s
    rw [hnil]
    refine ⟨out,st,JG s _ out _ st ?_,he,by simpa [stepT] using ho,by simpa using hd⟩
    simp [Hy]
theorem zrS [Sym] {st:SS} (hl:st.lim≤st.next) (s:ByteArray) (hs:s.size≤4294967296) (at':Int):
  NH (fun v=>[v,.int .i64 0]) (fun c=>[.slice none 0 0,.int .i64 c]) s at' st (cc 51 [.string s,.int .i64 at'] st) (zJ (bl s)):=by
 have h:=zt0 s at' hs st hl s.size 0 [] (.slice none 0 0) st (by omega) (by omega) (by simp) (.refl _) (Own.nil _ _ _)
 simp only [List.drop_zero] at h
 have hw:IntKind.wrap .i64 ((s.size:Int)+1)=((s.size+1:Nat):Int):=by rw [wrap64 (by omega) (by omega)];omega
 unfold zJ
 rw [tC]
 cases hx:zX s.size 0 (bl s) with
 | ok ts=>
   rw [hx] at h
   obtain ⟨v,st',a,b,c,d⟩:=h
   obtain ⟨w,mZ,e1,e2,e3,e4⟩:=ztg s hs hl b c d
   refine ⟨w,mZ,zgV s at' st ?_,e2,e3,e4⟩
   have a':JH 3 [.string s,.int .i64 at',.slice none 0 0,.int .i64 0] st=some (0,[.string s,.int .i64 at',v],st'):=a
   have hb0:Nat.beq 0 0=true:=rfl
   simp only [zfv,a',bf,hb0,cu,lN,iZ,fP,eP,hw,e1]
 | error c=>
   rw [hx] at h
   obtain ⟨st',a,b⟩:=h
   refine ⟨st',zgV s at' st ?_,b⟩
   have a':JH 3 [.string s,.int .i64 at',.slice none 0 0,.int .i64 0] st=some (1,[.slice none 0 0,.int .i64 c],st'):=a
   have hb0:Nat.beq 1 0=false:=rfl
   simp only [zfv,a',bf,hb0,dn,lN,iZ,mg,eP]
end Go.Proofs.YtifploedaacedaaGreatDoorE
namespace Go.Proofs.YtifploedaacedaaGreatDoorE
open Go Go.E Go.Proofs
def oD:List (Nat×Tok)→List Value
 | []=>[]
 | t::r=>xG t.1 t.2++oD r
theorem zrT (a b:List (Nat×Tok)):oD (a++b)=oD a++oD b:=by
 induction a with
 | nil=>rfl
 | cons t r ih=>simp [oD,ih]
theorem zqD (i:Nat) (ts:List Tok):oD (ts.map fun t=>(i,t))=AQ i ts:=by
 induction ts with
 | nil=>rfl
 | cons t r ih=>simp [oD,AQ,ih]
def Z8 (a:List (Nat×Tok)):Except (Nat×Nat) (List (Nat×Tok))→Except (Nat×Nat) (List (Nat×Tok))
 | .ok us=>.ok (a++us)
 | .error e=>.error e
def CX:Nat→List (List UInt8)→Except (Nat×Nat) (List (Nat×Tok))
 | _,[]=>.ok []
 | i,p::r=>match zJ p with
   | .error c=>.error (i+1,c)
   | .ok ts=>Z8 (ts.map fun t=>(i+1,t)) (CX (i+1) r)
def NQ (l:List UInt8):Except (Nat×Nat) (List (Nat×Tok)):=CX 0 (pieces 10 l)
theorem Ur (c:UInt8) (l:List UInt8):∀ p∈pieces c l,p.length≤l.length:=by
 induction l with
 | nil=>simp [pieces]
 | cons b r ih=>
   unfold pieces
   split
   ·intro p hp
    simp only [List.mem_cons] at hp
    rcases hp with rfl | hp
    ·simp
    ·have:=ih p hp;simp;omega
   ·cases hr:pieces c r with
    | nil=>exact absurd hr (MF c r)
    | cons x y=>
      intro p hp
      simp only [List.mem_cons] at hp
      rcases hp with rfl | hp
      ·have:=ih x (by rw [hr];simp);simp;omega
      ·have:=ih p (by rw [hr];simp [hp]);simp;omega
def FH (o9:List Value) (j:Nat) (st0 st1:SS) (done:List (Nat×Tok)) (r:Option (Nat×List Value×SS)):Except (Nat×Nat) (List (Nat×Tok))→Prop
 | .ok us=>∃ v st',r=some (0,[ptr j 0,v],st')∧Ext st1 st'∧Own st1.next st' v (oD (done++us)) 5 (done++us).length
 | .error e=>∃ st',r=some (1,o9,st')∧st'.mem.get j=some (.cells [.int .i64 e.1,.int .i64 e.2] 0)∧Ext st0 st'
theorem FH.to {o9:List Value} {j:Nat} {st0 st1:SS} {done:List (Nat×Tok)} {r r':Option (Nat×List Value×SS)} {x:Except (Nat×Nat) (List (Nat×Tok))} (h:FH o9 j st0 st1 done r x) (hr:∀ y,r=some y→r'=some y):FH o9 j st0 st1 done r' x:=by
 cases x with
 | ok ts=>obtain ⟨v,st',a,b⟩:=h;exact ⟨v,st',hr _ a,b⟩
 | error c=>obtain ⟨st',a,b⟩:=h;exact ⟨st',hr _ a,b⟩
theorem FH.cons {o9:List Value} {j:Nat} {st0 st1:SS} {done a:List (Nat×Tok)} {r:Option (Nat×List Value×SS)} {x:Except (Nat×Nat) (List (Nat×Tok))} (h:FH o9 j st0 st1 (done++a) r x):FH o9 j st0 st1 done r (Z8 a x):=by
 cases x with
 | ok ts=>
   have e:done++a++ts=done++(a++ts):=by simp
   obtain ⟨v,st',p,b,c⟩:=h
   rw [e] at c
   exact ⟨v,st',p,b,c⟩
 | error c=>exact h
theorem strs_get (ps:List (List UInt8)) (i:Nat) (p:List UInt8) (h:ps[i]?=some p):((strs ps).drop (i*1)).take 1=[.string (mkS p)]:=by
 rw [Nat.mul_one]
 have:(strs ps)[i]?=some (.string (mkS p)):=by simp [strs,h]
 rw [drop_cons this]
 rfl
theorem FH.add {o9:List Value} {j:Nat} {st0 st1 st st':SS} {done:List (Nat×Tok)} {ts:List Tok} {i N:Nat} {out v:Value} {x:Except (Nat×Nat) (List (Nat×Tok))} {r':Option (Nat×List Value×SS)}
  (hN:N≤131073) (hl1:st1.lim≤st1.next) (hi:i<N) (hd:done.length≤i*N) (hts:ts.length≤N) (he:Ext st1 st) (ho:Own st1.next st out (oD done) 5 done.length) (he2:Ext st st') (ho2:Own st.next st' v (AQ ((i+1:Nat):Int) ts) 5 ts.length)
  (h:∀ w mZ,st'.app 5 48 out v=some (w,mZ)→Ext st1 mZ→Own st1.next mZ w (oD (done++ts.map fun t=>(i+1,t))) 5 (done++ts.map fun t=>(i+1,t)).length→(done++ts.map fun t=>(i+1,t)).length≤(i+1)*N→FH o9 j st0 st1 (done++ts.map fun t=>(i+1,t)) r' x):
  FH o9 j st0 st1 done r' (Z8 (ts.map fun t=>(i+1,t)) x):=by
 have hmul:i*N≤131073*131073:=Nat.mul_le_mul (by omega) hN
 have e0:Ext st1 st':=he.trans he2
 have hN2:(i+1)*N=i*N+N:=by rw [Nat.add_mul,Nat.one_mul]
 have hN3:i*N+N≤131073*131073:=by rw [← hN2];exact Nat.mul_le_mul (by omega) hN
 obtain ⟨w,mZ,g1,g2,g3,g4,g5,g6⟩:=(ho.ext he2).app (ho2.rd) e0.next (by rw [e0.lim];exact hl1) (by omega) (zvg _ _) (bt:=48) (by omega) (by omega)
 refine (h w mZ g1 (g5 st1 (fF _) e0) ?_ ?_).cons
 ·rw [zrT,zqD,List.length_append,List.length_map]
  exact g2
 ·rw [List.length_append,List.length_map,hN2];omega
theorem zwJ [Sym] (st0 st1:SS) (hg:Gd st1) (h01:Ext st0 st1) (hl1:st1.lim≤st1.next) (j:Nat) (hj0:st0.next≤j) (hj1:j<st1.next) (hjm:∃ r,st1.mem.get j=some (.cells r 0)∧r.length=2) (hjl:st1.lim≤j) (all:List (List UInt8)) (v:Value) (hv:Rd st1 v (strs all) 1 all.length) (N:Nat) (hN:N≤131073) (hall:all.length≤N) (hmem:∀ p∈all,p.length+1≤N):
  ∀ (ps:List (List UInt8)) (i:Nat) (done:List (Nat×Tok)) (out:Value) (st:SS),all.drop i=ps→i≤all.length→done.length≤i*N→Ext st1 st→Own st1.next st out (oD done) 5 done.length→
  FH [.slice none 0 0,ptr j 0,.int .i64 4] j st0 st1 done (RN 5 [ptr j 0,out,v,.int .i64 all.length,.int .i64 i] st) (CX i ps):=by
 intro ps
 induction ps with
 | nil=>
   intro i done out st hp hi hd he ho
   have:i=all.length:=by
    rw [List.drop_eq_nil_iff] at hp;omega
   subst this
   refine ⟨out,st,zhW _ out v _ _ st ?_,he,by simpa using ho⟩
   simp [YD]
 | cons p r ih=>
   intro i done out st hp hi hd he ho
   have BK:all[i]?=some p:=by
    have:=congrArg (·[0]?) hp
    simpa using this
   have hlt:i<all.length:=(List.getElem?_eq_some_iff.1 BK).1
   have hpm:p∈all:=xH BK
   have hpl:=hmem p hpm
   have hr:all.drop (i+1)=r:=by
    have:=drop_cons BK
    rw [hp] at this
    exact (List.cons.inj this).2.symm
   have hlt':(i:Int)<(all.length:Int):=by omega
   have hw:IntKind.wrap .i64 ((i:Int)+1)=((i+1:Nat):Int):=by rw [wrap64 (by omega) (by omega)];omega
   obtain ⟨q,hq1,hq2,hq3⟩:=(hv.ext he).load (j:=(i:Int)) (by omega) hlt' (strs_get all i p BK) rfl
   have hld:(st.ld q.1 q.2).bind asS=some (mkS p):=by
    have:=hq3 0 (by omega)
    rw [Nat.add_zero] at this
    rw [this];rfl
   have hl:st.lim≤st.next:=by rw [he.lim];have:=he.next;omega
   have h:=zxN (hg.ext he) hl (mkS p) (by simp;omega) ((i+1:Nat):Int)
   rw [vW] at h
   unfold CX
   cases hx:zJ p with
   | error c=>
     rw [hx] at h
     obtain ⟨st',a,b⟩:=h
     obtain ⟨r0,Qs,I8⟩:=hjm
     have e0:=he.trans b
     have hst:st'.st j 0 [.int .i64 ((i+1:Nat):Int),.int .i64 c]=some (st'.set j (some (.cells [.int .i64 ((i+1:Nat):Int),.int .i64 c] 0))):=
      SS.mM (e0.get hj1 Qs) (by rw [e0.lim];exact hjl) (by rfl) (by rw [DY (by simp [I8])];simp [I8])
     refine ⟨st'.set j (some (.cells [.int .i64 ((i+1:Nat):Int),.int .i64 c] 0)),zhW _ out v _ _ st ?_,by simp,(h01.trans e0).set hj0 _⟩
     simp only [YD,zdt hlt',cu,hq1,bf,hld,hw,a,fM,List.getElem?_toArray,lN,iZ,eP,mg,nJ,fZ,hst]
   | ok ts=>
     rw [hx] at h
     obtain ⟨w,st',a,b,c,d⟩:=h
     refine FH.add hN hl1 (by omega) hd (by simp at d;omega) he ho b c ?_
     intro u mZ g1 g2 g3 g4
     refine (ih (i+1) _ u mZ hr (by omega) g4 g2 g3).to ?_
     intro y hy
     refine zhW _ out v _ _ st ?_
     simp only [YD,zdt hlt',cu,hq1,bf,hld,hw,a,fM,List.getElem?_toArray,lN,iZ,eP,mg,lY,dn,g1]
     exact hy
theorem zvk [Sym] (st0 st1:SS) (h01:Ext st0 st1) (hl1:st1.lim≤st1.next) (j:Nat) (hj0:st0.next≤j) (hj1:j<st1.next) (hjm:∃ r,st1.mem.get j=some (.cells r 0)∧r.length=2) (hjl:st1.lim≤j) (all:List (List UInt8)) (v:Value) (hv:Rd st1 v (strs all) 1 all.length) (N:Nat) (hN:N≤131073) (hall:all.length≤N) (hmem:∀ p∈all,p.length+1≤N) (Jb:∀ p∈all,∀ c,zJ p=.error c→0<c):
  ∀ (ps:List (List UInt8)) (i:Nat) (done:List (Nat×Tok)) (out:Value) (st:SS),all.drop i=ps→i≤all.length→done.length≤i*N→Ext st1 st→Own st1.next st out (oD done) 5 done.length→
  FH [.slice none 0 0,ptr j 0] j st0 st1 done (SA 3 [ptr j 0,out,v,.int .i64 all.length,.int .i64 i] st) (CX i ps):=by
 intro ps
 induction ps with
 | nil=>
   intro i done out st hp hi hd he ho
   have:i=all.length:=by
    rw [List.drop_eq_nil_iff] at hp;omega
   subst this
   refine ⟨out,st,zdV _ out v _ _ st ?_,he,by simpa using ho⟩
   simp [YX]
 | cons p r ih=>
   intro i done out st hp hi hd he ho
   have BK:all[i]?=some p:=by
    have:=congrArg (·[0]?) hp
    simpa using this
   have hlt:i<all.length:=(List.getElem?_eq_some_iff.1 BK).1
   have hpm:p∈all:=xH BK
   have hpl:=hmem p hpm
   have hr:all.drop (i+1)=r:=by
    have:=drop_cons BK
    rw [hp] at this
    exact (List.cons.inj this).2.symm
   have hlt':(i:Int)<(all.length:Int):=by omega
   have hw:IntKind.wrap .i64 ((i:Int)+1)=((i+1:Nat):Int):=by rw [wrap64 (by omega) (by omega)];omega
   obtain ⟨q,hq1,hq2,hq3⟩:=(hv.ext he).load (j:=(i:Int)) (by omega) hlt' (strs_get all i p BK) rfl
   have hld:(st.ld q.1 q.2).bind asS=some (mkS p):=by
    have:=hq3 0 (by omega)
    rw [Nat.add_zero] at this
    rw [this];rfl
   have hl:st.lim≤st.next:=by rw [he.lim];have:=he.next;omega
   have h:=zrS hl (mkS p) (by simp;omega) ((i+1:Nat):Int)
   rw [vW] at h
   unfold CX
   cases hx:zJ p with
   | error c=>
     have hc0:=Jb p hpm c hx
     have hc0':(0:Int)<(c:Int):=by omega
     rw [hx] at h
     obtain ⟨st',a,b⟩:=h
     obtain ⟨r0,Qs,I8⟩:=hjm
     have e0:=he.trans b
     have hst:st'.st j 0 [.int .i64 ((i+1:Nat):Int),.int .i64 c]=some (st'.set j (some (.cells [.int .i64 ((i+1:Nat):Int),.int .i64 c] 0))):=
      SS.mM (e0.get hj1 Qs) (by rw [e0.lim];exact hjl) (by rfl) (by rw [DY (by simp [I8])];simp [I8])
     refine ⟨st'.set j (some (.cells [.int .i64 ((i+1:Nat):Int),.int .i64 c] 0)),zdV _ out v _ _ st ?_,by simp,(h01.trans e0).set hj0 _⟩
     simp only [YX,zdt hlt',cu,hq1,bf,hld,hw,a,fM,List.getElem?_toArray,lN,iZ,eP,zdt hc0',fZ,hst]
   | ok ts=>
     rw [hx] at h
     obtain ⟨w,st',a,b,c,d⟩:=h
     refine FH.add hN hl1 (by omega) hd (by simp at d;omega) he ho b c ?_
     intro u mZ g1 g2 g3 g4
     refine (ih (i+1) _ u mZ hr (by omega) g4 g2 g3).to ?_
     intro y hy
     refine zdV _ out v _ _ st ?_
     have h00:decide ((0:Int)<0)=false:=rfl
     simp only [YX,zdt hlt',cu,hq1,bf,hld,hw,a,fM,List.getElem?_toArray,lN,iZ,eP,h00,dn,g1]
     exact hy
theorem zwK (k col:Nat) (l:List UInt8) (c:Nat) (h:zX k col l=.error c):0<c:=by
 induction k generalizing col l with
 | zero=>cases h
 | succ k ih=>
   unfold zX at h
   split at h
   ·cases h
   ·exact ih _ _ h
   ·rename_i kd n x _
    cases hx:zX k (col+n) (l.drop n) with
    | ok ts=>rw [hx] at h;cases h
    | error e=>rw [hx] at h;cases h;exact ih _ _ hx
   ·cases h;omega
theorem zvl (p:List UInt8) (c:Nat) (h:zJ p=.error c):0<c:=by
 unfold zJ at h
 split at h
 ·cases h
 ·rename_i c' hc;cases h;exact zwK _ _ _ _ hc
def Xk (okv:Value→Nat×Nat→List Value) (o9:Nat×Nat→List Value) (st:SS) (r:Option (Value×SS)):Except (Nat×Nat) (List (Nat×Tok))→Prop
 | .ok us=>∃ v st',r=some (.tuple (okv v (0,0)).toArray,st')∧Ext st st'∧Own st.next st' v (oD us) 5 us.length
 | .error e=>∃ st',r=some (.tuple (o9 e).toArray,st')∧Ext st st'
def rH (e:Nat×Nat):Value:=.agg #[.int .i64 e.1,.int .i64 e.2]
theorem KI {st:SS} {j:Nat} {a b:Value} {z:Nat} (h:st.mem.get j=some (.cells [a,b] z)):st.fH j 0 2=some (.agg #[a,b]):=by
 rw [SS.BG h,Md (n:=2) rfl];rfl
theorem P7 [Sym] {st:SS} (hg:Gd st) (hl:st.lim≤st.next) (s:ByteArray) (hs:s.size≤131072):
  Xk (fun v e=>[v,rH e,.int .i64 0]) (fun e=>[.slice none 0 0,rH e,.int .i64 4]) st (cc 67 [.string s] st) (NQ (bl s)):=by
 obtain ⟨v,st2,h1,h2,h3⟩:=split_ok s 10 (by omega) (st.new (.cells [.int .i64 0,.int .i64 0] 0)) (by simp;omega)
 have hst1:(st.new (.cells [.int .i64 0,.int .i64 0] 0)).mem.get st.next=some (.cells [.int .i64 0,.int .i64 0] 0):=by simp
 have e01:Ext st st2:=((Ext.refl st).new _).trans h2
 have hm:=h2.get (by simp) hst1
 have hj1:st.next<st2.next:=by have:=h2.next;simp at this;omega
 have hl2:st2.lim≤st2.next:=by rw [e01.lim];have:=e01.next;omega
 have hlen:=pieces_len 10 (bl s)
 rw [tC] at hlen
 have hmem:=Ur 10 (bl s)
 rw [tC] at hmem
 have h:=zwJ st st2 (hg.ext e01) e01 hl2 st.next (fF _) hj1 ⟨_,hm,rfl⟩ (by rw [e01.lim];exact hl) (pieces 10 (bl s)) v h3 (s.size+1) (by omega) hlen (fun p hp=>by have:=hmem p hp;omega) (pieces 10 (bl s)) 0 [] (.slice none 0 0) st2 rfl (by omega) (by simp) (.refl _) (Own.nil _ _ _)
 have hbig:¬ (131072:Int)<(s.size:Int):=by omega
 have hb0:Nat.beq 0 0=true:=rfl
 have hb1:Nat.beq 1 0=false:=rfl
 have hlv:(lenV v).bind (ay .i64)=some ((pieces 10 (bl s)).length:Int):=by rw [h3.len];rfl
 unfold NQ
 cases hx:CX 0 (pieces 10 (bl s)) with
 | ok us=>
   rw [hx] at h
   obtain ⟨w,pV,a,b,c⟩:=h
   have SV:=b.get hj1 hm
   have hst:pV.st st.next 0 [.int .i64 0,.int .i64 0]=some (pV.set st.next (some (.cells [.int .i64 0,.int .i64 0] 0))):=
    SS.mM SV (by rw [b.lim,e01.lim];exact hl) (by rfl) (by rfl)
   have hlast:Ext st (pV.set st.next (some (.cells [.int .i64 0,.int .i64 0] 0))):=(e01.trans b).set (fF _) _
   refine ⟨w,pV.set st.next (some (.cells [.int .i64 0,.int .i64 0] 0)),zn0 s st ?_,hlast,?_⟩
   ·have a':RN 5 [ptr st.next 0,.slice none 0 0,v,.int .i64 ((pieces 10 (bl s)).length:Int),.int .i64 0] st2=some (0,[ptr st.next 0,w],pV):=a
    have hr:=KI (a:=.int .i64 0) (b:=.int .i64 0) (z:=0) (st:=pV.set st.next (some (.cells [.int .i64 0,.int .i64 0] 0))) (j:=st.next) (by simp)
    simp only [zop,bg hbig,dn,h1,bf,hlv,a',hb0,cu,lN,iZ,fZ,hst,hr]
    rfl
   ·obtain ⟨c1,c2⟩:=c
    refine ⟨c1,c2.imp id ?_⟩
    rintro ⟨i,e,h0,Wn,hbi,hi⟩
    refine ⟨i,e,h0,?_,by omega,hi⟩
    rw [SS.rC (by omega)]
    exact Wn
 | error e=>
   rw [hx] at h
   obtain ⟨pV,a,b,c⟩:=h
   refine ⟨pV,zn0 s st ?_,c⟩
   have a':RN 5 [ptr st.next 0,.slice none 0 0,v,.int .i64 ((pieces 10 (bl s)).length:Int),.int .i64 0] st2=some (1,[.slice none 0 0,ptr st.next 0,.int .i64 4],pV):=a
   simp only [zop,bg hbig,dn,h1,bf,hlv,a',hb1,cu,lN,iZ,fZ,eP,KI b]
   rfl
theorem zxQ [Sym] {st:SS} (hl:st.lim≤st.next) (s:ByteArray) (hs:s.size≤131072):
  Xk (fun v e=>[v,rH e]) (fun e=>[.slice none 0 0,rH e]) st (cc 49 [.string s] st) (NQ (bl s)):=by
 obtain ⟨v,st2,h1,h2,h3'⟩:=Rf s 10 (by omega) (st.new (.cells [.int .i64 0,.int .i64 0] 0)) (by simp;omega)
 have h3:=h3'.rd
 have hst1:(st.new (.cells [.int .i64 0,.int .i64 0] 0)).mem.get st.next=some (.cells [.int .i64 0,.int .i64 0] 0):=by simp
 have e01:Ext st st2:=((Ext.refl st).new _).trans h2
 have hm:=h2.get (by simp) hst1
 have hj1:st.next<st2.next:=by have:=h2.next;simp at this;omega
 have hl2:st2.lim≤st2.next:=by rw [e01.lim];have:=e01.next;omega
 have hlen:=pieces_len 10 (bl s)
 rw [tC] at hlen
 have hmem:=Ur 10 (bl s)
 rw [tC] at hmem
 have h:=zvk st st2 e01 hl2 st.next (fF _) hj1 ⟨_,hm,rfl⟩ (by rw [e01.lim];exact hl) (pieces 10 (bl s)) v h3 (s.size+1) (by omega) hlen (fun p hp=>by have:=hmem p hp;omega) (fun p _ c hc=>zvl p c hc) (pieces 10 (bl s)) 0 [] (.slice none 0 0) st2 rfl (by omega) (by simp) (.refl _) (Own.nil _ _ _)
 have hb0:Nat.beq 0 0=true:=rfl
 have hb1:Nat.beq 1 0=false:=rfl
 have hlv:(lenV v).bind (ay .i64)=some ((pieces 10 (bl s)).length:Int):=by rw [h3.len];rfl
 have h1':cc 50 [.string s,.int .u8 10] (st.new (.cells [.int .i64 0,.int .i64 0] 0))=some (v,st2):=h1
 unfold NQ
 cases hx:CX 0 (pieces 10 (bl s)) with
 | ok us=>
   rw [hx] at h
   obtain ⟨w,pV,a,b,c⟩:=h
   have SV:=b.get hj1 hm
   have hst:pV.st st.next 0 [.int .i64 0,.int .i64 0]=some (pV.set st.next (some (.cells [.int .i64 0,.int .i64 0] 0))):=
    SS.mM SV (by rw [b.lim,e01.lim];exact hl) (by rfl) (by rfl)
   have hlast:Ext st (pV.set st.next (some (.cells [.int .i64 0,.int .i64 0] 0))):=(e01.trans b).set (fF _) _
   refine ⟨w,pV.set st.next (some (.cells [.int .i64 0,.int .i64 0] 0)),zhl s st ?_,hlast,?_⟩
   ·have a':SA 3 [ptr st.next 0,.slice none 0 0,v,.int .i64 ((pieces 10 (bl s)).length:Int),.int .i64 0] st2=some (0,[ptr st.next 0,w],pV):=a
    have hr:=KI (a:=.int .i64 0) (b:=.int .i64 0) (z:=0) (st:=pV.set st.next (some (.cells [.int .i64 0,.int .i64 0] 0))) (j:=st.next) (by simp)
    simp only [zf5,h1',bf,hlv,a',hb0,cu,lN,iZ,fZ,hst,hr]
    rfl
   ·obtain ⟨c1,c2⟩:=c
    refine ⟨c1,c2.imp id ?_⟩
    rintro ⟨i,e,h0,Wn,hbi,hi⟩
    refine ⟨i,e,h0,?_,by omega,hi⟩
    rw [SS.rC (by omega)]
    exact Wn
 | error e=>
   rw [hx] at h
   obtain ⟨pV,a,b,c⟩:=h
   refine ⟨pV,zhl s st ?_,c⟩
   have a':SA 3 [ptr st.next 0,.slice none 0 0,v,.int .i64 ((pieces 10 (bl s)).length:Int),.int .i64 0] st2=some (1,[.slice none 0 0,ptr st.next 0],pV):=a
   simp only [zf5,h1',bf,hlv,a',hb1,dn,lN,iZ,fZ,eP,KI b]
   rfl
end Go.Proofs.YtifploedaacedaaGreatDoorE
namespace Go.Proofs.YtifploedaacedaaGreatDoorE
open Go Go.E Go.Proofs
theorem TK.newV {st:SS} {r:List Value} {v:Value} {n:Nat} (hl:st.lim≤st.next) (h1:v.cells.toList.all one=true) (hn:v.cells.size=n) (hr:r.length=n):∃ rY,(st.new (.cells r 0)).eH st.next 0 n v=some rY∧TK st rY v.cells.toList:=by
 obtain ⟨rY,h,t⟩:=TK.new (st:=st) (r:=r) (row:=v.cells.toList) hl h1 (by simp [hr,hn])
 refine ⟨rY,?_,t⟩
 unfold SS.eH
 have:Nat.beq v.cells.size n=true:=by rw [pW,hn];simp
 rw [this]
 exact h
theorem TK.pair {st:SS} {r:List Value} (e:Nat×Nat) (hl:st.lim≤st.next) (hr:r.length=2):∃ rY,(st.new (.cells r 0)).eH st.next 0 2 (rH e)=some rY∧TK st rY [.int .i64 e.1,.int .i64 e.2]:=TK.newV (v:=rH e) hl (by rfl) rfl hr
theorem Yv (us:List (Nat×Tok)) (i:Nat) (t:Nat×Tok) (h:us[i]?=some t):((oD us).drop (i*5)).take 5=xG t.1 t.2:=by
 induction us generalizing i with
 | nil=>simp at h
 | cons a r ih=>
   cases i with
   | zero=>
     simp at h
     subst h
     show ((xG a.1 a.2++oD r).drop (0*5)).take 5=_
     rfl
   | succ i=>
     have:=ih i (by simpa using h)
     show ((xG a.1 a.2++oD r).drop ((i+1)*5)).take 5=_
     have e:(i+1)*5=(xG a.1 a.2).length+i*5:=by simp [xG];omega
     rw [e,← List.drop_drop,List.drop_left]
     exact this
theorem zrU (i:Nat):sQ (ptr i 0) 2 0 1=some (i,0):=rfl
theorem zvm (ps:List (List UInt8)) (i N:Nat) (us:List (Nat×Tok)) (h:CX i ps=.ok us) (hN:∀ p∈ps,∀ ts,zJ p=.ok ts→ts.length≤N):us.length≤ps.length*N:=by
 induction ps generalizing i us with
 | nil=>cases h;simp
 | cons p r ih=>
   unfold CX at h
   cases hx:zJ p with
   | error c=>rw [hx] at h;cases h
   | ok ts=>
     rw [hx] at h
     cases hy:CX (i+1) r with
     | error e=>rw [hy] at h;cases h
     | ok vs=>
       rw [hy] at h
       cases h
       have h1:=ih (i+1) vs hy (fun q hq=>hN q (List.mem_cons_of_mem _ hq))
       have h2:=hN p (List.mem_cons_self ..) ts hx
       rw [List.length_append,List.length_map,List.length_cons,Nat.add_mul]
       omega
theorem zwL (k col:Nat) (l:List UInt8) (ts:List Tok) (h:zX k col l=.ok ts):ts.length≤k:=by
 induction k generalizing col l ts with
 | zero=>cases h;simp
 | succ k ih=>
   unfold zX at h
   split at h
   ·cases h;simp
   ·have:=ih _ _ _ h;omega
   ·rename_i kd n x _
    cases hx:zX k (col+n) (l.drop n) with
    | error e=>rw [hx] at h;cases h
    | ok us=>rw [hx] at h;cases h;have:=ih _ _ _ hx;simp;omega
   ·cases h
theorem zm2 (p:List UInt8) (ts:List Tok) (h:zJ p=.ok ts):ts.length≤p.length+1:=by
 unfold zJ at h
 split at h
 ·rename_i us hu;cases h;have:=zwL _ _ _ _ hu;simp;omega
 ·cases h
theorem zwM (l:List UInt8) (us:List (Nat×Tok)) (h:NQ l=.ok us):us.length≤(l.length+1)*(l.length+1):=by
 have h1:=zvm (pieces 10 l) 0 (l.length+1) us h (fun p hp ts hts=>by have:=Ur 10 l p hp;have:=zm2 p ts hts;omega)
 exact lT h1 (Nat.mul_le_mul_right _ (pieces_len 10 l))
theorem zvn (ps:List (List UInt8)) (i:Nat) (e:Nat×Nat) (h:CX i ps=.error e):0<e.1:=by
 induction ps generalizing i with
 | nil=>cases h
 | cons p r ih=>
   unfold CX at h
   cases hx:zJ p with
   | error c=>rw [hx] at h;cases h;simp
   | ok ts=>
     rw [hx] at h
     cases hy:CX (i+1) r with
     | error e=>rw [hy] at h;cases h;exact ih _ hy
     | ok vs=>rw [hy] at h;cases h
theorem JZ {a b:List UInt8} (h:a.length+b.length≤9223372036854775807):xE (mkS a) (mkS b)=some (mkS (a++b)):=by
 unfold xE
 have:Nat.ble ((mkS a).size+(mkS b).size) 9223372036854775807=true:=by rw [Nat.ble_eq];simpa using h
 rw [this,cu]
 congr 1
theorem Ef (l:List UInt8):fA (mkS l) ⟨#[]⟩=decide (l=[]):=rfl
theorem Oh {s:ByteArray} {j:Nat} {b:UInt8} (hb:(bl s)[j]?=some b):(zI s (j:Int)).bind (ay .u8)=some (b.toNat:Int):=by
 have hj:j<s.size:=by have:=(List.getElem?_eq_some_iff.1 hb).1;rwa [tC] at this
 obtain ⟨b',hb',hidx⟩:=Rh (s:=s) (i:=(j:Int)) (by omega) (by omega)
 rw [Int.toNat_natCast,hb] at hb'
 cases hb'
 rw [hidx];simp
theorem YR (c x:UInt8) (l:List UInt8):pieces c (x::l)=if x=c then []::pieces c l else match pieces c l with
  | []=>[[x]]
  | y::z=>(x::y)::z:=rfl
theorem zsA {α:Type} {l:List α} {j:Nat} {x:α} (h:l[j]?=some x):l.take (j+1)=l.take j++[x]:=by
 rw [List.take_add_one,h];rfl
end Go.Proofs.YtifploedaacedaaGreatDoorE
namespace Go.Proofs.YtifploedaacedaaGreatDoorE
open Go Go.E Go.Proofs
def QJ (b:UInt8):Prop:=(b.toNat:Int)=32∨(b.toNat:Int)=9∨(b.toNat:Int)=13
theorem zpd (c:UInt8) (r:List UInt8):stepT (c::r)=if (c.toNat:Int)=59 then .stop
  else if (c.toNat:Int)=32∨(c.toNat:Int)=9∨(c.toNat:Int)=13 then .blank
  else if DX c.toNat=true then (if 24<lZ (c::r) then .bad else .tok 1 (lZ (c::r)) 0)
  else if ET c.toNat=true then (match numO (zB ((c::r).take (lZ (c::r)))) with
   | some m=>.tok 2 (lZ (c::r)) m
   | none=>.bad)
  else if LY c=true then .tok 3 1 0 else .bad:=rfl
theorem zvo {l:List UInt8} {kd n:Nat} {x:Int} (h:stepT l=.tok kd n x):0<n∧n≤l.length∧(kd=1∨kd=2∨kd=3):=by
 cases l with
 | nil=>cases h
 | cons c r=>
   rw [zpd] at h
   split at h
   ·cases h
   ·split at h
    ·cases h
    ·split at h
     ·rename_i hlet
      split at h
      ·cases h
      ·cases h
       exact ⟨Rw (by unfold nameB;rw [hlet];rfl),XR _,.inl rfl⟩
     ·split at h
      ·rename_i hdig
       split at h
       ·cases h
        exact ⟨Rw (by unfold nameB;rw [hdig];simp),XR _,.inr (.inl rfl)⟩
       ·cases h
      ·split at h
       ·cases h
        exact ⟨by omega,by simp,.inr (.inr rfl)⟩
       ·cases h
def View (c:Nat) (l:List UInt8) (ts:List Tok):Prop:=
 ∃ m,(∀ j b,j<m→l[j]?=some b→QJ b)∧((ts=[]∧m≤l.length∧∀ b,l[m]?=some b→(b.toNat:Int)=59)∨
  ∃ n kd x k' ts',m+n≤l.length∧0<n∧(kd=1∨kd=2∨kd=3)∧ts=⟨kd,(l.drop m).take n,x,c+m+1⟩::ts'∧(l.drop (m+n)).length≤k'∧zX k' (c+m+n) (l.drop (m+n))=.ok ts')
end Go.Proofs.YtifploedaacedaaGreatDoorE
namespace Go.E
open Go
structure Mod (S:List Nat) (a b:SS):Prop where
 next:a.next≤b.next
 lim:b.lim=a.lim
 keep:∀ j,j<a.next→j∉S→b.mem.get j=a.mem.get j
section
variable {S T : List Nat} {a b c : SS} {i n : Nat}
theorem Mod.refl (a:SS):Mod S a a:=⟨fF _,rfl,fun _ _ _=>rfl⟩
theorem Mod.nY (h:Ext a b):Mod S a b:=⟨h.next,h.lim,fun j hj _=>h.keep j hj⟩
theorem Mod.xK (h:Mod [] a b):Ext a b:=⟨h.next,h.lim,fun j hj=>h.keep j hj (by simp)⟩
theorem Mod.trans (h:Mod S a b) (k:Mod T b c) (hT:∀ j,j∈T→j<a.next→j∈S):Mod S a c:=
 ⟨lT h.next k.next,k.lim.trans h.lim,fun j hj hS=>(k.keep j (pz hj h.next) (fun hm=>hS (hT j hm hj))).trans (h.keep j hj hS)⟩
theorem Mod.then (h:Mod S a b) (k:Mod S b c):Mod S a c:=h.trans k fun _ hj _=>hj
theorem Mod.Vg (h:Mod S a b) (k:Mod [] b c):Mod S a c:=h.trans k fun _ hj _=>by cases hj
theorem Mod.Bv (h:Mod S a b) (k:Ext b c):Mod S a c:=h.Vg (.nY k)
theorem Mod.gq (h:Mod S a b) (k:Mod [i] b c) (hi:a.next≤i∨i∈S):Mod S a c:=h.trans k fun j hj hlt=>by
 have:j=i:=by simpa using hj
 subst this
 rcases hi with hi | hi
 ·omega
 ·exact hi
theorem Mod.mono (h:Mod S a b) (hS:∀ j,j∈S→j∈T):Mod T a b:=⟨h.next,h.lim,fun j hj hT=>h.keep j hj fun hm=>hT (hS j hm)⟩
theorem Mod.fresh (h:Mod S a b) (hS:∀ j,j∈S→a.next≤j):Ext a b:=⟨h.next,h.lim,fun j hj=>h.keep j hj fun hm=>by have:=hS j hm;omega⟩
theorem Mod.ll (h:Mod S a b) (hl:a.lim≤a.next):b.lim≤b.next:=by rw [h.lim];exact lT hl h.next
theorem Ext.ll (h:Ext a b) (hl:a.lim≤a.next):b.lim≤b.next:=by rw [h.lim];exact lT hl h.next
theorem Ext.pK (a:SS) (hn:a.next≤n):Ext a (a.dw n):=(Ext.refl a).dw hn
theorem Mod.get {x:Option iq} (h:Mod S a b) (hi:i<a.next) (hS:i∉S) (hx:a.mem.get i=x):b.mem.get i=x:=(h.keep i hi hS).trans hx
theorem Rd.mod {v:Value} {c:List Value} {z n:Nat} (h:Rd a v c z n) (m:Mod S a b) (hv:∀ j k l q,v=.slice (some ⟨j,k,none⟩) l q→j∉S):Rd b v c z n:=by
 obtain ⟨h1,h2⟩:=h
 refine ⟨h1,h2.imp id ?_⟩
 rintro ⟨i,cap,e,⟨z',hm⟩,hi⟩
 exact ⟨i,cap,e,⟨z',m.get hi (hv i 0 n cap e) hm⟩,pz hi m.next⟩
theorem Own.mod {B:Nat} {v:Value} {c:List Value} {z n:Nat} (h:Own B a v c z n) (m:Mod S a b) (hv:∀ j k l q,v=.slice (some ⟨j,k,none⟩) l q→j∉S):Own B b v c z n:=by
 obtain ⟨h1,h2⟩:=h
 refine ⟨h1,h2.imp id ?_⟩
 rintro ⟨i,e,h0,hm,hb,hi⟩
 exact ⟨i,e,h0,m.get hi (hv i 0 n n e) hm,hb,pz hi m.next⟩
end
def At (st:SS) (i:Nat) (row:List Value):Prop:=st.mem.get i=some (.cells row 0)∧i<st.next∧st.lim≤i
section
variable {S : List Nat} {st st' : SS} {i k n : Nat} {row row' vs : List Value}
theorem At.mem (h:At st i row):st.mem.get i=some (.cells row 0):=h.1
theorem At.lt (h:At st i row):i<st.next:=h.2.1
theorem At.mod (h:At st i row) (m:Mod S st st') (hi:i∉S):At st' i row:=⟨m.get h.lt hi h.1,pz h.lt m.next,by rw [m.lim];exact h.2.2⟩
theorem At.ext (h:At st i row) (m:Ext st st'):At st' i row:=h.mod (S:=[]) (.nY m) (by simp)
theorem At.dw (h:At st i row) (hn:st.next≤n):At (st.dw n) i row:=h.ext (.pK st hn)
theorem At.ld (h:At st i row):st.ld i k=row[k]?:=SS.eU h.1
theorem At.rd (h:At st i row):st.rd i k=row[k]?:=SS.Iy h.1
theorem At.eF (h:At st i row) (hn:row.length=n):st.eF i 0 n=some (.agg row.toArray):=by rw [SS.rU h.1,Md hn];rfl
theorem At.fH (h:At st i row) (hn:row.length=n):st.fH i 0 n=some (.agg row.toArray):=by rw [SS.BG h.1,Md hn];rfl
theorem At.ldC (h:At st i row) {d:List Value} (hd:cut row k n=some d):st.eF i k n=some (.agg d.toArray):=by rw [SS.rU h.1,hd];rfl
theorem At.pU (h:At st i row) (h1:vs.all one=true) (hs:FU row k vs=some row'):∃ st',st.st i k vs=some st'∧At st' i row'∧Mod [i] st st'∧st'.next=st.next:=
 ⟨_,SS.mM h.1 h.2.2 h1 hs,⟨by simp,h.2.1,h.2.2⟩,⟨fF _,rfl,fun j hj hS=>SS.rC (by simpa using hS)⟩,rfl⟩
theorem At.eH (h:At st i row) {v:Value} (hv:v.cells.toList=vs) (hn:vs.length=n) (h1:vs.all one=true) (hs:FU row k vs=some row'):∃ st',st.eH i k n v=some st'∧At st' i row'∧Mod [i] st st'∧st'.next=st.next:=by
 obtain ⟨st',a,b,c,d⟩:=h.pU h1 hs
 refine ⟨st',?_,b,c,d⟩
 unfold SS.eH
 have e:v.cells.size=n:=by rw [← hn,← hv];simp
 rw [e,hv,a]
 simp
theorem At.new (hl:st.lim≤st.next) (row:List Value):At (st.new (.cells row 0)) st.next row:=⟨by simp,by simp,hl⟩
theorem Mod.new (ob:iq):Mod [] st (st.new ob):=.nY ((Ext.refl st).new ob)
theorem pX (hl:st.lim≤st.next) {r:List Value} {v:Value} (hv:v.cells.toList=row) (hn:row.length=n) (h1:row.all one=true) (hr:r.length=n):∃ st',(st.new (.cells r 0)).eH st.next 0 n v=some st'∧At st' st.next row∧Ext st st'∧st'.next=st.next+1:=by
 obtain ⟨st',a,b,c,d⟩:=(At.new hl r).eH (k:=0) hv hn h1 (row':=row) (by rw [DY (by omega)];simp [hn,hr])
 refine ⟨st',a,b,?_,d⟩
 exact (((Mod.new (.cells r 0)).mono (T:=[st.next]) (by simp)).then c).fresh (by simp)
theorem N7 (hl:st.lim≤st.next) {r:List Value} (h1:row.all one=true) (hr:r.length=row.length):∃ st',(st.new (.cells r 0)).st st.next 0 row=some st'∧At st' st.next row∧Ext st st'∧st'.next=st.next+1:=by
 obtain ⟨st',a,b,c,d⟩:=(At.new hl r).pU (k:=0) (vs:=row) (row':=row) h1 (by rw [DY (by omega)];simp [hr])
 exact ⟨st',a,b,(((Mod.new (.cells r 0)).mono (T:=[st.next]) (by simp)).then c).fresh (by simp),d⟩
end
theorem lU (row:List Value):(Value.agg row.toArray).cells.toList=row:=by simp [Value.cells]
theorem Own.lq {S:List Nat} {a b:SS} {B:Nat} {v:Value} {c:List Value} {z n:Nat} (h:Own B a v c z n) (m:Mod S a b) (hS:∀ j,j∈S→j<B):Own B b v c z n:=by
 obtain ⟨h1,h2⟩:=h
 refine ⟨h1,h2.imp id ?_⟩
 rintro ⟨i,e,h0,hm,hb,hi⟩
 exact ⟨i,e,h0,m.get hi (fun hx=>by have:=hS i hx;omega) hm,hb,pz hi m.next⟩
theorem Rd.vO {st:SS} {row:List Value} {z:Nat} (h:row.length=z):Rd (st.new (.cells row z)) (.slice (some ⟨st.next,0,none⟩) 1 1) row z 1:=
 ⟨by rw [h,Nat.one_mul],.inr ⟨st.next,1,rfl,⟨z,SS.fV⟩,by simp⟩⟩
theorem Own.push {b:Nat} {st:SS} {v:Value} {c row:List Value} {z n bt:Nat} (h:Own b st v c z n) (hb:b≤st.next) (hl:st.lim≤b) (hr:row.length=z) (hz:0<z) (h1:row.all one=true) (hs:(n+2)*bt≤2^44) (hn:n+1≤2^44):
  ∃ v' st',(st.new (.cells row z)).app z bt v (.slice (some ⟨st.next,0,none⟩) 1 1)=some (v',st')∧Own b st' v' (c++row) z (n+1)∧(∀ st0,st0.next≤b→Ext st0 st→Ext st0 st')∧st'.lim=st.lim∧st.next≤st'.next∧
   ∀ j,j<st.next→(∀ q,v≠.slice (some ⟨j,0,none⟩) q q)→st'.mem.get j=st.mem.get j:=by
 obtain ⟨v',st',g1,g2,g3,g4,g5,g6⟩:=(h.ext ((Ext.refl st).new (.cells row z))).app (Rd.vO (st:=st) hr) (lT hb (Nat.le_succ _)) hl hz h1 (bt:=bt) (by simpa [Nat.add_assoc] using hs) hn
 exact ⟨v',st',g1,g2,fun st0 h0 he=>g5 st0 h0 (he.new _),g3,lT (Nat.le_succ _) g4,fun j hj hv=>by rw [g6 j (by simp;omega) hv,SS.nM (by omega)]⟩
theorem Own.Vz {b:Nat} {st:SS} {v:Value} {c row:List Value} {z n bt:Nat} (h:Own b st v c z n) (hb:b≤st.next) (hl:st.lim≤b) (hr:row.length=z) (hz:0<z) (h1:row.all one=true) (hs:(n+2)*bt≤2^44) (hn:n+1≤2^44):
  ∃ v' st',(st.new (.cells row z)).app z bt v (.slice (some ⟨st.next,0,none⟩) 1 1)=some (v',st')∧Own b st' v' (c++row) z (n+1)∧st'.lim=st.lim∧st.next≤st'.next∧(∀ j,j<b→st'.mem.get j=st.mem.get j):=by
 obtain ⟨v',st',g1,g2,g3,g4,g5,g6⟩:=h.push hb hl hr hz h1 hs hn
 refine ⟨v',st',g1,g2,g4,g5,fun j hj=>g6 j (by omega) fun q e=>?_⟩
 obtain ⟨_,⟨rfl,_⟩ | ⟨i,rfl,_,_,hbi,_⟩⟩:=h
 ·cases e
 ·cases e;omega
structure Keep (B:Nat) (S:List Nat) (a b:SS):Prop where
 next:a.next≤b.next
 lim:b.lim=a.lim
 keep:∀ j,j<B→j∉S→b.mem.get j=a.mem.get j
section
variable {S : List Nat} {a b c : SS} {B i : Nat}
theorem Keep.refl (a:SS):Keep B S a a:=⟨fF _,rfl,fun _ _ _=>rfl⟩
theorem Keep.then (h:Keep B S a b) (k:Keep B S b c):Keep B S a c:=⟨lT h.next k.next,k.lim.trans h.lim,fun j hj hS=>(k.keep j hj hS).trans (h.keep j hj hS)⟩
theorem Mod.fD (h:Mod S a b) (hB:B≤a.next):Keep B S a b:=⟨h.next,h.lim,fun j hj hS=>h.keep j (by omega) hS⟩
theorem Ext.fD (h:Ext a b) (hB:B≤a.next):Keep B S a b:=⟨h.next,h.lim,fun j hj _=>h.keep j (by omega)⟩
theorem Keep.mod (h:Keep B S a b) (hB:a.next≤B):Mod S a b:=⟨h.next,h.lim,fun j hj hS=>h.keep j (by omega) hS⟩
theorem Keep.mono {B':Nat} {T:List Nat} (h:Keep B S a b) (hB:B'≤B) (hS:∀ j,j∈S→j<B'→j∈T):Keep B' T a b:=⟨h.next,h.lim,fun j hj hT=>h.keep j (by omega) fun hm=>hT (hS j hm hj)⟩
theorem Keep.Bv (h:Keep B S a b) (k:Ext b c) (hB:B≤b.next):Keep B S a c:=h.then (k.fD hB)
theorem Keep.Vf (h:Keep B S a b) (k:Mod S b c) (hB:B≤b.next):Keep B S a c:=h.then (k.fD hB)
theorem Keep.gq (h:Keep B S a b) (k:Mod [i] b c) (hB:B≤b.next) (hi:B≤i∨i∈S):Keep B S a c:=h.then ⟨k.next,k.lim,fun j hj hS=>k.keep j (by omega) fun hm=>by
 have:j=i:=by simpa using hm
 subst this
 rcases hi with hi | hi
 ·omega
 ·exact hS hi⟩
theorem Keep.ll (h:Keep B S a b) (hl:a.lim≤a.next):b.lim≤b.next:=by rw [h.lim];exact lT hl h.next
theorem At.fD {row:List Value} (h:At a i row) (k:Keep B S a b) (hB:i<B) (hi:i∉S):At b i row:=⟨(k.keep i hB hi).trans h.1,pz h.2.1 k.next,by rw [k.lim];exact h.2.2⟩
theorem Own.cell {v:Value} {c:List Value} {z n:Nat} (h:Own B a v c z n):v.cells.toList=[v]∧one v=true:=by
 obtain ⟨_,⟨rfl,_⟩ | ⟨i,rfl,_⟩⟩:=h<;>exact ⟨rfl,rfl⟩
theorem Own.Fa {b:Nat} {st:SS} {v:Value} {c row:List Value} {z n bt:Nat} (h:Own b st v c z n) (hb:b≤st.next) (hl:st.lim≤b) (hr:row.length=z) (hz:0<z) (h1:row.all one=true) (hs:(n+2)*bt≤2^44) (hn:n+1≤2^44):
  ∃ v' st',(st.new (.cells row z)).app z bt v (.slice (some ⟨st.next,0,none⟩) 1 1)=some (v',st')∧Own b st' v' (c++row) z (n+1)∧∀ S,Keep b S st st':=by
 obtain ⟨v',st',g1,g2,g3,g4,g5⟩:=h.Vz hb hl hr hz h1 hs hn
 exact ⟨v',st',g1,g2,fun S=>⟨g4,g3,fun j hj _=>g5 j hj⟩⟩
end
theorem Own.IG {b:Nat} {st:SS} {v:Value} {c row:List Value} {z n bt:Nat} (h:Own b st v c z n) (hb:b≤st.next) (hl:st.lim≤b) (hr:row.length=z) (hz:0<z) (h1:row.all one=true) (hs:(n+2)*bt≤2^44) (hn:n+1≤2^44):
  ∃ k st',(st.new (.cells row z)).app z bt v (.slice (some ⟨st.next,0,none⟩) 1 1)=some (.slice (some ⟨k,0,none⟩) (n+1) (n+1),st')∧st.next≤k∧Own b st' (.slice (some ⟨k,0,none⟩) (n+1) (n+1)) (c++row) z (n+1)∧st'.lim=st.lim∧st.next≤st'.next∧
   ∀ j,j<st.next→(∀ q,v≠.slice (some ⟨j,0,none⟩) q q)→st'.mem.get j=st.mem.get j:=by
 obtain ⟨v',st',g1,g2,g3,g4,g5,g6⟩:=h.push hb hl hr hz h1 hs hn
 have key:∃ k,v'=.slice (some ⟨k,0,none⟩) (n+1) (n+1)∧st.next≤k:=by
  have hx:=Rd.vO (st:=st) hr
  obtain ⟨e1,e2⟩:=hx.first
  unfold SS.app at g1
  rw [e1] at g1
  simp only [bf] at g1
  have hm0:Nat.beq 1 0=false:=rfl
  obtain ⟨h2,h3⟩:=h
  rcases h3 with ⟨rfl,rfl⟩ | ⟨i,rfl,h0,hmem,hbi,hi⟩
  ·have q:(Nat.ble ((1+1)*bt) (2^44)&&Nat.ble 1 (2^44))=true:=by
    simp only [mX,Nat.ble_eq]
    simp only [Nat.zero_add] at hs
    exact ⟨hs,by omega⟩
   simp only [hm0,dn,q,cu,e2,bf] at g1
   cases g1
   exact ⟨_,rfl,by simp⟩
  ·have q:(Nat.ble ((n+1+1)*bt) (2^44)&&Nat.ble (n+1) (2^44)&&Nat.ble (st.new (.cells row z)).lim i)=true:=by
    simp only [mX,Nat.ble_eq]
    exact ⟨⟨hs,hn⟩,by simp;omega⟩
   have q2:(Nat.beq z z&&(Nat.blt n (n+1)||Nat.ble (0+n*z) c.length))=true:=by
    have a:Nat.beq z z=true:=by rw [pW];simp
    have b':Nat.blt n (n+1)=true:=by rw [Nat.blt_eq];omega
    rw [a,b'];rfl
   have hmem':(st.new (.cells row z)).mem.get i=some (.cells c z):=by rw [SS.nM (by omega)];exact hmem
   simp only [hm0,dn,q,cu,hmem',bf,q2,Md h2,e2,h1] at g1
   cases g1
   exact ⟨_,rfl,by simp⟩
 obtain ⟨k,rfl,hk⟩:=key
 exact ⟨k,st',g1,hk,g2,g4,g5,g6⟩
theorem vT {s:SS} {j0 j1 n:Nat} {row0 vO:List Value} (h0:At s j0 row0) (l0:row0.length=n) (h1:At s j1 vO) (l1:vO.length=n) (ho:vO.all one=true):
  ∃ s',s.eF j1 0 n=some (.agg vO.toArray)∧s.eH j0 0 n (.agg vO.toArray)=some s'∧s'.fH j0 0 n=some (.agg vO.toArray)∧Mod [j0] s s'∧At s' j0 vO:=by
 obtain ⟨s',e,a,m,_⟩:=h0.eH (k:=0) (lU vO) l1 ho (row':=vO) (by rw [DY (by omega)];simp [l0,l1])
 exact ⟨s',h1.eF l1,e,a.fH l1,m,a⟩
def ak {α:Type} (f:α→List Value) (l:List α):List Value:=l.flatMap f
section
variable {α : Type} {f : α → List Value} {z : Nat}
theorem FX (a b:List α):ak f (a++b)=ak f a++ak f b:=by simp [ak]
theorem Kr (a:α) (b:List α):ak f (a::b)=f a++ak f b:=by simp [ak]
theorem FV (a:α):ak f [a]=f a:=by simp [ak]
theorem RF (hz:∀ x,(f x).length=z) (l:List α):(ak f l).length=l.length*z:=by
 induction l with
 | nil=>simp [ak]
 | cons a l ih=>rw [Kr,List.length_append,ih,hz,List.length_cons,Nat.add_mul];omega
theorem xw (hz:∀ x,(f x).length=z) (l:List α) (i:Nat) (x:α) (h:l[i]?=some x):((ak f l).drop (i*z)).take z=f x:=by
 induction l generalizing i with
 | nil=>cases h
 | cons a l ih=>
   rw [Kr]
   cases i with
   | zero=>
     have:a=x:=by simpa using h
     subst this
     rw [Nat.zero_mul,List.drop_zero,List.take_append_of_le_length (by rw [hz];omega),List.take_of_length_le (by rw [hz];omega)]
   | succ i=>
     have e:(i+1)*z=(f a).length+i*z:=by rw [hz,Nat.add_mul];omega
     rw [e,List.drop_append,List.drop_of_length_le (by omega),List.nil_append,Nat.add_sub_cancel_left]
     exact ih i (by simpa using h)
end
theorem Tj {i k:Nat} (h:i≤1099511627776) (hk:k≤1099511627776):IntKind.wrap .i64 ((i:Int)+(k:Int))=((i+k:Nat):Int):=by rw [wrap64 (by omega) (by omega)];omega
theorem ru {i:Nat} (h:i≤1099511627776):IntKind.wrap .i64 ((i:Int)+1)=((i+1:Nat):Int):=Tj h (k:=1) (by omega)
end Go.E
namespace Go.Proofs.YtifploedaacedaaGreatDoorE
set_option maxRecDepth 20000
open Go Go.E Go.Proofs
def zhJ:eu:=⟨[(0,.str),(9,.any),(10,.int .i64),(12,.int .i64)],[(.exit 6,[(0,.str),(9,.any),(10,.int .i64),(12,.int .i64)])]⟩
def zhK:eu:=⟨[(0,.str),(9,.any),(10,.int .i64),(11,.int .i64),(12,.int .i64)],[(.exit 4,[(0,.str),(9,.any),(10,.int .i64),(11,.int .i64)])]⟩
def zhL:eu:=⟨[(0,.str),(9,.any),(10,.int .i64),(12,.int .i64)],[(.exit 2,[(0,.str),(9,.any),(10,.int .i64),(12,.int .i64)])]⟩
def zil:eu:=⟨[(0,.str),(3,.int .i64),(4,.int .i64),(5,.int .u8),(6,.int .i64)],[(.exit 0,[(0,.str),(3,.int .i64),(5,.int .u8)])]⟩
def ziA (n:Nat):Option eu:=cond (Nat.beq n 5) (some zil) (cond (Nat.beq n 18) (some zhL) (cond (Nat.beq n 21) (some zhK) (cond (Nat.beq n 27) (some zhJ) (none))))
noncomputable def strings_Fields (cf:fQ) (lf:eX) (s':ByteArray) (st:SS):Option (Value×SS):=
 (lf 5 [.string s',.int .i64 0,.int .i64 1,.int .u8 0,.int .i64 0] st).bind fun a=>
 ((a.2.1[0]?).bind asS).bind fun b=>
 ((a.2.1[1]?).bind (ay .i64)).bind fun c=>
 ((a.2.1[2]?).bind (ay .u8)).bind fun d=>
 cond (decide (128≤d)) (
 (cf 167 [.string b,.func (.func 168) #[] #[]] a.2.2).bind fun e=>
 some (e.1,e.2)) (
 (EO c c 16).bind fun _=>
 let f:SS:=a.2.2.new (.cells (EU [.string ⟨#[]⟩] c) 1)
 (lf 18 [.string b,.slice (some ⟨a.2.2.next,0,none⟩) ((c:Int).toNat) ((c:Int).toNat),.int .i64 0,.int .i64 0] f).bind fun g=>
 ((g.2.1[0]?).bind asS).bind fun h=>
 (g.2.1[1]?).bind fun i=>
 ((g.2.1[2]?).bind (ay .i64)).bind fun j=>
 ((g.2.1[3]?).bind (ay .i64)).bind fun k=>
 (lf 21 [.string h,i,.int .i64 j,.int .i64 k,.int .i64 k] g.2.2).bind fun l=>
 ((l.2.1[0]?).bind asS).bind fun m=>
 (l.2.1[1]?).bind fun n=>
 ((l.2.1[2]?).bind (ay .i64)).bind fun o=>
 ((l.2.1[3]?).bind (ay .i64)).bind fun p=>
 cond (decide (p<(m.size:Int))) (
 (rM m p (m.size:Int)).bind fun q=>
 (fK n o 1).bind fun r=>
 (l.2.2.st r.1 r.2 [.string q]).bind fun s=>
 some (n,s)) (
 some (n,l.2.2)))
noncomputable abbrev Di:eX:=lS Tryz.prog Lk0 Tryz.f149 ziA
theorem znE:Lk0.func 149=some (149,Tryz.f149):=by kernel_rfl
theorem znF [Sym] (s':ByteArray) (st:SS) {r:Value×SS} (h:strings_Fields cc Di s' st=some r):cc 149 [.string s'] st=some r:=
 mF (li:=ziA) gu gy znE rfl (fun _=>rfl) (.trans (by kernel_rfl) h)
noncomputable def zf6 (cf:fQ) (lf:eX) (s':ByteArray) (n':Int) (wasSpace':Int) (tX:Int) (i':Int) (st:SS):Option (Nat×List Value×SS):=
 cond (decide (i'<(s'.size:Int))) (
 ((zI s' i').bind (ay .u8)).bind fun a=>
 let b:Int:=GV .u8 tX a
 (sQ (ptr 2 0) 256 a 1).bind fun c=>
 ((st.ld c.1 c.2).bind (ay .u8)).bind fun d=>
 let e:Int:=IntKind.wrap .i64 d
 let f:Int:=KC .i64 (-1) e
 let g:Int:=LK .i64 wasSpace' f
 let h:Int:=IntKind.wrap .i64 (n'+g)
 let i:Int:=IntKind.wrap .i64 (i'+1)
 lf 5 [.string s',.int .i64 h,.int .i64 e,.int .u8 b,.int .i64 i] st) (
 some (0,[.string s',.int .i64 n',.int .u8 tX],st))
theorem zhp [Sym] (s':ByteArray) (n':Int) (wasSpace':Int) (tX:Int) (i':Int) (st:SS) {r:Nat×List Value×SS} (h:zf6 cc Di s' n' wasSpace' tX i' st=some r):Di 5 [.string s',.int .i64 n',.int .i64 wasSpace',.int .u8 tX,.int .i64 i'] st=some r:=
 oM gu gy (key:=5) (I:=zil) rfl (by kernel_rfl) (by kernel_rfl) rfl rfl (.trans (by kernel_rfl) h)
noncomputable def zfx (cf:fQ) (lf:eX) (s':ByteArray) (a':Value) (na':Int) (i':Int) (st:SS):Option (Nat×List Value×SS):=
 cond (decide (i'<(s'.size:Int))) (
 ((zI s' i').bind (ay .u8)).bind fun a=>
 (sQ (ptr 2 0) 256 a 1).bind fun b=>
 ((st.ld b.1 b.2).bind (ay .u8)).bind fun c=>
 cond (!(decide (c=0))) (
 let d:Int:=IntKind.wrap .i64 (i'+1)
 lf 18 [.string s',a',.int .i64 na',.int .i64 d] st) (
 some (0,[.string s',a',.int .i64 na',.int .i64 i'],st))) (
 some (0,[.string s',a',.int .i64 na',.int .i64 i'],st))
theorem zkK [Sym] (s':ByteArray) (a':Value) (na':Int) (i':Int) (st:SS) {r:Nat×List Value×SS} (h:zfx cc Di s' a' na' i' st=some r):Di 18 [.string s',a',.int .i64 na',.int .i64 i'] st=some r:=
 oM gu gy (key:=18) (I:=zhL) rfl (by kernel_rfl) (by kernel_rfl) rfl rfl (.trans (by kernel_rfl) h)
noncomputable def Y7 (cf:fQ) (lf:eX) (s':ByteArray) (a':Value) (na':Int) (nZ:Int) (i':Int) (st:SS):Option (Nat×List Value×SS):=
 cond (decide (i'<(s'.size:Int))) (
 ((zI s' i').bind (ay .u8)).bind fun a=>
 (sQ (ptr 2 0) 256 a 1).bind fun b=>
 ((st.ld b.1 b.2).bind (ay .u8)).bind fun c=>
 cond (decide (c=0)) (
 let d:Int:=IntKind.wrap .i64 (i'+1)
 lf 21 [.string s',a',.int .i64 na',.int .i64 nZ,.int .i64 d] st) (
 (rM s' nZ i').bind fun e=>
 (fK a' na' 1).bind fun f=>
 (st.st f.1 f.2 [.string e]).bind fun g=>
 let h:Int:=IntKind.wrap .i64 (na'+1)
 let i:Int:=IntKind.wrap .i64 (i'+1)
 (lf 27 [.string s',a',.int .i64 h,.int .i64 i] g).bind fun j=>
 ((j.2.1[0]?).bind asS).bind fun k=>
 (j.2.1[1]?).bind fun l=>
 ((j.2.1[2]?).bind (ay .i64)).bind fun m=>
 ((j.2.1[3]?).bind (ay .i64)).bind fun n=>
 lf 21 [.string k,l,.int .i64 m,.int .i64 n,.int .i64 n] j.2.2)) (
 some (0,[.string s',a',.int .i64 na',.int .i64 nZ],st))
theorem zev [Sym] (s':ByteArray) (a':Value) (na':Int) (nZ:Int) (i':Int) (st:SS) {r:Nat×List Value×SS} (h:Y7 cc Di s' a' na' nZ i' st=some r):Di 21 [.string s',a',.int .i64 na',.int .i64 nZ,.int .i64 i'] st=some r:=
 oM gu gy (key:=21) (I:=zhK) rfl (by kernel_rfl) (by kernel_rfl) rfl rfl (.trans (by kernel_rfl) h)
noncomputable def zfy (cf:fQ) (lf:eX) (s':ByteArray) (a':Value) (na':Int) (i':Int) (st:SS):Option (Nat×List Value×SS):=
 cond (decide (i'<(s'.size:Int))) (
 ((zI s' i').bind (ay .u8)).bind fun a=>
 (sQ (ptr 2 0) 256 a 1).bind fun b=>
 ((st.ld b.1 b.2).bind (ay .u8)).bind fun c=>
 cond (!(decide (c=0))) (
 let d:Int:=IntKind.wrap .i64 (i'+1)
 lf 27 [.string s',a',.int .i64 na',.int .i64 d] st) (
 some (0,[.string s',a',.int .i64 na',.int .i64 i'],st))) (
 some (0,[.string s',a',.int .i64 na',.int .i64 i'],st))
theorem zkL [Sym] (s':ByteArray) (a':Value) (na':Int) (i':Int) (st:SS) {r:Nat×List Value×SS} (h:zfy cc Di s' a' na' i' st=some r):Di 27 [.string s',a',.int .i64 na',.int .i64 i'] st=some r:=
 oM gu gy (key:=27) (I:=zhJ) rfl (by kernel_rfl) (by kernel_rfl) rfl rfl (.trans (by kernel_rfl) h)
noncomputable def zrV (cf:fQ) (lf:eX) (s':ByteArray) (st:SS):Option (Value×SS):=
 (cf 149 [.string s'] st).bind fun a=>
 some (a.1,a.2)
noncomputable abbrev zsB:eX:=lS Tryz.prog Lk0 Tryz.f136 lQ
theorem zsC:Lk0.func 136=some (136,Tryz.f136):=by kernel_rfl
theorem zsD [Sym] (s':ByteArray) (st:SS) {r:Value×SS} (h:zrV cc zsB s' st=some r):cc 136 [.string s'] st=some r:=
 mF (li:=lQ) gu gy zsC rfl (fun _=>rfl) (.trans (by kernel_rfl) h)
noncomputable def GH (cf:fQ) (lf:eX) (field':ByteArray) (st:SS):Option (Value×SS):=
 cond (fA field' ⟨#[97,108,117]⟩) (
 (cf 136 [.string ⟨#[110,111,110,101,32,109,111,118,32,110,111,116,32,110,101,103,32,105,110,99,32,100,101,99,32,97,100,100,32,115,117,98,32,97,100,100,99,32,115,117,98,99,32,109,117,108,32,100,105,118,32,111,114,32,98,105,99,32,120,111,114,32,97,110,100,32,99,109,112,32,116,101,115,116,32,99,108,101,97,114,32,115,120,98,32,115,120,119,32,122,120,98,32,122,120,119,32,115,104,108,32,115,104,114,32,97,115,104,32,114,111,116,32,111,112,32,115,120,111,32,101,120,116,32,105,110,115,32,99,118,116]⟩] st).bind fun a=>
 some (a.1,a.2)) (
 cond (fA field' ⟨#[97]⟩) (
 cond (fA field' ⟨#[97]⟩) (
 (cf 136 [.string ⟨#[114,48,32,114,49,32,114,50,32,114,51,32,114,52,32,114,53,32,114,54,32,114,55,32,114,56,32,114,57,32,114,49,48,32,114,49,49,32,114,49,50,32,114,49,51,32,114,49,52,32,114,49,53,32,116,48,32,116,49,32,116,50,32,116,51,32,116,52,32,116,53,32,116,54,32,116,55,32,118,48,32,118,49,32,118,50,32,118,51,32,118,52,32,118,53,32,97,48,32,97,49,32,97,50,32,97,51,32,97,52,32,97,53,32,109,100,32,118,97,32,112,115,108,32,114,110,32,114,120,32,108,105,116,32,122,101,114,111,32,118,101,99,32,112,48,32,112,49,32,115,116,97,114,116,32,115,99,98,98,32,107,115,112,32,117,115,112,32,100,105,115,112,32,111,115,105,122,101,32,105,108,101,110,32,108,101,118,101,108,32,118,99,32,97,99,32,97,108,32,107,108,32,99,110,116,32,110,112]⟩] st).bind fun b=>
 some (b.1,b.2)) (
 cond (fA field' ⟨#[115,105,122,101]⟩) (
 (cf 136 [.string ⟨#[98,121,116,101,32,119,111,114,100,32,108,111,110,103,32,111,119,110]⟩] st).bind fun c=>
 some (c.1,c.2)) (
 cond (fA field' ⟨#[99,99]⟩) (
 (cf 136 [.string ⟨#[107,101,101,112,32,115,101,116,32,115,101,116,107]⟩] st).bind fun d=>
 some (d.1,d.2)) (
 cond (fA field' ⟨#[109,101,109]⟩) (
 (cf 136 [.string ⟨#[110,111,110,101,32,114,100,32,119,114,32,112,114,111,98,101,32,98,108,100,32,98,115,116,32,98,112,117,116,32,98,103,101,116,32,98,99,108,114,32,105,102,32,114,100,112,32,107,115,116,32,114,111,119,32,117,110,114,111,119,32,114,111,119,97,32,102,108,117,115,104]⟩] st).bind fun e=>
 some (e.1,e.2)) (
 cond (fA field' ⟨#[115,101,113]⟩) (
 (cf 136 [.string ⟨#[110,101,120,116,32,106,109,112,32,99,106,32,99,97,108,108,32,114,101,116,32,115,112,101,99,32,109,111,100,101,32,101,110,100]⟩] st).bind fun f=>
 some (f.1,f.2)) (
 cond (fA field' ⟨#[99,111,110,100]⟩) (
 (cf 136 [.string ⟨#[97,108,119,97,121,115,32,122,32,110,122,32,110,101,103,32,112,111,115,32,99,32,110,99,32,117,115,101,114,32,107,101,114,110,101,108,32,102,112,100,32,110,111,102,112,100,32,116,97,107,101,110,32,109,97,116,99,104,32,107,49,32,107,50,32,107,51,32,108,97,115,116,114,101,103,32,102,32,114,101,97,100,115,32,105,110,100,101,120,32,100,105,118,32,108,101,115,115,97,108,117,32,97,108,117,49,32,115,116,114,105,110,103,32,110,111,105,110,100,101,120,32,110,111,114,101,97,100,115,32,111,118,101,114]⟩] st).bind fun g=>
 some (g.1,g.2)) (
 cond (fA field' ⟨#[109,105,115,99]⟩) (
 (cf 136 [.string ⟨#[110,111,110,101,32,115,116,101,112,32,117,110,100,111,32,115,101,116,102,112,100,32,99,108,114,102,112,100,32,114,97,105,115,101,32,108,97,116,99,104,107,32,108,97,116,99,104,120,32,109,116,112,114,32,109,102,112,114,32,101,110,116,101,114,32,112,117,116,112,115,108,32,104,97,108,116,32,98,97,99,107,32,100,101,99,111,100,101,32,115,101,108,32,115,101,108,107,32,111,119,110,108,97,115,116,32,112,105,99,107,32,112,105,99,107,116,111,112,32,112,97,114,97,109,115,32,99,111,117,110,116]⟩] st).bind fun h=>
 some (h.1,h.2)) (
 some (.slice none 0 0,st))))))))) (
 cond (fA field' ⟨#[98]⟩) (
 cond (fA field' ⟨#[98]⟩) (
 (cf 136 [.string ⟨#[114,48,32,114,49,32,114,50,32,114,51,32,114,52,32,114,53,32,114,54,32,114,55,32,114,56,32,114,57,32,114,49,48,32,114,49,49,32,114,49,50,32,114,49,51,32,114,49,52,32,114,49,53,32,116,48,32,116,49,32,116,50,32,116,51,32,116,52,32,116,53,32,116,54,32,116,55,32,118,48,32,118,49,32,118,50,32,118,51,32,118,52,32,118,53,32,97,48,32,97,49,32,97,50,32,97,51,32,97,52,32,97,53,32,109,100,32,118,97,32,112,115,108,32,114,110,32,114,120,32,108,105,116,32,122,101,114,111,32,118,101,99,32,112,48,32,112,49,32,115,116,97,114,116,32,115,99,98,98,32,107,115,112,32,117,115,112,32,100,105,115,112,32,111,115,105,122,101,32,105,108,101,110,32,108,101,118,101,108,32,118,99,32,97,99,32,97,108,32,107,108,32,99,110,116,32,110,112]⟩] st).bind fun i=>
 some (i.1,i.2)) (
 cond (fA field' ⟨#[115,105,122,101]⟩) (
 (cf 136 [.string ⟨#[98,121,116,101,32,119,111,114,100,32,108,111,110,103,32,111,119,110]⟩] st).bind fun j=>
 some (j.1,j.2)) (
 cond (fA field' ⟨#[99,99]⟩) (
 (cf 136 [.string ⟨#[107,101,101,112,32,115,101,116,32,115,101,116,107]⟩] st).bind fun k=>
 some (k.1,k.2)) (
 cond (fA field' ⟨#[109,101,109]⟩) (
 (cf 136 [.string ⟨#[110,111,110,101,32,114,100,32,119,114,32,112,114,111,98,101,32,98,108,100,32,98,115,116,32,98,112,117,116,32,98,103,101,116,32,98,99,108,114,32,105,102,32,114,100,112,32,107,115,116,32,114,111,119,32,117,110,114,111,119,32,114,111,119,97,32,102,108,117,115,104]⟩] st).bind fun l=>
 some (l.1,l.2)) (
 cond (fA field' ⟨#[115,101,113]⟩) (
 (cf 136 [.string ⟨#[110,101,120,116,32,106,109,112,32,99,106,32,99,97,108,108,32,114,101,116,32,115,112,101,99,32,109,111,100,101,32,101,110,100]⟩] st).bind fun m=>
 some (m.1,m.2)) (
 cond (fA field' ⟨#[99,111,110,100]⟩) (
 (cf 136 [.string ⟨#[97,108,119,97,121,115,32,122,32,110,122,32,110,101,103,32,112,111,115,32,99,32,110,99,32,117,115,101,114,32,107,101,114,110,101,108,32,102,112,100,32,110,111,102,112,100,32,116,97,107,101,110,32,109,97,116,99,104,32,107,49,32,107,50,32,107,51,32,108,97,115,116,114,101,103,32,102,32,114,101,97,100,115,32,105,110,100,101,120,32,100,105,118,32,108,101,115,115,97,108,117,32,97,108,117,49,32,115,116,114,105,110,103,32,110,111,105,110,100,101,120,32,110,111,114,101,97,100,115,32,111,118,101,114]⟩] st).bind fun n=>
 some (n.1,n.2)) (
 cond (fA field' ⟨#[109,105,115,99]⟩) (
 (cf 136 [.string ⟨#[110,111,110,101,32,115,116,101,112,32,117,110,100,111,32,115,101,116,102,112,100,32,99,108,114,102,112,100,32,114,97,105,115,101,32,108,97,116,99,104,107,32,108,97,116,99,104,120,32,109,116,112,114,32,109,102,112,114,32,101,110,116,101,114,32,112,117,116,112,115,108,32,104,97,108,116,32,98,97,99,107,32,100,101,99,111,100,101,32,115,101,108,32,115,101,108,107,32,111,119,110,108,97,115,116,32,112,105,99,107,32,112,105,99,107,116,111,112,32,112,97,114,97,109,115,32,99,111,117,110,116]⟩] st).bind fun o=>
 some (o.1,o.2)) (
 some (.slice none 0 0,st))))))))) (
 cond (fA field' ⟨#[100]⟩) (
 (cf 136 [.string ⟨#[114,48,32,114,49,32,114,50,32,114,51,32,114,52,32,114,53,32,114,54,32,114,55,32,114,56,32,114,57,32,114,49,48,32,114,49,49,32,114,49,50,32,114,49,51,32,114,49,52,32,114,49,53,32,116,48,32,116,49,32,116,50,32,116,51,32,116,52,32,116,53,32,116,54,32,116,55,32,118,48,32,118,49,32,118,50,32,118,51,32,118,52,32,118,53,32,97,48,32,97,49,32,97,50,32,97,51,32,97,52,32,97,53,32,109,100,32,118,97,32,112,115,108,32,114,110,32,114,120,32,108,105,116,32,122,101,114,111,32,118,101,99,32,112,48,32,112,49,32,115,116,97,114,116,32,115,99,98,98,32,107,115,112,32,117,115,112,32,100,105,115,112,32,111,115,105,122,101,32,105,108,101,110,32,108,101,118,101,108,32,118,99,32,97,99,32,97,108,32,107,108,32,99,110,116,32,110,112]⟩] st).bind fun p=>
 some (p.1,p.2)) (
 cond (fA field' ⟨#[115,105,122,101]⟩) (
 (cf 136 [.string ⟨#[98,121,116,101,32,119,111,114,100,32,108,111,110,103,32,111,119,110]⟩] st).bind fun q=>
 some (q.1,q.2)) (
 cond (fA field' ⟨#[99,99]⟩) (
 (cf 136 [.string ⟨#[107,101,101,112,32,115,101,116,32,115,101,116,107]⟩] st).bind fun r=>
 some (r.1,r.2)) (
 cond (fA field' ⟨#[109,101,109]⟩) (
 (cf 136 [.string ⟨#[110,111,110,101,32,114,100,32,119,114,32,112,114,111,98,101,32,98,108,100,32,98,115,116,32,98,112,117,116,32,98,103,101,116,32,98,99,108,114,32,105,102,32,114,100,112,32,107,115,116,32,114,111,119,32,117,110,114,111,119,32,114,111,119,97,32,102,108,117,115,104]⟩] st).bind fun s=>
 some (s.1,s.2)) (
 cond (fA field' ⟨#[115,101,113]⟩) (
 (cf 136 [.string ⟨#[110,101,120,116,32,106,109,112,32,99,106,32,99,97,108,108,32,114,101,116,32,115,112,101,99,32,109,111,100,101,32,101,110,100]⟩] st).bind fun t=>
 some (t.1,t.2)) (
 cond (fA field' ⟨#[99,111,110,100]⟩) (
 (cf 136 [.string ⟨#[97,108,119,97,121,115,32,122,32,110,122,32,110,101,103,32,112,111,115,32,99,32,110,99,32,117,115,101,114,32,107,101,114,110,101,108,32,102,112,100,32,110,111,102,112,100,32,116,97,107,101,110,32,109,97,116,99,104,32,107,49,32,107,50,32,107,51,32,108,97,115,116,114,101,103,32,102,32,114,101,97,100,115,32,105,110,100,101,120,32,100,105,118,32,108,101,115,115,97,108,117,32,97,108,117,49,32,115,116,114,105,110,103,32,110,111,105,110,100,101,120,32,110,111,114,101,97,100,115,32,111,118,101,114]⟩] st).bind fun u=>
 some (u.1,u.2)) (
 cond (fA field' ⟨#[109,105,115,99]⟩) (
 (cf 136 [.string ⟨#[110,111,110,101,32,115,116,101,112,32,117,110,100,111,32,115,101,116,102,112,100,32,99,108,114,102,112,100,32,114,97,105,115,101,32,108,97,116,99,104,107,32,108,97,116,99,104,120,32,109,116,112,114,32,109,102,112,114,32,101,110,116,101,114,32,112,117,116,112,115,108,32,104,97,108,116,32,98,97,99,107,32,100,101,99,111,100,101,32,115,101,108,32,115,101,108,107,32,111,119,110,108,97,115,116,32,112,105,99,107,32,112,105,99,107,116,111,112,32,112,97,114,97,109,115,32,99,111,117,110,116]⟩] st).bind fun v=>
 some (v.1,v.2)) (
 some (.slice none 0 0,st)))))))))))
noncomputable abbrev zqZ:eX:=lS Tryz.prog Lk0 Tryz.f117 lQ
theorem zq0:Lk0.func 117=some (117,Tryz.f117):=by kernel_rfl
theorem Hw [Sym] (field':ByteArray) (st:SS) {r:Value×SS} (h:GH cc zqZ field' st=some r):cc 117 [.string field'] st=some r:=
 mF (li:=lQ) gu gy zq0 rfl (fun _=>rfl) (.trans (by kernel_rfl) h)
noncomputable def MJ (cf:fQ) (lf:eX) (w':Value) (lD:Int) (st:SS):Option (Value×SS):=
 let a:SS:=st.new (.cells (w':Value).cells.toList 0)
 ((a.ld st.next 8).bind (ay .i64)).bind fun b=>
 cond (decide (b=0)) (
 let c:Int:=IntKind.wrap .i64 (lD+1)
 let d:SS:=a.new (.cells ([.int .i64 c,.int .i64 1]) 2)
 some (.slice (some ⟨a.next,0,none⟩) 1 1,d)) (
 cond (decide (b=1)) (
 ((a.ld st.next 10).bind (ay .i64)).bind fun e=>
 let f:SS:=a.new (.cells ([.int .i64 e,.int .i64 1]) 2)
 some (.slice (some ⟨a.next,0,none⟩) 1 1,f)) (
 cond (decide (b=2)) (
 cond (decide (b=2)) (
 let g:Int:=IntKind.wrap .i64 (lD+1)
 ((a.ld st.next 10).bind (ay .i64)).bind fun h=>
 let i:SS:=a.new (.cells ([.int .i64 g,.int .i64 1,.int .i64 h,.int .i64 1]) 2)
 some (.slice (some ⟨a.next,0,none⟩) 2 2,i)) (
 cond (decide (b=5)) (
 ((a.ld st.next 10).bind (ay .i64)).bind fun j=>
 let k:SS:=a.new (.cells ([.int .i64 j,.int .i64 64]) 2)
 some (.slice (some ⟨a.next,0,none⟩) 1 1,k)) (
 cond (decide (b=6)) (
 ((a.ld st.next 10).bind (ay .i64)).bind fun l=>
 let m:SS:=a.new (.cells ([.int .i64 l,.int .i64 16]) 2)
 some (.slice (some ⟨a.next,0,none⟩) 1 1,m)) (
 some (.slice none 0 0,a))))) (
 cond (decide (b=3)) (
 let n:Int:=IntKind.wrap .i64 (lD+1)
 ((a.ld st.next 10).bind (ay .i64)).bind fun o=>
 let p:SS:=a.new (.cells ([.int .i64 n,.int .i64 1,.int .i64 o,.int .i64 1]) 2)
 some (.slice (some ⟨a.next,0,none⟩) 2 2,p)) (
 cond (decide (b=5)) (
 ((a.ld st.next 10).bind (ay .i64)).bind fun q=>
 let r:SS:=a.new (.cells ([.int .i64 q,.int .i64 64]) 2)
 some (.slice (some ⟨a.next,0,none⟩) 1 1,r)) (
 cond (decide (b=6)) (
 ((a.ld st.next 10).bind (ay .i64)).bind fun s=>
 let t:SS:=a.new (.cells ([.int .i64 s,.int .i64 16]) 2)
 some (.slice (some ⟨a.next,0,none⟩) 1 1,t)) (
 some (.slice none 0 0,a)))))))
noncomputable abbrev zq1:eX:=lS Tryz.prog Lk0 Tryz.f62 lQ
theorem zq2:Lk0.func 62=some (62,Tryz.f62):=by kernel_rfl
theorem OD [Sym] (w':Value) (lD:Int) (st:SS) {r:Value×SS} (h:MJ cc zq1 w' lD st=some r):cc 62 [w',.int .i64 lD] st=some r:=
 mF (li:=lQ) gu gy zq2 rfl (fun _=>rfl) (.trans (by kernel_rfl) h)
end Go.Proofs.YtifploedaacedaaGreatDoorE
namespace Go.Proofs.YtifploedaacedaaGreatDoorE
open Go Go.E Go.Proofs
def Simple (l:List UInt8):Bool:=l.all (fun b=>decide (b.toNat<128)&&(!Lib.isSp b||decide (b=32))&&(Lib.isSp b||decide (b≠32)))&&(pieces 32 l).all (fun p=>!p.isEmpty)
theorem Simple.byte {l:List UInt8} (h:Simple l=true) {b:UInt8} (hb:b∈l):b.toNat<128∧Lib.isSp b=decide (b=32):=by
 unfold Simple at h
 rw [mX] at h
 have:=List.all_eq_true.1 h.1 b hb
 simp only [mX,decide_eq_true_eq,Bool.or_eq_true,Bool.not_eq_true'] at this
 refine ⟨this.1.1,?_⟩
 rcases this.1.2 with h1 | h1
 ·rw [h1]
  rcases this.2 with h2 | h2
  ·rw [h1] at h2;cases h2
  ·rw [bg h2]
 ·rw [zdt h1]
  rcases this.2 with h2 | h2
  ·exact h2
  ·exact absurd h1 h2
theorem Simple.piece {l:List UInt8} (h:Simple l=true) {p:List UInt8} (hp:p∈pieces 32 l):p≠[]:=by
 unfold Simple at h
 rw [mX] at h
 have:=List.all_eq_true.1 h.2 p hp
 intro e
 subst e
 cases this
def JQ:Bool→List UInt8→Nat
 | _,[]=>0
 | ws,b::r=>(if ws=true∧b≠32 then 1 else 0)+JQ (decide (b=32)) r
theorem zsE (l:List UInt8) (h:∀ p∈(pieces 32 l).tail,p≠[]):JQ false l+1=(pieces 32 l).length∧((pieces 32 l).head?≠some []→JQ true l=(pieces 32 l).length):=by
 induction l with
 | nil=>exact ⟨rfl,fun h=>absurd rfl h⟩
 | cons b r ih=>
   rw [YR] at h ⊢
   by_cases hb:b=32
   ·subst hb
    rw [if_pos rfl] at h ⊢
    have h2:∀ p∈pieces 32 r,p≠[]:=h
    have hne:=MF 32 r
    have ih':=ih fun p hp=>h2 p (List.mem_of_mem_tail hp)
    have hh:(pieces 32 r).head?≠some []:=by
     cases hp:pieces 32 r with
     | nil=>exact absurd hp hne
     | cons x y=>rw [hp] at h2;intro e;simp at e;exact h2 x (by simp) e
    refine ⟨?_,fun hc=>absurd rfl hc⟩
    show (if _ then _ else _)+JQ (decide ((32:UInt8)=32)) r+1=_
    rw [zdt rfl,ih'.2 hh]
    simp
   ·rw [if_neg hb] at h ⊢
    cases hp:pieces 32 r with
    | nil=>exact absurd hp (MF 32 r)
    | cons x y=>
      rw [hp] at h ih
      have ih':=ih h
      have e:decide (b=32)=false:=bg hb
      refine ⟨?_,fun _=>?_⟩
      ·show (if _ then _ else _)+JQ (decide (b=32)) r+1=_
       rw [e]
       simp at ih' ⊢
       omega
      ·show (if _ then _ else _)+JQ (decide (b=32)) r=_
       rw [e,if_pos ⟨rfl,hb⟩]
       simp at ih' ⊢
       omega
theorem Yi {i k len z n:Nat} (h:n<len):sQ (ptr i k) len (n:Int) z=some (i,k+n*z):=by
 have h1:(0:Int)≤(n:Int):=by omega
 have h2:(n:Int)<(len:Int):=by omega
 unfold ptr sQ
 simp only [zdt h1,zdt h2,Bool.and_self,cu,Int.toNat_natCast]
theorem Yh {st:SS} (hg:Gd st) {b:UInt8}:st.ld 2 (0+b.toNat*1)=some (.int .u8 (if Lib.isSp b=true then 1 else 0)):=by
 rw [SS.Dy hg.gS]
 have hb:=b.toNat_lt
 have e:0+b.toNat*1=b.toNat:=by omega
 unfold EH Lib.asciiSpaceTab
 rw [e,List.getElem?_map,List.getElem?_map,List.getElem?_range hb]
 simp
theorem zxR {a b:Nat} (ha:a<128) (hb:b<128):∃ c:Nat,GV .u8 (a:Int) (b:Int)=(c:Int)∧c<128:=by
 refine ⟨a||| b,?_,Nat.or_lt_two_pow (n:=7) ha hb⟩
 have h:a||| b<128:=Nat.or_lt_two_pow (n:=7) ha hb
 unfold GV
 have e:((BitVec.ofInt 8 (a:Int)||| BitVec.ofInt 8 (b:Int)).toNat:Nat)=a||| b:=by
  rw [BitVec.toNat_or,BitVec.toNat_ofInt,BitVec.toNat_ofInt]
  congr 1<;>omega
 show IntKind.wrap .u8 (((BitVec.ofInt 8 (a:Int)||| BitVec.ofInt 8 (b:Int)).toNat:Nat):Int)=_
 rw [e,J4 (by omega) (by omega)]
theorem zwN (w x:Bool):LK .i64 (if w=true then 1 else 0) (KC .i64 (-1) (if x=true then 1 else 0))=if w=true∧x=false then 1 else 0:=by
 cases w<;>cases x<;>decide
theorem zsF [Sym] (s:ByteArray) (hs:s.size≤4294967296) (vP:Simple (bl s)=true) (st:SS) (hg:Gd st):∀ (k i n sb:Nat) (ws:Bool),s.size=k+i→sb<128→n≤i→
  ∃ sb',sb'<128∧Di 5 [.string s,.int .i64 n,.int .i64 (if ws=true then 1 else 0),.int .u8 sb,.int .i64 i] st=some (0,[.string s,.int .i64 ((n+JQ ws ((bl s).drop i):Nat):Int),.int .u8 ((sb':Nat):Int)],st):=by
 intro k
 induction k with
 | zero=>
   intro i n sb ws hk hsb hn
   have hlt:¬ (i:Int)<(s.size:Int):=by omega
   refine ⟨sb,hsb,zhp s _ _ _ _ st ?_⟩
   rw [List.drop_of_length_le (by rw [tC];omega)]
   simp only [zf6,bg hlt,dn]
   rfl
 | succ k ih=>
   intro i n sb ws hk hsb hn
   obtain ⟨b,hb⟩:∃ b,(bl s)[i]?=some b:=⟨_,mW (by rw [tC];omega)⟩
   have hlt:(i:Int)<(s.size:Int):=by omega
   obtain ⟨LH,QI⟩:=Simple.byte vP (xH hb)
   obtain ⟨c,hc1,hc2⟩:=zxR hsb LH
   have he:sQ (ptr 2 0) 256 (b.toNat:Int) 1=some (2,0+b.toNat*1):=Yi (by have:=b.toNat_lt;omega)
   have hl:=Yh hg (b:=b)
   rw [QI] at hl
   have hw:IntKind.wrap .i64 (if decide (b=32)=true then (1:Int) else 0)=(if decide (b=32)=true then 1 else 0):=by cases decide (b=32)<;>decide
   have hn1:IntKind.wrap .i64 ((n:Int)+(if ws=true∧decide (b=32)=false then 1 else 0))=((n+(if ws=true∧b≠32 then 1 else 0):Nat):Int):=by
    have e:(ws=true∧decide (b=32)=false)↔(ws=true∧b≠32):=by simp
    by_cases h:ws=true∧b≠32
    ·rw [if_pos (e.2 h),if_pos h,wrap64 (by omega) (by omega)];omega
    ·rw [if_neg (fun x=>h (e.1 x)),if_neg h,wrap64 (by omega) (by omega)];omega
   obtain ⟨sb',h1,h2⟩:=ih (i+1) (n+(if ws=true∧b≠32 then 1 else 0)) c (decide (b=32)) (by omega) hc2 (by split<;>omega)
   refine ⟨sb',h1,zhp s _ _ _ _ st ?_⟩
   have hd:=drop_cons hb
   have hcnt:n+JQ ws ((bl s).drop i)=n+(if ws=true∧b≠32 then 1 else 0)+JQ (decide (b=32)) ((bl s).drop (i+1)):=by
    rw [hd]
    show n+((if ws=true∧b≠32 then 1 else 0)+_)=_
    omega
   rw [hcnt]
   simp only [zf6,zdt hlt,cu,Oh hb,bf,hc1,he,hl,eP,zwN,hw,hn1,ru (show i≤1099511627776 by omega)]
   exact h2
theorem zxS [Sym] (s:ByteArray) (hs:s.size≤4294967296) (vP:Simple (bl s)=true) (st:SS) (hg:Gd st) (a:Value) (na:Int) (i:Nat) (h:∀ b,(bl s)[i]?=some b→b≠32):
  Di 18 [.string s,a,.int .i64 na,.int .i64 i] st=some (0,[.string s,a,.int .i64 na,.int .i64 i],st):=by
 refine zkK s a _ _ st ?_
 by_cases hlt:(i:Int)<(s.size:Int)
 ·obtain ⟨b,hb⟩:∃ b,(bl s)[i]?=some b:=⟨_,mW (by rw [tC];omega)⟩
  obtain ⟨LH,QI⟩:=Simple.byte vP (xH hb)
  have he:sQ (ptr 2 0) 256 (b.toNat:Int) 1=some (2,0+b.toNat*1):=Yi (by have:=b.toNat_lt;omega)
  have hl:=Yh hg (b:=b)
  rw [QI,bg (h b hb),if_neg (by decide)] at hl
  simp only [zfx,zdt hlt,cu,Oh hb,bf,he,hl,eP,decide_true,lY,dn]
 ·simp only [zfx,bg hlt,dn]
theorem zxT [Sym] (s:ByteArray) (hs:s.size≤4294967296) (vP:Simple (bl s)=true) (st:SS) (hg:Gd st) (a:Value) (na:Int) (i:Nat) (h:∀ b,(bl s)[i]?=some b→b≠32):
  Di 27 [.string s,a,.int .i64 na,.int .i64 i] st=some (0,[.string s,a,.int .i64 na,.int .i64 i],st):=by
 refine zkL s a _ _ st ?_
 by_cases hlt:(i:Int)<(s.size:Int)
 ·obtain ⟨b,hb⟩:∃ b,(bl s)[i]?=some b:=⟨_,mW (by rw [tC];omega)⟩
  obtain ⟨LH,QI⟩:=Simple.byte vP (xH hb)
  have he:sQ (ptr 2 0) 256 (b.toNat:Int) 1=some (2,0+b.toNat*1):=Yi (by have:=b.toNat_lt;omega)
  have hl:=Yh hg (b:=b)
  rw [QI,bg (h b hb),if_neg (by decide)] at hl
  simp only [zfy,zdt hlt,cu,Oh hb,bf,he,hl,eP,decide_true,lY,dn]
 ·simp only [zfy,bg hlt,dn]
theorem zt2 [Sym] (s:ByteArray) (hs:s.size≤4294967296) (vP:Simple (bl s)=true) (N j:Nat) (hN:N=(pieces 32 (bl s)).length) (st0:SS) (hg:Gd st0) (hj0:st0.next≤j):∀ (k i f:Nat) (done:List (List UInt8)) (st:SS),s.size=k+i→f≤i→
  done++ES (((bl s).drop f).take (i-f)) (pieces 32 ((bl s).drop i))=pieces 32 (bl s)→Ext st0 st→j<st.next→st.lim≤j→st.mem.get j=some (.cells (strs done++List.replicate (N-done.length) (Value.string ⟨#[]⟩)) 1)→
  ∃ f' done' st',Di 21 [.string s,.slice (some ⟨j,0,none⟩) N N,.int .i64 done.length,.int .i64 f,.int .i64 i] st=some (0,[.string s,.slice (some ⟨j,0,none⟩) N N,.int .i64 ((done'.length:Nat):Int),.int .i64 ((f':Nat):Int)],st')∧
   Ext st0 st'∧st'.next=st.next∧st'.lim=st.lim∧done'++[(bl s).drop f']=pieces 32 (bl s)∧f'≤s.size∧st'.mem.get j=some (.cells (strs done'++List.replicate (N-done'.length) (Value.string ⟨#[]⟩)) 1):=by
 have DC:=pieces_len 32 (bl s)
 rw [tC] at DC
 intro k
 induction k with
 | zero=>
   intro i f done st hk hf hp he hj hlim hm
   have hlt:¬ (i:Int)<(s.size:Int):=by omega
   refine ⟨f,done,st,zev s _ _ _ _ st ?_,he,rfl,rfl,?_,by omega,hm⟩
   ·simp only [Y7,bg hlt,dn]
   ·rw [← hp,List.drop_of_length_le (i:=i) (by rw [tC];omega)]
    show done++[_]=done++[_++[]]
    rw [List.append_nil,List.take_of_length_le (by rw [List.length_drop,tC];omega)]
 | succ k ih=>
   intro i f done st hk hf hp he hj hlim hm
   obtain ⟨b,hb⟩:∃ b,(bl s)[i]?=some b:=⟨_,mW (by rw [tC];omega)⟩
   have hlt:(i:Int)<(s.size:Int):=by omega
   obtain ⟨LH,QI⟩:=Simple.byte vP (xH hb)
   have hea:sQ (ptr 2 0) 256 (b.toNat:Int) 1=some (2,0+b.toNat*1):=Yi (by have:=b.toNat_lt;omega)
   have hl:=Yh (hg.ext he) (b:=b)
   rw [QI] at hl
   have hd:=drop_cons hb
   have hw:=ru (show i≤1099511627776 by omega)
   by_cases h32:b=32
   ·rw [zdt h32,if_pos rfl] at hl
    rw [hd,YR,if_pos h32] at hp
    have hp':done++((((bl s).drop f).take (i-f))++[])::pieces 32 ((bl s).drop (i+1))=pieces 32 (bl s):=hp
    rw [List.append_nil] at hp'
    have hdl:done.length<N:=by
     have:=congrArg List.length hp'
     simp at this
     omega
    have hsub:rM s (f:Int) (i:Int)=some (mkS (((bl s).drop f).take (i-f))):=by
     have:=Om (s:=s) (col:=f) (n:=i-f) (by omega)
     rw [show f+(i-f)=i by omega] at this
     exact this
    have hel:fK (.slice (some ⟨j,0,none⟩) N N) (done.length:Int) 1=some (j,0+done.length*1):=by
     unfold fK
     have h1:(0:Int)≤(done.length:Int):=by omega
     have h2:(done.length:Int)<(N:Int):=by omega
     simp only [zdt h1,zdt h2,Bool.and_self,cu,Int.toNat_natCast]
    have hst:st.st j (0+done.length*1) [.string (mkS (((bl s).drop f).take (i-f)))]=some (st.set j (some (.cells (strs (done++[((bl s).drop f).take (i-f)])++List.replicate (N-(done.length+1)) (Value.string ⟨#[]⟩)) 1))):=by
     refine SS.mM hm hlim rfl ?_
     obtain ⟨q,hq⟩:∃ q,N-done.length=q+1:=⟨N-done.length-1,by omega⟩
     have hq2:N-(done.length+1)=q:=by omega
     rw [hq,hq2,DY (by simp [strs])]
     have:=zoo done q (((bl s).drop f).take (i-f))
     rw [show 0+done.length*1=done.length by omega]
     exact congrArg some this
    have hx:Ext st0 (st.set j (some (.cells (strs (done++[((bl s).drop f).take (i-f)])++List.replicate (N-(done.length+1)) (Value.string ⟨#[]⟩)) 1))):=he.set hj0 _
    have hnext:∀ b',(bl s)[i+1]?=some b'→b'≠32:=by
     intro b' hb' e
     have hd':=drop_cons hb'
     rw [hd',e,YR,if_pos rfl] at hp'
     exact Simple.piece vP (p:=[]) (by rw [← hp'];simp) rfl
    have hsk:=zxT s hs vP _ (hg.ext hx) (.slice (some ⟨j,0,none⟩) N N) ((done.length+1:Nat):Int) (i+1) hnext
    obtain ⟨f',done',st',d1,d2,d3,d4,d5,d6,d7⟩:=ih (i+1) (i+1) (done++[((bl s).drop f).take (i-f)]) (st.set j (some (.cells (strs (done++[((bl s).drop f).take (i-f)])++List.replicate (N-(done.length+1)) (Value.string ⟨#[]⟩)) 1))) (by omega) (fF _) (by
      rw [Nat.sub_self,List.take_zero,YE (MF _ _),List.append_assoc];exact hp') hx hj hlim (by simp)
    have hdw:=ru (show done.length≤1099511627776 by omega)
    have h10:¬ (1:Int)=0:=by omega
    refine ⟨f',done',st',zev s _ _ _ _ st ?_,d2,d3,d4,d5,d6,d7⟩
    simp only [Y7,zdt hlt,cu,Oh hb,bf,hea,hl,eP,bg h10,dn,hsub,hel,hst,hdw,hw]
    rw [hsk,bf]
    simp only [lN,iZ,bf,fP,eP]
    simpa using d1
   ·rw [bg h32,if_neg (by decide)] at hl
    have hcur:((bl s).drop f).take (i+1-f)=((bl s).drop f).take (i-f)++[b]:=by
     rw [show i+1-f=(i-f)+1 by omega]
     refine zsA ?_
     rw [List.getElem?_drop,show f+(i-f)=i by omega];exact hb
    obtain ⟨f',done',st',d1,d2,d3,d4,d5,d6,d7⟩:=ih (i+1) f done st (by omega) (by omega) (by
      rw [hcur,← zmS _ _ _ _ h32,← hd];exact hp) he hj hlim hm
    refine ⟨f',done',st',zev s _ _ _ _ st ?_,d2,d3,d4,d5,d6,d7⟩
    simp only [Y7,zdt hlt,cu,Oh hb,bf,hea,hl,eP,decide_true,hw]
    exact d1
theorem zvp [Sym] (s:ByteArray) (hs:s.size≤4294967296) (vP:Simple (bl s)=true) (st:SS) (hg:Gd st) (hll:st.lim≤st.next):
  ∃ v st',cc 149 [.string s] st=some (v,st')∧Ext st st'∧Own st.next st' v (strs (pieces 32 (bl s))) 1 (pieces 32 (bl s)).length:=by
 have DC:=pieces_len 32 (bl s)
 rw [tC] at DC
 have hall:∀ p∈pieces 32 (bl s),p≠[]:=fun p hp=>Simple.piece vP hp
 have hne:=MF 32 (bl s)
 have hhd:(pieces 32 (bl s)).head?≠some []:=by
  cases hp:pieces 32 (bl s) with
  | nil=>exact absurd hp hne
  | cons x y=>rw [hp] at hall;intro e;simp at e;exact hall x (by simp) e
 obtain ⟨sb,hsb,c1⟩:=zsF s hs vP st hg s.size 0 0 0 true (by omega) (by omega) (by omega)
 have hcnt:=(zsE (bl s) (fun p hp=>hall p (List.mem_of_mem_tail hp))).2 hhd
 rw [List.drop_zero,Nat.zero_add,hcnt] at c1
 have c1':Di 5 [.string s,.int .i64 0,.int .i64 1,.int .u8 0,.int .i64 0] st=some (0,[.string s,.int .i64 ((pieces 32 (bl s)).length:Int),.int .u8 (sb:Int)],st):=c1
 have h128:¬ (128:Int)≤(sb:Int):=by omega
 have hmk:EO ((pieces 32 (bl s)).length:Int) ((pieces 32 (bl s)).length:Int) 16=some ():=Yj (by omega) (by omega) (by omega)
 have hz:EU [Value.string ⟨#[]⟩] ((pieces 32 (bl s)).length:Int)=List.replicate (pieces 32 (bl s)).length (Value.string ⟨#[]⟩):=zlO _ _
 have x1:Ext st (st.new (.cells (List.replicate (pieces 32 (bl s)).length (Value.string ⟨#[]⟩)) 1)):=(Ext.refl st).new _
 have hfirst:∀ b,(bl s)[0]?=some b→b≠32:=by
  intro b hb e
  have hd:=drop_cons hb
  rw [List.drop_zero] at hd
  rw [hd,e,YR,if_pos rfl] at hhd
  exact hhd rfl
 have hsk:=zxS s hs vP _ (hg.ext x1) (.slice (some ⟨st.next,0,none⟩) (pieces 32 (bl s)).length (pieces 32 (bl s)).length) 0 0 hfirst
 obtain ⟨f',done',st',d1,d2,d3,d4,d5,d6,d7⟩:=zt2 s hs vP (pieces 32 (bl s)).length st.next rfl st hg (fF _) s.size 0 0 [] (st.new (.cells (List.replicate (pieces 32 (bl s)).length (Value.string ⟨#[]⟩)) 1)) (by omega) (by omega) (by
   rw [List.drop_zero];show ES (List.take (0-0) (bl s)) _=_;rw [Nat.sub_self,List.take_zero,YE hne]) x1 (by simp) hll (by simp [strs])
 have d1':Di 21 [.string s,.slice (some ⟨st.next,0,none⟩) (pieces 32 (bl s)).length (pieces 32 (bl s)).length,.int .i64 0,.int .i64 0,.int .i64 0] (st.new (.cells (List.replicate (pieces 32 (bl s)).length (Value.string ⟨#[]⟩)) 1))=some (0,[.string s,.slice (some ⟨st.next,0,none⟩) (pieces 32 (bl s)).length (pieces 32 (bl s)).length,.int .i64 ((done'.length:Nat):Int),.int .i64 ((f':Nat):Int)],st'):=d1
 have hlen:(pieces 32 (bl s)).length=done'.length+1:=by rw [← d5];simp
 have hlast:(bl s).drop f'≠[]:=hall _ (by rw [← d5];simp)
 have hf':f'<s.size:=by
  have:((bl s).drop f').length≠0:=fun e=>hlast (List.length_eq_zero_iff.1 e)
  rw [List.length_drop,tC] at this
  omega
 have hlt:(f':Int)<(s.size:Int):=by omega
 have hsub:rM s (f':Int) (s.size:Int)=some (mkS ((bl s).drop f')):=zm0 (by omega)
 have hel:fK (.slice (some ⟨st.next,0,none⟩) (pieces 32 (bl s)).length (pieces 32 (bl s)).length) (done'.length:Int) 1=some (st.next,0+done'.length*1):=by
  unfold fK
  have h1:(0:Int)≤(done'.length:Int):=by omega
  have h2:(done'.length:Int)<((pieces 32 (bl s)).length:Int):=by omega
  simp only [zdt h1,zdt h2,Bool.and_self,cu,Int.toNat_natCast]
 have hst:st'.st st.next (0+done'.length*1) [.string (mkS ((bl s).drop f'))]=some (st'.set st.next (some (.cells (strs (pieces 32 (bl s))) 1))):=by
  refine SS.mM d7 (by rw [d4];exact hll) rfl ?_
  have hq:(pieces 32 (bl s)).length-done'.length=0+1:=by omega
  rw [hq,DY (by simp [strs])]
  have:=zoo done' 0 ((bl s).drop f')
  rw [show 0+done'.length*1=done'.length by omega]
  exact congrArg some (this.trans (by rw [d5];simp))
 refine ⟨.slice (some ⟨st.next,0,none⟩) (pieces 32 (bl s)).length (pieces 32 (bl s)).length,st'.set st.next (some (.cells (strs (pieces 32 (bl s))) 1)),znF s st ?_,d2.set (fF _) _,by simp,.inr ⟨st.next,rfl,by omega,by simp,fF _,by simp [d3]⟩⟩
 simp only [strings_Fields]
 rw [c1',bf]
 simp only [lN,iZ,bf,fP,eP,bg h128,dn,hmk,hz,Int.toNat_natCast]
 have hsk':Di 18 [.string s,.slice (some ⟨st.next,0,none⟩) (pieces 32 (bl s)).length (pieces 32 (bl s)).length,.int .i64 0,.int .i64 0] (st.new (.cells (List.replicate (pieces 32 (bl s)).length (Value.string ⟨#[]⟩)) 1))=some (0,[.string s,.slice (some ⟨st.next,0,none⟩) (pieces 32 (bl s)).length (pieces 32 (bl s)).length,.int .i64 0,.int .i64 0],st.new (.cells (List.replicate (pieces 32 (bl s)).length (Value.string ⟨#[]⟩)) 1)):=hsk
 rw [hsk',bf]
 simp only [lN,iZ,bf,fP,eP]
 have d1'':Di 21 [.string s,.slice (some ⟨st.next,0,none⟩) (pieces 32 (bl s)).length (pieces 32 (bl s)).length,.int .i64 0,.int .i64 0,.int .i64 0] (st.new (.cells (List.replicate (pieces 32 (bl s)).length (Value.string ⟨#[]⟩)) 1))=_:=d1'
 rw [d1'',bf]
 simp only [lN,iZ,bf,fP,eP,zdt hlt,cu,hsub,hel,hst]
theorem Pz [Sym] (s:ByteArray) (hs:s.size≤4294967296) (vP:Simple (bl s)=true) (st:SS) (hg:Gd st) (hll:st.lim≤st.next):
  ∃ v st',cc 136 [.string s] st=some (v,st')∧Ext st st'∧Own st.next st' v (strs (pieces 32 (bl s))) 1 (pieces 32 (bl s)).length:=by
 obtain ⟨v,st',c,x,o⟩:=zvp s hs vP st hg hll
 refine ⟨v,st',zsD s st ?_,x,o⟩
 simp only [zrV,c,bf]
end Go.Proofs.YtifploedaacedaaGreatDoorE
namespace Go.Proofs.YtifploedaacedaaGreatDoorE
set_option maxRecDepth 20000
open Go Go.E Go.Proofs
def zfz:eu:=⟨[(3,.any),(4,.int .i64),(5,.int .i64),(6,.int .i64),(33,.any),(34,.int .i64)],[(.exit 3,[(3,.any),(33,.any),(34,.int .i64)])]⟩
def zfA:eu:=⟨[(3,.any),(33,.any),(34,.int .i64)],[(.exit 1,[(3,.any)])]⟩
def zgj (n:Nat):Option eu:=cond (Nat.beq n 21) (some zfA) (cond (Nat.beq n 24) (some zfz) (none))
noncomputable def GK (cf:fQ) (lf:eX) (field':ByteArray) (st:SS):Option (Value×SS):=
 cond (fA field' ⟨#[97,108,117]⟩) (
 (cf 50 [.string ⟨#[110,111,110,101,32,109,111,118,32,110,111,116,32,110,101,103,32,105,110,99,32,100,101,99,32,97,100,100,32,115,117,98,32,97,100,100,99,32,115,117,98,99,32,109,117,108,32,100,105,118,32,111,114,32,98,105,99,32,120,111,114,32,97,110,100,32,99,109,112,32,116,101,115,116,32,99,108,101,97,114,32,115,120,98,32,115,120,119,32,122,120,98,32,122,120,119,32,115,104,108,32,115,104,114,32,97,115,104,32,114,111,116,32,111,112,32,115,120,111,32,101,120,116,32,105,110,115,32,99,118,116]⟩,.int .u8 32] st).bind fun a=>
 some (a.1,a.2)) (
 cond (fA field' ⟨#[115,105,122,101]⟩) (
 (cf 50 [.string ⟨#[98,121,116,101,32,119,111,114,100,32,108,111,110,103,32,111,119,110]⟩,.int .u8 32] st).bind fun b=>
 some (b.1,b.2)) (
 cond (fA field' ⟨#[99,99]⟩) (
 (cf 50 [.string ⟨#[107,101,101,112,32,115,101,116,32,115,101,116,107]⟩,.int .u8 32] st).bind fun c=>
 some (c.1,c.2)) (
 cond (fA field' ⟨#[109,101,109]⟩) (
 (cf 50 [.string ⟨#[110,111,110,101,32,114,100,32,119,114,32,112,114,111,98,101,32,98,108,100,32,98,115,116,32,98,112,117,116,32,98,103,101,116,32,98,99,108,114,32,105,102,32,114,100,112,32,107,115,116,32,114,111,119,32,117,110,114,111,119,32,114,111,119,97,32,102,108,117,115,104]⟩,.int .u8 32] st).bind fun d=>
 some (d.1,d.2)) (
 cond (fA field' ⟨#[115,101,113]⟩) (
 (cf 50 [.string ⟨#[110,101,120,116,32,106,109,112,32,99,106,32,99,97,108,108,32,114,101,116,32,115,112,101,99,32,109,111,100,101,32,101,110,100]⟩,.int .u8 32] st).bind fun e=>
 some (e.1,e.2)) (
 cond (fA field' ⟨#[99,111,110,100]⟩) (
 (cf 50 [.string ⟨#[97,108,119,97,121,115,32,122,32,110,122,32,110,101,103,32,112,111,115,32,99,32,110,99,32,117,115,101,114,32,107,101,114,110,101,108,32,102,112,100,32,110,111,102,112,100,32,116,97,107,101,110,32,109,97,116,99,104,32,107,49,32,107,50,32,107,51,32,108,97,115,116,114,101,103,32,102,32,114,101,97,100,115,32,105,110,100,101,120,32,100,105,118,32,108,101,115,115,97,108,117,32,97,108,117,49,32,115,116,114,105,110,103,32,110,111,105,110,100,101,120,32,110,111,114,101,97,100,115,32,111,118,101,114]⟩,.int .u8 32] st).bind fun f=>
 some (f.1,f.2)) (
 cond (fA field' ⟨#[109,105,115,99]⟩) (
 (cf 50 [.string ⟨#[110,111,110,101,32,115,116,101,112,32,117,110,100,111,32,115,101,116,102,112,100,32,99,108,114,102,112,100,32,114,97,105,115,101,32,108,97,116,99,104,107,32,108,97,116,99,104,120,32,109,116,112,114,32,109,102,112,114,32,101,110,116,101,114,32,112,117,116,112,115,108,32,104,97,108,116,32,98,97,99,107,32,100,101,99,111,100,101,32,115,101,108,32,115,101,108,107,32,111,119,110,108,97,115,116,32,112,105,99,107,32,112,105,99,107,116,111,112,32,112,97,114,97,109,115,32,99,111,117,110,116]⟩,.int .u8 32] st).bind fun g=>
 some (g.1,g.2)) (
 cond (fA field' ⟨#[97]⟩) (
 cond (fA field' ⟨#[97]⟩) (
 (lf 21 [.slice none 0 0,.agg #[.int .i64 16,.int .i64 8,.int .i64 6,.int .i64 6],.int .i64 0] st).bind fun h=>
 (h.2.1[0]?).bind fun i=>
 (cf 50 [.string ⟨#[109,100,32,118,97,32,112,115,108,32,114,110,32,114,120,32,108,105,116,32,122,101,114,111,32,118,101,99,32,112,48,32,112,49,32,115,116,97,114,116,32,115,99,98,98,32,107,115,112,32,117,115,112,32,100,105,115,112,32,111,115,105,122,101,32,105,108,101,110,32,108,101,118,101,108,32,118,99,32,97,99,32,97,108,32,107,108,32,99,110,116,32,110,112]⟩,.int .u8 32] h.2.2).bind fun j=>
 (j.2.app 1 16 i j.1).bind fun k=>
 some (k.1,k.2)) (
 some (.slice none 0 0,st))) (
 cond (fA field' ⟨#[98]⟩) (
 cond (fA field' ⟨#[98]⟩) (
 (lf 21 [.slice none 0 0,.agg #[.int .i64 16,.int .i64 8,.int .i64 6,.int .i64 6],.int .i64 0] st).bind fun l=>
 (l.2.1[0]?).bind fun m=>
 (cf 50 [.string ⟨#[109,100,32,118,97,32,112,115,108,32,114,110,32,114,120,32,108,105,116,32,122,101,114,111,32,118,101,99,32,112,48,32,112,49,32,115,116,97,114,116,32,115,99,98,98,32,107,115,112,32,117,115,112,32,100,105,115,112,32,111,115,105,122,101,32,105,108,101,110,32,108,101,118,101,108,32,118,99,32,97,99,32,97,108,32,107,108,32,99,110,116,32,110,112]⟩,.int .u8 32] l.2.2).bind fun n=>
 (n.2.app 1 16 m n.1).bind fun o=>
 some (o.1,o.2)) (
 some (.slice none 0 0,st))) (
 cond (fA field' ⟨#[100]⟩) (
 (lf 21 [.slice none 0 0,.agg #[.int .i64 16,.int .i64 8,.int .i64 6,.int .i64 6],.int .i64 0] st).bind fun p=>
 (p.2.1[0]?).bind fun q=>
 (cf 50 [.string ⟨#[109,100,32,118,97,32,112,115,108,32,114,110,32,114,120,32,108,105,116,32,122,101,114,111,32,118,101,99,32,112,48,32,112,49,32,115,116,97,114,116,32,115,99,98,98,32,107,115,112,32,117,115,112,32,100,105,115,112,32,111,115,105,122,101,32,105,108,101,110,32,108,101,118,101,108,32,118,99,32,97,99,32,97,108,32,107,108,32,99,110,116,32,110,112]⟩,.int .u8 32] p.2.2).bind fun r=>
 (r.2.app 1 16 q r.1).bind fun s=>
 some (s.1,s.2)) (
 some (.slice none 0 0,st)))))))))))
noncomputable abbrev JE:eX:=lS Tryz.prog Lk0 Tryz.f76 zgj
theorem zka:Lk0.func 76=some (76,Tryz.f76):=by kernel_rfl
theorem Hz [Sym] (field':ByteArray) (st:SS) {r:Value×SS} (h:GK cc JE field' st=some r):cc 76 [.string field'] st=some r:=
 mF (li:=zgj) gu gy zka rfl (fun _=>rfl) (.trans (by kernel_rfl) h)
noncomputable def zfT (cf:fQ) (lf:eX) (out':Value) (tJ:Value) (rO:Int) (st:SS):Option (Nat×List Value×SS):=
 cond (decide (rO<4)) (
 ((LW Lk0 4 3 tJ rO).bind (ay .i64)).bind fun a=>
 (lf 24 [out',.int .i64 rO,.int .i64 a,.int .i64 0,tJ,.int .i64 rO] st).bind fun b=>
 (b.2.1[0]?).bind fun c=>
 (b.2.1[1]?).bind fun d=>
 ((b.2.1[2]?).bind (ay .i64)).bind fun e=>
 let f:Int:=IntKind.wrap .i64 (e+1)
 lf 21 [c,d,.int .i64 f] b.2.2) (
 some (0,[out'],st))
theorem ze3 [Sym] (out':Value) (tJ:Value) (rO:Int) (st:SS) {r:Nat×List Value×SS} (h:zfT cc JE out' tJ rO st=some r):JE 21 [out',tJ,.int .i64 rO] st=some r:=
 oM gu gy (key:=21) (I:=zfA) rfl (by kernel_rfl) (by kernel_rfl) rfl rfl (.trans (by kernel_rfl) h)
noncomputable def zdW (cf:fQ) (lf:eX) (out':Value) (i':Int) (n':Int) (k':Int) (tJ:Value) (rO:Int) (st:SS):Option (Nat×List Value×SS):=
 cond (decide (k'<n')) (
 ((LW Lk0 4 9 (.agg #[.string ⟨#[114]⟩,.string ⟨#[116]⟩,.string ⟨#[118]⟩,.string ⟨#[97]⟩]) i').bind asS).bind fun a=>
 (cf 102 [.int .i64 k'] st).bind fun b=>
 ((some b.1).bind asS).bind fun c=>
 (((xE a c).bind fun s=>some (.string s)).bind asS).bind fun d=>
 let e:SS:=b.2.new (.cells ([.string d]) 1)
 (e.app 1 16 out' (.slice (some ⟨b.2.next,0,none⟩) 1 1)).bind fun f=>
 let g:Int:=IntKind.wrap .i64 (k'+1)
 lf 24 [f.1,.int .i64 i',.int .i64 n',.int .i64 g,tJ,.int .i64 rO] f.2) (
 some (0,[out',tJ,.int .i64 rO],st))
theorem ze4 [Sym] (out':Value) (i':Int) (n':Int) (k':Int) (tJ:Value) (rO:Int) (st:SS) {r:Nat×List Value×SS} (h:zdW cc JE out' i' n' k' tJ rO st=some r):JE 24 [out',.int .i64 i',.int .i64 n',.int .i64 k',tJ,.int .i64 rO] st=some r:=
 oM gu gy (key:=24) (I:=zfz) rfl (by kernel_rfl) (by kernel_rfl) rfl rfl (.trans (by kernel_rfl) h)
def zhq:eu:=⟨[(1,.str),(7,.any),(8,.int .i64),(9,.int .i64)],[(.exit 0,[]),(.ret,[(4,.int .i64)])]⟩
def zhM (n:Nat):Option eu:=cond (Nat.beq n 2) (some zhq) (none)
noncomputable def zjk (cf:fQ) (lf:eX) (l':Value) (s':ByteArray) (st:SS):Option (Value×SS):=
 ((lenV l').bind (ay .i64)).bind fun a=>
 (lf 2 [.string s',l',.int .i64 a,.int .i64 0] (st.ro st.next)).bind fun b=>
 cond (Nat.beq b.1 0) (
 some (.int .i64 (-1),st.dw b.2.2.next)) (
 ((b.2.1[0]?).bind (ay .i64)).bind fun c=>
 some (.int .i64 c,st.dw b.2.2.next))
noncomputable abbrev UN:eX:=lS Tryz.prog Lk0 Tryz.f47 zhM
theorem zmn:Lk0.func 47=some (47,Tryz.f47):=by kernel_rfl
theorem zmo [Sym] (l':Value) (s':ByteArray) (st:SS) {r:Value×SS} (h:zjk cc UN l' s' st=some r):cc 47 [l',.string s'] st=some r:=
 mF (li:=zhM) gu gy zmn rfl (fun _=>rfl) (.trans (by kernel_rfl) h)
noncomputable def Y3 (cf:fQ) (lf:eX) (s':ByteArray) (pY:Value) (sU:Int) (OZ:Int) (st:SS):Option (Nat×List Value×SS):=
 cond (decide (OZ<sU)) (
 (fK pY OZ 1).bind fun a=>
 ((st.ld a.1 a.2).bind asS).bind fun b=>
 cond (fA b s') (
 some (1,[.int .i64 OZ],st)) (
 let c:Int:=IntKind.wrap .i64 (OZ+1)
 lf 2 [.string s',pY,.int .i64 sU,.int .i64 c] st)) (
 some (0,[],st))
theorem zgk [Sym] (s':ByteArray) (pY:Value) (sU:Int) (OZ:Int) (st:SS) {r:Nat×List Value×SS} (h:Y3 cc UN s' pY sU OZ st=some r):UN 2 [.string s',pY,.int .i64 sU,.int .i64 OZ] st=some r:=
 oM gu gy (key:=2) (I:=zhq) rfl (by kernel_rfl) (by kernel_rfl) rfl rfl (.trans (by kernel_rfl) h)
noncomputable def Kv (cf:fQ) (lf:eX) (w':Value) (lD:Int) (st:SS):Option (Value×SS):=
 let a:SS:=st.new (.cells (w':Value).cells.toList 0)
 ((a.ld st.next 8).bind (ay .i64)).bind fun b=>
 cond (decide (b=0)) (
 let c:Int:=IntKind.wrap .i64 (lD+1)
 let d:SS:=a.new (.cells ([.int .i64 c,.int .i64 1]) 2)
 some (.slice (some ⟨a.next,0,none⟩) 1 1,d)) (
 ((a.ld st.next 8).bind (ay .i64)).bind fun e=>
 cond (decide (e=1)) (
 ((a.ld st.next 10).bind (ay .i64)).bind fun f=>
 let g:SS:=a.new (.cells ([.int .i64 f,.int .i64 1]) 2)
 some (.slice (some ⟨a.next,0,none⟩) 1 1,g)) (
 ((a.ld st.next 8).bind (ay .i64)).bind fun h=>
 cond (decide (h=2)) (
 let i:Int:=IntKind.wrap .i64 (lD+1)
 ((a.ld st.next 10).bind (ay .i64)).bind fun j=>
 let k:SS:=a.new (.cells ([.int .i64 i,.int .i64 1,.int .i64 j,.int .i64 1]) 2)
 some (.slice (some ⟨a.next,0,none⟩) 2 2,k)) (
 ((a.ld st.next 8).bind (ay .i64)).bind fun l=>
 cond (decide (l=3)) (
 let m:Int:=IntKind.wrap .i64 (lD+1)
 ((a.ld st.next 10).bind (ay .i64)).bind fun n=>
 let o:SS:=a.new (.cells ([.int .i64 m,.int .i64 1,.int .i64 n,.int .i64 1]) 2)
 some (.slice (some ⟨a.next,0,none⟩) 2 2,o)) (
 ((a.ld st.next 8).bind (ay .i64)).bind fun p=>
 cond (decide (p=5)) (
 ((a.ld st.next 10).bind (ay .i64)).bind fun q=>
 let r:SS:=a.new (.cells ([.int .i64 q,.int .i64 64]) 2)
 some (.slice (some ⟨a.next,0,none⟩) 1 1,r)) (
 ((a.ld st.next 8).bind (ay .i64)).bind fun s=>
 cond (decide (s=6)) (
 ((a.ld st.next 10).bind (ay .i64)).bind fun t=>
 let u:SS:=a.new (.cells ([.int .i64 t,.int .i64 16]) 2)
 some (.slice (some ⟨a.next,0,none⟩) 1 1,u)) (
 some (.slice none 0 0,a)))))))
noncomputable abbrev zgl:eX:=lS Tryz.prog Lk0 Tryz.f21 lQ
theorem zkb:Lk0.func 21=some (21,Tryz.f21):=by kernel_rfl
theorem zkc [Sym] (w':Value) (lD:Int) (st:SS) {r:Value×SS} (h:Kv cc zgl w' lD st=some r):cc 21 [w',.int .i64 lD] st=some r:=
 mF (li:=lQ) gu gy zkb rfl (fun _=>rfl) (.trans (by kernel_rfl) h)
end Go.Proofs.YtifploedaacedaaGreatDoorE
namespace Go.Proofs.YtifploedaacedaaGreatDoorE
open Go Go.E Go.Proofs
def Xw:List UInt8:=[110,111,110,101,32,109,111,118,32,110,111,116,32,110,101,103,32,105,110,99,32,100,101,99,32,97,100,100,32,115,117,98,32,97,100,100,99,32,115,117,98,99,32,109,117,108,32,100,105,118,32,111,114,32,98,105,99,32,120,111,114,32,97,110,100,32,99,109,112,32,116,101,115,116,32,99,108,101,97,114,32,115,120,98,32,115,120,119,32,122,120,98,32,122,120,119,32,115,104,108,32,115,104,114,32,97,115,104,32,114,111,116,32,111,112,32,115,120,111,32,101,120,116,32,105,110,115,32,99,118,116]
def Hf:List UInt8:=[114,48,32,114,49,32,114,50,32,114,51,32,114,52,32,114,53,32,114,54,32,114,55,32,114,56,32,114,57,32,114,49,48,32,114,49,49,32,114,49,50,32,114,49,51,32,114,49,52,32,114,49,53,32,116,48,32,116,49,32,116,50,32,116,51,32,116,52,32,116,53,32,116,54,32,116,55,32,118,48,32,118,49,32,118,50,32,118,51,32,118,52,32,118,53,32,97,48,32,97,49,32,97,50,32,97,51,32,97,52,32,97,53,32,109,100,32,118,97,32,112,115,108,32,114,110,32,114,120,32,108,105,116,32,122,101,114,111,32,118,101,99,32,112,48,32,112,49,32,115,116,97,114,116,32,115,99,98,98,32,107,115,112,32,117,115,112,32,100,105,115,112,32,111,115,105,122,101,32,105,108,101,110,32,108,101,118,101,108,32,118,99,32,97,99,32,97,108,32,107,108,32,99,110,116,32,110,112]
def XC:List UInt8:=[98,121,116,101,32,119,111,114,100,32,108,111,110,103,32,111,119,110]
def LD:List UInt8:=[107,101,101,112,32,115,101,116,32,115,101,116,107]
def Xv:List UInt8:=[110,111,110,101,32,114,100,32,119,114,32,112,114,111,98,101,32,98,108,100,32,98,115,116,32,98,112,117,116,32,98,103,101,116,32,98,99,108,114,32,105,102,32,114,100,112,32,107,115,116,32,114,111,119,32,117,110,114,111,119,32,114,111,119,97,32,102,108,117,115,104]
def Xu:List UInt8:=[110,101,120,116,32,106,109,112,32,99,106,32,99,97,108,108,32,114,101,116,32,115,112,101,99,32,109,111,100,101,32,101,110,100]
def XB:List UInt8:=[97,108,119,97,121,115,32,122,32,110,122,32,110,101,103,32,112,111,115,32,99,32,110,99,32,117,115,101,114,32,107,101,114,110,101,108,32,102,112,100,32,110,111,102,112,100,32,116,97,107,101,110,32,109,97,116,99,104,32,107,49,32,107,50,32,107,51,32,108,97,115,116,114,101,103,32,102,32,114,101,97,100,115,32,105,110,100,101,120,32,100,105,118,32,108,101,115,115,97,108,117,32,97,108,117,49,32,115,116,114,105,110,103,32,110,111,105,110,100,101,120,32,110,111,114,101,97,100,115,32,111,118,101,114]
def XA:List UInt8:=[110,111,110,101,32,115,116,101,112,32,117,110,100,111,32,115,101,116,102,112,100,32,99,108,114,102,112,100,32,114,97,105,115,101,32,108,97,116,99,104,107,32,108,97,116,99,104,120,32,109,116,112,114,32,109,102,112,114,32,101,110,116,101,114,32,112,117,116,112,115,108,32,104,97,108,116,32,98,97,99,107,32,100,101,99,111,100,101,32,115,101,108,32,115,101,108,107,32,111,119,110,108,97,115,116,32,112,105,99,107,32,112,105,99,107,116,111,112,32,112,97,114,97,109,115,32,99,111,117,110,116]
def QF:List UInt8:=[109,100,32,118,97,32,112,115,108,32,114,110,32,114,120,32,108,105,116,32,122,101,114,111,32,118,101,99,32,112,48,32,112,49,32,115,116,97,114,116,32,115,99,98,98,32,107,115,112,32,117,115,112,32,100,105,115,112,32,111,115,105,122,101,32,105,108,101,110,32,108,101,118,101,108,32,118,99,32,97,99,32,97,108,32,107,108,32,99,110,116,32,110,112]
def namesT (f:List UInt8):List (List UInt8):=
 if f=[97,108,117] then pieces 32 Xw else
 if f=[97] then pieces 32 Hf else
 if f=[98] then pieces 32 Hf else
 if f=[100] then pieces 32 Hf else
 if f=[115,105,122,101] then pieces 32 XC else
 if f=[99,99] then pieces 32 LD else
 if f=[109,101,109] then pieces 32 Xv else
 if f=[115,101,113] then pieces 32 Xu else
 if f=[99,111,110,100] then pieces 32 XB else
 if f=[109,105,115,99] then pieces 32 XA else
 []
theorem zwO [Sym] (f:ByteArray) (st:SS) (hg:Gd st) (hll:st.lim≤st.next):
  ∃ v st',cc 117 [.string f] st=some (v,st')∧Ext st st'∧Own st.next st' v (strs (namesT (bl f))) 1 (namesT (bl f)).length:=by
 have R:∀ s:ByteArray,s.size≤4294967296→Simple (bl s)=true→∃ v st',((cc 136 [.string s] st).bind fun r=>some (r.1,r.2))=some (v,st')∧Ext st st'∧Own st.next st' v (strs (pieces 32 (bl s))) 1 (pieces 32 (bl s)).length:=fun s h1 h2=>by
  obtain ⟨v,st',c,x,o⟩:=Pz s h1 h2 st hg hll
  exact ⟨v,st',by rw [c];rfl,x,o⟩
 by_cases xY:bl f=[97,108,117]
 ·have e:namesT (bl f)=pieces 32 Xw:=by rw [xY];rfl
  obtain ⟨v,st',c,x,o⟩:=R ⟨#[110,111,110,101,32,109,111,118,32,110,111,116,32,110,101,103,32,105,110,99,32,100,101,99,32,97,100,100,32,115,117,98,32,97,100,100,99,32,115,117,98,99,32,109,117,108,32,100,105,118,32,111,114,32,98,105,99,32,120,111,114,32,97,110,100,32,99,109,112,32,116,101,115,116,32,99,108,101,97,114,32,115,120,98,32,115,120,119,32,122,120,98,32,122,120,119,32,115,104,108,32,115,104,114,32,97,115,104,32,114,111,116,32,111,112,32,115,120,111,32,101,120,116,32,105,110,115,32,99,118,116]⟩ (by decide+kernel) (by decide+kernel)
  have IE:fA f ⟨#[97,108,117]⟩=true:=zdt xY
  refine ⟨v,st',Hw f st ?_,x,by rw [e];exact o⟩
  simp only [GH,IE,cu,dn]
  exact c
 have nS:fA f ⟨#[97,108,117]⟩=false:=bg xY
 by_cases Ls:bl f=[97]
 ·have e:namesT (bl f)=pieces 32 Hf:=by rw [Ls];rfl
  obtain ⟨v,st',c,x,o⟩:=R ⟨#[114,48,32,114,49,32,114,50,32,114,51,32,114,52,32,114,53,32,114,54,32,114,55,32,114,56,32,114,57,32,114,49,48,32,114,49,49,32,114,49,50,32,114,49,51,32,114,49,52,32,114,49,53,32,116,48,32,116,49,32,116,50,32,116,51,32,116,52,32,116,53,32,116,54,32,116,55,32,118,48,32,118,49,32,118,50,32,118,51,32,118,52,32,118,53,32,97,48,32,97,49,32,97,50,32,97,51,32,97,52,32,97,53,32,109,100,32,118,97,32,112,115,108,32,114,110,32,114,120,32,108,105,116,32,122,101,114,111,32,118,101,99,32,112,48,32,112,49,32,115,116,97,114,116,32,115,99,98,98,32,107,115,112,32,117,115,112,32,100,105,115,112,32,111,115,105,122,101,32,105,108,101,110,32,108,101,118,101,108,32,118,99,32,97,99,32,97,108,32,107,108,32,99,110,116,32,110,112]⟩ (by decide+kernel) (by decide+kernel)
  have q_a:fA f ⟨#[97]⟩=true:=zdt Ls
  refine ⟨v,st',Hw f st ?_,x,by rw [e];exact o⟩
  simp only [GH,nS,q_a,cu,dn]
  exact c
 have Gn:fA f ⟨#[97]⟩=false:=bg Ls
 by_cases Lr:bl f=[98]
 ·have e:namesT (bl f)=pieces 32 Hf:=by rw [Lr];rfl
  obtain ⟨v,st',c,x,o⟩:=R ⟨#[114,48,32,114,49,32,114,50,32,114,51,32,114,52,32,114,53,32,114,54,32,114,55,32,114,56,32,114,57,32,114,49,48,32,114,49,49,32,114,49,50,32,114,49,51,32,114,49,52,32,114,49,53,32,116,48,32,116,49,32,116,50,32,116,51,32,116,52,32,116,53,32,116,54,32,116,55,32,118,48,32,118,49,32,118,50,32,118,51,32,118,52,32,118,53,32,97,48,32,97,49,32,97,50,32,97,51,32,97,52,32,97,53,32,109,100,32,118,97,32,112,115,108,32,114,110,32,114,120,32,108,105,116,32,122,101,114,111,32,118,101,99,32,112,48,32,112,49,32,115,116,97,114,116,32,115,99,98,98,32,107,115,112,32,117,115,112,32,100,105,115,112,32,111,115,105,122,101,32,105,108,101,110,32,108,101,118,101,108,32,118,99,32,97,99,32,97,108,32,107,108,32,99,110,116,32,110,112]⟩ (by decide+kernel) (by decide+kernel)
  have q_b:fA f ⟨#[98]⟩=true:=zdt Lr
  refine ⟨v,st',Hw f st ?_,x,by rw [e];exact o⟩
  simp only [GH,nS,Gn,q_b,cu,dn]
  exact c
 have IJ:fA f ⟨#[98]⟩=false:=bg Lr
 by_cases Lp:bl f=[100]
 ·have e:namesT (bl f)=pieces 32 Hf:=by rw [Lp];rfl
  obtain ⟨v,st',c,x,o⟩:=R ⟨#[114,48,32,114,49,32,114,50,32,114,51,32,114,52,32,114,53,32,114,54,32,114,55,32,114,56,32,114,57,32,114,49,48,32,114,49,49,32,114,49,50,32,114,49,51,32,114,49,52,32,114,49,53,32,116,48,32,116,49,32,116,50,32,116,51,32,116,52,32,116,53,32,116,54,32,116,55,32,118,48,32,118,49,32,118,50,32,118,51,32,118,52,32,118,53,32,97,48,32,97,49,32,97,50,32,97,51,32,97,52,32,97,53,32,109,100,32,118,97,32,112,115,108,32,114,110,32,114,120,32,108,105,116,32,122,101,114,111,32,118,101,99,32,112,48,32,112,49,32,115,116,97,114,116,32,115,99,98,98,32,107,115,112,32,117,115,112,32,100,105,115,112,32,111,115,105,122,101,32,105,108,101,110,32,108,101,118,101,108,32,118,99,32,97,99,32,97,108,32,107,108,32,99,110,116,32,110,112]⟩ (by decide+kernel) (by decide+kernel)
  have q_d:fA f ⟨#[100]⟩=true:=zdt Lp
  refine ⟨v,st',Hw f st ?_,x,by rw [e];exact o⟩
  simp only [GH,nS,Gn,IJ,q_d,cu,dn]
  exact c
 have KP:fA f ⟨#[100]⟩=false:=bg Lp
 by_cases h_size:bl f=[115,105,122,101]
 ·have e:namesT (bl f)=pieces 32 XC:=by rw [h_size];rfl
  obtain ⟨v,st',c,x,o⟩:=R ⟨#[98,121,116,101,32,119,111,114,100,32,108,111,110,103,32,111,119,110]⟩ (by decide+kernel) (by decide+kernel)
  have Et:fA f ⟨#[115,105,122,101]⟩=true:=zdt h_size
  refine ⟨v,st',Hw f st ?_,x,by rw [e];exact o⟩
  simp only [GH,nS,Gn,IJ,KP,Et,cu,dn]
  exact c
 have nO:fA f ⟨#[115,105,122,101]⟩=false:=bg h_size
 by_cases Cj:bl f=[99,99]
 ·have e:namesT (bl f)=pieces 32 LD:=by rw [Cj];rfl
  obtain ⟨v,st',c,x,o⟩:=R ⟨#[107,101,101,112,32,115,101,116,32,115,101,116,107]⟩ (by decide+kernel) (by decide+kernel)
  have PE:fA f ⟨#[99,99]⟩=true:=zdt Cj
  refine ⟨v,st',Hw f st ?_,x,by rw [e];exact o⟩
  simp only [GH,nS,Gn,IJ,KP,nO,PE,cu,dn]
  exact c
 have xU:fA f ⟨#[99,99]⟩=false:=bg Cj
 by_cases h_mem:bl f=[109,101,109]
 ·have e:namesT (bl f)=pieces 32 Xv:=by rw [h_mem];rfl
  obtain ⟨v,st',c,x,o⟩:=R ⟨#[110,111,110,101,32,114,100,32,119,114,32,112,114,111,98,101,32,98,108,100,32,98,115,116,32,98,112,117,116,32,98,103,101,116,32,98,99,108,114,32,105,102,32,114,100,112,32,107,115,116,32,114,111,119,32,117,110,114,111,119,32,114,111,119,97,32,102,108,117,115,104]⟩ (by decide+kernel) (by decide+kernel)
  have IC:fA f ⟨#[109,101,109]⟩=true:=zdt h_mem
  refine ⟨v,st',Hw f st ?_,x,by rw [e];exact o⟩
  simp only [GH,nS,Gn,IJ,KP,nO,xU,IC,cu,dn]
  exact c
 have sO:fA f ⟨#[109,101,109]⟩=false:=bg h_mem
 by_cases xX:bl f=[115,101,113]
 ·have e:namesT (bl f)=pieces 32 Xu:=by rw [xX];rfl
  obtain ⟨v,st',c,x,o⟩:=R ⟨#[110,101,120,116,32,106,109,112,32,99,106,32,99,97,108,108,32,114,101,116,32,115,112,101,99,32,109,111,100,101,32,101,110,100]⟩ (by decide+kernel) (by decide+kernel)
  have IB:fA f ⟨#[115,101,113]⟩=true:=zdt xX
  refine ⟨v,st',Hw f st ?_,x,by rw [e];exact o⟩
  simp only [GH,nS,Gn,IJ,KP,nO,xU,sO,IB,cu,dn]
  exact c
 have wu:fA f ⟨#[115,101,113]⟩=false:=bg xX
 by_cases h_cond:bl f=[99,111,110,100]
 ·have e:namesT (bl f)=pieces 32 XB:=by rw [h_cond];rfl
  obtain ⟨v,st',c,x,o⟩:=R ⟨#[97,108,119,97,121,115,32,122,32,110,122,32,110,101,103,32,112,111,115,32,99,32,110,99,32,117,115,101,114,32,107,101,114,110,101,108,32,102,112,100,32,110,111,102,112,100,32,116,97,107,101,110,32,109,97,116,99,104,32,107,49,32,107,50,32,107,51,32,108,97,115,116,114,101,103,32,102,32,114,101,97,100,115,32,105,110,100,101,120,32,100,105,118,32,108,101,115,115,97,108,117,32,97,108,117,49,32,115,116,114,105,110,103,32,110,111,105,110,100,101,120,32,110,111,114,101,97,100,115,32,111,118,101,114]⟩ (by decide+kernel) (by decide+kernel)
  have q_cond:fA f ⟨#[99,111,110,100]⟩=true:=zdt h_cond
  refine ⟨v,st',Hw f st ?_,x,by rw [e];exact o⟩
  simp only [GH,nS,Gn,IJ,KP,nO,xU,sO,wu,q_cond,cu,dn]
  exact c
 have tY:fA f ⟨#[99,111,110,100]⟩=false:=bg h_cond
 by_cases sG:bl f=[109,105,115,99]
 ·have e:namesT (bl f)=pieces 32 XA:=by rw [sG];rfl
  obtain ⟨v,st',c,x,o⟩:=R ⟨#[110,111,110,101,32,115,116,101,112,32,117,110,100,111,32,115,101,116,102,112,100,32,99,108,114,102,112,100,32,114,97,105,115,101,32,108,97,116,99,104,107,32,108,97,116,99,104,120,32,109,116,112,114,32,109,102,112,114,32,101,110,116,101,114,32,112,117,116,112,115,108,32,104,97,108,116,32,98,97,99,107,32,100,101,99,111,100,101,32,115,101,108,32,115,101,108,107,32,111,119,110,108,97,115,116,32,112,105,99,107,32,112,105,99,107,116,111,112,32,112,97,114,97,109,115,32,99,111,117,110,116]⟩ (by decide+kernel) (by decide+kernel)
  have Eu:fA f ⟨#[109,105,115,99]⟩=true:=zdt sG
  refine ⟨v,st',Hw f st ?_,x,by rw [e];exact o⟩
  simp only [GH,nS,Gn,IJ,KP,nO,xU,sO,wu,tY,Eu,cu,dn]
  exact c
 have zx:fA f ⟨#[109,105,115,99]⟩=false:=bg sG
 have e:namesT (bl f)=[]:=by simp only [namesT,if_neg xY,if_neg Ls,if_neg Lr,if_neg Lp,if_neg h_size,if_neg Cj,if_neg h_mem,if_neg xX,if_neg h_cond,if_neg sG]
 refine ⟨.slice none 0 0,st,Hw f st ?_,.refl _,by rw [e];exact Own.nil _ _ _⟩
 simp only [GH,nS,Gn,IJ,KP,nO,xU,sO,wu,tY,zx,cu,dn]
theorem zxU [Sym] (k:Nat) (hk:k<100) (st:SS):cc 102 [.int .i64 (k:Int)] st=some (.string (mkS (Lib.decDigits k)),st):=by
 refine Yx ?_ st
 have h:(decide ((0:Int)≤(k:Int))&&decide ((k:Int)<100))=true:=by
  rw [zdt (by omega),zdt (by omega)];rfl
 show cond (decide ((0:Int)≤(k:Int))&&decide ((k:Int)<100)) _ _=_
 rw [h]
 rfl
def EK (L:UInt8) (k m:Nat):List (List UInt8):=(List.range' k m).map fun k=>L::Lib.decDigits k
theorem zvq (L:UInt8) (k m:Nat):EK L k (m+1)=(L::Lib.decDigits k)::EK L (k+1) m:=rfl
theorem zq3 (k:Nat) (hk:k<100):(Lib.decDigits k).length≤2:=by
 have:∀ k,k<100→(Lib.decDigits k).length≤2:=by decide+kernel
 exact this k hk
theorem zsG [Sym] (st0:SS) (hl:st0.lim≤st0.next) (i:Int) (L:UInt8) (n:Nat) (hn:n≤16) (a:Value) (b:Int) (ha:((LW Lk0 4 9 (.agg #[.string ⟨#[114]⟩,.string ⟨#[116]⟩,.string ⟨#[118]⟩,.string ⟨#[97]⟩]) i).bind asS)=some (mkS [L])):
  ∀ (m k:Nat) (done:List (List UInt8)) (out:Value) (st:SS),n=m+k→done.length≤1000+k→Ext st0 st→Own st0.next st out (strs done) 1 done.length→
  ∃ v st',JE 24 [out,.int .i64 i,.int .i64 n,.int .i64 k,a,.int .i64 b] st=some (0,[v,a,.int .i64 b],st')∧Ext st0 st'∧Own st0.next st' v (strs (done++EK L k m)) 1 (done++EK L k m).length:=by
 intro m
 induction m with
 | zero=>
   intro k done out st hk hd he ho
   have h:¬ (k:Int)<(n:Int):=by omega
   refine ⟨out,st,ze4 _ _ _ _ _ _ st ?_,he,by simpa [EK] using ho⟩
   simp only [zdW,bg h,dn]
 | succ m ih=>
   intro k done out st hk hd he ho
   have h:(k:Int)<(n:Int):=by omega
   have hw:IntKind.wrap .i64 ((k:Int)+1)=((k+1:Nat):Int):=by rw [wrap64 (by omega) (by omega)];omega
   have hc:xE (mkS [L]) (mkS (Lib.decDigits k))=some (mkS (L::Lib.decDigits k)):=JZ (by have:=zq3 k (by omega);simp;omega)
   obtain ⟨v,st',g1,g2,g3,g4,g5,g6⟩:=ho.push (row:=[.string (mkS (L::Lib.decDigits k))]) (bt:=16) he.next (by rw [he.lim];exact hl) rfl (by omega) rfl (by omega) (by omega)
   obtain ⟨w,mZ,f1,f2,f3⟩:=ih (k+1) (done++[L::Lib.decDigits k]) v st' (by omega) (by simp;omega) (g3 st0 (fF _) he) (by rw [Ox,List.length_append];exact g2)
   refine ⟨w,mZ,ze4 _ _ _ _ _ _ st ?_,f2,?_⟩
   ·simp only [zdW,zdt h,cu,ha,zxU k (by omega),bf,fP,hc,g1,hw]
    exact f1
   ·rw [zvq,← List.append_cons] at*;exact f3
def Z7:List (List UInt8):=[]++EK 114 0 16++EK 116 0 8++EK 118 0 6++EK 97 0 6
theorem zor:Z7++pieces 32 QF=pieces 32 Hf:=by decide+kernel
theorem zkd [Sym] (st:SS) (hl:st.lim≤st.next):∃ v st',JE 21 [.slice none 0 0,.agg #[.int .i64 16,.int .i64 8,.int .i64 6,.int .i64 6],.int .i64 0] st=some (0,[v],st')∧Ext st st'∧Own st.next st' v (strs Z7) 1 Z7.length:=by
 have step:∀ (i:Nat) (n:Nat) (L:UInt8) (done:List (List UInt8)) (out:Value) (s1:SS),i<4→n≤16→done.length≤1000→((LW Lk0 4 9 (.agg #[.string ⟨#[114]⟩,.string ⟨#[116]⟩,.string ⟨#[118]⟩,.string ⟨#[97]⟩]) (i:Int)).bind asS)=some (mkS [L])→
   ((LW Lk0 4 3 (.agg #[.int .i64 16,.int .i64 8,.int .i64 6,.int .i64 6]) (i:Int)).bind (ay .i64))=some (n:Int)→Ext st s1→Own st.next s1 out (strs done) 1 done.length→
   ∃ v st',Ext st st'∧Own st.next st' v (strs (done++EK L 0 n)) 1 (done++EK L 0 n).length∧∀ r,JE 21 [v,.agg #[.int .i64 16,.int .i64 8,.int .i64 6,.int .i64 6],.int .i64 ((i+1:Nat):Int)] st'=some r→
    JE 21 [out,.agg #[.int .i64 16,.int .i64 8,.int .i64 6,.int .i64 6],.int .i64 i] s1=some r:=by
  intro i n L done out s1 hi hn hd ha hb he ho
  obtain ⟨v,st',f1,f2,f3⟩:=zsG st hl i L n hn (.agg #[.int .i64 16,.int .i64 8,.int .i64 6,.int .i64 6]) i ha n 0 done out s1 (by omega) (by omega) he ho
  refine ⟨v,st',f2,f3,fun r hr=>ze3 _ _ _ s1 ?_⟩
  have h:(i:Int)<4:=by omega
  have hw:IntKind.wrap .i64 ((i:Int)+1)=((i+1:Nat):Int):=by rw [wrap64 (by omega) (by omega)];omega
  have f1':JE 24 [out,.int .i64 i,.int .i64 n,.int .i64 0,.agg #[.int .i64 16,.int .i64 8,.int .i64 6,.int .i64 6],.int .i64 i] s1=_:=f1
  simp only [zfT,zdt h,cu,hb,bf]
  rw [f1',bf]
  simp only [lN,iZ,bf,eP,hw]
  exact hr
 obtain ⟨v1,s1,x1,o1,k1⟩:=step 0 16 114 [] (.slice none 0 0) st (by omega) (by omega) (by simp) rfl rfl (.refl _) (Own.nil _ _ _)
 obtain ⟨v2,s2,x2,o2,k2⟩:=step 1 8 116 _ v1 s1 (by omega) (by omega) (by simp [EK]) rfl rfl x1 o1
 obtain ⟨v3,s3,x3,o3,k3⟩:=step 2 6 118 _ v2 s2 (by omega) (by omega) (by simp [EK]) rfl rfl x2 o2
 obtain ⟨v4,s4,x4,o4,k4⟩:=step 3 6 97 _ v3 s3 (by omega) (by omega) (by simp [EK]) rfl rfl x3 o3
 refine ⟨v4,s4,?_,x4,o4⟩
 refine k1 _ (k2 _ (k3 _ (k4 _ (ze3 _ _ _ s4 ?_))))
 rfl
theorem zvr [Sym] (f:ByteArray) (st:SS) (hll:st.lim≤st.next):
  ∃ v st',cc 76 [.string f] st=some (v,st')∧Ext st st'∧Own st.next st' v (strs (namesT (bl f))) 1 (namesT (bl f)).length:=by
 have R:∀ s:ByteArray,s.size≤4294967296→∃ v st',((cc 50 [.string s,.int .u8 32] st).bind fun r=>some (r.1,r.2))=some (v,st')∧Ext st st'∧Own st.next st' v (strs (pieces 32 (bl s))) 1 (pieces 32 (bl s)).length:=fun s h1=>by
  obtain ⟨v,st',c,x,o⟩:=Rf s 32 h1 st hll
  have c':cc 50 [.string s,.int .u8 32] st=_:=c
  exact ⟨v,st',by rw [c'];rfl,x,o⟩
 by_cases xY:bl f=[97,108,117]
 ·have e:namesT (bl f)=pieces 32 Xw:=by rw [xY];rfl
  have IE:fA f ⟨#[97,108,117]⟩=true:=zdt xY
  obtain ⟨v,st',c,x,o⟩:=R ⟨#[110,111,110,101,32,109,111,118,32,110,111,116,32,110,101,103,32,105,110,99,32,100,101,99,32,97,100,100,32,115,117,98,32,97,100,100,99,32,115,117,98,99,32,109,117,108,32,100,105,118,32,111,114,32,98,105,99,32,120,111,114,32,97,110,100,32,99,109,112,32,116,101,115,116,32,99,108,101,97,114,32,115,120,98,32,115,120,119,32,122,120,98,32,122,120,119,32,115,104,108,32,115,104,114,32,97,115,104,32,114,111,116,32,111,112,32,115,120,111,32,101,120,116,32,105,110,115,32,99,118,116]⟩ (by decide+kernel)
  refine ⟨v,st',Hz f st ?_,x,by rw [e];exact o⟩
  simp only [GK,IE,cu,dn]
  exact c
 have nS:fA f ⟨#[97,108,117]⟩=false:=bg xY
 by_cases h_size:bl f=[115,105,122,101]
 ·have e:namesT (bl f)=pieces 32 XC:=by rw [h_size];rfl
  have Et:fA f ⟨#[115,105,122,101]⟩=true:=zdt h_size
  obtain ⟨v,st',c,x,o⟩:=R ⟨#[98,121,116,101,32,119,111,114,100,32,108,111,110,103,32,111,119,110]⟩ (by decide+kernel)
  refine ⟨v,st',Hz f st ?_,x,by rw [e];exact o⟩
  simp only [GK,nS,Et,cu,dn]
  exact c
 have nO:fA f ⟨#[115,105,122,101]⟩=false:=bg h_size
 by_cases Cj:bl f=[99,99]
 ·have e:namesT (bl f)=pieces 32 LD:=by rw [Cj];rfl
  have PE:fA f ⟨#[99,99]⟩=true:=zdt Cj
  obtain ⟨v,st',c,x,o⟩:=R ⟨#[107,101,101,112,32,115,101,116,32,115,101,116,107]⟩ (by decide+kernel)
  refine ⟨v,st',Hz f st ?_,x,by rw [e];exact o⟩
  simp only [GK,nS,nO,PE,cu,dn]
  exact c
 have xU:fA f ⟨#[99,99]⟩=false:=bg Cj
 by_cases h_mem:bl f=[109,101,109]
 ·have e:namesT (bl f)=pieces 32 Xv:=by rw [h_mem];rfl
  have IC:fA f ⟨#[109,101,109]⟩=true:=zdt h_mem
  obtain ⟨v,st',c,x,o⟩:=R ⟨#[110,111,110,101,32,114,100,32,119,114,32,112,114,111,98,101,32,98,108,100,32,98,115,116,32,98,112,117,116,32,98,103,101,116,32,98,99,108,114,32,105,102,32,114,100,112,32,107,115,116,32,114,111,119,32,117,110,114,111,119,32,114,111,119,97,32,102,108,117,115,104]⟩ (by decide+kernel)
  refine ⟨v,st',Hz f st ?_,x,by rw [e];exact o⟩
  simp only [GK,nS,nO,xU,IC,cu,dn]
  exact c
 have sO:fA f ⟨#[109,101,109]⟩=false:=bg h_mem
 by_cases xX:bl f=[115,101,113]
 ·have e:namesT (bl f)=pieces 32 Xu:=by rw [xX];rfl
  have IB:fA f ⟨#[115,101,113]⟩=true:=zdt xX
  obtain ⟨v,st',c,x,o⟩:=R ⟨#[110,101,120,116,32,106,109,112,32,99,106,32,99,97,108,108,32,114,101,116,32,115,112,101,99,32,109,111,100,101,32,101,110,100]⟩ (by decide+kernel)
  refine ⟨v,st',Hz f st ?_,x,by rw [e];exact o⟩
  simp only [GK,nS,nO,xU,sO,IB,cu,dn]
  exact c
 have wu:fA f ⟨#[115,101,113]⟩=false:=bg xX
 by_cases h_cond:bl f=[99,111,110,100]
 ·have e:namesT (bl f)=pieces 32 XB:=by rw [h_cond];rfl
  have q_cond:fA f ⟨#[99,111,110,100]⟩=true:=zdt h_cond
  obtain ⟨v,st',c,x,o⟩:=R ⟨#[97,108,119,97,121,115,32,122,32,110,122,32,110,101,103,32,112,111,115,32,99,32,110,99,32,117,115,101,114,32,107,101,114,110,101,108,32,102,112,100,32,110,111,102,112,100,32,116,97,107,101,110,32,109,97,116,99,104,32,107,49,32,107,50,32,107,51,32,108,97,115,116,114,101,103,32,102,32,114,101,97,100,115,32,105,110,100,101,120,32,100,105,118,32,108,101,115,115,97,108,117,32,97,108,117,49,32,115,116,114,105,110,103,32,110,111,105,110,100,101,120,32,110,111,114,101,97,100,115,32,111,118,101,114]⟩ (by decide+kernel)
  refine ⟨v,st',Hz f st ?_,x,by rw [e];exact o⟩
  simp only [GK,nS,nO,xU,sO,wu,q_cond,cu,dn]
  exact c
 have tY:fA f ⟨#[99,111,110,100]⟩=false:=bg h_cond
 by_cases sG:bl f=[109,105,115,99]
 ·have e:namesT (bl f)=pieces 32 XA:=by rw [sG];rfl
  have Eu:fA f ⟨#[109,105,115,99]⟩=true:=zdt sG
  obtain ⟨v,st',c,x,o⟩:=R ⟨#[110,111,110,101,32,115,116,101,112,32,117,110,100,111,32,115,101,116,102,112,100,32,99,108,114,102,112,100,32,114,97,105,115,101,32,108,97,116,99,104,107,32,108,97,116,99,104,120,32,109,116,112,114,32,109,102,112,114,32,101,110,116,101,114,32,112,117,116,112,115,108,32,104,97,108,116,32,98,97,99,107,32,100,101,99,111,100,101,32,115,101,108,32,115,101,108,107,32,111,119,110,108,97,115,116,32,112,105,99,107,32,112,105,99,107,116,111,112,32,112,97,114,97,109,115,32,99,111,117,110,116]⟩ (by decide+kernel)
  refine ⟨v,st',Hz f st ?_,x,by rw [e];exact o⟩
  simp only [GK,nS,nO,xU,sO,wu,tY,Eu,cu,dn]
  exact c
 have zx:fA f ⟨#[109,105,115,99]⟩=false:=bg sG
 by_cases Ls:bl f=[97]
 ·have e:namesT (bl f)=pieces 32 Hf:=by rw [Ls];rfl
  have q_a:fA f ⟨#[97]⟩=true:=zdt Ls
  obtain ⟨v1,s1,c1,x1,o1⟩:=zkd st hll
  obtain ⟨v2,s2,c2,x2,o2⟩:=Rf ⟨#[109,100,32,118,97,32,112,115,108,32,114,110,32,114,120,32,108,105,116,32,122,101,114,111,32,118,101,99,32,112,48,32,112,49,32,115,116,97,114,116,32,115,99,98,98,32,107,115,112,32,117,115,112,32,100,105,115,112,32,111,115,105,122,101,32,105,108,101,110,32,108,101,118,101,108,32,118,99,32,97,99,32,97,108,32,107,108,32,99,110,116,32,110,112]⟩ 32 (by decide+kernel) s1 (x1.ll hll)
  have c2':cc 50 [.string ⟨#[109,100,32,118,97,32,112,115,108,32,114,110,32,114,120,32,108,105,116,32,122,101,114,111,32,118,101,99,32,112,48,32,112,49,32,115,116,97,114,116,32,115,99,98,98,32,107,115,112,32,117,115,112,32,100,105,115,112,32,111,115,105,122,101,32,105,108,101,110,32,108,101,118,101,108,32,118,99,32,97,99,32,97,108,32,107,108,32,99,110,116,32,110,112]⟩,.int .u8 32] s1=_:=c2
  obtain ⟨v3,s3,c3,o3,l3,n3,e3,_⟩:=(o1.ext x2).app o2.rd (by have:=x1.next;have:=x2.next;omega) (by have:=x1.lim;have:=x2.lim;omega) (by omega) (zok _) (bt:=16) (by decide+kernel) (by decide+kernel)
  refine ⟨v3,s3,Hz f st ?_,e3 st (fF _) (x1.trans x2),?_⟩
  ·simp only [GK,nS,nO,xU,sO,wu,tY,zx,q_a,cu,dn]
   rw [c1,bf]
   simp only [iZ,bf]
   rw [c2',bf,c3,bf]
  ·rw [e,← zor,Ox,List.length_append];exact o3
 have Gn:fA f ⟨#[97]⟩=false:=bg Ls
 by_cases Lr:bl f=[98]
 ·have e:namesT (bl f)=pieces 32 Hf:=by rw [Lr];rfl
  have q_b:fA f ⟨#[98]⟩=true:=zdt Lr
  obtain ⟨v1,s1,c1,x1,o1⟩:=zkd st hll
  obtain ⟨v2,s2,c2,x2,o2⟩:=Rf ⟨#[109,100,32,118,97,32,112,115,108,32,114,110,32,114,120,32,108,105,116,32,122,101,114,111,32,118,101,99,32,112,48,32,112,49,32,115,116,97,114,116,32,115,99,98,98,32,107,115,112,32,117,115,112,32,100,105,115,112,32,111,115,105,122,101,32,105,108,101,110,32,108,101,118,101,108,32,118,99,32,97,99,32,97,108,32,107,108,32,99,110,116,32,110,112]⟩ 32 (by decide+kernel) s1 (x1.ll hll)
  have c2':cc 50 [.string ⟨#[109,100,32,118,97,32,112,115,108,32,114,110,32,114,120,32,108,105,116,32,122,101,114,111,32,118,101,99,32,112,48,32,112,49,32,115,116,97,114,116,32,115,99,98,98,32,107,115,112,32,117,115,112,32,100,105,115,112,32,111,115,105,122,101,32,105,108,101,110,32,108,101,118,101,108,32,118,99,32,97,99,32,97,108,32,107,108,32,99,110,116,32,110,112]⟩,.int .u8 32] s1=_:=c2
  obtain ⟨v3,s3,c3,o3,l3,n3,e3,_⟩:=(o1.ext x2).app o2.rd (by have:=x1.next;have:=x2.next;omega) (by have:=x1.lim;have:=x2.lim;omega) (by omega) (zok _) (bt:=16) (by decide+kernel) (by decide+kernel)
  refine ⟨v3,s3,Hz f st ?_,e3 st (fF _) (x1.trans x2),?_⟩
  ·simp only [GK,nS,nO,xU,sO,wu,tY,zx,Gn,q_b,cu,dn]
   rw [c1,bf]
   simp only [iZ,bf]
   rw [c2',bf,c3,bf]
  ·rw [e,← zor,Ox,List.length_append];exact o3
 have IJ:fA f ⟨#[98]⟩=false:=bg Lr
 by_cases Lp:bl f=[100]
 ·have e:namesT (bl f)=pieces 32 Hf:=by rw [Lp];rfl
  have q_d:fA f ⟨#[100]⟩=true:=zdt Lp
  obtain ⟨v1,s1,c1,x1,o1⟩:=zkd st hll
  obtain ⟨v2,s2,c2,x2,o2⟩:=Rf ⟨#[109,100,32,118,97,32,112,115,108,32,114,110,32,114,120,32,108,105,116,32,122,101,114,111,32,118,101,99,32,112,48,32,112,49,32,115,116,97,114,116,32,115,99,98,98,32,107,115,112,32,117,115,112,32,100,105,115,112,32,111,115,105,122,101,32,105,108,101,110,32,108,101,118,101,108,32,118,99,32,97,99,32,97,108,32,107,108,32,99,110,116,32,110,112]⟩ 32 (by decide+kernel) s1 (x1.ll hll)
  have c2':cc 50 [.string ⟨#[109,100,32,118,97,32,112,115,108,32,114,110,32,114,120,32,108,105,116,32,122,101,114,111,32,118,101,99,32,112,48,32,112,49,32,115,116,97,114,116,32,115,99,98,98,32,107,115,112,32,117,115,112,32,100,105,115,112,32,111,115,105,122,101,32,105,108,101,110,32,108,101,118,101,108,32,118,99,32,97,99,32,97,108,32,107,108,32,99,110,116,32,110,112]⟩,.int .u8 32] s1=_:=c2
  obtain ⟨v3,s3,c3,o3,l3,n3,e3,_⟩:=(o1.ext x2).app o2.rd (by have:=x1.next;have:=x2.next;omega) (by have:=x1.lim;have:=x2.lim;omega) (by omega) (zok _) (bt:=16) (by decide+kernel) (by decide+kernel)
  refine ⟨v3,s3,Hz f st ?_,e3 st (fF _) (x1.trans x2),?_⟩
  ·simp only [GK,nS,nO,xU,sO,wu,tY,zx,Gn,IJ,q_d,cu,dn]
   rw [c1,bf]
   simp only [iZ,bf]
   rw [c2',bf,c3,bf]
  ·rw [e,← zor,Ox,List.length_append];exact o3
 have KP:fA f ⟨#[100]⟩=false:=bg Lp
 have e:namesT (bl f)=[]:=by simp only [namesT,if_neg xY,if_neg Ls,if_neg Lr,if_neg Lp,if_neg h_size,if_neg Cj,if_neg h_mem,if_neg xX,if_neg h_cond,if_neg sG]
 refine ⟨.slice none 0 0,st,Hz f st ?_,.refl _,by rw [e];exact Own.nil _ _ _⟩
 simp only [GK,nS,nO,xU,sO,wu,tY,zx,Gn,IJ,KP,cu,dn]
theorem zxV [Sym] (l:List (List UInt8)) (hl:l.length≤1099511627776) (s:ByteArray) (v:Value) (st:SS) (hv:Rd st v (strs l) 1 l.length):∀ (r:List (List UInt8)) (i:Nat),l.drop i=r→i≤l.length→
  UN 2 [.string s,v,.int .i64 l.length,.int .i64 i] st=some (match r.findIdx? (fun x=>decide (x=bl s)) with | none=>(0,[],st) | some k=>(1,[.int .i64 ((i+k:Nat):Int)],st)):=by
 intro r
 induction r with
 | nil=>
   intro i hd hi
   have hlen:=congrArg List.length hd
   rw [List.length_drop] at hlen
   have h:¬ (i:Int)<(l.length:Int):=by simp at hlen;omega
   refine zgk _ _ _ _ st ?_
   simp only [Y3,bg h,dn,List.findIdx?_nil]
 | cons p r ih=>
   intro i hd hi
   have hlen:=congrArg List.length hd
   rw [List.length_drop,List.length_cons] at hlen
   have h:(i:Int)<(l.length:Int):=by omega
   have BK:l[i]?=some p:=by
    have:=List.getElem?_drop (xs:=l) (i:=i) (j:=0)
    rw [hd] at this
    simpa using this.symm
   have hd':l.drop (i+1)=r:=by rw [← List.drop_drop,hd];rfl
   obtain ⟨q,b1,_,b3⟩:=hv.load (j:=(i:Int)) (by omega) h (strs_get _ i p BK) rfl
   have b3':st.ld q.1 q.2=some (.string (mkS p)):=by simpa using b3 0 (by omega)
   refine zgk _ _ _ _ st ?_
   have hw:IntKind.wrap .i64 ((i:Int)+1)=((i+1:Nat):Int):=by rw [wrap64 (by omega) (by omega)];omega
   by_cases hp:p=bl s
   ·have he:fA (mkS p) s=true:=by rw [JC,vW];exact zdt hp
    simp only [Y3,zdt h,cu,b1,b3',bf,fP,he,List.findIdx?_cons,zdt hp,if_true]
    rfl
   ·have he:fA (mkS p) s=false:=by rw [JC,vW];exact bg hp
    have:=ih (i+1) hd' (by omega)
    simp only [Y3,zdt h,cu,b1,b3',bf,fP,he,dn,hw,List.findIdx?_cons,bg hp]
    rw [this]
    cases r.findIdx? (fun x=>decide (x=bl s)) with
    | none=>rfl
    | some k=>simp;omega
def inT (l:List (List UInt8)) (s:List UInt8):Int:=match l.findIdx? (fun x=>decide (x=s)) with | none=> -1 | some k=>(k:Int)
theorem Xt [Sym] (l:List (List UInt8)) (hl:l.length≤1099511627776) (s:ByteArray) (v:Value) (st:SS) (hv:Rd st v (strs l) 1 l.length):∃ n,st.next≤n∧cc 47 [v,.string s] st=some (.int .i64 (inT l (bl s)),st.dw n):=by
 have h:=zxV l hl s v (st.ro st.next) hv l 0 rfl (Nat.zero_le _)
 have h':UN 2 [.string s,v,.int .i64 l.length,.int .i64 0] (st.ro st.next)=_:=h
 refine ⟨st.next,fF _,zmo v s st ?_⟩
 simp only [zjk,hv.len,bf,eP]
 rw [h',bf]
 unfold inT
 cases l.findIdx? (fun x=>decide (x=bl s)) with
 | none=>rfl
 | some k=>simp
end Go.Proofs.YtifploedaacedaaGreatDoorE
