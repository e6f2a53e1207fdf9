/- Parts of the proof of UcodeReaches, packed by a program: an evaluator over the given code, functions as plain texts, their laws. -/
import Derived.KernelRfl
import Derived.Test.YtifploedaacedaaGreatDoorPUB
set_option linter.unusedVariables false
set_option linter.unusedSimpArgs false
namespace Go.E
open Go
def PT.vals {α:Type}:PT α→(Nat→Nat)→List (Nat×α)
 | .nil,_=>[]
 | .node l v r,f=>(match v with | some x=>[(f 0,x)] | none=>[])++(l.vals (fun k=>f (2*k+1))++r.vals (fun k=>f (2*k+2)))
theorem PT.all_vals {α:Type} {p:Nat→α→Prop}:∀ (t:PT α) (f:Nat→Nat),(∀ x∈t.vals f,p x.1 x.2)→t.All p f
 | .nil,_,_=>trivial
 | .node l v r,f,h=>⟨fun x hx=>by
   subst hx
   exact h (f 0,x) (by simp [PT.vals]),PT.all_vals l _ fun x hx=>h x (by simp [PT.vals,hx]),PT.all_vals r _ fun x hx=>h x (by simp [PT.vals,hx])⟩
theorem PT.all_map {α β:Type} {p:Nat→α→Prop} {g h:Nat×α→β} {t:PT α} (hp:∀ x:Nat×α,g x=h x→p x.1 x.2) (e:(t.vals fun k=>k).map g=(t.vals fun k=>k).map h):t.All p fun k=>k:=
 PT.all_vals t _ fun x hx=>hp x (List.map_inj_left.1 e x hx)
noncomputable def zL {α:Type} (x:α):PT α:=.node .nil (some x) .nil
noncomputable def zN {α:Type} (l:PT α) (x:α) (r:PT α):PT α:=.node l (some x) r
end Go.E
namespace Go.Proofs.YtifploedaacedaaGreatDoorE
open Go Go.E Go.Proofs
set_option maxRecDepth 100000
open Tryz in
noncomputable def tyT:PT TypeInfo:=zN (zN (zN (zN (zN (zN (zN (zN (zL t255) t127 .nil) t63 (zL t191)) t31 (zN (zN (zL t287) t159 .nil) t95 (zL t223))) t15 (zN (zN (zN (zL t271) t143 .nil) t79 (zL t207)) t47 (zN (zL t175)
 t111 (zL t239)))) t7 (zN (zN (zN (zN (zL t263) t135 .nil) t71 (zL t199)) t39 (zN (zL t167) t103 (zL t231))) t23 (zN (zN (zN (zL t279) t151 .nil) t87 (zL t215)) t55 (zN (zL t183) t119 (zL t247))))) t3 (zN (zN (zN (zN (zN (zL t259) t131
 .nil) t67 (zL t195)) t35 (zN (zL t163) t99 (zL t227))) t19 (zN (zN (zN (zL t275) t147 .nil) t83 (zL t211)) t51 (zN (zL t179) t115 (zL t243)))) t11 (zN (zN (zN (zN (zL t267) t139 .nil) t75 (zL t203)) t43 (zN (zL t171) t107 (zL t235))) t27
 (zN (zN (zN (zL t283) t155 .nil) t91 (zL t219)) t59 (zN (zL t187) t123 (zL t251)))))) t1 (zN (zN (zN (zN (zN (zN (zL t257) t129 .nil) t65 (zL t193)) t33 (zN (zL t161) t97 (zL t225))) t17 (zN (zN (zN (zL t273) t145 .nil) t81 (zL t209)) t49
 (zN (zL t177) t113 (zL t241)))) t9 (zN (zN (zN (zN (zL t265) t137 .nil) t73 (zL t201)) t41 (zN (zL t169) t105 (zL t233))) t25 (zN (zN (zN (zL t281) t153 .nil) t89 (zL t217)) t57 (zN (zL t185) t121 (zL t249))))) t5 (zN (zN (zN (zN (zN (zL
 t261) t133 .nil) t69 (zL t197)) t37 (zN (zL t165) t101 (zL t229))) t21 (zN (zN (zN (zL t277) t149 .nil) t85 (zL t213)) t53 (zN (zL t181) t117 (zL t245)))) t13 (zN (zN (zN (zN (zL t269) t141 .nil) t77 (zL t205)) t45 (zN (zL t173) t109 (zL
 t237))) t29 (zN (zN (zN (zL t285) t157 .nil) t93 (zL t221)) t61 (zN (zL t189) t125 (zL t253))))))) t0 (zN (zN (zN (zN (zN (zN (zN (zL t256) t128 .nil) t64 (zL t192)) t32 (zN (zL t160) t96 (zL t224))) t16 (zN (zN (zN (zL t272) t144 .nil)
 t80 (zL t208)) t48 (zN (zL t176) t112 (zL t240)))) t8 (zN (zN (zN (zN (zL t264) t136 .nil) t72 (zL t200)) t40 (zN (zL t168) t104 (zL t232))) t24 (zN (zN (zN (zL t280) t152 .nil) t88 (zL t216)) t56 (zN (zL t184) t120 (zL t248))))) t4 (zN
 (zN (zN (zN (zN (zL t260) t132 .nil) t68 (zL t196)) t36 (zN (zL t164) t100 (zL t228))) t20 (zN (zN (zN (zL t276) t148 .nil) t84 (zL t212)) t52 (zN (zL t180) t116 (zL t244)))) t12 (zN (zN (zN (zN (zL t268) t140 .nil) t76 (zL t204)) t44 (zN
 (zL t172) t108 (zL t236))) t28 (zN (zN (zN (zL t284) t156 .nil) t92 (zL t220)) t60 (zN (zL t188) t124 (zL t252)))))) t2 (zN (zN (zN (zN (zN (zN (zL t258) t130 .nil) t66 (zL t194)) t34 (zN (zL t162) t98 (zL t226))) t18 (zN (zN (zN (zL t274)
 t146 .nil) t82 (zL t210)) t50 (zN (zL t178) t114 (zL t242)))) t10 (zN (zN (zN (zN (zL t266) t138 .nil) t74 (zL t202)) t42 (zN (zL t170) t106 (zL t234))) t26 (zN (zN (zN (zL t282) t154 .nil) t90 (zL t218)) t58 (zN (zL t186) t122 (zL
 t250))))) t6 (zN (zN (zN (zN (zN (zL t262) t134 .nil) t70 (zL t198)) t38 (zN (zL t166) t102 (zL t230))) t22 (zN (zN (zN (zL t278) t150 .nil) t86 (zL t214)) t54 (zN (zL t182) t118 (zL t246)))) t14 (zN (zN (zN (zN (zL t270) t142 .nil) t78
 (zL t206)) t46 (zN (zL t174) t110 (zL t238))) t30 (zN (zN (zN (zL t286) t158 .nil) t94 (zL t222)) t62 (zN (zL t190) t126 (zL t254)))))))
open Tryz in
noncomputable def unT:PT TypeDesc:=zN (zN (zN (zN (zN (zN (zN (zN (zL t255.desc) t126.desc .nil) t63.desc (zL t191.desc)) t31.desc (zN (zN (zL t287.desc) t159.desc .nil) t94.desc (zL t223.desc))) t15.desc (zN (zN (zN (zL
 t271.desc) t143.desc .nil) t79.desc (zL t207.desc)) t46.desc (zN (zL t175.desc) t111.desc (zL t239.desc)))) t7.desc (zN (zN (zN (zN (zL t262.desc) t134.desc .nil) t71.desc (zL t198.desc)) t38.desc (zN (zL t167.desc) t103.desc (zL
 t231.desc))) t23.desc (zN (zN (zN (zL t278.desc) t151.desc .nil) t87.desc (zL t215.desc)) t55.desc (zN (zL t183.desc) t119.desc (zL t247.desc))))) t3.desc (zN (zN (zN (zN (zN (zL t258.desc) t131.desc .nil) t67.desc (zL t195.desc)) t34.desc
 (zN (zL t163.desc) t99.desc (zL t227.desc))) t18.desc (zN (zN (zN (zL t275.desc) t146.desc .nil) t83.desc (zL t211.desc)) t51.desc (zN (zL t179.desc) t115.desc (zL t243.desc)))) t9.desc (zN (zN (zN (zN (zL t267.desc) t138.desc .nil)
 t75.desc (zL t203.desc)) t43.desc (zN (zL t171.desc) t106.desc (zL t235.desc))) t27.desc (zN (zN (zN (zL t21.desc) t155.desc .nil) t91.desc (zL t219.desc)) t59.desc (zN (zL t187.desc) t123.desc (zL t251.desc)))))) t1.desc (zN (zN (zN (zN
 (zN (zN (zL t257.desc) t129.desc .nil) t65.desc (zL t193.desc)) t33.desc (zN (zL t161.desc) t27.desc (zL t225.desc))) t17.desc (zN (zN (zN (zL t273.desc) t145.desc .nil) t81.desc (zL t209.desc)) t49.desc (zN (zL t177.desc) t113.desc (zL
 t241.desc)))) t9.desc (zN (zN (zN (zN (zL t265.desc) t137.desc .nil) t73.desc (zL t201.desc)) t41.desc (zN (zL t169.desc) t105.desc (zL t233.desc))) t25.desc (zN (zN (zN (zL t5.desc) t153.desc .nil) t89.desc (zL t217.desc)) t57.desc (zN
 (zL t185.desc) t120.desc (zL t249.desc))))) t5.desc (zN (zN (zN (zN (zN (zL t261.desc) t133.desc .nil) t69.desc (zL t197.desc)) t37.desc (zN (zL t165.desc) t101.desc (zL t229.desc))) t21.desc (zN (zN (zN (zL t277.desc) t149.desc .nil)
 t85.desc (zL t213.desc)) t53.desc (zN (zL t181.desc) t117.desc (zL t245.desc)))) t13.desc (zN (zN (zN (zN (zL t268.desc) t141.desc .nil) t76.desc (zL t205.desc)) t45.desc (zN (zL t173.desc) t108.desc (zL t237.desc))) t29.desc (zN (zN (zN
 (zL t285.desc) t157.desc .nil) t93.desc (zL t221.desc)) t61.desc (zN (zL t189.desc) t125.desc (zL t253.desc))))))) t0.desc (zN (zN (zN (zN (zN (zN (zN (zL t256.desc) t128.desc .nil) t64.desc (zL t192.desc)) t32.desc (zN (zL t160.desc)
 t96.desc (zL t224.desc))) t16.desc (zN (zN (zN (zL t272.desc) t144.desc .nil) t79.desc (zL t207.desc)) t48.desc (zN (zL t176.desc) t112.desc (zL t240.desc)))) t7.desc (zN (zN (zN (zN (zL t264.desc) t136.desc .nil) t72.desc (zL t200.desc))
 t40.desc (zN (zL t168.desc) t104.desc (zL t232.desc))) t24.desc (zN (zN (zN (zL t5.desc) t152.desc .nil) t88.desc (zL t216.desc)) t56.desc (zN (zL t184.desc) t120.desc (zL t247.desc))))) t4.desc (zN (zN (zN (zN (zN (zL t260.desc) t132.desc
 .nil) t68.desc (zL t196.desc)) t36.desc (zN (zL t164.desc) t100.desc (zL t3.desc))) t20.desc (zN (zN (zN (zL t275.desc) t148.desc .nil) t84.desc (zL t212.desc)) t52.desc (zN (zL t180.desc) t116.desc (zL t244.desc)))) t12.desc (zN (zN (zN
 (zN (zL t268.desc) t140.desc .nil) t76.desc (zL t204.desc)) t44.desc (zN (zL t172.desc) t108.desc (zL t236.desc))) t3.desc (zN (zN (zN (zL t21.desc) t106.desc .nil) t91.desc (zL t220.desc)) t60.desc (zN (zL t188.desc) t124.desc (zL
 t251.desc)))))) t2.desc (zN (zN (zN (zN (zN (zN (zL t258.desc) t130.desc .nil) t66.desc (zL t194.desc)) t34.desc (zN (zL t162.desc) t98.desc (zL t226.desc))) t18.desc (zN (zN (zN (zL t274.desc) t146.desc .nil) t82.desc (zL t210.desc))
 t50.desc (zN (zL t178.desc) t114.desc (zL t241.desc)))) t9.desc (zN (zN (zN (zN (zL t265.desc) t138.desc .nil) t74.desc (zL t202.desc)) t42.desc (zN (zL t170.desc) t106.desc (zL t234.desc))) t25.desc (zN (zN (zN (zL t282.desc) t153.desc
 .nil) t90.desc (zL t218.desc)) t58.desc (zN (zL t186.desc) t122.desc (zL t250.desc))))) t5.desc (zN (zN (zN (zN (zN (zL t262.desc) t134.desc .nil) t70.desc (zL t198.desc)) t38.desc (zN (zL t166.desc) t101.desc (zL t230.desc))) t22.desc (zN
 (zN (zN (zL t278.desc) t120.desc .nil) t86.desc (zL t214.desc)) t54.desc (zN (zL t182.desc) t118.desc (zL t246.desc)))) t13.desc (zN (zN (zN (zN (zL t270.desc) t142.desc .nil) t78.desc (zL t206.desc)) t46.desc (zN (zL t174.desc) t110.desc
 (zL t238.desc))) t30.desc (zN (zN (zN (zL t285.desc) t157.desc .nil) t94.desc (zL t222.desc)) t62.desc (zN (zL t190.desc) t126.desc (zL t254.desc)))))))
open Tryz in
noncomputable def fnT:PT (FuncId×Func):=(.node (.node (zN (zN (zN (zN (zN (zL (127,f127)) (63,f63) .nil) (31,f31) (zN (zL (159,f159)) (95,f95) .nil)) (15,f15) (zN (zL (79,f79)) (47,f47) (zN (zL (175,f175)) (111,
 f111) .nil))) (7,f7) (zN (zN (zN (zL (135,f135)) (71,f71) .nil) (39,f39) (zN (zL (167,f167)) (103,f103) .nil)) (23,f23) (zN (zN (zL (151,f151)) (87,f87) .nil) (55,f55) (zL (119,f119))))) (3,f3) (zN (zN (zN (zN (zL (131,f131))
 (67,f67) .nil) (35,f35) (zN (zL (163,f163)) (99,f99) .nil)) (19,f19) (zN (zN (zL (147,f147)) (83,f83) .nil) (51,f51) (zN (zL (179,f179)) (115,f115) .nil))) (11,f11) (zN (zN (zN (zL (139,f139)) (75,f75) .nil) (43,f43) (zN (zL
 (171,f171)) (107,f107) .nil)) (27,f27) (zN (zN (zL (155,f155)) (91,f91) .nil) (59,f59) (zL (123,f123)))))) none (zN (zN (zN (zN (zN (zL (129,f129)) (65,f65) .nil) (33,f33) (zN (zL (161,f161)) (97,f97) .nil)) (17,f17) (zN (zN
 (zL (145,f145)) (81,f81) .nil) (49,f49) (zN (zL (177,f177)) (113,f113) .nil))) (9,f9) (zN (zN (zN (zL (137,f137)) (73,f73) .nil) (41,f41) (zN (zL (169,f169)) (105,f105) .nil)) (25,f25) (zN (zN (zL (153,f153)) (89,f89) .nil)
 (57,f57) (zL (121,f121))))) (5,f5) (zN (zN (zN (zN (zL (133,f133)) (69,f69) .nil) (37,f37) (zN (zL (165,f165)) (101,f101) .nil)) (21,f21) (zN (zN (zL (149,f149)) (85,f85) .nil) (53,f53) (zN (zL (181,f181)) (117,f117) .nil)))
 (13,f13) (zN (zN (zN (zL (141,f141)) (77,f77) .nil) (45,f45) (zN (zL (173,f173)) (109,f109) .nil)) (29,f29) (zN (zL (93,f93)) (61,f61) (zL (125,f125))))))) none (zN (zN (zN (zN (zN (zN (zL (128,f128)) (64,f64) .nil) (32,f32)
 (zN (zL (160,f160)) (96,f96) .nil)) (16,f16) (zN (zN (zL (144,f144)) (80,f80) .nil) (48,f48) (zN (zL (176,f176)) (112,f112) .nil))) (8,f8) (zN (zN (zN (zL (136,f136)) (72,f72) .nil) (40,f40) (zN (zL (168,f168)) (104,f104)
 .nil)) (24,f24) (zN (zN (zL (152,f152)) (88,f88) .nil) (56,f56) (zL (120,f120))))) (4,f4) (zN (zN (zN (zN (zL (132,f132)) (68,f68) .nil) (36,f36) (zN (zL (164,f164)) (100,f100) .nil)) (20,f20) (zN (zL (84,f84)) (52,f52) (zN
 (zL (180,f180)) (116,f116) .nil))) (12,f12) (zN (zN (zN (zL (140,f140)) (76,f76) .nil) (44,f44) (zN (zL (172,f172)) (108,f108) .nil)) (28,f28) (zN (zN (zL (156,f156)) (92,f92) .nil) (60,f60) (zL (124,f124)))))) (2,f2) (zN (zN
 (zN (zN (zN (zL (130,f130)) (66,f66) .nil) (34,f34) (zN (zL (162,f162)) (98,f98) .nil)) (18,f18) (zN (zN (zL (146,f146)) (82,f82) .nil) (50,f50) (zN (zL (178,f178)) (114,f114) .nil))) (10,f10) (zN (zN (zN (zL (138,f138)) (74,
 f74) .nil) (42,f42) (zN (zL (170,f170)) (106,f106) .nil)) (26,f26) (zN (zN (zL (154,f154)) (90,f90) (zL (218,f218))) (58,f58) (zL (122,f122))))) (6,f6) (zN (zN (zN (zN (zL (134,f134)) (70,f70) .nil) (38,f38) (zN (zL (166,
 f166)) (102,f102) .nil)) (22,f22) (zN (zN (zL (150,f150)) (86,f86) .nil) (54,f54) (zN (zL (182,f182)) (118,f118) .nil))) (14,f14) (zN (zN (zN (zL (142,f142)) (78,f78) .nil) (46,f46) (zN (zL (174,f174)) (110,f110) .nil)) (30,
 f30) (zN (zN (zL (158,f158)) (94,f94) .nil) (62,f62) (zL (126,f126))))))))
theorem tyT_ok:tyT.All (InfP Tryz.prog) (fun k=>k):=PT.all_map (g:=fun x=>Tryz.prog.info? x.1) (h:=fun x=>some x.2) (fun _ e=>e) (by kernel_rfl)
theorem unT_ok:unT.All (UndP Tryz.prog) (fun k=>k):=PT.all_map (g:=fun x=>Tryz.prog.underlying x.1) (h:=fun x=>some x.2) (fun _ e=>e) (by kernel_rfl)
theorem fnT_ok:fnT.All (FnP Tryz.prog) (fun k=>k):=PT.all_map (g:=fun x=>(fun args w=>(callFunc x.1 args).run Tryz.prog w,Tryz.prog.funcs[x.2.1]?)) (h:=fun x=>(fun args w=>.ok (.enter x.2.1 args) w,some x.2.2)) (fun _ e=>⟨fun args w=>congrFun (congrFun (congrArg Prod.fst e) args) w,congrArg Prod.snd e⟩) (by kernel_rfl)
def zbx:List (List UInt8×Nat):=[([97,108,117],5),([97],6),([98],6),([100],6),([108,105,116],8),([115,105,122,101],2),([99,99],2),([109,101,109],4),([115,101,113],3),([99,111,110,100],5),([116,111],11),([109,105,115,99],6)]
def fieldsC:List Value:=zbx.flatMap fun x=>[.string ⟨⟨x.1⟩⟩,.int .i64 x.2]
def asciiC:List Value:=Lib.asciiSpaceTab.map fun z=>.int .u8 z
def zpM (f:Nat):Bool:=Nat.beq f 110||Nat.beq f 132
def zpN (f:Nat) (vs:List Value):Option Value:=
 cond (zpM f) (match vs with
  | [.string s,.int .u8 c]=>some (.int .i64 (Lib.indexByte s.data.toList c.toNat.toUInt8))
  | _=>none)
 (cond (Nat.beq f 128) (match vs with
  | [.string s,.string t]=>(match t.data.toList with
    | [c]=>some (.int .i64 (Lib.countByte s.data.toList c))
    | _=>none)
  | _=>none)
 (cond (Nat.beq f 129) (match vs with
  | [.string s,.string t]=>(match t.data.toList with
    | [c]=>some (.int .i64 (Lib.indexByte s.data.toList c))
    | _=>none)
  | _=>none) none))
def extF (f:Nat) (vs:List Value):Option Value:=
 cond (Nat.beq f 102) (match vs with
  | [.int .i64 n]=>cond (decide (0≤n)&&decide (n<100)) (some (.string ⟨(Lib.decDigits n.toNat).toArray⟩)) none
  | _=>none) (zpN f vs)
def zd5 (nx g:Nat):Con:=⟨nx,nx+1,[(g,.table [.chan (some g)])],[],.iface 230 (.pointer (some ⟨nx,0,none⟩))⟩
def zkB (f:Nat) (vs:List Value) (nx:Nat):Option Con:=
 cond (Nat.beq f 147) (match vs with
  | [.string _,.string s,.int .i64 _,.int .i64 _,.iface t (.int .i64 k)]=>cond (Nat.ble s.size 281474976710656&&Nat.beq t 228) (cond (decide (k=2)) (some (zd5 nx 6)) (cond (decide (k=1)) (some (zd5 nx 7)) none)) none
  | _=>none) none
def pureL:List Nat:=[107,109,69,91,81,82,112,113,133,47,46,75,22,18,77,34,56,98,115,100,118,101,73,20,135,134,116,96,114,97,99,72,15,25]
noncomputable def Lk0:Lk where
 info t:=tyT.get t
 und t:=unT.get t
 func f:=fnT.get f
 glob g:=Nat.beq g 6||Nat.beq g 7||Nat.beq g 0||Nat.beq g 2
 ext:=extF
 con:=zkB
 pureF f:=pureL.any (Nat.beq f)
theorem zmP {t:ByteArray} {c:UInt8} (h:t.data.toList=[c]):t=⟨#[c]⟩:=by
 cases t with
 | mk d=>cases d with
   | mk l=>simp only at h;rw [h]
theorem zsh {f:Nat} {vs:List Value} {v:Value} (h:zpN f vs=some v):(∀ x∈vs,flat3 x=true)∧flat3 v=true∧∀ w,
  ∃ j,(∀ bs w,(callFunc f bs).run Tryz.prog w=.ok (.enter j bs) w)∧Calls Tryz.prog j vs.toArray w fun e w'=>e=.returned v∧RowKit.Below w.heap.size w w':=by
 have still:∀ (w w':World),w'=w→RowKit.Below w.heap.size w w':=fun w w' e=>by subst e;exact ⟨rfl,rfl,rfl,zlr _,fun _ _=>rfl⟩
 unfold zpN at h
 cases hi:zpM f with
 | true=>
   rw [hi] at h
   simp only [zct] at h
   split at h
   ·rename_i s c
    cases h
    refine ⟨fun x hx=>by simp at hx;rcases hx with rfl | rfl<;>rfl,rfl,fun w=>?_⟩
    unfold zpM at hi
    simp only [Bool.or_eq_true,zay,decide_eq_true_eq] at hi
    rcases hi with rfl | rfl
    ·exact ⟨110,Tryz.call110,(Tryz.strings_IndexByte s c w).mono fun e w' ⟨h1,h2⟩=>⟨h1,still w w' h2⟩⟩
    ·exact ⟨132,Tryz.call132,(Tryz.stringslite_IndexByte s c w).mono fun e w' ⟨h1,h2⟩=>⟨h1,still w w' h2⟩⟩
   ·cases h
 | false=>
   rw [hi] at h
   simp only [zcf] at h
   cases h59:Nat.beq f 128 with
   | true=>
     rw [h59] at h
     have:=beq_true h59
     subst this
     simp only [zct] at h
     split at h
     ·rename_i s t
      split at h
      ·rename_i c hc
       cases h
       have:=zmP hc
       subst this
       exact ⟨fun x hx=>by simp at hx;rcases hx with rfl | rfl<;>rfl,rfl,fun w=>⟨128,Tryz.call128,(Tryz.strings_Count_one s c w).mono fun e w' ⟨h1,h2⟩=>⟨h1,still w w' h2⟩⟩⟩
      ·cases h
     ·cases h
   | false=>
     rw [h59] at h
     simp only [zcf] at h
     cases h60:Nat.beq f 129 with
     | true=>
       rw [h60] at h
       have:=beq_true h60
       subst this
       simp only [zct] at h
       split at h
       ·rename_i s t
        split at h
        ·rename_i c hc
         cases h
         have:=zmP hc
         subst this
         exact ⟨fun x hx=>by simp at hx;rcases hx with rfl | rfl<;>rfl,rfl,fun w=>⟨129,Tryz.call129,(Tryz.strings_Index_one s c w).mono fun e w' ⟨h1,h2⟩=>⟨h1,still w w' h2⟩⟩⟩
        ·cases h
       ·cases h
     | false=>rw [h60] at h;cases h
theorem ztq {f:Nat} {vs:List Value} {v:Value} (h:extF f vs=some v):(∀ x∈vs,flat3 x=true)∧flat3 v=true∧∀ w,
  ∃ j,(∀ bs w,(callFunc f bs).run Tryz.prog w=.ok (.enter j bs) w)∧Calls Tryz.prog j vs.toArray w fun e w'=>e=.returned v∧RowKit.Below w.heap.size w w':=by
 have still:∀ (w w':World),w'=w→RowKit.Below w.heap.size w w':=fun w w' e=>by subst e;exact ⟨rfl,rfl,rfl,zlr _,fun _ _=>rfl⟩
 unfold extF at h
 cases hi:Nat.beq f 102 with
 | false=>rw [hi] at h;exact zsh h
 | true=>
   rw [hi] at h
   simp only [zct] at h
   have hf:f=102:=by rw [zay] at hi;exact of_decide_eq_true hi
   subst hf
   split at h
   ·rename_i n
    cases hc:(decide (0≤n)&&decide (n<100)) with
    | false=>rw [hc] at h;cases h
    | true=>
      rw [hc] at h
      simp only [zct] at h
      cases h
      simp only [zae,decide_eq_true_eq] at hc
      refine ⟨fun x hx=>by simp at hx;subst hx;rfl,rfl,fun w=>⟨102,Tryz.call102,?_⟩⟩
      have hn:(n.toNat:Int)=n:=Int.toNat_of_nonneg hc.1
      have:=Tryz.strconv_Itoa_small n.toNat (by omega) w
      rw [hn] at this
      exact this.mono fun e w' ⟨h1,h2⟩=>⟨h1,still w w' h2⟩
   ·cases h
theorem zai [Sym]:Lk0.Ok Tryz.prog where
 symOp _ _ _ _ _ h:=by cases h
 symLen _ _ h:=by cases h
 info t i h:=PT.all_get tyT _ tyT_ok t i h
 und t d h:=PT.all_get unT _ unT_ok t d h
 func f j fn h:=PT.all_get fnT _ fnT_ok f (j,fn) h
 mixed:=by kernel_rfl
 ext f vs v h:=by
  obtain ⟨h1,h2,h3⟩:=ztq h
  exact ⟨h1,h2,fun w=>.inl (h3 w)⟩
theorem zal:LkS Lk0:=⟨fun _ _ _ _=>rfl⟩
structure ErrSym [Sym]:Prop where
 e4:∃ t u,Sym.v 6=.iface t u
 e5:∃ t u,Sym.v 7=.iface t u
theorem zo6 [Sym] {g nx:Nat} {fn s:ByteArray} {base bits k:Int} (hs:s.size≤281474976710656) (he:∃ t u,Sym.v g=.iface t u)
  (hc:∀ (ev:Value) (w:World),w.cell? ⟨g,0,none⟩=some ev→(ev=.nilIface∨∃ te pe,ev=.iface te pe)→
   Calls Tryz.prog 147 #[.string fn,.string s,.int .i64 base,.int .i64 bits,.iface 228 (.int .i64 k)] w fun e w'=>∃ N,e=.returned (.iface 230 (.pointer (some ⟨N,0,none⟩)))∧w.heap.size≤N∧w'.heap[N]?=some (.cells #[.string fn,.string s,ev] 248 (0,0))∧RowKit.Below w.heap.size w w'):
  ConFact Tryz.prog 147 [.string fn,.string s,.int .i64 base,.int .i64 bits,.iface 228 (.int .i64 k)] (zd5 nx g):=by
 refine ⟨fun x hx=>by simp at hx;rcases hx with rfl | rfl | rfl | rfl | rfl<;>rfl,147,Tryz.call147,fun w pl hob=>?_⟩
 obtain ⟨hb,hoo,obj,hobj,arr,T,fr,rfl,hcells⟩:=hob (g,.table [.chan (some g)]) (by simp [zd5])
 obtain ⟨v',hv',hvr⟩:=hcells 0 (.chan (some g)) rfl
 have hv2:v'=Sym.v g:=by cases hvr;rfl
 subst hv2
 have hcell:w.cell? ⟨g,0,none⟩=some (Sym.v g):=by
  unfold World.cell?
  simp only [hobj]
  rw [hoo] at hv'
  simpa using hv'
 refine (hc (Sym.v g) w hcell (.inr he)).mono fun e w' ⟨N,h1,h2,h3,h4⟩=>?_
 refine ⟨_,fun i=>if i=nx then some ⟨N,0,3,0⟩ else none,h1,?_⟩
 have hN:N<w'.heap.size:=(Array.getElem?_eq_some_iff.1 h3).1
 refine ⟨.iface (.ptr (p:=⟨N,0,3,0⟩) (by simp)),h4,fun i p hp=>?_,fun i p hp=>?_,fun i p ob hp ho=>by simp [zd5] at ho,fun i j p q hp hq hi=>by simp [zd5] at hi⟩
 ·split at hp
  ·rename_i e;cases hp;subst e
   exact .inr ⟨zlr _,Nat.lt_succ_self _,h2⟩
  ·cases hp
 ·split at hp
  ·cases hp;exact hN
  ·cases hp
theorem ztr [Sym] (hE:ErrSym):zjE Tryz.prog Lk0:=by
 intro f vs nx c h
 have h0:zkB f vs nx=some c:=h
 clear h
 unfold zkB at h0
 obtain ⟨hf,h1⟩:=zaK h0
 clear h0
 have:=beq_true hf
 subst this
 split at h1
 ·rename_i fn s base bits t k
  obtain ⟨hq,h2⟩:=zaK h1
  clear h1
  simp only [zae,Nat.ble_eq] at hq
  have:=beq_true hq.2
  subst this
  cases k2:decide (k=2) with
  | true=>
    rw [k2] at h2;cases h2
    have:=of_decide_eq_true k2
    subst this
    exact zo6 hq.1 hE.e4 fun ev w hv hev=>Tryz.toError_syntax _ _ _ _ ev w hq.1 hv hev
  | false=>
    rw [k2] at h2
    cases k1:decide (k=1) with
    | true=>
      rw [k1] at h2;cases h2
      have:=of_decide_eq_true k1
      subst this
      exact zo6 hq.1 hE.e5 fun ev w hv hev=>Tryz.toError_range _ _ _ _ ev w hq.1 hv hev
    | false=>rw [k1] at h2;cases h2
 ·cases h1
noncomputable abbrev cc:zak:=cS Tryz.prog Lk0
end Go.Proofs.YtifploedaacedaaGreatDoorE
namespace Go.Proofs.YtifploedaacedaaGreatDoorE
set_option maxRecDepth 20000
open Go Go.E Go.Proofs
noncomputable def zke (cf:zak) (lf:zac) (c':Int) (st:SS):Option (Value×SS):=
 cond (decide (97≤c')) (
 cond (decide (c'≤122)) (
 some (.bool true,st)) (
 cond (decide (65≤c')) (
 cond (decide (c'≤90)) (
 some (.bool true,st)) (
 some (.bool (decide (c'=95)),st))) (
 some (.bool (decide (c'=95)),st)))) (
 cond (decide (65≤c')) (
 cond (decide (c'≤90)) (
 some (.bool true,st)) (
 some (.bool (decide (c'=95)),st))) (
 some (.bool (decide (c'=95)),st)))
noncomputable abbrev zl8:zac:=lS Tryz.prog Lk0 Tryz.f106 zau
theorem zl9:Lk0.func 106=some (106,Tryz.f106):=by kernel_rfl
theorem zma [Sym] (c':Int) (st:SS) {r:Value×SS} (h:zke cc zl8 c' st=some r):cc 106 [.int .u8 c'] st=some r:=
 zad (li:=zau) zai zal zl9 rfl (fun _=>rfl) (.trans (by kernel_rfl) h)
noncomputable def zls (cf:zak) (lf:zac) (c':Int) (st:SS):Option (Value×SS):=
 cond (decide (48≤c')) (
 some (.bool (decide (c'≤57)),st)) (
 some (.bool false,st))
noncomputable abbrev znb:zac:=lS Tryz.prog Lk0 Tryz.f108 zau
theorem znc:Lk0.func 108=some (108,Tryz.f108):=by kernel_rfl
theorem znd [Sym] (c':Int) (st:SS) {r:Value×SS} (h:zls cc znb c' st=some r):cc 108 [.int .u8 c'] st=some r:=
 zad (li:=zau) zai zal znc rfl (fun _=>rfl) (.trans (by kernel_rfl) h)
def zjd:LoopI:=⟨[(0,.str),(6,.any)],[(.exit 0,[(0,.str)]),(.ret,[(2,.int .i64)])]⟩
def zkf (n:Nat):Option LoopI:=cond (Nat.beq n 2) (some zjd) (none)
noncomputable def zkC (cf:zak) (lf:zac) (s':ByteArray) (st:SS):Option (Value×SS):=
 let a:SS:=(st.ro st.next).new (.iter s' 0)
 (lf 2 [.string s',ptr ((st.ro st.next).next) 0] a).bind fun b=>
 cond (Nat.beq b.1 0) (
 ((b.2.1[0]?).bind asS).bind fun c=>
 some (.int .i64 (c.size:Int),st.adv b.2.2.next)) (
 ((b.2.1[0]?).bind (asI .i64)).bind fun d=>
 some (.int .i64 d,st.adv b.2.2.next))
noncomputable abbrev zfr:zac:=lS Tryz.prog Lk0 Tryz.f107 zkf
theorem zoF:Lk0.func 107=some (107,Tryz.f107):=by kernel_rfl
theorem zoG [Sym] (s':ByteArray) (st:SS) {r:Value×SS} (h:zkC cc zfr s' st=some r):cc 107 [.string s'] st=some r:=
 zad (li:=zkf) zai zal zoF rfl (fun _=>rfl) (.trans (by kernel_rfl) h)
noncomputable def zdm (cf:zak) (lf:zac) (s':ByteArray) (t6':Value) (st:SS):Option (Nat×List Value×SS):=
 (addr? t6').bind fun a=>
 cond (Nat.beq a.2 0) (
 (st.iterG a.1).bind fun q2=>
 cond (Nat.ble st.lim a.1) (
 cond (decide (q2.2<q2.1.size)) (
 let b:SS:=st.set a.1 (some (.iter q2.1 (q2.2+(Utf8.decode q2.1 q2.2).2)))
 cond (decide (128≤((Utf8.decode q2.1 q2.2).1:Int))) (
 some (1,[.int .i64 (q2.2:Int)],b)) (
 let c:Int:=IntKind.wrap .u8 ((Utf8.decode q2.1 q2.2).1:Int)
 (cf 106 [.int .u8 c] b).bind fun d=>
 ((some d.1).bind asB).bind fun e=>
 cond (!e) (
 let f:Int:=IntKind.wrap .u8 ((Utf8.decode q2.1 q2.2).1:Int)
 (cf 108 [.int .u8 f] d.2).bind fun g=>
 ((some g.1).bind asB).bind fun h=>
 cond (!h) (
 some (1,[.int .i64 (q2.2:Int)],g.2)) (
 lf 2 [.string s',t6'] g.2)) (
 lf 2 [.string s',t6'] d.2))) (
 some (0,[.string s'],st))) none) none
theorem zdK [Sym] (s':ByteArray) (t6':Value) (st:SS) {r:Nat×List Value×SS} (h:zdm cc zfr s' t6' st=some r):zfr 2 [.string s',t6'] st=some r:=
 zaC zai zal (key:=2) (I:=zjd) rfl (by kernel_rfl) (by kernel_rfl) rfl rfl (.trans (by kernel_rfl) h)
end Go.Proofs.YtifploedaacedaaGreatDoorE
namespace Go.Proofs.YtifploedaacedaaGreatDoorE
open Go Go.E Go.Proofs
def zdn (c:Int):Bool:=(decide (97≤c)&&decide (c≤122))||(decide (65≤c)&&decide (c≤90))||decide (c=95)
def zeG (c:Int):Bool:=decide (48≤c)&&decide (c≤57)
theorem zgN [Sym] (c:Int) (st:SS):cc 106 [.int .u8 c] st=some (.bool (zdn c),st):=by
 refine zma c st ?_
 unfold zke zdn
 cases decide (97≤c)<;>cases decide (c≤122)<;>cases decide (65≤c)<;>cases decide (c≤90)<;>simp
theorem digit_ok [Sym] (c:Int) (st:SS):cc 108 [.int .u8 c] st=some (.bool (zeG c),st):=by
 refine znd c st ?_
 unfold zls zeG
 cases decide (48≤c)<;>cases decide (c≤57)<;>simp
def nameB (b:UInt8):Bool:=zdn b.toNat||zeG b.toNat
theorem zsi {b:UInt8} (h:nameB b=true):b.toNat<128:=by
 unfold nameB zdn zeG at h
 simp only [Bool.or_eq_true,zae,decide_eq_true_eq] at h
 omega
def zaH (l:List UInt8):Nat:=(l.takeWhile nameB).length
theorem get!_of {s:ByteArray} {i:Nat} {b:UInt8} (h:(bl s)[i]?=some b):s.get! i=b:=by
 unfold bl at h
 rw [Array.getElem?_toList] at h
 show s.data[i]! =b
 rw [getElem!_def,h]
theorem znX {s:ByteArray} {i:Nat} {b:UInt8} (h:(bl s)[i]?=some b) (hb:b.toNat<128):Utf8.decode s i=(b.toNat,1):=by
 unfold Utf8.decode
 simp only [Nat.add_zero,get!_of h,if_pos hb]
theorem zpO {s:ByteArray} {i:Nat} {b:UInt8} (h:(bl s)[i]?=some b) (hb:128≤b.toNat):128≤(Utf8.decode s i).1:=by
 unfold Utf8.decode
 simp only [Nat.add_zero,get!_of h,if_neg (Nat.not_lt.2 hb)]
 repeat' split
 all_goals simp_all [Utf8.runeError]
 all_goals omega
theorem drop_cons {α:Type} {l:List α} {i:Nat} {b:α} (h:l[i]?=some b):l.drop i=b::l.drop (i+1):=by
 obtain ⟨h1,h2⟩:=List.getElem?_eq_some_iff.1 h
 rw [List.drop_eq_getElem_cons h1,h2]
theorem zgO {b:UInt8} {l:List UInt8}:zaH (b::l)=if nameB b then 1+zaH l else 0:=by
 unfold zaH
 simp only [List.takeWhile_cons]
 split<;>simp;omega
theorem zkg (s:ByteArray):(bl s).drop s.size=[]:=by
 rw [List.drop_eq_nil_iff];simp
theorem zsk [Sym] (s:ByteArray) (i:Nat):∀ (k p:Nat) (st:SS),k+p=s.size→st.mem.get i=some (.iter s p)→st.lim≤i→
  ∃ idx vs st',zfr 2 [.string s,ptr i 0] st=some (idx,vs,st')∧st'.next=st.next∧
   ((idx=0∧vs=[.string s]∧p+zaH ((bl s).drop p)=s.size)∨(idx=1∧vs=[.int .i64 ((p+zaH ((bl s).drop p):Nat):Int)])):=by
 intro k
 induction k with
 | zero=>
   intro p st hk hm hl
   have hp:p=s.size:=by omega
   subst hp
   refine ⟨0,[.string s],st,zdK s _ st ?_,rfl,.inl ⟨rfl,rfl,by rw [zkg];rfl⟩⟩
   simp [zdm,addr?,ptr,SS.iterG_get hm,hl]
 | succ k ih=>
   intro p st hk hm hl
   have hlt:p<s.size:=by omega
   have hb:∃ b,(bl s)[p]?=some b:=⟨_,zge (by rw [zaI];exact hlt)⟩
   obtain ⟨b,hb⟩:=hb
   have hd:=drop_cons hb
   by_cases hbig:128≤b.toNat
   ·have hdec:=zpO hb hbig
    have hn:nameB b=false:=by
     cases h:nameB b with
     | false=>rfl
     | true=>have:=zsi h;omega
    refine ⟨1,[.int .i64 (p:Int)],st.set i (some (.iter s (p+(Utf8.decode s p).2))),zdK s _ st ?_,rfl,.inr ⟨rfl,by rw [hd,zgO,hn];simp⟩⟩
    have h128:(128:Int)≤((Utf8.decode s p).1:Int):=by omega
    simp [zdm,addr?,ptr,SS.iterG_get hm,hl,hlt,h128]
   ·have hdec:=znX hb (by omega)
    have h128:¬ (128:Int)≤(b.toNat:Int):=by omega
    have hw:IntKind.wrap .u8 (b.toNat:Int)=b.toNat:=zhv (by omega) (u8_lt b)
    cases hn:nameB b with
    | false=>
      unfold nameB at hn
      simp only [Bool.or_eq_false_iff] at hn
      refine ⟨1,[.int .i64 (p:Int)],st.set i (some (.iter s (p+1))),zdK s _ st ?_,rfl,.inr ⟨rfl,by rw [hd,zgO,nameB,hn.1,hn.2];simp⟩⟩
      simp [zdm,addr?,ptr,SS.iterG_get hm,hl,hlt,hdec,h128,hw,zgN,digit_ok,hn.1,hn.2]
    | true=>
      obtain ⟨idx,vs,st',h1,h2,h3⟩:=ih (p+1) (st.set i (some (.iter s (p+1)))) (by omega) (by simp) hl
      refine ⟨idx,vs,st',zdK s _ st ?_,h2,?_⟩
      ·have hn':=hn
       unfold nameB at hn'
       cases hl1:zdn b.toNat with
       | true=>simpa [zdm,addr?,ptr,SS.iterG_get hm,hl,hlt,hdec,h128,hw,zgN,hl1] using h1
       | false=>
         rw [hl1,Bool.false_or] at hn'
         simpa [zdm,addr?,ptr,SS.iterG_get hm,hl,hlt,hdec,h128,hw,zgN,digit_ok,hl1,hn'] using h1
      ·rw [hd,zgO,hn,if_pos rfl]
       rcases h3 with ⟨a,b',c⟩ | ⟨a,b'⟩
       ·exact .inl ⟨a,b',by omega⟩
       ·exact .inr ⟨a,by rw [b'];congr 2;omega⟩
theorem zfv [Sym] (s:ByteArray) (st:SS):∃ n,st.next≤n∧cc 107 [.string s] st=some (.int .i64 (zaH (bl s):Nat),st.adv n):=by
 obtain ⟨idx,vs,st',h1,h2,h3⟩:=zsk s st.next s.size 0 ((st.ro st.next).new (.iter s 0)) (by omega) (SS.new_get (st:=st.ro st.next)) (zlr _)
 refine ⟨st'.next,by rw [h2];simp,zoG s st ?_⟩
 rcases h3 with ⟨rfl,rfl,h⟩ | ⟨rfl,rfl⟩
 ·simp only [List.drop_zero,Nat.zero_add] at h
  simp [zkC,h1,h]
 ·simp [zkC,h1]
def mkS (l:List UInt8):ByteArray:=⟨⟨l⟩⟩
@[simp] theorem zbJ (l:List UInt8):bl (mkS l)=l:=rfl
@[simp] theorem mkS_bl (s:ByteArray):mkS (bl s)=s:=by cases s with | mk d=>cases d;rfl
@[simp] theorem zsl (l:List UInt8):(mkS l).size=l.length:=rfl
theorem zfs (s:ByteArray) (l h:Nat):s.extract l h=mkS (((bl s).take h).drop l):=by
 rw [← zif,mkS_bl]
theorem zel (a b:ByteArray):eqT a b=decide (bl a=bl b):=rfl
def pieces (c:UInt8):List UInt8→List (List UInt8)
 | []=>[[]]
 | b::r=>if b=c then []::pieces c r else match pieces c r with
   | []=>[[b]]
   | x::y=>(b::x)::y
def zfb (cur:List UInt8):List (List UInt8)→List (List UInt8)
 | []=>[cur]
 | x::y=>(cur++x)::y
theorem zes (c:UInt8) (l:List UInt8):pieces c l≠[]:=by
 cases l with
 | nil=>simp [pieces]
 | cons b r=>
   unfold pieces
   split
   ·simp
   ·split<;>simp
theorem zkh {p:List (List UInt8)} (h:p≠[]):zfb [] p=p:=by cases p with | nil=>exact absurd rfl h | cons x y=>rfl
theorem znY (cur:List UInt8) (b c:UInt8) (r:List UInt8) (h:b≠c):zfb cur (pieces c (b::r))=zfb (cur++[b]) (pieces c r):=by
 show zfb cur (if b=c then []::pieces c r else match pieces c r with
  | []=>[[b]]
  | x::y=>(b::x)::y)=_
 rw [if_neg h]
 have:=zes c r
 cases hp:pieces c r with
 | nil=>exact absurd hp this
 | cons x y=>simp [zfb]
theorem pieces_len (c:UInt8) (l:List UInt8):(pieces c l).length≤l.length+1:=by
 induction l with
 | nil=>simp [pieces]
 | cons b r ih=>
   unfold pieces
   split
   ·simp;omega
   ·split<;>rename_i h<;>rw [h] at ih<;>simp at ih ⊢<;>omega
def strs (l:List (List UInt8)):List Value:=l.map fun x=>.string (mkS x)
@[simp] theorem zt2 (l:List (List UInt8)):(strs l).length=l.length:=by simp [strs]
theorem zki (a b:List (List UInt8)):strs (a++b)=strs a++strs b:=by simp [strs]
theorem Rd.new1 {st:SS} {row:List Value} {z:Nat} (h:row.length=z):Rd (st.new (.cells row z)) (.slice (some ⟨st.next,0,none⟩) 1 1) row z 1:=
 ⟨by rw [h,Nat.one_mul],.inr ⟨st.next,1,rfl,⟨z,SS.new_get⟩,by simp⟩⟩
end Go.Proofs.YtifploedaacedaaGreatDoorE
namespace Go.Proofs.YtifploedaacedaaGreatDoorE
set_option maxRecDepth 20000
open Go Go.E Go.Proofs
noncomputable def strings_Split (cf:zak) (lf:zac) (s':ByteArray) (sep':ByteArray) (st:SS):Option (Value×SS):=
 (cf 105 [.string s',.string sep',.int .i64 0,.int .i64 (-1)] st).bind fun a=>
 some (a.1,a.2)
noncomputable abbrev zkD:zac:=lS Tryz.prog Lk0 Tryz.f89 zau
theorem zkE:Lk0.func 89=some (89,Tryz.f89):=by kernel_rfl
theorem zkF [Sym] (s':ByteArray) (sep':ByteArray) (st:SS) {r:Value×SS} (h:strings_Split cc zkD s' sep' st=some r):cc 89 [.string s',.string sep'] st=some r:=
 zad (li:=zau) zai zal zkE rfl (fun _=>rfl) (.trans (by kernel_rfl) h)
def zet:LoopI:=⟨[(0,.str),(1,.str),(2,.int .i64),(3,.int .i64),(9,.any),(10,.int .i64)],[(.exit 0,[(0,.str),(9,.any),(10,.int .i64)])]⟩
def zeZ (n:Nat):Option LoopI:=cond (Nat.beq n 11) (some zet) (none)
noncomputable def strings_genSplit (cf:zak) (lf:zac) (s':ByteArray) (sep':ByteArray) (sepSave':Int) (n':Int) (st:SS):Option (Value×SS):=
 cond (decide (n'=0)) (
 some (.slice none 0 0,st)) (
 cond (eqT sep' ⟨#[]⟩) (
 (cf 127 [.string s',.int .i64 n'] st).bind fun a=>
 some (a.1,a.2)) (
 cond (decide (n'<0)) (
 (cf 128 [.string s',.string sep'] st).bind fun b=>
 ((some b.1).bind (asI .i64)).bind fun c=>
 let d:Int:=IntKind.wrap .i64 (c+1)
 let e:Int:=IntKind.wrap .i64 ((s'.size:Int)+1)
 let f:Int:=if e<d then e else d
 (zef f f 16).bind fun _=>
 let g:SS:=b.2.new (.cells (zd4 [.string ⟨#[]⟩] f) 1)
 let h:Int:=IntKind.wrap .i64 (f-1)
 (lf 11 [.string s',.string sep',.int .i64 sepSave',.int .i64 h,.slice (some ⟨b.2.next,0,none⟩) ((f:Int).toNat) ((f:Int).toNat),.int .i64 0] g).bind fun i=>
 ((i.2.1[0]?).bind asS).bind fun j=>
 (i.2.1[1]?).bind fun k=>
 ((i.2.1[2]?).bind (asI .i64)).bind fun l=>
 (zar k l 1).bind fun m=>
 (i.2.2.st m.1 m.2 [.string j]).bind fun n=>
 let o:Int:=IntKind.wrap .i64 (l+1)
 (n.resl k 1 0 o).bind fun p=>
 some (p,n)) (
 let q:Int:=IntKind.wrap .i64 ((s'.size:Int)+1)
 let r:Int:=if q<n' then q else n'
 (zef r r 16).bind fun _=>
 let s:SS:=st.new (.cells (zd4 [.string ⟨#[]⟩] r) 1)
 let t:Int:=IntKind.wrap .i64 (r-1)
 (lf 11 [.string s',.string sep',.int .i64 sepSave',.int .i64 t,.slice (some ⟨st.next,0,none⟩) ((r:Int).toNat) ((r:Int).toNat),.int .i64 0] s).bind fun u=>
 ((u.2.1[0]?).bind asS).bind fun v=>
 (u.2.1[1]?).bind fun w=>
 ((u.2.1[2]?).bind (asI .i64)).bind fun x=>
 (zar w x 1).bind fun y=>
 (u.2.2.st y.1 y.2 [.string v]).bind fun z=>
 let A:Int:=IntKind.wrap .i64 (x+1)
 (z.resl w 1 0 A).bind fun B=>
 some (B,z))))
noncomputable abbrev zbN:zac:=lS Tryz.prog Lk0 Tryz.f105 zeZ
theorem ziQ:Lk0.func 105=some (105,Tryz.f105):=by kernel_rfl
theorem ziR [Sym] (s':ByteArray) (sep':ByteArray) (sepSave':Int) (n':Int) (st:SS) {r:Value×SS} (h:strings_genSplit cc zbN s' sep' sepSave' n' st=some r):cc 105 [.string s',.string sep',.int .i64 sepSave',.int .i64 n'] st=some r:=
 zad (li:=zeZ) zai zal ziQ rfl (fun _=>rfl) (.trans (by kernel_rfl) h)
noncomputable def zc5 (cf:zak) (lf:zac) (s':ByteArray) (sep':ByteArray) (sepSave':Int) (n':Int) (a':Value) (i':Int) (st:SS):Option (Nat×List Value×SS):=
 cond (decide (i'<n')) (
 (cf 129 [.string s',.string sep'] st).bind fun a=>
 ((some a.1).bind (asI .i64)).bind fun b=>
 cond (decide (b<0)) (
 some (0,[.string s',a',.int .i64 i'],a.2)) (
 let c:Int:=IntKind.wrap .i64 (b+sepSave')
 (zcr s' 0 c).bind fun d=>
 (zar a' i' 1).bind fun e=>
 (a.2.st e.1 e.2 [.string d]).bind fun f=>
 let g:Int:=IntKind.wrap .i64 (b+(sep'.size:Int))
 (zcr s' g (s'.size:Int)).bind fun h=>
 let i:Int:=IntKind.wrap .i64 (i'+1)
 lf 11 [.string h,.string sep',.int .i64 sepSave',.int .i64 n',a',.int .i64 i] f)) (
 some (0,[.string s',a',.int .i64 i'],st))
theorem zdQ [Sym] (s':ByteArray) (sep':ByteArray) (sepSave':Int) (n':Int) (a':Value) (i':Int) (st:SS) {r:Nat×List Value×SS} (h:zc5 cc zbN s' sep' sepSave' n' a' i' st=some r):zbN 11 [.string s',.string sep',.int .i64 sepSave',.int .i64 n',a',.int .i64 i'] st=some r:=
 zaC zai zal (key:=11) (I:=zet) rfl (by kernel_rfl) (by kernel_rfl) rfl rfl (.trans (by kernel_rfl) h)
noncomputable def zd6 (cf:zak) (lf:zac) (s':ByteArray) (prefix0':ByteArray) (st:SS):Option (Value×SS):=
 (cf 160 [.string s',.string prefix0'] st).bind fun a=>
 ((some a.1).bind asB).bind fun b=>
 cond (!b) (
 some (.tuple #[.string s',.bool false],a.2)) (
 (zcr s' (prefix0'.size:Int) (s'.size:Int)).bind fun c=>
 some (.tuple #[.string c,.bool true],a.2))
noncomputable abbrev zfS:zac:=lS Tryz.prog Lk0 Tryz.f145 zau
theorem zfT:Lk0.func 145=some (145,Tryz.f145):=by kernel_rfl
theorem zfU [Sym] (s':ByteArray) (prefix0':ByteArray) (st:SS) {r:Value×SS} (h:zd6 cc zfS s' prefix0' st=some r):cc 145 [.string s',.string prefix0'] st=some r:=
 zad (li:=zau) zai zal zfT rfl (fun _=>rfl) (.trans (by kernel_rfl) h)
noncomputable def zd7 (cf:zak) (lf:zac) (s':ByteArray) (prefix0':ByteArray) (st:SS):Option (Value×SS):=
 cond (decide ((prefix0'.size:Int)≤(s'.size:Int))) (
 (zcr s' 0 (prefix0'.size:Int)).bind fun s1=>
 some (.bool (eqT s1 prefix0'),st)) (
 some (.bool false,st))
noncomputable abbrev zfV:zac:=lS Tryz.prog Lk0 Tryz.f160 zau
theorem zfW:Lk0.func 160=some (160,Tryz.f160):=by kernel_rfl
theorem zfX [Sym] (s':ByteArray) (prefix0':ByteArray) (st:SS) {r:Value×SS} (h:zd7 cc zfV s' prefix0' st=some r):cc 160 [.string s',.string prefix0'] st=some r:=
 zad (li:=zau) zai zal zfW rfl (fun _=>rfl) (.trans (by kernel_rfl) h)
noncomputable def strings_CutPrefix (cf:zak) (lf:zac) (s':ByteArray) (prefix0':ByteArray) (st:SS):Option (Value×SS):=
 (cf 145 [.string s',.string prefix0'] st).bind fun a=>
 ((zam a.1 0).bind asS).bind fun b=>
 ((zam a.1 1).bind asB).bind fun c=>
 some (.tuple #[.string b,.bool c],a.2)
noncomputable abbrev zih:zac:=lS Tryz.prog Lk0 Tryz.f130 zau
theorem zii:Lk0.func 130=some (130,Tryz.f130):=by kernel_rfl
theorem zij [Sym] (s':ByteArray) (prefix0':ByteArray) (st:SS) {r:Value×SS} (h:strings_CutPrefix cc zih s' prefix0' st=some r):cc 130 [.string s',.string prefix0'] st=some r:=
 zad (li:=zau) zai zal zii rfl (fun _=>rfl) (.trans (by kernel_rfl) h)
noncomputable def zdX (cf:zak) (lf:zac) (s':ByteArray) (base':Int) (bitSize':Int) (st:SS):Option (Value×SS):=
 (cf 146 [.string s',.int .i64 base',.int .i64 bitSize'] st).bind fun a=>
 ((zam a.1 0).bind (asI .u64)).bind fun b=>
 (zam a.1 1).bind fun c=>
 (((zeE c).bind fun r=>some (.bool !r)).bind asB).bind fun d=>
 cond d (
 (cf 147 [.string ⟨#[80,97,114,115,101,85,105,110,116]⟩,.string s',.int .i64 base',.int .i64 bitSize',c] a.2).bind fun e=>
 some (.tuple #[.int .u64 b,e.1],e.2)) (
 some (.tuple #[.int .u64 b,.nilIface],a.2))
noncomputable abbrev zik:zac:=lS Tryz.prog Lk0 Tryz.f131 zau
theorem zil:Lk0.func 131=some (131,Tryz.f131):=by kernel_rfl
theorem zeH [Sym] (s':ByteArray) (base':Int) (bitSize':Int) (st:SS) {r:Value×SS} (h:zdX cc zik s' base' bitSize' st=some r):cc 131 [.string s',.int .i64 base',.int .i64 bitSize'] st=some r:=
 zad (li:=zau) zai zal zil rfl (fun _=>rfl) (.trans (by kernel_rfl) h)
noncomputable def zhx (cf:zak) (lf:zac) (c':Int) (st:SS):Option (Value×SS):=
 let n1:Int:=orI .u8 c' 32
 some (.int .u8 n1,st)
noncomputable abbrev zjT:zac:=lS Tryz.prog Lk0 Tryz.f161 zau
theorem zjU:Lk0.func 161=some (161,Tryz.f161):=by kernel_rfl
theorem zjV [Sym] (c':Int) (st:SS) {r:Value×SS} (h:zhx cc zjT c' st=some r):cc 161 [.int .u8 c'] st=some r:=
 zad (li:=zau) zai zal zjU rfl (fun _=>rfl) (.trans (by kernel_rfl) h)
def zmQ:LoopI:=⟨[(1,.int .i64),(8,.bool),(9,.str),(10,.int .u64),(11,.int .u64),(12,.bool),(13,.int .u64),(99,.any),(100,.int .i64),(101,.int .i64)],[(.exit 3,[(9,.str),(12,.bool),(13,.int .u64)]),(.ret,[(6,.int .u64),(7,.any)])]⟩
def zo7 (n:Nat):Option LoopI:=cond (Nat.beq n 36) (some zmQ) (none)
noncomputable def pu10 (cf:zak) (lf:zac) (s':ByteArray) (st:SS):Option (Value×SS):=
 cond (eqT s' ⟨#[]⟩) (
 some (.tuple #[.int .u64 0,.iface 228 (.int .i64 2)],st)) (
 let a:Int:=zi4 .u64 1 31
 let c:Int:=IntKind.wrap .u64 (a-1)
 let d:SS:=st.new (.cells (s'.data.toList.map fun b=>.int .u8 b.toNat) 1)
 (lf 36 [.int .i64 10,.bool false,.string s',.int .u64 1844674407370955162,.int .u64 c,.bool false,.int .u64 0,.slice (some ⟨st.next,0,none⟩) s'.size s'.size,.int .i64 ((s'.size:Nat):Int),.int .i64 0] d).bind fun e=>
 cond (Nat.beq e.1 0) (
 ((e.2.1[0]?).bind asS).bind fun f=>
 ((e.2.1[1]?).bind asB).bind fun g=>
 ((e.2.1[2]?).bind (asI .u64)).bind fun h=>
 cond g (
 (cf 162 [.string f] e.2.2).bind fun i=>
 ((some i.1).bind asB).bind fun j=>
 cond (!j) (
 some (.tuple #[.int .u64 0,.iface 228 (.int .i64 2)],i.2)) (
 some (.tuple #[.int .u64 h,.nilIface],i.2))) (
 some (.tuple #[.int .u64 h,.nilIface],e.2.2))) (
 ((e.2.1[0]?).bind (asI .u64)).bind fun k=>
 (e.2.1[1]?).bind fun l=>
 some (.tuple #[.int .u64 k,l],e.2.2)))
noncomputable abbrev zf7:zac:=lS Tryz.prog Lk0 Tryz.f146 zo7
theorem zts:Lk0.func 146=some (146,Tryz.f146):=by kernel_rfl
theorem zo8 [Sym] (s':ByteArray) (st:SS) {r:Value×SS} (h:pu10 cc zf7 s' st=some r):cc 146 [.string s',.int .i64 10,.int .i64 31] st=some r:=
 zad (li:=zo7) zai zal zts rfl (fun _=>rfl) (.trans (by kernel_rfl) h)
noncomputable def zc6 (cf:zak) (lf:zac) (base':Int) (s0':ByteArray) (cutoff':Int) (maxVal':Int) (underscores':Bool) (n':Int) (t99':Value) (t100':Int) (t101':Int) (st:SS):Option (Nat×List Value×SS):=
 cond (decide (t101'<t100')) (
 (zar t99' t101' 1).bind fun a=>
 ((st.ld a.1 a.2).bind (asI .u8)).bind fun b=>
 cond (decide (b=95)) (
 cond (decide (48≤b)) (
 cond (decide (b≤57)) (
 let c:Int:=IntKind.wrap .u8 (b-48)
 let d:Int:=IntKind.wrap .u8 base'
 cond (decide (d≤c)) (
 some (1,[.int .u64 0,.iface 228 (.int .i64 2)],st)) (
 cond (decide (cutoff'≤n')) (
 some (1,[.int .u64 maxVal',.iface 228 (.int .i64 1)],st)) (
 let e:Int:=IntKind.wrap .u64 base'
 let f:Int:=IntKind.wrap .u64 (n'*e)
 let g:Int:=IntKind.wrap .u64 c
 let h:Int:=IntKind.wrap .u64 (f+g)
 cond (decide (h<f)) (
 some (1,[.int .u64 maxVal',.iface 228 (.int .i64 1)],st)) (
 cond (decide (maxVal'<h)) (
 some (1,[.int .u64 maxVal',.iface 228 (.int .i64 1)],st)) (
 let i:Int:=IntKind.wrap .i64 (t101'+1)
 lf 36 [.int .i64 base',.bool false,.string s0',.int .u64 cutoff',.int .u64 maxVal',.bool underscores',.int .u64 h,t99',.int .i64 t100',.int .i64 i] st))))) (
 (cf 161 [.int .u8 b] st).bind fun j=>
 ((some j.1).bind (asI .u8)).bind fun k=>
 cond (decide (97≤k)) (
 (cf 161 [.int .u8 b] j.2).bind fun l=>
 ((some l.1).bind (asI .u8)).bind fun m=>
 cond (decide (m≤122)) (
 (cf 161 [.int .u8 b] l.2).bind fun n=>
 ((some n.1).bind (asI .u8)).bind fun o=>
 let p:Int:=IntKind.wrap .u8 (o-97)
 let q:Int:=IntKind.wrap .u8 (p+10)
 let r:Int:=IntKind.wrap .u8 base'
 cond (decide (r≤q)) (
 some (1,[.int .u64 0,.iface 228 (.int .i64 2)],n.2)) (
 cond (decide (cutoff'≤n')) (
 some (1,[.int .u64 maxVal',.iface 228 (.int .i64 1)],n.2)) (
 let s:Int:=IntKind.wrap .u64 base'
 let t:Int:=IntKind.wrap .u64 (n'*s)
 let u:Int:=IntKind.wrap .u64 q
 let v:Int:=IntKind.wrap .u64 (t+u)
 cond (decide (v<t)) (
 some (1,[.int .u64 maxVal',.iface 228 (.int .i64 1)],n.2)) (
 cond (decide (maxVal'<v)) (
 some (1,[.int .u64 maxVal',.iface 228 (.int .i64 1)],n.2)) (
 let w:Int:=IntKind.wrap .i64 (t101'+1)
 lf 36 [.int .i64 base',.bool false,.string s0',.int .u64 cutoff',.int .u64 maxVal',.bool underscores',.int .u64 v,t99',.int .i64 t100',.int .i64 w] n.2))))) (
 some (1,[.int .u64 0,.iface 228 (.int .i64 2)],l.2))) (
 some (1,[.int .u64 0,.iface 228 (.int .i64 2)],j.2)))) (
 (cf 161 [.int .u8 b] st).bind fun x=>
 ((some x.1).bind (asI .u8)).bind fun y=>
 cond (decide (97≤y)) (
 (cf 161 [.int .u8 b] x.2).bind fun z=>
 ((some z.1).bind (asI .u8)).bind fun A=>
 cond (decide (A≤122)) (
 (cf 161 [.int .u8 b] z.2).bind fun B=>
 ((some B.1).bind (asI .u8)).bind fun C=>
 let D:Int:=IntKind.wrap .u8 (C-97)
 let E:Int:=IntKind.wrap .u8 (D+10)
 let F:Int:=IntKind.wrap .u8 base'
 cond (decide (F≤E)) (
 some (1,[.int .u64 0,.iface 228 (.int .i64 2)],B.2)) (
 cond (decide (cutoff'≤n')) (
 some (1,[.int .u64 maxVal',.iface 228 (.int .i64 1)],B.2)) (
 let G:Int:=IntKind.wrap .u64 base'
 let H:Int:=IntKind.wrap .u64 (n'*G)
 let I:Int:=IntKind.wrap .u64 E
 let J:Int:=IntKind.wrap .u64 (H+I)
 cond (decide (J<H)) (
 some (1,[.int .u64 maxVal',.iface 228 (.int .i64 1)],B.2)) (
 cond (decide (maxVal'<J)) (
 some (1,[.int .u64 maxVal',.iface 228 (.int .i64 1)],B.2)) (
 let K:Int:=IntKind.wrap .i64 (t101'+1)
 lf 36 [.int .i64 base',.bool false,.string s0',.int .u64 cutoff',.int .u64 maxVal',.bool underscores',.int .u64 J,t99',.int .i64 t100',.int .i64 K] B.2))))) (
 some (1,[.int .u64 0,.iface 228 (.int .i64 2)],z.2))) (
 some (1,[.int .u64 0,.iface 228 (.int .i64 2)],x.2)))) (
 cond (decide (48≤b)) (
 cond (decide (b≤57)) (
 let L:Int:=IntKind.wrap .u8 (b-48)
 let M:Int:=IntKind.wrap .u8 base'
 cond (decide (M≤L)) (
 some (1,[.int .u64 0,.iface 228 (.int .i64 2)],st)) (
 cond (decide (cutoff'≤n')) (
 some (1,[.int .u64 maxVal',.iface 228 (.int .i64 1)],st)) (
 let N:Int:=IntKind.wrap .u64 base'
 let O:Int:=IntKind.wrap .u64 (n'*N)
 let P:Int:=IntKind.wrap .u64 L
 let Q:Int:=IntKind.wrap .u64 (O+P)
 cond (decide (Q<O)) (
 some (1,[.int .u64 maxVal',.iface 228 (.int .i64 1)],st)) (
 cond (decide (maxVal'<Q)) (
 some (1,[.int .u64 maxVal',.iface 228 (.int .i64 1)],st)) (
 let R:Int:=IntKind.wrap .i64 (t101'+1)
 lf 36 [.int .i64 base',.bool false,.string s0',.int .u64 cutoff',.int .u64 maxVal',.bool underscores',.int .u64 Q,t99',.int .i64 t100',.int .i64 R] st))))) (
 (cf 161 [.int .u8 b] st).bind fun S=>
 ((some S.1).bind (asI .u8)).bind fun T=>
 cond (decide (97≤T)) (
 (cf 161 [.int .u8 b] S.2).bind fun U=>
 ((some U.1).bind (asI .u8)).bind fun V=>
 cond (decide (V≤122)) (
 (cf 161 [.int .u8 b] U.2).bind fun W=>
 ((some W.1).bind (asI .u8)).bind fun X=>
 let Y:Int:=IntKind.wrap .u8 (X-97)
 let Z:Int:=IntKind.wrap .u8 (Y+10)
 let aA:Int:=IntKind.wrap .u8 base'
 cond (decide (aA≤Z)) (
 some (1,[.int .u64 0,.iface 228 (.int .i64 2)],W.2)) (
 cond (decide (cutoff'≤n')) (
 some (1,[.int .u64 maxVal',.iface 228 (.int .i64 1)],W.2)) (
 let aB:Int:=IntKind.wrap .u64 base'
 let aC:Int:=IntKind.wrap .u64 (n'*aB)
 let aD:Int:=IntKind.wrap .u64 Z
 let aE:Int:=IntKind.wrap .u64 (aC+aD)
 cond (decide (aE<aC)) (
 some (1,[.int .u64 maxVal',.iface 228 (.int .i64 1)],W.2)) (
 cond (decide (maxVal'<aE)) (
 some (1,[.int .u64 maxVal',.iface 228 (.int .i64 1)],W.2)) (
 let aF:Int:=IntKind.wrap .i64 (t101'+1)
 lf 36 [.int .i64 base',.bool false,.string s0',.int .u64 cutoff',.int .u64 maxVal',.bool underscores',.int .u64 aE,t99',.int .i64 t100',.int .i64 aF] W.2))))) (
 some (1,[.int .u64 0,.iface 228 (.int .i64 2)],U.2))) (
 some (1,[.int .u64 0,.iface 228 (.int .i64 2)],S.2)))) (
 (cf 161 [.int .u8 b] st).bind fun aG=>
 ((some aG.1).bind (asI .u8)).bind fun aH=>
 cond (decide (97≤aH)) (
 (cf 161 [.int .u8 b] aG.2).bind fun aI=>
 ((some aI.1).bind (asI .u8)).bind fun aJ=>
 cond (decide (aJ≤122)) (
 (cf 161 [.int .u8 b] aI.2).bind fun aK=>
 ((some aK.1).bind (asI .u8)).bind fun aL=>
 let aM:Int:=IntKind.wrap .u8 (aL-97)
 let aN:Int:=IntKind.wrap .u8 (aM+10)
 let aO:Int:=IntKind.wrap .u8 base'
 cond (decide (aO≤aN)) (
 some (1,[.int .u64 0,.iface 228 (.int .i64 2)],aK.2)) (
 cond (decide (cutoff'≤n')) (
 some (1,[.int .u64 maxVal',.iface 228 (.int .i64 1)],aK.2)) (
 let aP:Int:=IntKind.wrap .u64 base'
 let aQ:Int:=IntKind.wrap .u64 (n'*aP)
 let aR:Int:=IntKind.wrap .u64 aN
 let aS:Int:=IntKind.wrap .u64 (aQ+aR)
 cond (decide (aS<aQ)) (
 some (1,[.int .u64 maxVal',.iface 228 (.int .i64 1)],aK.2)) (
 cond (decide (maxVal'<aS)) (
 some (1,[.int .u64 maxVal',.iface 228 (.int .i64 1)],aK.2)) (
 let aT:Int:=IntKind.wrap .i64 (t101'+1)
 lf 36 [.int .i64 base',.bool false,.string s0',.int .u64 cutoff',.int .u64 maxVal',.bool underscores',.int .u64 aS,t99',.int .i64 t100',.int .i64 aT] aK.2))))) (
 some (1,[.int .u64 0,.iface 228 (.int .i64 2)],aI.2))) (
 some (1,[.int .u64 0,.iface 228 (.int .i64 2)],aG.2))))) (
 some (0,[.string s0',.bool underscores',.int .u64 n'],st))
theorem zkj [Sym] (base':Int) (s0':ByteArray) (cutoff':Int) (maxVal':Int) (underscores':Bool) (n':Int) (t99':Value) (t100':Int) (t101':Int) (st:SS) {r:Nat×List Value×SS} (h:zc6 cc zf7 base' s0' cutoff' maxVal' underscores' n' t99' t100' t101' st=some r):zf7 36 [.int .i64 base',.bool false,.string s0',.int .u64 cutoff',.int .u64 maxVal',.bool underscores',.int .u64 n',t99',.int .i64 t100',.int .i64 t101'] st=some r:=
 zaC zai zal (key:=36) (I:=zmQ) rfl (by kernel_rfl) (by kernel_rfl) rfl rfl (.trans (by kernel_rfl) h)
def zqY:LoopI:=⟨[(1,.int .i64),(8,.bool),(9,.str),(10,.int .u64),(11,.int .u64),(12,.bool),(13,.int .u64),(99,.any),(100,.int .i64),(101,.int .i64)],[(.exit 3,[(9,.str),(12,.bool),(13,.int .u64)]),(.ret,[(6,.int .u64),(7,.any)])]⟩
def zo9 (n:Nat):Option LoopI:=cond (Nat.beq n 36) (some zqY) (none)
noncomputable def pu16 (cf:zak) (lf:zac) (s':ByteArray) (st:SS):Option (Value×SS):=
 cond (eqT s' ⟨#[]⟩) (
 some (.tuple #[.int .u64 0,.iface 228 (.int .i64 2)],st)) (
 let a:Int:=zi4 .u64 1 31
 let c:Int:=IntKind.wrap .u64 (a-1)
 let d:SS:=st.new (.cells (s'.data.toList.map fun b=>.int .u8 b.toNat) 1)
 (lf 36 [.int .i64 16,.bool false,.string s',.int .u64 1152921504606846976,.int .u64 c,.bool false,.int .u64 0,.slice (some ⟨st.next,0,none⟩) s'.size s'.size,.int .i64 ((s'.size:Nat):Int),.int .i64 0] d).bind fun e=>
 cond (Nat.beq e.1 0) (
 ((e.2.1[0]?).bind asS).bind fun f=>
 ((e.2.1[1]?).bind asB).bind fun g=>
 ((e.2.1[2]?).bind (asI .u64)).bind fun h=>
 cond g (
 (cf 162 [.string f] e.2.2).bind fun i=>
 ((some i.1).bind asB).bind fun j=>
 cond (!j) (
 some (.tuple #[.int .u64 0,.iface 228 (.int .i64 2)],i.2)) (
 some (.tuple #[.int .u64 h,.nilIface],i.2))) (
 some (.tuple #[.int .u64 h,.nilIface],e.2.2))) (
 ((e.2.1[0]?).bind (asI .u64)).bind fun k=>
 (e.2.1[1]?).bind fun l=>
 some (.tuple #[.int .u64 k,l],e.2.2)))
noncomputable abbrev zpa:zac:=lS Tryz.prog Lk0 Tryz.f146 zo9
theorem ztt:Lk0.func 146=some (146,Tryz.f146):=by kernel_rfl
theorem zpb [Sym] (s':ByteArray) (st:SS) {r:Value×SS} (h:pu16 cc zpa s' st=some r):cc 146 [.string s',.int .i64 16,.int .i64 31] st=some r:=
 zad (li:=zo9) zai zal ztt rfl (fun _=>rfl) (.trans (by kernel_rfl) h)
noncomputable def zd8 (cf:zak) (lf:zac) (s':ByteArray) (st:SS):Option (Value×SS):=
 (cf 130 [.string s',.string ⟨#[48,120]⟩] (st.ro st.next)).bind fun a=>
 ((zam a.1 0).bind asS).bind fun b=>
 ((zam a.1 1).bind asB).bind fun c=>
 cond c (
 (cf 131 [.string b,.int .i64 16,.int .i64 31] a.2).bind fun d=>
 ((zam d.1 0).bind (asI .u64)).bind fun e=>
 (zam d.1 1).bind fun f=>
 let g:Int:=IntKind.wrap .i64 e
 (((zeE f).bind fun r=>some (.bool r)).bind asB).bind fun h=>
 cond h (
 (cf 110 [.string b,.int .u8 95] d.2).bind fun i=>
 ((some i.1).bind (asI .i64)).bind fun j=>
 some (.tuple #[.int .i64 g,.bool (decide (j<0))],st.adv i.2.next)) (
 some (.tuple #[.int .i64 g,.bool false],st.adv d.2.next))) (
 (cf 131 [.string s',.int .i64 10,.int .i64 31] a.2).bind fun k=>
 ((zam k.1 0).bind (asI .u64)).bind fun l=>
 (zam k.1 1).bind fun m=>
 let n:Int:=IntKind.wrap .i64 l
 (((zeE m).bind fun r=>some (.bool r)).bind asB).bind fun o=>
 cond o (
 (cf 110 [.string s',.int .u8 95] k.2).bind fun p=>
 ((some p.1).bind (asI .i64)).bind fun q=>
 some (.tuple #[.int .i64 n,.bool (decide (q<0))],st.adv p.2.next)) (
 some (.tuple #[.int .i64 n,.bool false],st.adv k.2.next)))
noncomputable abbrev zmb:zac:=lS Tryz.prog Lk0 Tryz.f109 zau
theorem zmc:Lk0.func 109=some (109,Tryz.f109):=by kernel_rfl
theorem zhy [Sym] (s':ByteArray) (st:SS) {r:Value×SS} (h:zd8 cc zmb s' st=some r):cc 109 [.string s'] st=some r:=
 zad (li:=zau) zai zal zmc rfl (fun _=>rfl) (.trans (by kernel_rfl) h)
end Go.Proofs.YtifploedaacedaaGreatDoorE
namespace Go.Proofs.YtifploedaacedaaGreatDoorE
open Go Go.E Go.Proofs
theorem zmR (c:UInt8) (l:List UInt8):(Lib.indexByte l c= -1∧pieces c l=[l]∧l.count c=0)∨
  ∃ m:Nat,Lib.indexByte l c=m∧m<l.length∧pieces c l=l.take m::pieces c (l.drop (m+1))∧l.count c=(l.drop (m+1)).count c+1:=by
 induction l with
 | nil=>exact .inl ⟨rfl,rfl,rfl⟩
 | cons b r ih=>
   by_cases hb:b=c
   ·subst hb
    refine .inr ⟨0,?_,by simp,?_,?_⟩
    ·simp [Lib.indexByte]
    ·simp [pieces]
    ·simp
   ·rcases ih with ⟨h1,h2,h3⟩ | ⟨m,h1,h2,h3,h4⟩
    ·refine .inl ⟨?_,?_,?_⟩
     ·simp [Lib.indexByte,hb,h1]
     ·simp [pieces,hb,h2]
     ·simp [List.count_cons,hb,h3]
    ·refine .inr ⟨m+1,?_,by simp;omega,?_,?_⟩
     ·have:¬ ((m:Int)= -1):=by omega
      simp [Lib.indexByte,hb,h1,this]
     ·simp [pieces,hb,h3]
     ·simp [List.count_cons,hb,h4]
theorem zkG {n:Int} {z:Nat} (h0:0≤n) (h1:n≤1099511627776) (h2:n*z≤70368744177664):zef n n z=some ():=by
 unfold zef
 simp [h0,h1,h2]
theorem zim (v:Value) (n:Nat):zd4 [v] (n:Int)=List.replicate n v:=by
 unfold zd4
 apply List.ext_getElem
 ·simp
 ·intro i h1 h2
  simp
  have:i%1=0:=Nat.mod_one i
  simp [this]
theorem zkH (done:List (List UInt8)) (k:Nat) (x:List UInt8):(strs done++List.replicate (k+1) (Value.string ⟨#[]⟩)).take done.length++([.string (mkS x)]++(strs done++List.replicate (k+1) (Value.string ⟨#[]⟩)).drop (done.length+1))=strs (done++[x])++List.replicate k (Value.string ⟨#[]⟩):=by
 rw [zki,List.take_append_of_le_length (by simp),List.take_of_length_le (by simp),List.drop_append]
 have h1:(strs done).drop (done.length+1)=[]:=by rw [List.drop_eq_nil_iff];simp
 rw [h1]
 simp [strs]
theorem count_le (c:UInt8) (l:List UInt8):l.count c≤l.length:=List.count_le_length
theorem ztu (c:UInt8) (s:ByteArray) (st:SS) [Sym]:cc 129 [.string s,.string ⟨#[c]⟩] st=some (.int .i64 (Lib.indexByte (bl s) c),st):=
 zjc (by rfl) st
theorem zsm (c:UInt8) (s:ByteArray) (st:SS) [Sym]:cc 128 [.string s,.string ⟨#[c]⟩] st=some (.int .i64 ((bl s).count c:Nat),st):=
 zjc (by rfl) st
theorem zgn (c:UInt8) (s:ByteArray) (st:SS) [Sym]:cc 110 [.string s,.int .u8 c.toNat] st=some (.int .i64 (Lib.indexByte (bl s) c),st):=by
 refine zjc ?_ st
 show some (Value.int .i64 (Lib.indexByte s.data.toList (c.toNat:Int).toNat.toUInt8))=_
 have:((c.toNat:Int).toNat).toUInt8=c:=by simp
 rw [this];rfl
theorem zpP [Sym] (c:UInt8) (N b:Nat) (st0:SS) (hN:N≤4294967296):∀ (k:Nat) (rest:ByteArray) (done:List (List UInt8)) (st:SS),k=(bl rest).count c→done.length+k=N→rest.size≤4294967296→
  st.mem.get b=some (.cells (strs done++List.replicate (k+1) (.string ⟨#[]⟩)) 1)→st.lim≤b→st0.next≤b→b<st.next→Ext st0 st→
  ∃ (rest':ByteArray) (front:List (List UInt8)) (st':SS),zbN 11 [.string rest,.string ⟨#[c]⟩,.int .i64 0,.int .i64 N,.slice (some ⟨b,0,none⟩) (N+1) (N+1),.int .i64 done.length] st=some (0,[.string rest',.slice (some ⟨b,0,none⟩) (N+1) (N+1),.int .i64 N],st')∧
   st'.mem.get b=some (.cells (strs (done++front)++[.string ⟨#[]⟩]) 1)∧front++[bl rest']=pieces c (bl rest)∧(done++front).length=N∧st'.lim≤b∧b<st'.next∧Ext st0 st':=by
 intro k
 induction k with
 | zero=>
   intro rest done st hk hd hs hm hl hb0 hb he
   rcases zmR c (bl rest) with ⟨h1,h2,h3⟩ | ⟨m,h1,h2,h3,h4⟩
   ·refine ⟨rest,[],st,zdQ rest _ 0 _ _ _ st ?_,by simpa using hm,by simp [h2],by simp;omega,hl,hb,he⟩
    have:¬ ((done.length:Int)<(N:Int)):=by omega
    simp [zc5,this]
    omega
   ·omega
 | succ k ih=>
   intro rest done st hk hd hs hm hl hb0 hb he
   rcases zmR c (bl rest) with ⟨h1,h2,h3⟩ | ⟨m,h1,h2,h3,h4⟩
   ·omega
   ·rw [zaI] at h2
    have hlt:(done.length:Int)<(N:Int):=by omega
    have hm0:¬ ((m:Int)<0):=by omega
    have hw:IntKind.wrap .i64 (m:Int)=m:=wrap64 (by omega) (by omega)
    have hw1:IntKind.wrap .i64 ((m:Int)+1)=((m+1:Nat):Int):=by rw [wrap64 (by omega) (by omega)];omega
    have hwd:IntKind.wrap .i64 ((done.length:Int)+1)=(((done++[(bl rest).take m]).length:Nat):Int):=by rw [wrap64 (by omega) (by omega)];simp
    have hb1:bl (rest.extract (m+1) rest.size)=(bl rest).drop (m+1):=by
     rw [zif,List.take_of_length_le (by simp)]
    have hst:st.st b done.length [.string (mkS ((bl rest).take m))]=some (st.set b (some (.cells (strs (done++[(bl rest).take m])++List.replicate (k+1) (.string ⟨#[]⟩)) 1))):=
     SS.st_cells hm hl (by rfl) (by
      rw [zbw (by simp),← zkH]
      rfl)
    obtain ⟨rest',front,st',e1,e2,e3,e4,e5,e6,e7⟩:=ih (rest.extract (m+1) rest.size) (done++[(bl rest).take m]) (st.set b (some (.cells (strs (done++[(bl rest).take m])++List.replicate (k+1) (.string ⟨#[]⟩)) 1)))
     (by rw [hb1];omega) (by simp;omega) (by simp;omega) (by simp) hl hb0 hb (he.set hb0 _)
    refine ⟨rest',(bl rest).take m::front,st',zdQ rest _ 0 _ _ _ st ?_,by simpa using e2,by rw [h3,← hb1,← e3];rfl,by simpa using e4,e5,e6,e7⟩
    have hel:zar (.slice (some ⟨b,0,none⟩) (N+1) (N+1)) (done.length:Int) 1=some (b,done.length):=by
     unfold zar
     have:(done.length:Int)<((N+1:Nat):Int):=by omega
     simp only [zdt this]
     simp
    have hs1:zcr rest 0 (m:Int)=some (mkS ((bl rest).take m)):=by rw [zhw (by omega) (by omega) (by omega),zfs];simp
    have hs2:zcr rest ((m+1:Nat):Int) (rest.size:Int)=some (rest.extract (m+1) rest.size):=by rw [zhw (by omega) (by omega) (by omega)];simp
    have hsz:(((⟨#[c]⟩:ByteArray).size:Nat):Int)=1:=rfl
    simp only [zc5,zdt hlt,zct,ztu,zob,zaa,h1,zdf hm0,zcf,Int.add_zero,hw,hs1,hel,hst,hsz,hw1,hs2,hwd]
    exact e1
theorem split_ok [Sym] (s:ByteArray) (c:UInt8) (hs:s.size≤4294967296) (st:SS) (hl:st.lim≤st.next):∃ v st',cc 89 [.string s,.string ⟨#[c]⟩] st=some (v,st')∧Ext st st'∧
  Rd st' v (strs (pieces c (bl s))) 1 (pieces c (bl s)).length:=by
 have hc:=count_le c (bl s)
 rw [zaI] at hc
 obtain ⟨rest',front,st',e1,e2,e3,e4,e5,e6,e7⟩:=zpP c ((bl s).count c) st.next st (by omega) _ s [] (st.new (.cells (List.replicate ((bl s).count c+1) (.string ⟨#[]⟩)) 1)) rfl (by simp) hs (by simp [strs]) hl (zlr _) (by simp) ((Ext.refl st).new _)
 simp only [List.nil_append] at e2 e4
 have hlen:(pieces c (bl s)).length=(bl s).count c+1:=by rw [← e3];simp [e4]
 have hst:st'.st st.next ((bl s).count c) [.string rest']=some (st'.set st.next (some (.cells (strs (pieces c (bl s))) 1))):=
  SS.st_cells e2 e5 (by rfl) (by
   rw [← e4,zbw (by simp),← e3]
   rw [List.take_append_of_le_length (by simp),List.take_of_length_le (by simp),zki]
   congr 2
   simp [strs])
 have hw1:IntKind.wrap .i64 (((bl s).count c:Nat)+1:Int)=(((bl s).count c+1:Nat):Int):=by rw [wrap64 (by omega) (by omega)];omega
 have hw2:IntKind.wrap .i64 ((s.size:Int)+1)=((s.size+1:Nat):Int):=by rw [wrap64 (by omega) (by omega)];omega
 have hw3:IntKind.wrap .i64 ((((bl s).count c+1:Nat):Int)-1)=(((bl s).count c:Nat):Int):=by rw [wrap64 (by omega) (by omega)];omega
 have hmin:(if ((s.size+1:Nat):Int)<(((bl s).count c+1:Nat):Int) then ((s.size+1:Nat):Int) else (((bl s).count c+1:Nat):Int))=(((bl s).count c+1:Nat):Int):=by split<;>omega
 have hmk:zef (((bl s).count c+1:Nat):Int) (((bl s).count c+1:Nat):Int) 16=some ():=zkG (by omega) (by omega) (by omega)
 have hel:zar (.slice (some ⟨st.next,0,none⟩) ((bl s).count c+1) ((bl s).count c+1)) (((bl s).count c:Nat):Int) 1=some (st.next,(bl s).count c):=by
  unfold zar
  have:(((bl s).count c:Nat):Int)<(((bl s).count c+1:Nat):Int):=by omega
  simp only [zdt this]
  simp
 have hre:(st'.set st.next (some (.cells (strs (pieces c (bl s))) 1))).resl (.slice (some ⟨st.next,0,none⟩) ((bl s).count c+1) ((bl s).count c+1)) 1 0 (((bl s).count c+1:Nat):Int)=some (.slice (some ⟨st.next,0,none⟩) ((bl s).count c+1) ((bl s).count c+1)):=by
  unfold SS.resl
  simp
  rfl
 refine ⟨.slice (some ⟨st.next,0,none⟩) ((bl s).count c+1) ((bl s).count c+1),st'.set st.next (some (.cells (strs (pieces c (bl s))) 1)),zkF s _ st ?_,e7.set (zlr _) _,by simp,.inr ⟨st.next,(bl s).count c+1,by rw [hlen],⟨1,by simp⟩,e6⟩⟩
 have hgen:cc 105 [.string s,.string ⟨#[c]⟩,.int .i64 0,.int .i64 (-1)] st=some (.slice (some ⟨st.next,0,none⟩) ((bl s).count c+1) ((bl s).count c+1),st'.set st.next (some (.cells (strs (pieces c (bl s))) 1))):=by
  refine ziR s _ 0 (-1) st ?_
  have h0:eqT (⟨#[c]⟩:ByteArray) ⟨#[]⟩=false:=by rfl
  have hm1:decide ((-1:Int)=0)=false:=rfl
  have hm2:decide ((-1:Int)<0)=true:=rfl
  simp only [strings_genSplit,hm1,zcf,h0,hm2,zct,zsm,zob,zaa,hw1,hw2,hmin,hmk,zim,hw3]
  have e1':zbN 11 [.string s,.string ⟨#[c]⟩,.int .i64 0,.int .i64 (((bl s).count c:Nat):Int),.slice (some ⟨st.next,0,none⟩) (Int.toNat (((bl s).count c+1:Nat):Int)) (Int.toNat (((bl s).count c+1:Nat):Int)),.int .i64 0] (st.new (.cells (List.replicate ((bl s).count c+1) (.string ⟨#[]⟩)) 1))=some (0,[.string rest',.slice (some ⟨st.next,0,none⟩) ((bl s).count c+1) ((bl s).count c+1),.int .i64 (((bl s).count c:Nat):Int)],st'):=e1
  rw [e1']
  simp only [zob,zgz,zgs,zab,zaa,hel,hst,hw1,hre]
 simp only [strings_Split,hgen,zob]
end Go.Proofs.YtifploedaacedaaGreatDoorE
namespace Go.Proofs.YtifploedaacedaaGreatDoorE
set_option maxRecDepth 20000
open Go Go.E Go.Proofs
def ziL:LoopI:=⟨[(0,.str),(1,.int .i64),(7,.any),(8,.int .i64)],[(.exit 0,[(0,.str),(1,.int .i64),(7,.any)]),(.ret,[(4,.any),(5,.int .i64),(6,.bool)])]⟩
def zje (n:Nat):Option LoopI:=cond (Nat.beq n 3) (some ziL) (none)
noncomputable def zjf (cf:zak) (lf:zac) (s':ByteArray) (at0':Int) (st:SS):Option (Value×SS):=
 (lf 3 [.string s',.int .i64 at0',.slice none 0 0,.int .i64 0] st).bind fun a=>
 cond (Nat.beq a.1 0) (
 ((a.2.1[0]?).bind asS).bind fun b=>
 ((a.2.1[1]?).bind (asI .i64)).bind fun c=>
 (a.2.1[2]?).bind fun d=>
 let e:Int:=IntKind.wrap .i64 ((b.size:Int)+1)
 let f:SS:=a.2.2.new (.cells ([.int .i64 0,.string ⟨#[]⟩,.int .i64 0,.int .i64 c,.int .i64 e]) 5)
 (f.app 5 48 d (.slice (some ⟨a.2.2.next,0,none⟩) 1 1)).bind fun g=>
 some (.tuple #[g.1,.int .i64 0,.bool true],g.2)) (
 (a.2.1[0]?).bind fun h=>
 ((a.2.1[1]?).bind (asI .i64)).bind fun i=>
 ((a.2.1[2]?).bind asB).bind fun j=>
 some (.tuple #[h,.int .i64 i,.bool j],a.2.2))
noncomputable abbrev zbd:zac:=lS Tryz.prog Lk0 Tryz.f90 zje
theorem znZ:Lk0.func 90=some (90,Tryz.f90):=by kernel_rfl
theorem zjg [Sym] (s':ByteArray) (at0':Int) (st:SS) {r:Value×SS} (h:zjf cc zbd s' at0' st=some r):cc 90 [.string s',.int .i64 at0'] st=some r:=
 zad (li:=zje) zai zal znZ rfl (fun _=>rfl) (.trans (by kernel_rfl) h)
noncomputable def zbe (cf:zak) (lf:zac) (s':ByteArray) (at0':Int) (out':Value) (col':Int) (st:SS):Option (Nat×List Value×SS):=
 cond (decide (col'<(s'.size:Int))) (
 let a:Int:=IntKind.wrap .i64 (col'+1)
 let b:SS:=st.new (.cells [.int .i64 0,.string ⟨#[]⟩,.int .i64 0,.int .i64 0,.int .i64 0] 0)
 (b.st st.next 0 [.int .i64 0,.string ⟨#[]⟩,.int .i64 0,.int .i64 at0',.int .i64 a]).bind fun c=>
 ((zfD s' col').bind (asI .u8)).bind fun d=>
 cond (decide (d=59)) (
 lf 3 [.string s',.int .i64 at0',out',.int .i64 (s'.size:Int)] c) (
 cond (decide (d=32)) (
 let e:Int:=IntKind.wrap .i64 (col'+1)
 lf 3 [.string s',.int .i64 at0',out',.int .i64 e] c) (
 cond (decide (d=9)) (
 let f:Int:=IntKind.wrap .i64 (col'+1)
 lf 3 [.string s',.int .i64 at0',out',.int .i64 f] c) (
 cond (decide (d=13)) (
 let g:Int:=IntKind.wrap .i64 (col'+1)
 lf 3 [.string s',.int .i64 at0',out',.int .i64 g] c) (
 (cf 106 [.int .u8 d] c).bind fun h=>
 ((some h.1).bind asB).bind fun i=>
 cond i (
 (zcr s' col' (s'.size:Int)).bind fun j=>
 (cf 107 [.string j] h.2).bind fun k=>
 ((some k.1).bind (asI .i64)).bind fun l=>
 let m:Int:=IntKind.wrap .i64 (col'+l)
 (zcr s' col' m).bind fun n=>
 (k.2.st st.next 0 [.int .i64 1]).bind fun o=>
 (o.st st.next 1 [.string n]).bind fun p=>
 ((p.ld st.next 1).bind asS).bind fun q=>
 cond (decide (24<(q.size:Int))) (
 ((p.ld st.next 4).bind (asI .i64)).bind fun r=>
 some (1,[.slice none 0 0,.int .i64 r,.bool false],p)) (
 ((p.ld st.next 1).bind asS).bind fun s=>
 let t:Int:=IntKind.wrap .i64 (col'+(s.size:Int))
 (p.ldN st.next 0 5).bind fun u=>
 (zaP u 5).bind fun v=>
 let w:SS:=p.new (.cells (v++([])) 5)
 (w.app 5 48 out' (.slice (some ⟨p.next,0,none⟩) 1 1)).bind fun x=>
 lf 3 [.string s',.int .i64 at0',x.1,.int .i64 t] x.2)) (
 (cf 108 [.int .u8 d] h.2).bind fun y=>
 ((some y.1).bind asB).bind fun z=>
 cond z (
 (zcr s' col' (s'.size:Int)).bind fun A=>
 (cf 107 [.string A] y.2).bind fun B=>
 ((some B.1).bind (asI .i64)).bind fun C=>
 let D:Int:=IntKind.wrap .i64 (col'+C)
 (zcr s' col' D).bind fun E=>
 (B.2.st st.next 0 [.int .i64 2]).bind fun F=>
 (F.st st.next 1 [.string E]).bind fun G=>
 ((G.ld st.next 1).bind asS).bind fun H=>
 (cf 109 [.string H] G).bind fun I=>
 ((zam I.1 0).bind (asI .i64)).bind fun J=>
 ((zam I.1 1).bind asB).bind fun K=>
 (I.2.st st.next 2 [.int .i64 J]).bind fun L=>
 cond (!K) (
 ((L.ld st.next 4).bind (asI .i64)).bind fun M=>
 some (1,[.slice none 0 0,.int .i64 M,.bool false],L)) (
 ((L.ld st.next 1).bind asS).bind fun N=>
 let O:Int:=IntKind.wrap .i64 (col'+(N.size:Int))
 (L.ldN st.next 0 5).bind fun P=>
 (zaP P 5).bind fun Q=>
 let R:SS:=L.new (.cells (Q++([])) 5)
 (R.app 5 48 out' (.slice (some ⟨L.next,0,none⟩) 1 1)).bind fun S=>
 lf 3 [.string s',.int .i64 at0',S.1,.int .i64 O] S.2)) (
 (cf 110 [.string ⟨#[58,61,46,43,45]⟩,.int .u8 d] y.2).bind fun T=>
 ((some T.1).bind (asI .i64)).bind fun U=>
 cond (decide (0≤U)) (
 let V:Int:=IntKind.wrap .i64 (col'+1)
 (zcr s' col' V).bind fun W=>
 (T.2.st st.next 0 [.int .i64 3]).bind fun X=>
 (X.st st.next 1 [.string W]).bind fun Y=>
 ((Y.ld st.next 1).bind asS).bind fun Z=>
 let aA:Int:=IntKind.wrap .i64 (col'+(Z.size:Int))
 (Y.ldN st.next 0 5).bind fun aB=>
 (zaP aB 5).bind fun aC=>
 let aD:SS:=Y.new (.cells (aC++([])) 5)
 (aD.app 5 48 out' (.slice (some ⟨Y.next,0,none⟩) 1 1)).bind fun aE=>
 lf 3 [.string s',.int .i64 at0',aE.1,.int .i64 aA] aE.2) (
 ((T.2.ld st.next 4).bind (asI .i64)).bind fun aF=>
 some (1,[.slice none 0 0,.int .i64 aF,.bool false],T.2))))))))) (
 some (0,[.string s',.int .i64 at0',out'],st))
theorem zaT [Sym] (s':ByteArray) (at0':Int) (out':Value) (col':Int) (st:SS) {r:Nat×List Value×SS} (h:zbe cc zbd s' at0' out' col' st=some r):zbd 3 [.string s',.int .i64 at0',out',.int .i64 col'] st=some r:=
 zaC zai zal (key:=3) (I:=ziL) rfl (by kernel_rfl) (by kernel_rfl) rfl rfl (.trans (by kernel_rfl) h)
def zjh:LoopI:=⟨[(3,.any),(5,.any),(16,.any),(17,.int .i64),(18,.int .i64)],[(.exit 0,[(3,.any),(5,.any)]),(.ret,[(2,.any),(3,.any),(4,.int .i64)])]⟩
def zkk (n:Nat):Option LoopI:=cond (Nat.beq n 5) (some zjh) (none)
noncomputable def zkI (cf:zak) (lf:zac) (text':ByteArray) (st:SS):Option (Value×SS):=
 let a:SS:=st.new (.cells [.int .i64 0,.int .i64 0] 0)
 cond (decide (131072<(text'.size:Int))) (
 (a.st st.next 0 [.int .i64 0,.int .i64 0]).bind fun b=>
 (b.rdN st.next 0 2).bind fun c=>
 some (.tuple #[.slice none 0 0,c,.int .i64 3],b)) (
 (cf 89 [.string text',.string ⟨#[10]⟩] a).bind fun d=>
 ((lenV d.1).bind (asI .i64)).bind fun e=>
 (lf 5 [ptr st.next 0,.slice none 0 0,d.1,.int .i64 e,.int .i64 0] d.2).bind fun f=>
 cond (Nat.beq f.1 0) (
 (f.2.1[0]?).bind fun g=>
 (f.2.1[1]?).bind fun h=>
 (addr? g).bind fun i=>
 (f.2.2.st i.1 i.2 [.int .i64 0,.int .i64 0]).bind fun j=>
 (addr? g).bind fun k=>
 (j.rdN k.1 k.2 2).bind fun l=>
 some (.tuple #[h,l,.int .i64 0],j)) (
 (f.2.1[0]?).bind fun m=>
 (f.2.1[1]?).bind fun n=>
 ((f.2.1[2]?).bind (asI .i64)).bind fun o=>
 (addr? n).bind fun p=>
 (f.2.2.rdN p.1 p.2 2).bind fun q=>
 some (.tuple #[m,q,.int .i64 o],f.2.2)))
noncomputable abbrev zdo:zac:=lS Tryz.prog Lk0 Tryz.f67 zkk
theorem zoH:Lk0.func 67=some (67,Tryz.f67):=by kernel_rfl
theorem zkl [Sym] (text':ByteArray) (st:SS) {r:Value×SS} (h:zkI cc zdo text' st=some r):cc 67 [.string text'] st=some r:=
 zad (li:=zkk) zai zal zoH rfl (fun _=>rfl) (.trans (by kernel_rfl) h)
noncomputable def zft (cf:zak) (lf:zac) (t3':Value) (out':Value) (t16':Value) (t17':Int) (t18':Int) (st:SS):Option (Nat×List Value×SS):=
 cond (decide (t18'<t17')) (
 (zar t16' t18' 1).bind fun a=>
 ((st.ld a.1 a.2).bind asS).bind fun b=>
 let c:Int:=IntKind.wrap .i64 (t18'+1)
 (cf 90 [.string b,.int .i64 c] st).bind fun d=>
 (zam d.1 0).bind fun e=>
 ((zam d.1 1).bind (asI .i64)).bind fun f=>
 ((zam d.1 2).bind asB).bind fun g=>
 cond (!g) (
 let h:Int:=IntKind.wrap .i64 (t18'+1)
 (addr? t3').bind fun i=>
 (d.2.st i.1 i.2 [.int .i64 h,.int .i64 f]).bind fun j=>
 some (1,[.slice none 0 0,t3',.int .i64 4],j)) (
 (d.2.app 5 48 out' e).bind fun k=>
 let l:Int:=IntKind.wrap .i64 (t18'+1)
 lf 5 [t3',k.1,t16',.int .i64 t17',.int .i64 l] k.2)) (
 some (0,[t3',out'],st))
theorem zfc [Sym] (t3':Value) (out':Value) (t16':Value) (t17':Int) (t18':Int) (st:SS) {r:Nat×List Value×SS} (h:zft cc zdo t3' out' t16' t17' t18' st=some r):zdo 5 [t3',out',t16',.int .i64 t17',.int .i64 t18'] st=some r:=
 zaC zai zal (key:=5) (I:=zjh) rfl (by kernel_rfl) (by kernel_rfl) rfl rfl (.trans (by kernel_rfl) h)
end Go.Proofs.YtifploedaacedaaGreatDoorE
namespace Go.Proofs.YtifploedaacedaaGreatDoorE
open Go Go.E Go.Proofs
structure Gd (st:SS):Prop where
 g4:st.mem.get 6=some (.table [.chan (some 6)])
 g5:st.mem.get 7=some (.table [.chan (some 7)])
 gF:st.mem.get 0=some (.table fieldsC)
 gS:st.mem.get 2=some (.table asciiC)
 nx:12≤st.next
theorem Gd.ext {st st':SS} (h:Gd st) (he:Ext st st'):Gd st':=
 ⟨he.get (by have:=h.nx;omega) h.g4,he.get (by have:=h.nx;omega) h.g5,he.get (by have:=h.nx;omega) h.gF,he.get (by have:=h.nx;omega) h.gS,zlt h.nx he.next⟩
theorem Gd.ro {st:SS} {n:Nat} (h:Gd st):Gd (st.ro n):=⟨h.g4,h.g5,h.gF,h.gS,h.nx⟩
theorem zoI (p l:List UInt8):(l.take p.length=p)↔p.isPrefixOf l=true:=by
 rw [List.isPrefixOf_iff_prefix,List.prefix_iff_eq_take]
 exact eq_comm
theorem zn0 [Sym] (s p:ByteArray) (st:SS):cc 160 [.string s,.string p] st=some (.bool ((bl p).isPrefixOf (bl s)),st):=by
 refine zfX s p st ?_
 unfold zd7
 by_cases h:(p.size:Int)≤(s.size:Int)
 ·simp only [zdt h,zct,zhw (s:=s) (l:=0) (h:=p.size) (by omega) (by omega) h,zob,zel]
  congr 3
  rw [Bool.eq_iff_iff,decide_eq_true_eq,← zoI,zif,zaI]
  simp
 ·simp only [zdf h,zcf]
  congr 3
  have:(bl p).isPrefixOf (bl s)=false:=by
   rw [Bool.eq_false_iff]
   intro hp
   rw [List.isPrefixOf_iff_prefix] at hp
   have:=hp.length_le
   simp at this
   omega
  rw [this]
theorem zn1 [Sym] (s p:ByteArray) (st:SS):cc 130 [.string s,.string p] st=some (.tuple #[.string (if (bl p).isPrefixOf (bl s) then mkS ((bl s).drop p.size) else s),.bool ((bl p).isPrefixOf (bl s))],st):=by
 have h1:cc 145 [.string s,.string p] st=some (.tuple #[.string (if (bl p).isPrefixOf (bl s) then mkS ((bl s).drop p.size) else s),.bool ((bl p).isPrefixOf (bl s))],st):=by
  refine zfU s p st ?_
  unfold zd6
  rw [zn0]
  cases hp:(bl p).isPrefixOf (bl s) with
  | false=>simp
  | true=>
    have hp':=hp
    rw [List.isPrefixOf_iff_prefix] at hp'
    have:=hp'.length_le
    simp only [zaI] at this
    simp [zhw (s:=s) (l:=p.size) (h:=s.size) (by omega) (by omega) (by omega),zfs]
    rw [List.take_of_length_le (by simp)]
 refine zij s p st ?_
 unfold strings_CutPrefix
 rw [h1]
 rfl
def zdq (b:UInt8):Nat:=(orI .u8 b.toNat 32).toNat
theorem zji (n:Int):0≤IntKind.wrap .u8 n∧IntKind.wrap .u8 n<256:=by
 rw [← zh8]
 show 0≤((zdw n 256:Nat):Int)∧((zdw n 256:Nat):Int)<256
 rw [zgi _ _ (by decide)]
 omega
theorem zqZ (b:UInt8):orI .u8 b.toNat 32=(zdq b:Int):=by
 have:=(zji ((BitVec.ofInt 8 b.toNat||| BitVec.ofInt 8 32).toNat:Nat)).1
 unfold zdq
 rw [Int.toNat_of_nonneg]
 exact this
theorem low_lt (b:UInt8):zdq b<256:=by
 have:=(zji ((BitVec.ofInt 8 b.toNat||| BitVec.ofInt 8 32).toNat:Nat)).2
 have h2:=zqZ b
 have h3:orI .u8 b.toNat 32<256:=this
 omega
theorem zsn [Sym] (b:UInt8) (st:SS):cc 161 [.int .u8 b.toNat] st=some (.int .u8 (zdq b),st):=by
 refine zjV _ st ?_
 unfold zhx
 rw [zqZ]
def zin (b:UInt8):Option Nat:=if 48≤b.toNat∧b.toNat≤57 then some (b.toNat-48) else if 97≤zdq b∧zdq b≤122 then some (zdq b-87) else none
def zbO (B:Nat):Nat→List UInt8→Option (Option Nat)
 | n,[]=>some (some n)
 | n,b::r=>match zin b with
   | none=>none
   | some d=>if B≤d then none else if 2147483647<n*B+d then some none else zbO B (n*B+d) r
def puR (x:Option (Option Nat)) (s:ByteArray) (st:SS):Nat×List Value×SS:=match x with
 | none=>(1,[.int .u64 0,.iface 228 (.int .i64 2)],st)
 | some none=>(1,[.int .u64 2147483647,.iface 228 (.int .i64 1)],st)
 | some (some m)=>(0,[.string s,.bool false,.int .u64 m],st)
theorem zpc [Sym] (s s0:ByteArray) (B:Nat) (hB:0<B∧B≤16) (C:Int) (hC:2147483648≤C) (i cap:Nat) (st:SS) (hs:s.size≤4294967296) (hm:st.mem.get i=some (.cells (s.data.toList.map fun b=>.int .u8 b.toNat) 1)):∀ (l:List UInt8) (p n:Nat),(bl s).drop p=l→p≤s.size→n≤2147483647→
  zf7 36 [.int .i64 B,.bool false,.string s0,.int .u64 C,.int .u64 2147483647,.bool false,.int .u64 n,.slice (some ⟨i,0,none⟩) s.size cap,.int .i64 s.size,.int .i64 p] st=some (puR (zbO B n l) s0 st):=by
 intro l
 induction l with
 | nil=>
   intro p n hp hle hn
   have hps:p=s.size:=by
    rw [List.drop_eq_nil_iff,zaI] at hp
    omega
   subst hps
   refine zkj _ _ _ _ _ _ _ _ _ st ?_
   simp [zc6,zbO,puR]
 | cons b r ih=>
   intro p n hp hle hn
   have hb:(bl s)[p]?=some b:=by
    have:=congrArg (·[0]?) hp
    simpa using this
   have hlt:p<s.size:=by
    obtain ⟨h,_⟩:=List.getElem?_eq_some_iff.1 hb
    simpa using h
   have hr:(bl s).drop (p+1)=r:=by
    have:=drop_cons hb
    rw [hp] at this
    exact (List.cons.inj this).2.symm
   have hlt':(p:Int)<(s.size:Int):=by omega
   have hel:zar (.slice (some ⟨i,0,none⟩) s.size cap) (p:Int) 1=some (i,p):=by
    unfold zar
    simp [hlt]
   have hld:(st.ld i p).bind (asI .u8)=some (b.toNat:Int):=by
    rw [SS.ld_cells hm,List.getElem?_map]
    show (((bl s)[p]?).map _).bind _=_
    rw [hb]
    rfl
   have hwp:IntKind.wrap .i64 ((p:Int)+1)=((p+1:Nat):Int):=by rw [wrap64 (by omega) (by omega)];omega
   have hB8:IntKind.wrap .u8 (B:Int)=B:=zhv (by omega) (by omega)
   have hB64:IntKind.wrap .u64 (B:Int)=B:=zdl (by omega) (by omega)
   have hmul:n*B≤2147483647*16:=Nat.mul_le_mul hn hB.2
   have hmulw:IntKind.wrap .u64 ((n:Int)*(B:Int))=((n*B:Nat):Int):=by
    rw [← Int.natCast_mul]
    exact zdl (by omega) (by omega)
   have hCn:¬ C≤(n:Int):=by omega
   have hlow:=low_lt b
   have hbl:=b.toNat_lt
   have fin:∀ d:Nat,d<256→zin b=some d→∀ (q:Int),q=d→
    (cond (decide ((B:Int)≤q)) (some (1,[Value.int .u64 0,.iface 228 (.int .i64 2)],st)) (
     cond (decide (C≤(n:Int))) (some (1,[.int .u64 2147483647,.iface 228 (.int .i64 1)],st)) (
      cond (decide (IntKind.wrap .u64 (((n*B:Nat):Int)+IntKind.wrap .u64 q)<((n*B:Nat):Int))) (some (1,[.int .u64 2147483647,.iface 228 (.int .i64 1)],st)) (
       cond (decide (2147483647<IntKind.wrap .u64 (((n*B:Nat):Int)+IntKind.wrap .u64 q))) (some (1,[.int .u64 2147483647,.iface 228 (.int .i64 1)],st)) (
        zf7 36 [.int .i64 B,.bool false,.string s0,.int .u64 C,.int .u64 2147483647,.bool false,.int .u64 (IntKind.wrap .u64 (((n*B:Nat):Int)+IntKind.wrap .u64 q)),.slice (some ⟨i,0,none⟩) s.size cap,.int .i64 s.size,.int .i64 ((p+1:Nat):Int)] st)))))=some (puR (zbO B n (b::r)) s0 st):=by
    intro d hd hv q hq
    subst hq
    have hw1:IntKind.wrap .u64 (d:Int)=d:=zdl (by omega) (by omega)
    have hw2:IntKind.wrap .u64 (((n*B:Nat):Int)+(d:Int))=((n*B+d:Nat):Int):=by
     rw [← Int.natCast_add]
     exact zdl (by omega) (by omega)
    have hnl:¬ (((n*B+d:Nat):Int)<((n*B:Nat):Int)):=by omega
    rw [hw1,hw2,zdf hCn,zdf hnl]
    unfold zbO
    rw [hv]
    by_cases h1:B≤d
    ·have h1':(B:Int)≤(d:Int):=by omega
     simp [h1,puR]
    ·have h1':¬ (B:Int)≤(d:Int):=by omega
     rw [zdf h1']
     simp only [zcf,h1,if_false]
     by_cases h2:2147483647<n*B+d
     ·have h2':(2147483647:Int)<((n*B+d:Nat):Int):=by omega
      rw [zdt h2',if_pos h2]
      rfl
     ·have h2':¬ (2147483647:Int)<((n*B+d:Nat):Int):=by omega
      rw [zdf h2',if_neg h2]
      exact ih (p+1) (n*B+d) hr (by omega) (by omega)
   refine zkj _ _ _ _ _ _ _ _ _ st ?_
   by_cases hdig:48≤b.toNat∧b.toNat≤57
   ·have h1:(48:Int)≤(b.toNat:Int):=by omega
    have h2:(b.toNat:Int)≤57:=by omega
    have h3:¬ (b.toNat:Int)=95:=by omega
    have hw:IntKind.wrap .u8 ((b.toNat:Int)-48)=((b.toNat-48:Nat):Int):=by rw [zhv (by omega) (by omega)];omega
    have:=fin (b.toNat-48) (by omega) (by unfold zin;rw [if_pos hdig]) _ rfl
    simp only [zc6,zdt hlt',zct,hel,zob,hld,zdf h3,zcf,zdt h1,zdt h2,hw,hB8,hB64,hmulw,hwp]
    exact this
   ·have hlo:=zsn b st
    have h4857:decide ((48:Int)≤(b.toNat:Int))=false∨(decide ((48:Int)≤(b.toNat:Int))=true∧decide ((b.toNat:Int)≤57)=false):=by
     by_cases h:(48:Int)≤(b.toNat:Int)
     ·exact .inr ⟨zdt h,zdf (by omega)⟩
     ·exact .inl (zdf h)
    by_cases h1:97≤zdq b
    ·have h1':(97:Int)≤(zdq b:Int):=by omega
     have hw1:IntKind.wrap .u8 ((zdq b:Int)-97)=((zdq b-97:Nat):Int):=by rw [zhv (by omega) (by omega)];omega
     by_cases h2:zdq b≤122
     ·have h2':(zdq b:Int)≤122:=by omega
      have hw2:IntKind.wrap .u8 (((zdq b-97:Nat):Int)+10)=((zdq b-87:Nat):Int):=by rw [zhv (by omega) (by omega)];omega
      have:=fin (zdq b-87) (by omega) (by unfold zin;rw [if_neg hdig,if_pos ⟨h1,h2⟩]) _ rfl
      rcases h4857 with h48 | ⟨h48,h57⟩
      ·cases h95:decide ((b.toNat:Int)=95)
       all_goals
        simp only [zc6,zdt hlt',zct,hel,zob,hld,h95,zcf,h48,hlo,zaa,zdt h1',zdt h2',hw1,hw2,hB8,hB64,hmulw,hwp]
        exact this
      ·cases h95:decide ((b.toNat:Int)=95)
       all_goals
        simp only [zc6,zdt hlt',zct,hel,zob,hld,h95,zcf,h48,h57,hlo,zaa,zdt h1',zdt h2',hw1,hw2,hB8,hB64,hmulw,hwp]
        exact this
     ·have h2':¬ (zdq b:Int)≤122:=by omega
      have hv:zin b=none:=by unfold zin;rw [if_neg hdig,if_neg (by omega)]
      have e:zbO B n (b::r)=none:=by unfold zbO;rw [hv]
      rw [e]
      rcases h4857 with h48 | ⟨h48,h57⟩
      ·cases h95:decide ((b.toNat:Int)=95)
       all_goals
        simp only [zc6,zdt hlt',zct,hel,zob,hld,h95,zcf,h48,hlo,zaa,zdt h1',zdf h2',puR]
      ·cases h95:decide ((b.toNat:Int)=95)
       all_goals
        simp only [zc6,zdt hlt',zct,hel,zob,hld,h95,zcf,h48,h57,hlo,zaa,zdt h1',zdf h2',puR]
    ·have h1':¬ (97:Int)≤(zdq b:Int):=by omega
     have hv:zin b=none:=by unfold zin;rw [if_neg hdig,if_neg (by omega)]
     have e:zbO B n (b::r)=none:=by unfold zbO;rw [hv]
     rw [e]
     rcases h4857 with h48 | ⟨h48,h57⟩
     ·cases h95:decide ((b.toNat:Int)=95)
      all_goals
       simp only [zc6,zdt hlt',zct,hel,zob,hld,h95,zcf,h48,hlo,zaa,zdf h1',puR]
     ·cases h95:decide ((b.toNat:Int)=95)
      all_goals
       simp only [zc6,zdt hlt',zct,hel,zob,hld,h95,zcf,h48,h57,hlo,zaa,zdf h1',puR]
def zaU (B:Nat) (l:List UInt8):Option (Option Nat):=if l=[] then none else zbO B 0 l
def puV (x:Option (Option Nat)):Int×Option Nat:=match x with
 | none=>(0,some 4)
 | some none=>(2147483647,some 5)
 | some (some m)=>(m,none)
def zfd (x:Option (Option Nat)):Int×Bool:=((puV x).1,(puV x).2.isNone)
def puE (x:Option (Option Nat)):Value:=match x with
 | none=>.iface 228 (.int .i64 2)
 | some none=>.iface 228 (.int .i64 1)
 | some (some m)=>.nilIface
theorem zgP (s:ByteArray):eqT s ⟨#[]⟩=decide (bl s=[]):=rfl
theorem ztv [Sym] (s:ByteArray) (hs:s.size≤4294967296) (st:SS):∃ st',cc 146 [.string s,.int .i64 10,.int .i64 31] st=some (.tuple #[.int .u64 (puV (zaU 10 (bl s))).1,puE (zaU 10 (bl s))],st')∧Ext st st':=by
 have hsh:IntKind.wrap .u64 (zi4 .u64 1 31-1)=2147483647:=by decide
 by_cases h0:bl s=[]
 ·refine ⟨st,zo8 s st ?_,.refl _⟩
  simp [pu10,zgP,h0,zaU,puV,puE]
 ·refine ⟨st.new (.cells (s.data.toList.map fun b=>.int .u8 b.toNat) 1),zo8 s st ?_,(Ext.refl st).new _⟩
  have:=zpc s s 10 (by omega) 1844674407370955162 (by omega) st.next s.size (st.new (.cells (s.data.toList.map fun b=>.int .u8 b.toNat) 1)) hs (by simp) (bl s) 0 0 rfl (by omega) (by omega)
  have this':zf7 36 [.int .i64 10,.bool false,.string s,.int .u64 1844674407370955162,.int .u64 2147483647,.bool false,.int .u64 0,.slice (some ⟨st.next,0,none⟩) s.size s.size,.int .i64 ((s.size:Nat):Int),.int .i64 0] (st.new (.cells (s.data.toList.map fun b=>.int .u8 b.toNat) 1))=_:=this
  simp only [pu10,zgP,zdf h0,zcf,hsh,this',zob,zaU,if_neg h0]
  rcases zbO 10 0 (bl s) with _ | _ | m<;>simp [puR,puV,puE]
theorem ztw [Sym] (s:ByteArray) (hs:s.size≤4294967296) (st:SS):∃ st',cc 146 [.string s,.int .i64 16,.int .i64 31] st=some (.tuple #[.int .u64 (puV (zaU 16 (bl s))).1,puE (zaU 16 (bl s))],st')∧Ext st st':=by
 have hsh:IntKind.wrap .u64 (zi4 .u64 1 31-1)=2147483647:=by decide
 by_cases h0:bl s=[]
 ·refine ⟨st,zpb s st ?_,.refl _⟩
  simp [pu16,zgP,h0,zaU,puV,puE]
 ·refine ⟨st.new (.cells (s.data.toList.map fun b=>.int .u8 b.toNat) 1),zpb s st ?_,(Ext.refl st).new _⟩
  have:=zpc s s 16 (by omega) 1152921504606846976 (by omega) st.next s.size (st.new (.cells (s.data.toList.map fun b=>.int .u8 b.toNat) 1)) hs (by simp) (bl s) 0 0 rfl (by omega) (by omega)
  have this':zpa 36 [.int .i64 16,.bool false,.string s,.int .u64 1152921504606846976,.int .u64 2147483647,.bool false,.int .u64 0,.slice (some ⟨st.next,0,none⟩) s.size s.size,.int .i64 ((s.size:Nat):Int),.int .i64 0] (st.new (.cells (s.data.toList.map fun b=>.int .u8 b.toNat) 1))=_:=this
  simp only [pu16,zgP,zdf h0,zcf,hsh,this',zob,zaU,if_neg h0]
  rcases zbO 16 0 (bl s) with _ | _ | m<;>simp [puR,puV,puE]
theorem zso [Sym] {st:SS} (hg:Gd st) (fn s:ByteArray) (hs:s.size≤4294967296) (base bits:Int) (x:Option (Option Nat)) (hx:(puV x).2.isNone=false):
  cc 147 [.string fn,.string s,.int .i64 base,.int .i64 bits,puE x] st=some (.iface 230 (.pointer (some ⟨st.next,0,none⟩)),st.adv (st.next+1)):=by
 have hq:Nat.ble s.size 281474976710656=true:=by rw [Nat.ble_eq];omega
 have hn:=hg.nx
 rcases x with _ | _ | m
 ·have h:=zmO (P:=Tryz.prog) (L:=Lk0) (f:=147) (args:=[.string fn,.string s,.int .i64 base,.int .i64 bits,.iface 228 (.int .i64 2)]) (st:=st) (c:=zd5 st.next 6) (by rfl)
   (by show zkB 147 [.string fn,.string s,.int .i64 base,.int .i64 bits,.iface 228 (.int .i64 2)] st.next=_;simp [zkB, -znW,hq]) (by
    have h4:Nat.blt 6 st.next=true:=by rw [Nat.blt_eq];omega
    have hgl:Lk0.glob 6=true:=rfl
    simp [zd5,hg.g4,zfo,zhU,h4,hgl])
  exact h
 ·have h:=zmO (P:=Tryz.prog) (L:=Lk0) (f:=147) (args:=[.string fn,.string s,.int .i64 base,.int .i64 bits,.iface 228 (.int .i64 1)]) (st:=st) (c:=zd5 st.next 7) (by rfl)
   (by show zkB 147 [.string fn,.string s,.int .i64 base,.int .i64 bits,.iface 228 (.int .i64 1)] st.next=_;simp [zkB, -znW,hq]) (by
    have h4:Nat.blt 7 st.next=true:=by rw [Nat.blt_eq];omega
    have hgl:Lk0.glob 7=true:=rfl
    simp [zd5,hg.g5,zfo,zhU,h4,hgl])
  exact h
 ·cases hx
theorem zjj [Sym] {st:SS} (hg:Gd st) (s:ByteArray) (hs:s.size≤4294967296) (base:Int) (B:Nat) (hb:(base=10∧B=10)∨(base=16∧B=16)):
  ∃ e st',cc 131 [.string s,.int .i64 base,.int .i64 31] st=some (.tuple #[.int .u64 (puV (zaU B (bl s))).1,e],st')∧zeE e=some (puV (zaU B (bl s))).2.isNone∧Ext st st':=by
 have h:∃ st',cc 146 [.string s,.int .i64 base,.int .i64 31] st=some (.tuple #[.int .u64 (puV (zaU B (bl s))).1,puE (zaU B (bl s))],st')∧Ext st st':=by
  rcases hb with ⟨rfl,rfl⟩ | ⟨rfl,rfl⟩
  ·exact ztv s hs st
  ·exact ztw s hs st
 obtain ⟨st',h1,h2⟩:=h
 have hE:zeE (puE (zaU B (bl s)))=some (puV (zaU B (bl s))).2.isNone:=by
  rcases zaU B (bl s) with _ | _ | m<;>rfl
 cases hx:(puV (zaU B (bl s))).2.isNone with
 | true=>
   refine ⟨.nilIface,st',zeH s _ _ st ?_,rfl,h2⟩
   rw [hx] at hE
   simp [zdX,h1,zam,hE]
 | false=>
   refine ⟨.iface 230 (.pointer (some ⟨st'.next,0,none⟩)),st'.adv (st'.next+1),zeH s _ _ st ?_,rfl,h2.adv (Nat.le_succ _)⟩
   rw [hx] at hE
   simp [zdX,h1,zam,hE,zso (hg.ext h2) _ s hs _ _ _ hx]
def hexP (l:List UInt8):Bool:=[48,120].isPrefixOf l
def zc7 (l:List UInt8):Option (Option Nat):=if hexP l then zaU 16 (l.drop 2) else zaU 10 l
theorem zn2 {B n m:Nat} {l:List UInt8} (h:zbO B n l=some (some m)):Lib.indexByte l 95= -1:=by
 induction l generalizing n with
 | nil=>rfl
 | cons b r ih=>
   unfold zbO at h
   split at h
   ·cases h
   ·rename_i d hd
    split at h
    ·cases h
    ·split at h
     ·cases h
     ·have hb:b≠95:=by
       rintro rfl
       have:zin 95=none:=by decide
       rw [this] at hd;cases hd
      simp [Lib.indexByte,hb,ih h]
theorem zmS {B:Nat} {l:List UInt8} (h:(puV (zaU B l)).2.isNone=true):Lib.indexByte l 95= -1:=by
 unfold zaU at h
 split at h
 ·cases h
 ·cases hp:zbO B 0 l with
  | none=>rw [hp] at h;cases h
  | some x=>cases x with
    | none=>rw [hp] at h;cases h
    | some m=>exact zn2 hp
theorem zfx {B:Nat} {l:List UInt8}:0≤(puV (zaU B l)).1∧(puV (zaU B l)).1≤2147483647:=by
 have:∀ (l:List UInt8) (n m:Nat),n≤2147483647→zbO B n l=some (some m)→m≤2147483647:=by
  intro l
  induction l with
  | nil=>intro n m hn h;cases h;exact hn
  | cons b r ih=>
    intro n m hn h
    unfold zbO at h
    split at h
    ·cases h
    ·split at h
     ·cases h
     ·split at h
      ·cases h
      ·exact ih _ _ (by omega) h
 unfold zaU
 split
 ·simp [puV]
 ·cases hp:zbO B 0 l with
  | none=>simp [puV]
  | some x=>cases x with
    | none=>simp [puV]
    | some m=>have:=this l 0 m (by omega) hp;simp only [puV];omega
theorem zq0 [Sym] {st:SS} (hg:Gd st) (s:ByteArray) (hs:s.size≤4294967296):∃ n,st.next≤n∧cc 109 [.string s] st=some (.tuple #[.int .i64 (zfd (zc7 (bl s))).1,.bool (zfd (zc7 (bl s))).2],st.adv n):=by
 have hcut:=zn1 s ⟨#[48,120]⟩ (st.ro st.next)
 have hp:(bl (⟨#[48,120]⟩:ByteArray))=[48,120]:=rfl
 have hsz:(⟨#[48,120]⟩:ByteArray).size=2:=rfl
 rw [hp,hsz] at hcut
 cases hh:hexP (bl s) with
 | true=>
   have hh':=hh
   unfold hexP at hh'
   rw [hh'] at hcut
   obtain ⟨e,st',h1,h2,h3⟩:=zjj (st:=st.ro st.next) (hg.ro) (mkS ((bl s).drop 2)) (by simp;omega) 16 16 (.inr ⟨rfl,rfl⟩)
   rw [zbJ] at h1 h2
   refine ⟨st'.next,h3.next,zhy s st ?_⟩
   have hw:=wrap64 (n:=(puV (zaU 16 ((bl s).drop 2))).1) (by have:=zfx (B:=16) (l:=(bl s).drop 2);omega) (by have:=zfx (B:=16) (l:=(bl s).drop 2);omega)
   have hi:=zgn 95 (mkS ((bl s).drop 2)) st'
   cases hx:(puV (zaU 16 ((bl s).drop 2))).2.isNone with
   | true=>
     rw [hx] at h2
     have hu:=zmS hx
     have hi':cc 110 [.string (mkS ((bl s).drop 2)),.int .u8 95] st'=_:=hi
     rw [zbJ,hu] at hi'
     simp [zd8,hcut,zam,h1,h2,hw,zc7,hh,zfd,hx,hi']
   | false=>
     rw [hx] at h2
     simp [zd8,hcut,zam,h1,h2,hw,zc7,hh,zfd,hx]
 | false=>
   have hh':=hh
   unfold hexP at hh'
   rw [hh'] at hcut
   obtain ⟨e,st',h1,h2,h3⟩:=zjj (st:=st.ro st.next) (hg.ro) s hs 10 10 (.inl ⟨rfl,rfl⟩)
   refine ⟨st'.next,h3.next,zhy s st ?_⟩
   have hw:=wrap64 (n:=(puV (zaU 10 (bl s))).1) (by have:=zfx (B:=10) (l:=bl s);omega) (by have:=zfx (B:=10) (l:=bl s);omega)
   have hi:=zgn 95 s st'
   cases hx:(puV (zaU 10 (bl s))).2.isNone with
   | true=>
     rw [hx] at h2
     have hu:=zmS hx
     have hi':cc 110 [.string s,.int .u8 95] st'=_:=hi
     rw [hu] at hi'
     simp [zd8,hcut,zam,h1,h2,hw,zc7,hh,zfd,hx,hi']
   | false=>
     rw [hx] at h2
     simp [zd8,hcut,zam,h1,h2,hw,zc7,hh,zfd,hx]
end Go.Proofs.YtifploedaacedaaGreatDoorE
namespace Go.Proofs.YtifploedaacedaaGreatDoorE
open Go Go.E Go.Proofs
structure Tok where
 kd:Nat
 tx:List UInt8
 nm:Int
 col:Nat
def zaS (at':Int) (t:Tok):List Value:=[.int .i64 t.kd,.string (mkS t.tx),.int .i64 t.nm,.int .i64 at',.int .i64 t.col]
def zbU (at':Int):List Tok→List Value
 | []=>[]
 | t::r=>zaS at' t++zbU at' r
theorem zjk (at':Int) (a b:List Tok):zbU at' (a++b)=zbU at' a++zbU at' b:=by
 induction a with
 | nil=>rfl
 | cons t r ih=>simp [zbU,ih]
theorem zq1 (at':Int) (a:List Tok):(zbU at' a).all one=true:=by
 induction a with
 | nil=>rfl
 | cons t r ih=>simp [zbU,ih,zaS,one]
inductive Stp where
 | stop | blank | bad
 | tok (kd n:Nat) (x:Int)
def numO (x:Option (Option Nat)):Option Nat:=x.getD none
def znw (c:UInt8):Bool:=decide (0≤Lib.indexByte [58,61,46,43,45] c)
def stepT:List UInt8→Stp
 | []=>.stop
 | c::r=>if (c.toNat:Int)=59 then .stop
   else if (c.toNat:Int)=32∨(c.toNat:Int)=9∨(c.toNat:Int)=13 then .blank
   else if zdn c.toNat=true then (if 24<zaH (c::r) then .bad else .tok 1 (zaH (c::r)) 0)
   else if zeG c.toNat=true then (match numO (zc7 ((c::r).take (zaH (c::r)))) with
    | some m=>.tok 2 (zaH (c::r)) m
    | none=>.bad)
   else if znw c=true then .tok 3 1 0 else .bad
def zpQ (t:Tok):Except Nat (List Tok)→Except Nat (List Tok)
 | .ok ts=>.ok (t::ts)
 | .error e=>.error e
def zdr:Nat→Nat→List UInt8→Except Nat (List Tok)
 | 0,_,_=>.ok []
 | k+1,col,l=>match stepT l with
   | .stop=>.ok []
   | .blank=>zdr k (col+1) (l.drop 1)
   | .tok kd n x=>zpQ ⟨kd,l.take n,x,col+1⟩ (zdr k (col+n) (l.drop n))
   | .bad=>.error (col+1)
structure TK (st stX:SS) (row:List Value):Prop where
 mem:stX.mem.get st.next=some (.cells row 0)
 ext:Ext st stX
 lt:st.next<stX.next
theorem TK.new {st:SS} {r row:List Value} (hl:st.lim≤st.next) (h1:row.all one=true) (hr:r.length=row.length):∃ stX,(st.new (.cells r 0)).st st.next 0 row=some stX∧TK st stX row:=by
 refine ⟨_,SS.st_cells SS.new_get hl h1 (c':=row) ?_,?_,?_,?_⟩
 ·rw [zbw (by omega)]
  simp [hr]
 ·simp
 ·exact ((Ext.refl st).new _).set (zlr _) _
 ·simp
theorem TK.st {st stX:SS} {row row' vs:List Value} {k:Nat} (h:TK st stX row) (hl:st.lim≤st.next) (h1:vs.all one=true) (hs:zcv row k vs=some row'):∃ stY,stX.st st.next k vs=some stY∧TK st stY row'∧stY.next=stX.next:=
 ⟨_,SS.st_cells h.mem (by rw [h.ext.lim];exact hl) h1 hs,⟨by simp,h.ext.set (zlr _) _,h.lt⟩,rfl⟩
theorem TK.adv {st stX:SS} {row:List Value} {n:Nat} (h:TK st stX row) (hn:stX.next≤n):TK st (stX.adv n) row:=
 ⟨h.mem,h.ext.adv hn,zll h.lt hn⟩
theorem TK.ld {st stX:SS} {row:List Value} {k:Nat} (h:TK st stX row):stX.ld st.next k=row[k]?:=SS.ld_cells h.mem
theorem TK.ldN {st stX:SS} {row:List Value} {n:Nat} (h:TK st stX row) (hn:row.length=n):stX.ldN st.next 0 n=some (.agg row.toArray):=by
 rw [SS.ldN_cells h.mem,zfa hn];rfl
theorem zlu {row:List Value} {n:Nat} (hn:row.length=n):zaP (.agg row.toArray) n=some row:=by
 unfold zaP
 have:(Value.agg row.toArray).cells=row.toArray:=rfl
 rw [this]
 simp [hn]
theorem cells5 (a b c d e:Value):zaP (.agg [a,b,c,d,e].toArray) 5=some [a,b,c,d,e]:=rfl
theorem own_ne {b:Nat} {st:SS} {v:Value} {c:List Value} {z n j:Nat} (h:Own b st v c z n) (hj:st.next≤j):∀ q,v≠.slice (some ⟨j,0,none⟩) q q:=by
 obtain ⟨_,⟨rfl,_⟩ | ⟨i,rfl,_,_,_,hi⟩⟩:=h
 ·intro q h;cases h
 ·intro q h;cases h;omega
theorem TK.app {st0 st stX:SS} {row c:List Value} {out:Value} {n z bt:Nat} (h:TK st stX row) (he:Ext st0 st) (ho:Own st0.next st out c z n) (hr:row.length=z) (hz:0<z) (hl:st0.lim≤st0.next) (h1:row.all one=true) (hs:(n+2)*bt≤2^44) (hn:n+1≤2^44):
  ∃ v st',(stX.new (.cells row z)).app z bt out (.slice (some ⟨stX.next,0,none⟩) 1 1)=some (v,st')∧Ext st0 st'∧Own st0.next st' v (c++row) z (n+1)∧st'.mem.get st.next=some (.cells row 0):=by
 have e1:Ext st (stX.new (.cells row z)):=h.ext.new _
 have e0:Ext st0 (stX.new (.cells row z)):=he.trans e1
 obtain ⟨v,st',g1,g2,g3,g4,g5,g6⟩:=(ho.ext e1).app (Rd.new1 (st:=stX) hr) e0.next (by rw [e0.lim];exact hl) hz h1 (bt:=bt) (by simpa [Nat.add_assoc] using hs) hn
 refine ⟨v,st',g1,g5 st0 (zlr _) e0,g2,?_⟩
 rw [g6 st.next (by simp;have:=h.lt;omega) (own_ne ho (zlr _)),SS.new_old (by have:=h.lt;omega)]
 exact h.mem
theorem zmd (l:List UInt8):zaH l≤l.length:=by
 unfold zaH
 exact (List.takeWhile_sublist _).length_le
theorem zio {c:UInt8} {r:List UInt8} (h:nameB c=true):0<zaH (c::r):=by rw [zgO,if_pos h];omega
theorem ziq {s:ByteArray} {col n:Nat} (h:col+n≤s.size):zcr s (col:Int) ((col+n:Nat):Int)=some (mkS (((bl s).drop col).take n)):=by
 rw [zhw (by omega) (by omega) (by omega),zfs]
 simp only [Int.toNat_natCast]
 rw [List.drop_take,Nat.add_sub_cancel_left]
theorem zmT {s:ByteArray} {col:Nat} (h:col≤s.size):zcr s (col:Int) (s.size:Int)=some (mkS ((bl s).drop col)):=by
 rw [zhw (by omega) (by omega) (by omega),zfs]
 simp only [Int.toNat_natCast]
 rw [List.take_of_length_le (by simp)]
def zdL (errv:Nat→List Value) (s:ByteArray) (at':Int) (st0:SS) (done:List Tok) (r:Option (Nat×List Value×SS)):Except Nat (List Tok)→Prop
 | .ok ts=>∃ v st',r=some (0,[.string s,.int .i64 at',v],st')∧Ext st0 st'∧Own st0.next st' v (zbU at' (done++ts)) 5 (done++ts).length∧(done++ts).length≤s.size
 | .error c=>∃ st',r=some (1,errv c,st')∧Ext st0 st'
theorem zdL.to {errv:Nat→List Value} {s:ByteArray} {at':Int} {st0:SS} {done:List Tok} {r r':Option (Nat×List Value×SS)} {x:Except Nat (List Tok)} (h:zdL errv s at' st0 done r x) (hr:∀ y,r=some y→r'=some y):zdL errv s at' st0 done r' x:=by
 cases x with
 | ok ts=>obtain ⟨v,st',a,b⟩:=h;exact ⟨v,st',hr _ a,b⟩
 | error c=>obtain ⟨st',a,b⟩:=h;exact ⟨st',hr _ a,b⟩
theorem zdL.cons {errv:Nat→List Value} {s:ByteArray} {at':Int} {st0:SS} {done:List Tok} {t:Tok} {r:Option (Nat×List Value×SS)} {x:Except Nat (List Tok)} (h:zdL errv s at' st0 (done++[t]) r x):zdL errv s at' st0 done r (zpQ t x):=by
 cases x with
 | ok ts=>
   have e:done++[t]++ts=done++t::ts:=by simp
   obtain ⟨v,st',a,b,c,d⟩:=h
   rw [e] at c d
   exact ⟨v,st',a,b,c,d⟩
 | error c=>exact h
theorem zdL.tok {errv:Nat→List Value} {s:ByteArray} {at':Int} {st0 st stY:SS} {done:List Tok} {out:Value} {kd n col k:Nat} {x:Int} {lf:zac} (hs:s.size≤4294967296) (hl0:st0.lim≤st0.next) (hd:done.length≤col) (he:Ext st0 st) (ho:Own st0.next st out (zbU at' done) 5 done.length) (hn0:0<n) (hn:col+n≤s.size)
  (tk:TK st stY [.int .i64 kd,.string (mkS (((bl s).drop col).take n)),.int .i64 x,.int .i64 at',.int .i64 ((col+1:Nat):Int)])
  (ih:∀ (done:List Tok) (out:Value) (st:SS),done.length≤col+n→Ext st0 st→Own st0.next st out (zbU at' done) 5 done.length→zdL errv s at' st0 done (lf 3 [.string s,.int .i64 at',out,.int .i64 ((col+n:Nat):Int)] st) (zdr k (col+n) ((bl s).drop (col+n))))
  (step:∀ v stZ,(stY.new (.cells [.int .i64 kd,.string (mkS (((bl s).drop col).take n)),.int .i64 x,.int .i64 at',.int .i64 ((col+1:Nat):Int)] 5)).app 5 48 out (.slice (some ⟨stY.next,0,none⟩) 1 1)=some (v,stZ)→stZ.mem.get st.next=some (.cells [.int .i64 kd,.string (mkS (((bl s).drop col).take n)),.int .i64 x,.int .i64 at',.int .i64 ((col+1:Nat):Int)] 0)→
      ∀ y,lf 3 [.string s,.int .i64 at',v,.int .i64 ((col+n:Nat):Int)] stZ=some y→lf 3 [.string s,.int .i64 at',out,.int .i64 col] st=some y):
  zdL errv s at' st0 done (lf 3 [.string s,.int .i64 at',out,.int .i64 col] st) (zpQ ⟨kd,((bl s).drop col).take n,x,col+1⟩ (zdr k (col+n) (((bl s).drop col).drop n))):=by
 obtain ⟨v,stZ,b1,b2,b3,b4⟩:=tk.app he ho rfl (by omega) hl0 (by rfl) (bt:=48) (by omega) (by omega)
 have hrow:zbU at' done++[.int .i64 kd,.string (mkS (((bl s).drop col).take n)),.int .i64 x,.int .i64 at',.int .i64 ((col+1:Nat):Int)]=zbU at' (done++[⟨kd,((bl s).drop col).take n,x,col+1⟩]):=by
  rw [zjk];rfl
 have hlen:done.length+1=(done++[(⟨kd,((bl s).drop col).take n,x,col+1⟩:Tok)]).length:=by simp
 rw [hrow,hlen] at b3
 rw [List.drop_drop]
 exact ((ih _ v stZ (by simp;omega) b2 b3).cons).to (step v stZ b1 b4)
theorem zsp {L r:List UInt8} {c:UInt8} (h:L=c::r):stepT L=if (c.toNat:Int)=59 then .stop
  else if (c.toNat:Int)=32∨(c.toNat:Int)=9∨(c.toNat:Int)=13 then .blank
  else if zdn c.toNat=true then (if 24<zaH L then .bad else .tok 1 (zaH L) 0)
  else if zeG c.toNat=true then (match numO (zc7 (L.take (zaH L))) with
   | some m=>.tok 2 (zaH L) m
   | none=>.bad)
  else if znw c=true then .tok 3 1 0 else .bad:=by subst h;rfl
theorem zq2 [Sym] (s:ByteArray) (at':Int) (hs:s.size≤4294967296) (st0:SS) (hg:Gd st0) (hl0:st0.lim≤st0.next):∀ (k col:Nat) (done:List Tok) (out:Value) (st:SS),s.size≤k+col→col≤s.size→done.length≤col→Ext st0 st→Own st0.next st out (zbU at' done) 5 done.length→
  zdL (fun c=>[.slice none 0 0,.int .i64 c,.bool false]) s at' st0 done (zbd 3 [.string s,.int .i64 at',out,.int .i64 col] st) (zdr k col ((bl s).drop col)):=by
 intro k
 induction k with
 | zero=>
   intro col done out st hk hc hd he ho
   have:col=s.size:=by omega
   subst this
   refine ⟨out,st,zaT s _ out _ st ?_,he,by simpa using ho,by simpa using hd⟩
   simp [zbe]
 | succ k ih=>
   intro col done out st hk hc hd he ho
   have hfin:∀ (stX:SS),zbd 3 [.string s,.int .i64 at',out,.int .i64 s.size] stX=some (0,[.string s,.int .i64 at',out],stX):=by
    intro stX
    refine zaT s _ out _ stX ?_
    simp [zbe]
   by_cases hlt:col<s.size
   ·obtain ⟨c,hb⟩:∃ c,(bl s)[col]?=some c:=⟨_,zge (by rw [zaI];exact hlt)⟩
    have hdc:=drop_cons hb
    have hix:(zfD s (col:Int)).bind (asI .u8)=some (c.toNat:Int):=by
     obtain ⟨b',hb',hidx⟩:=zqV (s:=s) (i:=(col:Int)) (by omega) (by omega)
     have:b'=c:=by simp at hb';rw [hb] at hb';cases hb';rfl
     subst this
     rw [hidx];simp
    have hlt':(col:Int)<(s.size:Int):=by omega
    have hw1:IntKind.wrap .i64 ((col:Int)+1)=((col+1:Nat):Int):=by rw [wrap64 (by omega) (by omega)];omega
    have hl:st.lim≤st.next:=by rw [he.lim];have:=he.next;omega
    obtain ⟨st3,e3,t3⟩:=TK.new (st:=st) (r:=[.int .i64 0,.string ⟨#[]⟩,.int .i64 0,.int .i64 0,.int .i64 0]) (row:=[.int .i64 0,.string ⟨#[]⟩,.int .i64 0,.int .i64 at',.int .i64 ((col+1:Nat):Int)]) hl (by rfl) rfl
    have he3:Ext st0 st3:=he.trans t3.ext
    have ho3:=ho.ext t3.ext
    have hL:=zsp hdc
    have hrl:zaH ((bl s).drop col)≤s.size-col:=by
     have:=zmd ((bl s).drop col)
     simpa using this
    unfold zdr
    rw [hL]
    by_cases h59:(c.toNat:Int)=59
    ·rw [if_pos h59]
     refine ⟨out,st3,zaT s _ out _ st ?_,he3,by simpa using ho3,by simp;omega⟩
     simp only [zbe,zdt hlt',zct,hw1,e3,zob,hix,zdt h59]
     exact hfin st3
    rw [if_neg h59]
    by_cases hbk:(c.toNat:Int)=32∨(c.toNat:Int)=9∨(c.toNat:Int)=13
    ·rw [if_pos hbk]
     simp only [List.drop_drop]
     refine (ih (col+1) done out st3 (by omega) (by omega) (by omega) he3 ho3).to ?_
     intro r hr
     refine zaT s _ out _ st ?_
     simp only [zbe,zdt hlt',zct,hw1,e3,zob,hix,zdf h59,zcf]
     rcases hbk with h | h | h
     ·simp only [zdt h,zct,hr]
     ·have h':¬ (c.toNat:Int)=32:=by omega
      simp only [zdt h,zct,hr,zdf h',zcf]
     ·have h':¬ (c.toNat:Int)=32:=by omega
      have h'':¬ (c.toNat:Int)=9:=by omega
      simp only [zdt h,zct,hr,zdf h',zdf h'',zcf]
    rw [if_neg hbk]
    have h32:¬ (c.toNat:Int)=32:=fun h=>hbk (.inl h)
    have h9:¬ (c.toNat:Int)=9:=fun h=>hbk (.inr (.inl h))
    have h13:¬ (c.toNat:Int)=13:=fun h=>hbk (.inr (.inr h))
    have hsub:=zmT (s:=s) (col:=col) (by omega)
    have hlet:=zgN (c.toNat:Int)
    have hdig:=digit_ok (c.toNat:Int)
    by_cases hlt1:zdn c.toNat=true
    ·rw [if_pos hlt1]
     have hpos:0<zaH ((bl s).drop col):=by rw [hdc];exact zio (by unfold nameB;rw [hlt1];rfl)
     obtain ⟨m,hm,hrun⟩:=zfv (mkS ((bl s).drop col)) st3
     rw [zbJ] at hrun
     have t4:=t3.adv hm
     obtain ⟨st5,e5,t5,n5⟩:=t4.st (k:=0) (vs:=[.int .i64 1]) (row':=[.int .i64 1,.string ⟨#[]⟩,.int .i64 0,.int .i64 at',.int .i64 ((col+1:Nat):Int)]) hl (by rfl) rfl
     obtain ⟨st6,e6,t6,n6⟩:=t5.st (k:=1) (vs:=[.string (mkS (((bl s).drop col).take (zaH ((bl s).drop col))))]) (row':=[.int .i64 1,.string (mkS (((bl s).drop col).take (zaH ((bl s).drop col)))),.int .i64 0,.int .i64 at',.int .i64 ((col+1:Nat):Int)]) hl (by rfl) rfl
     have hw2:IntKind.wrap .i64 ((col:Int)+(zaH ((bl s).drop col):Nat))=((col+zaH ((bl s).drop col):Nat):Int):=by rw [wrap64 (by omega) (by omega)];omega
     have hmid:=ziq (s:=s) (col:=col) (n:=zaH ((bl s).drop col)) (by omega)
     have hsz:(mkS (((bl s).drop col).take (zaH ((bl s).drop col)))).size=zaH ((bl s).drop col):=by simp;omega
     have common:zbe cc zbd s at' out col st=cond (decide ((24:Int)<(zaH ((bl s).drop col):Nat))) (some (1,[.slice none 0 0,.int .i64 ((col+1:Nat):Int),.bool false],st6))
       ((((st6.new (.cells [.int .i64 1,.string (mkS (((bl s).drop col).take (zaH ((bl s).drop col)))),.int .i64 0,.int .i64 at',.int .i64 ((col+1:Nat):Int)] 5)).app 5 48 out (.slice (some ⟨st6.next,0,none⟩) 1 1))).bind fun r24=>zbd 3 [.string s,.int .i64 at',r24.1,.int .i64 ((col+zaH ((bl s).drop col):Nat):Int)] r24.2):=by
      simp only [zbe,zdt hlt',zct,hw1,e3,zob,hix,zdf h59,zcf,zdf h32,zdf h9,zdf h13,hlet,hlt1,zan,hsub,hrun,zaa,hw2,hmid,e5,e6,t6.ld,t6.ldN (n:=5) rfl,zgs,zgz,zab,hsz,cells5,List.append_nil]
     by_cases h24:24<zaH ((bl s).drop col)
     ·rw [if_pos h24]
      refine ⟨st6,zaT s _ out _ st ?_,he.trans t6.ext⟩
      rw [common,zdt (by omega)]
      rfl
     ·rw [if_neg h24]
      refine zdL.tok hs hl0 hd he ho hpos (by omega) t6 (fun done out st hd he ho=>ih _ done out st (by omega) (by omega) hd he ho) ?_
      intro v stZ hv _ y hy
      refine zaT s _ out _ st ?_
      rw [common,zdf (by omega),zcf]
      have hv':((st6.new (.cells [.int .i64 1,.string (mkS (((bl s).drop col).take (zaH ((bl s).drop col)))),.int .i64 0,.int .i64 at',.int .i64 ((col+1:Nat):Int)] 5)).app 5 48 out (.slice (some ⟨st6.next,0,none⟩) 1 1))=some (v,stZ):=hv
      rw [hv']
      exact hy
    rw [if_neg hlt1]
    have hlt1':zdn c.toNat=false:=Bool.eq_false_iff.2 hlt1
    by_cases hd1:zeG c.toNat=true
    ·rw [if_pos hd1]
     have hpos:0<zaH ((bl s).drop col):=by rw [hdc];exact zio (by unfold nameB;rw [hd1];simp)
     obtain ⟨m,hm,hrun⟩:=zfv (mkS ((bl s).drop col)) st3
     rw [zbJ] at hrun
     have t4:=t3.adv hm
     obtain ⟨st5,e5,t5,n5⟩:=t4.st (k:=0) (vs:=[.int .i64 2]) (row':=[.int .i64 2,.string ⟨#[]⟩,.int .i64 0,.int .i64 at',.int .i64 ((col+1:Nat):Int)]) hl (by rfl) rfl
     obtain ⟨st6,e6,t6,n6⟩:=t5.st (k:=1) (vs:=[.string (mkS (((bl s).drop col).take (zaH ((bl s).drop col))))]) (row':=[.int .i64 2,.string (mkS (((bl s).drop col).take (zaH ((bl s).drop col)))),.int .i64 0,.int .i64 at',.int .i64 ((col+1:Nat):Int)]) hl (by rfl) rfl
     obtain ⟨m2,hm2,hnum⟩:=zq0 (hg.ext (he.trans t6.ext)) (mkS (((bl s).drop col).take (zaH ((bl s).drop col)))) (by simp;omega)
     rw [zbJ] at hnum
     have t7:=t6.adv hm2
     obtain ⟨st8,e8,t8,n8⟩:=t7.st (k:=2) (vs:=[.int .i64 (zfd (zc7 (((bl s).drop col).take (zaH ((bl s).drop col))))).1]) (row':=[.int .i64 2,.string (mkS (((bl s).drop col).take (zaH ((bl s).drop col)))),.int .i64 (zfd (zc7 (((bl s).drop col).take (zaH ((bl s).drop col))))).1,.int .i64 at',.int .i64 ((col+1:Nat):Int)]) hl (by rfl) rfl
     have hw2:IntKind.wrap .i64 ((col:Int)+(zaH ((bl s).drop col):Nat))=((col+zaH ((bl s).drop col):Nat):Int):=by rw [wrap64 (by omega) (by omega)];omega
     have hmid:=ziq (s:=s) (col:=col) (n:=zaH ((bl s).drop col)) (by omega)
     have hsz:(mkS (((bl s).drop col).take (zaH ((bl s).drop col)))).size=zaH ((bl s).drop col):=by simp;omega
     have common:zbe cc zbd s at' out col st=cond (!(zfd (zc7 (((bl s).drop col).take (zaH ((bl s).drop col))))).2) (some (1,[.slice none 0 0,.int .i64 ((col+1:Nat):Int),.bool false],st8))
       ((((st8.new (.cells [.int .i64 2,.string (mkS (((bl s).drop col).take (zaH ((bl s).drop col)))),.int .i64 (zfd (zc7 (((bl s).drop col).take (zaH ((bl s).drop col))))).1,.int .i64 at',.int .i64 ((col+1:Nat):Int)] 5)).app 5 48 out (.slice (some ⟨st8.next,0,none⟩) 1 1))).bind fun r24=>zbd 3 [.string s,.int .i64 at',r24.1,.int .i64 ((col+zaH ((bl s).drop col):Nat):Int)] r24.2):=by
      simp only [zbe,zdt hlt',zct,hw1,e3,zob,hix,zdf h59,zcf,zdf h32,zdf h9,zdf h13,hlet,hlt1',hdig,hd1,zan,hsub,hrun,zaa,hw2,hmid,e5,e6,t6.ld,hnum,zam,e8,t8.ld,t8.ldN (n:=5) rfl,zgs,zgz,zab,hsz,cells5,List.append_nil,List.getElem?_toArray]
     cases hx:zc7 (((bl s).drop col).take (zaH ((bl s).drop col))) with
     | some y=>cases y with
       | some w=>
         have hx2:zfd (zc7 (((bl s).drop col).take (zaH ((bl s).drop col))))=((w:Int),true):=by rw [hx];rfl
         rw [hx2] at common t8
         simp only [numO,Option.getD_some]
         refine zdL.tok hs hl0 hd he ho hpos (by omega) t8 (fun done out st hd he ho=>ih _ done out st (by omega) (by omega) hd he ho) ?_
         intro v stZ hv _ y hy
         refine zaT s _ out _ st ?_
         rw [common,znt,zcf]
         have hv':((st8.new (.cells [.int .i64 2,.string (mkS (((bl s).drop col).take (zaH ((bl s).drop col)))),.int .i64 (w:Int),.int .i64 at',.int .i64 ((col+1:Nat):Int)] 5)).app 5 48 out (.slice (some ⟨st8.next,0,none⟩) 1 1))=some (v,stZ):=hv
         rw [hv']
         exact hy
       | none=>
         have hx2:(zfd (zc7 (((bl s).drop col).take (zaH ((bl s).drop col))))).2=false:=by rw [hx];rfl
         rw [hx2] at common
         refine ⟨st8,zaT s _ out _ st ?_,he.trans t8.ext⟩
         rw [common]
         rfl
     | none=>
       have hx2:(zfd (zc7 (((bl s).drop col).take (zaH ((bl s).drop col))))).2=false:=by rw [hx];rfl
       rw [hx2] at common
       refine ⟨st8,zaT s _ out _ st ?_,he.trans t8.ext⟩
       rw [common]
       rfl
    rw [if_neg hd1]
    have hd1':zeG c.toNat=false:=Bool.eq_false_iff.2 hd1
    have hsg:=zgn c ⟨#[58,61,46,43,45]⟩ st3
    by_cases hs1:znw c=true
    ·rw [if_pos hs1]
     have hs1':(0:Int)≤Lib.indexByte (bl ⟨#[58,61,46,43,45]⟩) c:=of_decide_eq_true hs1
     obtain ⟨st5,e5,t5,n5⟩:=t3.st (k:=0) (vs:=[.int .i64 3]) (row':=[.int .i64 3,.string ⟨#[]⟩,.int .i64 0,.int .i64 at',.int .i64 ((col+1:Nat):Int)]) hl (by rfl) rfl
     obtain ⟨st6,e6,t6,n6⟩:=t5.st (k:=1) (vs:=[.string (mkS (((bl s).drop col).take 1))]) (row':=[.int .i64 3,.string (mkS (((bl s).drop col).take 1)),.int .i64 0,.int .i64 at',.int .i64 ((col+1:Nat):Int)]) hl (by rfl) rfl
     have hmid:=ziq (s:=s) (col:=col) (n:=1) (by omega)
     have hsz:(mkS (((bl s).drop col).take 1)).size=1:=by simp;omega
     have hw2:IntKind.wrap .i64 ((col:Int)+((1:Nat):Int))=((col+1:Nat):Int):=hw1
     refine zdL.tok hs hl0 hd he ho (by omega) (by omega) t6 (fun done out st hd he ho=>ih _ done out st (by omega) (by omega) hd he ho) ?_
     intro v stZ hv _ y hy
     refine zaT s _ out _ st ?_
     have hv':((st6.new (.cells [.int .i64 3,.string (mkS (((bl s).drop col).take 1)),.int .i64 0,.int .i64 at',.int .i64 ((col+1:Nat):Int)] 5)).app 5 48 out (.slice (some ⟨st6.next,0,none⟩) 1 1))=some (v,stZ):=hv
     simp only [zbe,zdt hlt',zct,hw1,e3,zob,hix,zdf h59,zcf,zdf h32,zdf h9,zdf h13,hlet,hlt1',hdig,hd1',zan,hsg,zaa,zdt hs1',hmid,e5,e6,t6.ld,t6.ldN (n:=5) rfl,zgs,zgz,zab,hsz,hw2,cells5,List.append_nil,hv']
     exact hy
    ·rw [if_neg hs1]
     have hs1':¬ (0:Int)≤Lib.indexByte (bl ⟨#[58,61,46,43,45]⟩) c:=fun h=>hs1 (zdt h)
     refine ⟨st3,zaT s _ out _ st ?_,he3⟩
     simp only [zbe,zdt hlt',zct,hw1,e3,zob,hix,zdf h59,zcf,zdf h32,zdf h9,zdf h13,hlet,hlt1',hdig,hd1',zan,hsg,zaa,zdf hs1',t3.ld,zgs,zgz]
   ·have:col=s.size:=by omega
    subst this
    have hnil:(bl s).drop s.size=[]:=zkg s
    rw [hnil]
    exact ⟨out,st,hfin st,he,by simpa [stepT] using ho,by simpa using hd⟩
end Go.Proofs.YtifploedaacedaaGreatDoorE
namespace Go.Proofs.YtifploedaacedaaGreatDoorE
open Go Go.E Go.Proofs
def zfe (l:List UInt8):Tok:=⟨0,[],0,l.length+1⟩
def zcz (l:List UInt8):Except Nat (List Tok):=match zdr l.length 0 l with
 | .ok ts=>.ok (ts++[zfe l])
 | .error c=>.error c
def LineR (okv:Value→List Value) (errv:Nat→List Value) (s:ByteArray) (at':Int) (st:SS) (r:Option (Value×SS)):Except Nat (List Tok)→Prop
 | .ok ts=>∃ v st',r=some (.tuple (okv v).toArray,st')∧Ext st st'∧Own st.next st' v (zbU at' ts) 5 ts.length∧ts.length≤s.size+1
 | .error c=>∃ st',r=some (.tuple (errv c).toArray,st')∧Ext st st'
theorem ztx {st st':SS} {v:Value} {at':Int} {ts:List Tok} (s:ByteArray) (hs:s.size≤4294967296) (hl:st.lim≤st.next) (he:Ext st st') (ho:Own st.next st' v (zbU at' ts) 5 ts.length) (hn:ts.length≤s.size):
  ∃ w st'',(st'.new (.cells [.int .i64 0,.string ⟨#[]⟩,.int .i64 0,.int .i64 at',.int .i64 ((s.size+1:Nat):Int)] 5)).app 5 48 v (.slice (some ⟨st'.next,0,none⟩) 1 1)=some (w,st'')∧Ext st st''∧
   Own st.next st'' w (zbU at' (ts++[zfe (bl s)])) 5 (ts++[zfe (bl s)]).length∧(ts++[zfe (bl s)]).length≤s.size+1:=by
 have e0:Ext st (st'.new (.cells [.int .i64 0,.string ⟨#[]⟩,.int .i64 0,.int .i64 at',.int .i64 ((s.size+1:Nat):Int)] 5)):=he.new _
 obtain ⟨w,st'',g1,g2,g3,g4,g5,g6⟩:=(ho.ext ((Ext.refl st').new (.cells [.int .i64 0,.string ⟨#[]⟩,.int .i64 0,.int .i64 at',.int .i64 ((s.size+1:Nat):Int)] 5))).app (Rd.new1 (st:=st') rfl) e0.next (by rw [e0.lim];exact hl) (by omega) (by rfl) (bt:=48) (by omega) (by omega)
 refine ⟨w,st'',g1,g5 st (zlr _) e0,?_,by simp;omega⟩
 have e1:zbU at' (ts++[zfe (bl s)])=zbU at' ts++[.int .i64 0,.string ⟨#[]⟩,.int .i64 0,.int .i64 at',.int .i64 ((s.size+1:Nat):Int)]:=by
  rw [zjk]
  show _++(zaS at' (zfe (bl s))++[])=_
  simp [zaS,zfe,mkS]
 rw [e1,List.length_append]
 exact g2
theorem zty [Sym] {st:SS} (hg:Gd st) (hl:st.lim≤st.next) (s:ByteArray) (hs:s.size≤4294967296) (at':Int):
  LineR (fun v=>[v,.int .i64 0,.bool true]) (fun c=>[.slice none 0 0,.int .i64 c,.bool false]) s at' st (cc 90 [.string s,.int .i64 at'] st) (zcz (bl s)):=by
 have h:=zq2 s at' hs st hg hl s.size 0 [] (.slice none 0 0) st (by omega) (by omega) (by simp) (.refl _) (Own.nil _ _ _)
 simp only [List.drop_zero] at h
 have hw:IntKind.wrap .i64 ((s.size:Int)+1)=((s.size+1:Nat):Int):=by rw [wrap64 (by omega) (by omega)];omega
 unfold zcz
 rw [zaI]
 cases hx:zdr s.size 0 (bl s) with
 | ok ts=>
   rw [hx] at h
   obtain ⟨v,st',a,b,c,d⟩:=h
   obtain ⟨w,st'',e1,e2,e3,e4⟩:=ztx s hs hl b c d
   refine ⟨w,st'',zjg s at' st ?_,e2,e3,e4⟩
   have a':zbd 3 [.string s,.int .i64 at',.slice none 0 0,.int .i64 0] st=some (0,[.string s,.int .i64 at',v],st'):=a
   have hb0:Nat.beq 0 0=true:=rfl
   simp only [zjf,a',zob,hb0,zct,zgs,zgz,zab,zaa,hw,e1]
 | error c=>
   rw [hx] at h
   obtain ⟨st',a,b⟩:=h
   refine ⟨st',zjg s at' st ?_,b⟩
   have a':zbd 3 [.string s,.int .i64 at',.slice none 0 0,.int .i64 0] st=some (1,[.slice none 0 0,.int .i64 c,.bool false],st'):=a
   have hb0:Nat.beq 1 0=false:=rfl
   simp only [zjf,a',zob,hb0,zcf,zgs,zgz,zan,zaa]
end Go.Proofs.YtifploedaacedaaGreatDoorE
namespace Go.Proofs.YtifploedaacedaaGreatDoorE
open Go Go.E Go.Proofs
def rowsL:List (Nat×Tok)→List Value
 | []=>[]
 | t::r=>zaS t.1 t.2++rowsL r
theorem zn3 (a b:List (Nat×Tok)):rowsL (a++b)=rowsL a++rowsL b:=by
 induction a with
 | nil=>rfl
 | cons t r ih=>simp [rowsL,ih]
theorem zq3 (i:Nat) (ts:List Tok):rowsL (ts.map fun t=>(i,t))=zbU i ts:=by
 induction ts with
 | nil=>rfl
 | cons t r ih=>simp [rowsL,zbU,ih]
def zpR (a:List (Nat×Tok)):Except (Nat×Nat) (List (Nat×Tok))→Except (Nat×Nat) (List (Nat×Tok))
 | .ok us=>.ok (a++us)
 | .error e=>.error e
def zfu:Nat→List (List UInt8)→Except (Nat×Nat) (List (Nat×Tok))
 | _,[]=>.ok []
 | i,p::r=>match zcz p with
   | .error c=>.error (i+1,c)
   | .ok ts=>zpR (ts.map fun t=>(i+1,t)) (zfu (i+1) r)
def lexT (l:List UInt8):Except (Nat×Nat) (List (Nat×Tok)):=zfu 0 (pieces 10 l)
theorem zir (c:UInt8) (l:List UInt8):∀ p∈pieces c l,p.length≤l.length:=by
 induction l with
 | nil=>simp [pieces]
 | cons b r ih=>
   unfold pieces
   split
   ·intro p hp
    simp only [List.mem_cons] at hp
    rcases hp with rfl | hp
    ·simp
    ·have:=ih p hp;simp;omega
   ·cases hr:pieces c r with
    | nil=>exact absurd hr (zes c r)
    | cons x y=>
      intro p hp
      simp only [List.mem_cons] at hp
      rcases hp with rfl | hp
      ·have:=ih x (by rw [hr];simp);simp;omega
      ·have:=ih p (by rw [hr];simp [hp]);simp;omega
def zgo (errv:List Value) (j:Nat) (st0 st1:SS) (done:List (Nat×Tok)) (r:Option (Nat×List Value×SS)):Except (Nat×Nat) (List (Nat×Tok))→Prop
 | .ok us=>∃ v st',r=some (0,[ptr j 0,v],st')∧Ext st1 st'∧Own st1.next st' v (rowsL (done++us)) 5 (done++us).length
 | .error e=>∃ st',r=some (1,errv,st')∧st'.mem.get j=some (.cells [.int .i64 e.1,.int .i64 e.2] 0)∧Ext st0 st'
theorem zgo.to {errv:List Value} {j:Nat} {st0 st1:SS} {done:List (Nat×Tok)} {r r':Option (Nat×List Value×SS)} {x:Except (Nat×Nat) (List (Nat×Tok))} (h:zgo errv j st0 st1 done r x) (hr:∀ y,r=some y→r'=some y):zgo errv j st0 st1 done r' x:=by
 cases x with
 | ok ts=>obtain ⟨v,st',a,b⟩:=h;exact ⟨v,st',hr _ a,b⟩
 | error c=>obtain ⟨st',a,b⟩:=h;exact ⟨st',hr _ a,b⟩
theorem zgo.cons {errv:List Value} {j:Nat} {st0 st1:SS} {done a:List (Nat×Tok)} {r:Option (Nat×List Value×SS)} {x:Except (Nat×Nat) (List (Nat×Tok))} (h:zgo errv j st0 st1 (done++a) r x):zgo errv j st0 st1 done r (zpR a x):=by
 cases x with
 | ok ts=>
   have e:done++a++ts=done++(a++ts):=by simp
   obtain ⟨v,st',p,b,c⟩:=h
   rw [e] at c
   exact ⟨v,st',p,b,c⟩
 | error c=>exact h
theorem strs_get (ps:List (List UInt8)) (i:Nat) (p:List UInt8) (h:ps[i]?=some p):((strs ps).drop (i*1)).take 1=[.string (mkS p)]:=by
 rw [Nat.mul_one]
 have:(strs ps)[i]?=some (.string (mkS p)):=by simp [strs,h]
 rw [drop_cons this]
 rfl
theorem zgo.add {errv:List Value} {j:Nat} {st0 st1 st st':SS} {done:List (Nat×Tok)} {ts:List Tok} {i N:Nat} {out v:Value} {x:Except (Nat×Nat) (List (Nat×Tok))} {r':Option (Nat×List Value×SS)}
  (hN:N≤131073) (hl1:st1.lim≤st1.next) (hi:i<N) (hd:done.length≤i*N) (hts:ts.length≤N) (he:Ext st1 st) (ho:Own st1.next st out (rowsL done) 5 done.length) (he2:Ext st st') (ho2:Own st.next st' v (zbU ((i+1:Nat):Int) ts) 5 ts.length)
  (h:∀ w st'',st'.app 5 48 out v=some (w,st'')→Ext st1 st''→Own st1.next st'' w (rowsL (done++ts.map fun t=>(i+1,t))) 5 (done++ts.map fun t=>(i+1,t)).length→(done++ts.map fun t=>(i+1,t)).length≤(i+1)*N→zgo errv j st0 st1 (done++ts.map fun t=>(i+1,t)) r' x):
  zgo errv j st0 st1 done r' (zpR (ts.map fun t=>(i+1,t)) x):=by
 have hmul:i*N≤131073*131073:=Nat.mul_le_mul (by omega) hN
 have e0:Ext st1 st':=he.trans he2
 have hN2:(i+1)*N=i*N+N:=by rw [Nat.add_mul,Nat.one_mul]
 have hN3:i*N+N≤131073*131073:=by rw [← hN2];exact Nat.mul_le_mul (by omega) hN
 obtain ⟨w,st'',g1,g2,g3,g4,g5,g6⟩:=(ho.ext he2).app (ho2.rd) e0.next (by rw [e0.lim];exact hl1) (by omega) (zq1 _ _) (bt:=48) (by omega) (by omega)
 refine (h w st'' g1 (g5 st1 (zlr _) e0) ?_ ?_).cons
 ·rw [zn3,zq3,List.length_append,List.length_map]
  exact g2
 ·rw [List.length_append,List.length_map,hN2];omega
theorem zsq [Sym] (st0 st1:SS) (hg:Gd st1) (h01:Ext st0 st1) (hl1:st1.lim≤st1.next) (j:Nat) (hj0:st0.next≤j) (hj1:j<st1.next) (hjm:∃ r,st1.mem.get j=some (.cells r 0)∧r.length=2) (hjl:st1.lim≤j) (all:List (List UInt8)) (v:Value) (hv:Rd st1 v (strs all) 1 all.length) (N:Nat) (hN:N≤131073) (hall:all.length≤N) (hmem:∀ p∈all,p.length+1≤N):
  ∀ (ps:List (List UInt8)) (i:Nat) (done:List (Nat×Tok)) (out:Value) (st:SS),all.drop i=ps→i≤all.length→done.length≤i*N→Ext st1 st→Own st1.next st out (rowsL done) 5 done.length→
  zgo [.slice none 0 0,ptr j 0,.int .i64 4] j st0 st1 done (zdo 5 [ptr j 0,out,v,.int .i64 all.length,.int .i64 i] st) (zfu i ps):=by
 intro ps
 induction ps with
 | nil=>
   intro i done out st hp hi hd he ho
   have:i=all.length:=by
    rw [List.drop_eq_nil_iff] at hp;omega
   subst this
   refine ⟨out,st,zfc _ out v _ _ st ?_,he,by simpa using ho⟩
   simp [zft]
 | cons p r ih=>
   intro i done out st hp hi hd he ho
   have hgp:all[i]?=some p:=by
    have:=congrArg (·[0]?) hp
    simpa using this
   have hlt:i<all.length:=(List.getElem?_eq_some_iff.1 hgp).1
   have hpm:p∈all:=zmg hgp
   have hpl:=hmem p hpm
   have hr:all.drop (i+1)=r:=by
    have:=drop_cons hgp
    rw [hp] at this
    exact (List.cons.inj this).2.symm
   have hlt':(i:Int)<(all.length:Int):=by omega
   have hw:IntKind.wrap .i64 ((i:Int)+1)=((i+1:Nat):Int):=by rw [wrap64 (by omega) (by omega)];omega
   obtain ⟨q,hq1,hq2,hq3⟩:=(hv.ext he).load (j:=(i:Int)) (by omega) hlt' (strs_get all i p hgp) rfl
   have hld:(st.ld q.1 q.2).bind asS=some (mkS p):=by
    have:=hq3 0 (by omega)
    rw [Nat.add_zero] at this
    rw [this];rfl
   have hl:st.lim≤st.next:=by rw [he.lim];have:=he.next;omega
   have h:=zty (hg.ext he) hl (mkS p) (by simp;omega) ((i+1:Nat):Int)
   rw [zbJ] at h
   unfold zfu
   cases hx:zcz p with
   | error c=>
     rw [hx] at h
     obtain ⟨st',a,b⟩:=h
     obtain ⟨r0,hjm1,hjm2⟩:=hjm
     have e0:=he.trans b
     have hst:st'.st j 0 [.int .i64 ((i+1:Nat):Int),.int .i64 c]=some (st'.set j (some (.cells [.int .i64 ((i+1:Nat):Int),.int .i64 c] 0))):=
      SS.st_cells (e0.get hj1 hjm1) (by rw [e0.lim];exact hjl) (by rfl) (by rw [zbw (by simp [hjm2])];simp [hjm2])
     refine ⟨st'.set j (some (.cells [.int .i64 ((i+1:Nat):Int),.int .i64 c] 0)),zfc _ out v _ _ st ?_,by simp,(h01.trans e0).set hj0 _⟩
     simp only [zft,zdt hlt',zct,hq1,zob,hld,hw,a,zam,List.getElem?_toArray,zgs,zgz,zaa,zan,znf,zaf,hst]
   | ok ts=>
     rw [hx] at h
     obtain ⟨w,st',a,b,c,d⟩:=h
     refine zgo.add hN hl1 (by omega) hd (by simp at d;omega) he ho b c ?_
     intro u st'' g1 g2 g3 g4
     refine (ih (i+1) _ u st'' hr (by omega) g4 g2 g3).to ?_
     intro y hy
     refine zfc _ out v _ _ st ?_
     simp only [zft,zdt hlt',zct,hq1,zob,hld,hw,a,zam,List.getElem?_toArray,zgs,zgz,zaa,zan,znt,zcf,g1]
     exact hy
def LexR (okv:Value→Nat×Nat→List Value) (errv:Nat×Nat→List Value) (st:SS) (r:Option (Value×SS)):Except (Nat×Nat) (List (Nat×Tok))→Prop
 | .ok us=>∃ v st',r=some (.tuple (okv v (0,0)).toArray,st')∧Ext st st'∧Own st.next st' v (rowsL us) 5 us.length
 | .error e=>∃ st',r=some (.tuple (errv e).toArray,st')∧Ext st st'
def zbC (e:Nat×Nat):Value:=.agg #[.int .i64 e.1,.int .i64 e.2]
theorem rdN2 {st:SS} {j:Nat} {a b:Value} {z:Nat} (h:st.mem.get j=some (.cells [a,b] z)):st.rdN j 0 2=some (.agg #[a,b]):=by
 rw [SS.rdN_cells h,zfa (n:=2) rfl];rfl
theorem lex_ok [Sym] {st:SS} (hg:Gd st) (hl:st.lim≤st.next) (s:ByteArray) (hs:s.size≤131072):
  LexR (fun v e=>[v,zbC e,.int .i64 0]) (fun e=>[.slice none 0 0,zbC e,.int .i64 4]) st (cc 67 [.string s] st) (lexT (bl s)):=by
 obtain ⟨v,st2,h1,h2,h3⟩:=split_ok s 10 (by omega) (st.new (.cells [.int .i64 0,.int .i64 0] 0)) (by simp;omega)
 have hst1:(st.new (.cells [.int .i64 0,.int .i64 0] 0)).mem.get st.next=some (.cells [.int .i64 0,.int .i64 0] 0):=by simp
 have e01:Ext st st2:=((Ext.refl st).new _).trans h2
 have hm:=h2.get (by simp) hst1
 have hj1:st.next<st2.next:=by have:=h2.next;simp at this;omega
 have hl2:st2.lim≤st2.next:=by rw [e01.lim];have:=e01.next;omega
 have hlen:=pieces_len 10 (bl s)
 rw [zaI] at hlen
 have hmem:=zir 10 (bl s)
 rw [zaI] at hmem
 have h:=zsq st st2 (hg.ext e01) e01 hl2 st.next (zlr _) hj1 ⟨_,hm,rfl⟩ (by rw [e01.lim];exact hl) (pieces 10 (bl s)) v h3 (s.size+1) (by omega) hlen (fun p hp=>by have:=hmem p hp;omega) (pieces 10 (bl s)) 0 [] (.slice none 0 0) st2 rfl (by omega) (by simp) (.refl _) (Own.nil _ _ _)
 have hbig:¬ (131072:Int)<(s.size:Int):=by omega
 have hb0:Nat.beq 0 0=true:=rfl
 have hb1:Nat.beq 1 0=false:=rfl
 have hlv:(lenV v).bind (asI .i64)=some ((pieces 10 (bl s)).length:Int):=by rw [h3.len];rfl
 unfold lexT
 cases hx:zfu 0 (pieces 10 (bl s)) with
 | ok us=>
   rw [hx] at h
   obtain ⟨w,st3,a,b,c⟩:=h
   have hm3:=b.get hj1 hm
   have hst:st3.st st.next 0 [.int .i64 0,.int .i64 0]=some (st3.set st.next (some (.cells [.int .i64 0,.int .i64 0] 0))):=
    SS.st_cells hm3 (by rw [b.lim,e01.lim];exact hl) (by rfl) (by rfl)
   have hlast:Ext st (st3.set st.next (some (.cells [.int .i64 0,.int .i64 0] 0))):=(e01.trans b).set (zlr _) _
   refine ⟨w,st3.set st.next (some (.cells [.int .i64 0,.int .i64 0] 0)),zkl s st ?_,hlast,?_⟩
   ·have a':zdo 5 [ptr st.next 0,.slice none 0 0,v,.int .i64 ((pieces 10 (bl s)).length:Int),.int .i64 0] st2=some (0,[ptr st.next 0,w],st3):=a
    have hr:=rdN2 (a:=.int .i64 0) (b:=.int .i64 0) (z:=0) (st:=st3.set st.next (some (.cells [.int .i64 0,.int .i64 0] 0))) (j:=st.next) (by simp)
    simp only [zkI,zdf hbig,zcf,h1,zob,hlv,a',hb0,zct,zgs,zgz,zaf,hst,hr]
    rfl
   ·obtain ⟨c1,c2⟩:=c
    refine ⟨c1,c2.imp id ?_⟩
    rintro ⟨i,e,h0,hmi,hbi,hi⟩
    refine ⟨i,e,h0,?_,by omega,hi⟩
    rw [SS.set_old (by omega)]
    exact hmi
 | error e=>
   rw [hx] at h
   obtain ⟨st3,a,b,c⟩:=h
   refine ⟨st3,zkl s st ?_,c⟩
   have a':zdo 5 [ptr st.next 0,.slice none 0 0,v,.int .i64 ((pieces 10 (bl s)).length:Int),.int .i64 0] st2=some (1,[.slice none 0 0,ptr st.next 0,.int .i64 4],st3):=a
   simp only [zkI,zdf hbig,zcf,h1,zob,hlv,a',hb1,zct,zgs,zgz,zaf,zaa,rdN2 b]
   rfl
end Go.Proofs.YtifploedaacedaaGreatDoorE
namespace Go.Proofs.YtifploedaacedaaGreatDoorE
open Go Go.E Go.Proofs
theorem TK.newV {st:SS} {r:List Value} {v:Value} {n:Nat} (hl:st.lim≤st.next) (h1:v.cells.toList.all one=true) (hn:v.cells.size=n) (hr:r.length=n):∃ stX,(st.new (.cells r 0)).stV st.next 0 n v=some stX∧TK st stX v.cells.toList:=by
 obtain ⟨stX,h,t⟩:=TK.new (st:=st) (r:=r) (row:=v.cells.toList) hl h1 (by simp [hr,hn])
 refine ⟨stX,?_,t⟩
 unfold SS.stV
 have:Nat.beq v.cells.size n=true:=by rw [zay,hn];simp
 rw [this]
 exact h
theorem TK.pair {st:SS} {r:List Value} (e:Nat×Nat) (hl:st.lim≤st.next) (hr:r.length=2):∃ stX,(st.new (.cells r 0)).stV st.next 0 2 (zbC e)=some stX∧TK st stX [.int .i64 e.1,.int .i64 e.2]:=TK.newV (v:=zbC e) hl (by rfl) rfl hr
theorem zgQ (us:List (Nat×Tok)) (i:Nat) (t:Nat×Tok) (h:us[i]?=some t):((rowsL us).drop (i*5)).take 5=zaS t.1 t.2:=by
 induction us generalizing i with
 | nil=>simp at h
 | cons a r ih=>
   cases i with
   | zero=>
     simp at h
     subst h
     show ((zaS a.1 a.2++rowsL r).drop (0*5)).take 5=_
     rfl
   | succ i=>
     have:=ih i (by simpa using h)
     show ((zaS a.1 a.2++rowsL r).drop ((i+1)*5)).take 5=_
     have e:(i+1)*5=(zaS a.1 a.2).length+i*5:=by simp [zaS];omega
     rw [e,← List.drop_drop,List.drop_left]
     exact this
theorem zq4 (ps:List (List UInt8)) (i N:Nat) (us:List (Nat×Tok)) (h:zfu i ps=.ok us) (hN:∀ p∈ps,∀ ts,zcz p=.ok ts→ts.length≤N):us.length≤ps.length*N:=by
 induction ps generalizing i us with
 | nil=>cases h;simp
 | cons p r ih=>
   unfold zfu at h
   cases hx:zcz p with
   | error c=>rw [hx] at h;cases h
   | ok ts=>
     rw [hx] at h
     cases hy:zfu (i+1) r with
     | error e=>rw [hy] at h;cases h
     | ok vs=>
       rw [hy] at h
       cases h
       have h1:=ih (i+1) vs hy (fun q hq=>hN q (List.mem_cons_of_mem _ hq))
       have h2:=hN p (List.mem_cons_self ..) ts hx
       rw [List.length_append,List.length_map,List.length_cons,Nat.add_mul]
       omega
theorem zsr (k col:Nat) (l:List UInt8) (ts:List Tok) (h:zdr k col l=.ok ts):ts.length≤k:=by
 induction k generalizing col l ts with
 | zero=>cases h;simp
 | succ k ih=>
   unfold zdr at h
   split at h
   ·cases h;simp
   ·have:=ih _ _ _ h;omega
   ·rename_i kd n x _
    cases hx:zdr k (col+n) (l.drop n) with
    | error e=>rw [hx] at h;cases h
    | ok us=>rw [hx] at h;cases h;have:=ih _ _ _ hx;simp;omega
   ·cases h
theorem zmU (p:List UInt8) (ts:List Tok) (h:zcz p=.ok ts):ts.length≤p.length+1:=by
 unfold zcz at h
 split at h
 ·rename_i us hu;cases h;have:=zsr _ _ _ _ hu;simp;omega
 ·cases h
theorem zss (l:List UInt8) (us:List (Nat×Tok)) (h:lexT l=.ok us):us.length≤(l.length+1)*(l.length+1):=by
 have h1:=zq4 (pieces 10 l) 0 (l.length+1) us h (fun p hp ts hts=>by have:=zir 10 l p hp;have:=zmU p ts hts;omega)
 exact zlt h1 (Nat.mul_le_mul_right _ (pieces_len 10 l))
theorem zgp {a b:List UInt8} (h:a.length+b.length≤9223372036854775807):zbS (mkS a) (mkS b)=some (mkS (a++b)):=by
 unfold zbS
 have:Nat.ble ((mkS a).size+(mkS b).size) 9223372036854775807=true:=by rw [Nat.ble_eq];simpa using h
 rw [this,zct]
 congr 1
theorem zdM (l:List UInt8):eqT (mkS l) ⟨#[]⟩=decide (l=[]):=rfl
theorem zhz {s:ByteArray} {j:Nat} {b:UInt8} (hb:(bl s)[j]?=some b):(zfD s (j:Int)).bind (asI .u8)=some (b.toNat:Int):=by
 have hj:j<s.size:=by have:=(List.getElem?_eq_some_iff.1 hb).1;rwa [zaI] at this
 obtain ⟨b',hb',hidx⟩:=zqV (s:=s) (i:=(j:Int)) (by omega) (by omega)
 rw [Int.toNat_natCast,hb] at hb'
 cases hb'
 rw [hidx];simp
theorem zeI (c x:UInt8) (l:List UInt8):pieces c (x::l)=if x=c then []::pieces c l else match pieces c l with
  | []=>[[x]]
  | y::z=>(x::y)::z:=rfl
theorem zoJ {α:Type} {l:List α} {j:Nat} {x:α} (h:l[j]?=some x):l.take (j+1)=l.take j++[x]:=by
 rw [List.take_add_one,h];rfl
end Go.Proofs.YtifploedaacedaaGreatDoorE
namespace Go.Proofs.YtifploedaacedaaGreatDoorE
open Go Go.E Go.Proofs
def blankB (b:UInt8):Prop:=(b.toNat:Int)=32∨(b.toNat:Int)=9∨(b.toNat:Int)=13
theorem zlv (c:UInt8) (r:List UInt8):stepT (c::r)=if (c.toNat:Int)=59 then .stop
  else if (c.toNat:Int)=32∨(c.toNat:Int)=9∨(c.toNat:Int)=13 then .blank
  else if zdn c.toNat=true then (if 24<zaH (c::r) then .bad else .tok 1 (zaH (c::r)) 0)
  else if zeG c.toNat=true then (match numO (zc7 ((c::r).take (zaH (c::r)))) with
   | some m=>.tok 2 (zaH (c::r)) m
   | none=>.bad)
  else if znw c=true then .tok 3 1 0 else .bad:=rfl
theorem zq5 {l:List UInt8} {kd n:Nat} {x:Int} (h:stepT l=.tok kd n x):0<n∧n≤l.length∧(kd=1∨kd=2∨kd=3):=by
 cases l with
 | nil=>cases h
 | cons c r=>
   rw [zlv] at h
   split at h
   ·cases h
   ·split at h
    ·cases h
    ·split at h
     ·rename_i hlet
      split at h
      ·cases h
      ·cases h
       exact ⟨zio (by unfold nameB;rw [hlet];rfl),zmd _,.inl rfl⟩
     ·split at h
      ·rename_i hdig
       split at h
       ·cases h
        exact ⟨zio (by unfold nameB;rw [hdig];simp),zmd _,.inr (.inl rfl)⟩
       ·cases h
      ·split at h
       ·cases h
        exact ⟨by omega,by simp,.inr (.inr rfl)⟩
       ·cases h
def View (c:Nat) (l:List UInt8) (ts:List Tok):Prop:=
 ∃ m,(∀ j b,j<m→l[j]?=some b→blankB b)∧((ts=[]∧m≤l.length∧∀ b,l[m]?=some b→(b.toNat:Int)=59)∨
  ∃ n kd x k' ts',m+n≤l.length∧0<n∧(kd=1∨kd=2∨kd=3)∧ts=⟨kd,(l.drop m).take n,x,c+m+1⟩::ts'∧(l.drop (m+n)).length≤k'∧zdr k' (c+m+n) (l.drop (m+n))=.ok ts')
end Go.Proofs.YtifploedaacedaaGreatDoorE
namespace Go.E
open Go
structure Mod (S:List Nat) (a b:SS):Prop where
 next:a.next≤b.next
 lim:b.lim=a.lim
 keep:∀ j,j<a.next→j∉S→b.mem.get j=a.mem.get j
section
variable {S T : List Nat} {a b c : SS} {i n : Nat}
theorem Mod.refl (a:SS):Mod S a a:=⟨zlr _,rfl,fun _ _ _=>rfl⟩
theorem Mod.ofExt (h:Ext a b):Mod S a b:=⟨h.next,h.lim,fun j hj _=>h.keep j hj⟩
theorem Mod.toExt (h:Mod [] a b):Ext a b:=⟨h.next,h.lim,fun j hj=>h.keep j hj (by simp)⟩
theorem Mod.trans (h:Mod S a b) (k:Mod T b c) (hT:∀ j,j∈T→j<a.next→j∈S):Mod S a c:=
 ⟨zlt h.next k.next,k.lim.trans h.lim,fun j hj hS=>(k.keep j (zll hj h.next) (fun hm=>hS (hT j hm hj))).trans (h.keep j hj hS)⟩
theorem Mod.then (h:Mod S a b) (k:Mod S b c):Mod S a c:=h.trans k fun _ hj _=>hj
theorem Mod.thenE (h:Mod S a b) (k:Mod [] b c):Mod S a c:=h.trans k fun _ hj _=>by cases hj
theorem Mod.thenX (h:Mod S a b) (k:Ext b c):Mod S a c:=h.thenE (.ofExt k)
theorem Mod.thenI (h:Mod S a b) (k:Mod [i] b c) (hi:a.next≤i∨i∈S):Mod S a c:=h.trans k fun j hj hlt=>by
 have:j=i:=by simpa using hj
 subst this
 rcases hi with hi | hi
 ·omega
 ·exact hi
theorem Mod.mono (h:Mod S a b) (hS:∀ j,j∈S→j∈T):Mod T a b:=⟨h.next,h.lim,fun j hj hT=>h.keep j hj fun hm=>hT (hS j hm)⟩
theorem Mod.fresh (h:Mod S a b) (hS:∀ j,j∈S→a.next≤j):Ext a b:=⟨h.next,h.lim,fun j hj=>h.keep j hj fun hm=>by have:=hS j hm;omega⟩
theorem Mod.ll (h:Mod S a b) (hl:a.lim≤a.next):b.lim≤b.next:=by rw [h.lim];exact zlt hl h.next
theorem Ext.ll (h:Ext a b) (hl:a.lim≤a.next):b.lim≤b.next:=by rw [h.lim];exact zlt hl h.next
theorem Ext.advR (a:SS) (hn:a.next≤n):Ext a (a.adv n):=(Ext.refl a).adv hn
theorem Mod.get {x:Option AObj} (h:Mod S a b) (hi:i<a.next) (hS:i∉S) (hx:a.mem.get i=x):b.mem.get i=x:=(h.keep i hi hS).trans hx
theorem Rd.mod {v:Value} {c:List Value} {z n:Nat} (h:Rd a v c z n) (m:Mod S a b) (hv:∀ j k l q,v=.slice (some ⟨j,k,none⟩) l q→j∉S):Rd b v c z n:=by
 obtain ⟨h1,h2⟩:=h
 refine ⟨h1,h2.imp id ?_⟩
 rintro ⟨i,cap,e,⟨z',hm⟩,hi⟩
 exact ⟨i,cap,e,⟨z',m.get hi (hv i 0 n cap e) hm⟩,zll hi m.next⟩
theorem Own.mod {B:Nat} {v:Value} {c:List Value} {z n:Nat} (h:Own B a v c z n) (m:Mod S a b) (hv:∀ j k l q,v=.slice (some ⟨j,k,none⟩) l q→j∉S):Own B b v c z n:=by
 obtain ⟨h1,h2⟩:=h
 refine ⟨h1,h2.imp id ?_⟩
 rintro ⟨i,e,h0,hm,hb,hi⟩
 exact ⟨i,e,h0,m.get hi (hv i 0 n n e) hm,hb,zll hi m.next⟩
end
def At (st:SS) (i:Nat) (row:List Value):Prop:=st.mem.get i=some (.cells row 0)∧i<st.next∧st.lim≤i
section
variable {S : List Nat} {st st' : SS} {i k n : Nat} {row row' vs : List Value}
theorem At.mem (h:At st i row):st.mem.get i=some (.cells row 0):=h.1
theorem At.lt (h:At st i row):i<st.next:=h.2.1
theorem At.mod (h:At st i row) (m:Mod S st st') (hi:i∉S):At st' i row:=⟨m.get h.lt hi h.1,zll h.lt m.next,by rw [m.lim];exact h.2.2⟩
theorem At.ext (h:At st i row) (m:Ext st st'):At st' i row:=h.mod (S:=[]) (.ofExt m) (by simp)
theorem At.adv (h:At st i row) (hn:st.next≤n):At (st.adv n) i row:=h.ext (.advR st hn)
theorem At.ld (h:At st i row):st.ld i k=row[k]?:=SS.ld_cells h.1
theorem At.rd (h:At st i row):st.rd i k=row[k]?:=SS.rd_cells h.1
theorem At.ldN (h:At st i row) (hn:row.length=n):st.ldN i 0 n=some (.agg row.toArray):=by rw [SS.ldN_cells h.1,zfa hn];rfl
theorem At.rdN (h:At st i row) (hn:row.length=n):st.rdN i 0 n=some (.agg row.toArray):=by rw [SS.rdN_cells h.1,zfa hn];rfl
theorem At.ldC (h:At st i row) {d:List Value} (hd:cut row k n=some d):st.ldN i k n=some (.agg d.toArray):=by rw [SS.ldN_cells h.1,hd];rfl
theorem At.sto (h:At st i row) (h1:vs.all one=true) (hs:zcv row k vs=some row'):∃ st',st.st i k vs=some st'∧At st' i row'∧Mod [i] st st'∧st'.next=st.next:=
 ⟨_,SS.st_cells h.1 h.2.2 h1 hs,⟨by simp,h.2.1,h.2.2⟩,⟨zlr _,rfl,fun j hj hS=>SS.set_old (by simpa using hS)⟩,rfl⟩
theorem At.stV (h:At st i row) {v:Value} (hv:v.cells.toList=vs) (hn:vs.length=n) (h1:vs.all one=true) (hs:zcv row k vs=some row'):∃ st',st.stV i k n v=some st'∧At st' i row'∧Mod [i] st st'∧st'.next=st.next:=by
 obtain ⟨st',a,b,c,d⟩:=h.sto h1 hs
 refine ⟨st',?_,b,c,d⟩
 unfold SS.stV
 have e:v.cells.size=n:=by rw [← hn,← hv];simp
 rw [e,hv,a]
 simp
theorem At.new (hl:st.lim≤st.next) (row:List Value):At (st.new (.cells row 0)) st.next row:=⟨by simp,by simp,hl⟩
theorem Mod.new (ob:AObj):Mod [] st (st.new ob):=.ofExt ((Ext.refl st).new ob)
theorem zbb (hl:st.lim≤st.next) {r:List Value} {v:Value} (hv:v.cells.toList=row) (hn:row.length=n) (h1:row.all one=true) (hr:r.length=n):∃ st',(st.new (.cells r 0)).stV st.next 0 n v=some st'∧At st' st.next row∧Ext st st'∧st'.next=st.next+1:=by
 obtain ⟨st',a,b,c,d⟩:=(At.new hl r).stV (k:=0) hv hn h1 (row':=row) (by rw [zbw (by omega)];simp [hn,hr])
 refine ⟨st',a,b,?_,d⟩
 exact (((Mod.new (.cells r 0)).mono (T:=[st.next]) (by simp)).then c).fresh (by simp)
theorem zjl (hl:st.lim≤st.next) {r:List Value} (h1:row.all one=true) (hr:r.length=row.length):∃ st',(st.new (.cells r 0)).st st.next 0 row=some st'∧At st' st.next row∧Ext st st'∧st'.next=st.next+1:=by
 obtain ⟨st',a,b,c,d⟩:=(At.new hl r).sto (k:=0) (vs:=row) (row':=row) h1 (by rw [zbw (by omega)];simp [hr])
 exact ⟨st',a,b,(((Mod.new (.cells r 0)).mono (T:=[st.next]) (by simp)).then c).fresh (by simp),d⟩
end
theorem zaD (row:List Value):(Value.agg row.toArray).cells.toList=row:=by simp [Value.cells]
theorem Own.modLt {S:List Nat} {a b:SS} {B:Nat} {v:Value} {c:List Value} {z n:Nat} (h:Own B a v c z n) (m:Mod S a b) (hS:∀ j,j∈S→j<B):Own B b v c z n:=by
 obtain ⟨h1,h2⟩:=h
 refine ⟨h1,h2.imp id ?_⟩
 rintro ⟨i,e,h0,hm,hb,hi⟩
 exact ⟨i,e,h0,m.get hi (fun hx=>by have:=hS i hx;omega) hm,hb,zll hi m.next⟩
theorem Rd.row1 {st:SS} {row:List Value} {z:Nat} (h:row.length=z):Rd (st.new (.cells row z)) (.slice (some ⟨st.next,0,none⟩) 1 1) row z 1:=
 ⟨by rw [h,Nat.one_mul],.inr ⟨st.next,1,rfl,⟨z,SS.new_get⟩,by simp⟩⟩
theorem Own.push {b:Nat} {st:SS} {v:Value} {c row:List Value} {z n bt:Nat} (h:Own b st v c z n) (hb:b≤st.next) (hl:st.lim≤b) (hr:row.length=z) (hz:0<z) (h1:row.all one=true) (hs:(n+2)*bt≤2^44) (hn:n+1≤2^44):
  ∃ v' st',(st.new (.cells row z)).app z bt v (.slice (some ⟨st.next,0,none⟩) 1 1)=some (v',st')∧Own b st' v' (c++row) z (n+1)∧(∀ st0,st0.next≤b→Ext st0 st→Ext st0 st')∧st'.lim=st.lim∧st.next≤st'.next∧
   ∀ j,j<st.next→(∀ q,v≠.slice (some ⟨j,0,none⟩) q q)→st'.mem.get j=st.mem.get j:=by
 obtain ⟨v',st',g1,g2,g3,g4,g5,g6⟩:=(h.ext ((Ext.refl st).new (.cells row z))).app (Rd.row1 (st:=st) hr) (zlt hb (Nat.le_succ _)) hl hz h1 (bt:=bt) (by simpa [Nat.add_assoc] using hs) hn
 exact ⟨v',st',g1,g2,fun st0 h0 he=>g5 st0 h0 (he.new _),g3,zlt (Nat.le_succ _) g4,fun j hj hv=>by rw [g6 j (by simp;omega) hv,SS.new_old (by omega)]⟩
theorem Own.pushM {b:Nat} {st:SS} {v:Value} {c row:List Value} {z n bt:Nat} (h:Own b st v c z n) (hb:b≤st.next) (hl:st.lim≤b) (hr:row.length=z) (hz:0<z) (h1:row.all one=true) (hs:(n+2)*bt≤2^44) (hn:n+1≤2^44):
  ∃ v' st',(st.new (.cells row z)).app z bt v (.slice (some ⟨st.next,0,none⟩) 1 1)=some (v',st')∧Own b st' v' (c++row) z (n+1)∧st'.lim=st.lim∧st.next≤st'.next∧(∀ j,j<b→st'.mem.get j=st.mem.get j):=by
 obtain ⟨v',st',g1,g2,g3,g4,g5,g6⟩:=h.push hb hl hr hz h1 hs hn
 refine ⟨v',st',g1,g2,g4,g5,fun j hj=>g6 j (by omega) fun q e=>?_⟩
 obtain ⟨_,⟨rfl,_⟩ | ⟨i,rfl,_,_,hbi,_⟩⟩:=h
 ·cases e
 ·cases e;omega
structure Keep (B:Nat) (S:List Nat) (a b:SS):Prop where
 next:a.next≤b.next
 lim:b.lim=a.lim
 keep:∀ j,j<B→j∉S→b.mem.get j=a.mem.get j
section
variable {S : List Nat} {a b c : SS} {B i : Nat}
theorem Keep.refl (a:SS):Keep B S a a:=⟨zlr _,rfl,fun _ _ _=>rfl⟩
theorem Keep.then (h:Keep B S a b) (k:Keep B S b c):Keep B S a c:=⟨zlt h.next k.next,k.lim.trans h.lim,fun j hj hS=>(k.keep j hj hS).trans (h.keep j hj hS)⟩
theorem Mod.keepB (h:Mod S a b) (hB:B≤a.next):Keep B S a b:=⟨h.next,h.lim,fun j hj hS=>h.keep j (by omega) hS⟩
theorem Ext.keepB (h:Ext a b) (hB:B≤a.next):Keep B S a b:=⟨h.next,h.lim,fun j hj _=>h.keep j (by omega)⟩
theorem Keep.mod (h:Keep B S a b) (hB:a.next≤B):Mod S a b:=⟨h.next,h.lim,fun j hj hS=>h.keep j (by omega) hS⟩
theorem Keep.mono {B':Nat} {T:List Nat} (h:Keep B S a b) (hB:B'≤B) (hS:∀ j,j∈S→j<B'→j∈T):Keep B' T a b:=⟨h.next,h.lim,fun j hj hT=>h.keep j (by omega) fun hm=>hT (hS j hm hj)⟩
theorem Keep.thenX (h:Keep B S a b) (k:Ext b c) (hB:B≤b.next):Keep B S a c:=h.then (k.keepB hB)
theorem Keep.thenM (h:Keep B S a b) (k:Mod S b c) (hB:B≤b.next):Keep B S a c:=h.then (k.keepB hB)
theorem Keep.thenI (h:Keep B S a b) (k:Mod [i] b c) (hB:B≤b.next) (hi:B≤i∨i∈S):Keep B S a c:=h.then ⟨k.next,k.lim,fun j hj hS=>k.keep j (by omega) fun hm=>by
 have:j=i:=by simpa using hm
 subst this
 rcases hi with hi | hi
 ·omega
 ·exact hS hi⟩
theorem Keep.ll (h:Keep B S a b) (hl:a.lim≤a.next):b.lim≤b.next:=by rw [h.lim];exact zlt hl h.next
theorem At.keepB {row:List Value} (h:At a i row) (k:Keep B S a b) (hB:i<B) (hi:i∉S):At b i row:=⟨(k.keep i hB hi).trans h.1,zll h.2.1 k.next,by rw [k.lim];exact h.2.2⟩
theorem Own.cell {v:Value} {c:List Value} {z n:Nat} (h:Own B a v c z n):v.cells.toList=[v]∧one v=true:=by
 obtain ⟨_,⟨rfl,_⟩ | ⟨i,rfl,_⟩⟩:=h<;>exact ⟨rfl,rfl⟩
theorem Own.pushK {b:Nat} {st:SS} {v:Value} {c row:List Value} {z n bt:Nat} (h:Own b st v c z n) (hb:b≤st.next) (hl:st.lim≤b) (hr:row.length=z) (hz:0<z) (h1:row.all one=true) (hs:(n+2)*bt≤2^44) (hn:n+1≤2^44):
  ∃ v' st',(st.new (.cells row z)).app z bt v (.slice (some ⟨st.next,0,none⟩) 1 1)=some (v',st')∧Own b st' v' (c++row) z (n+1)∧∀ S,Keep b S st st':=by
 obtain ⟨v',st',g1,g2,g3,g4,g5⟩:=h.pushM hb hl hr hz h1 hs hn
 exact ⟨v',st',g1,g2,fun S=>⟨g4,g3,fun j hj _=>g5 j hj⟩⟩
end
theorem Own.pushN {b:Nat} {st:SS} {v:Value} {c row:List Value} {z n bt:Nat} (h:Own b st v c z n) (hb:b≤st.next) (hl:st.lim≤b) (hr:row.length=z) (hz:0<z) (h1:row.all one=true) (hs:(n+2)*bt≤2^44) (hn:n+1≤2^44):
  ∃ k st',(st.new (.cells row z)).app z bt v (.slice (some ⟨st.next,0,none⟩) 1 1)=some (.slice (some ⟨k,0,none⟩) (n+1) (n+1),st')∧st.next≤k∧Own b st' (.slice (some ⟨k,0,none⟩) (n+1) (n+1)) (c++row) z (n+1)∧st'.lim=st.lim∧st.next≤st'.next∧
   ∀ j,j<st.next→(∀ q,v≠.slice (some ⟨j,0,none⟩) q q)→st'.mem.get j=st.mem.get j:=by
 obtain ⟨v',st',g1,g2,g3,g4,g5,g6⟩:=h.push hb hl hr hz h1 hs hn
 have key:∃ k,v'=.slice (some ⟨k,0,none⟩) (n+1) (n+1)∧st.next≤k:=by
  have hx:=Rd.row1 (st:=st) hr
  obtain ⟨e1,e2⟩:=hx.first
  unfold SS.app at g1
  rw [e1] at g1
  simp only [zob] at g1
  have hm0:Nat.beq 1 0=false:=rfl
  obtain ⟨h2,h3⟩:=h
  rcases h3 with ⟨rfl,rfl⟩ | ⟨i,rfl,h0,hmem,hbi,hi⟩
  ·have q:(Nat.ble ((1+1)*bt) (2^44)&&Nat.ble 1 (2^44))=true:=by
    simp only [zae,Nat.ble_eq]
    simp only [Nat.zero_add] at hs
    exact ⟨hs,by omega⟩
   simp only [hm0,zcf,q,zct,e2,zob] at g1
   cases g1
   exact ⟨_,rfl,by simp⟩
  ·have q:(Nat.ble ((n+1+1)*bt) (2^44)&&Nat.ble (n+1) (2^44)&&Nat.ble (st.new (.cells row z)).lim i)=true:=by
    simp only [zae,Nat.ble_eq]
    exact ⟨⟨hs,hn⟩,by simp;omega⟩
   have q2:(Nat.beq z z&&(Nat.blt n (n+1)||Nat.ble (0+n*z) c.length))=true:=by
    have a:Nat.beq z z=true:=by rw [zay];simp
    have b':Nat.blt n (n+1)=true:=by rw [Nat.blt_eq];omega
    rw [a,b'];rfl
   have hmem':(st.new (.cells row z)).mem.get i=some (.cells c z):=by rw [SS.new_old (by omega)];exact hmem
   simp only [hm0,zcf,q,zct,hmem',zob,q2,zfa h2,e2,h1] at g1
   cases g1
   exact ⟨_,rfl,by simp⟩
 obtain ⟨k,rfl,hk⟩:=key
 exact ⟨k,st',g1,hk,g2,g4,g5,g6⟩
theorem zb7 {s:SS} {j0 j1 n:Nat} {row0 row1:List Value} (h0:At s j0 row0) (l0:row0.length=n) (h1:At s j1 row1) (l1:row1.length=n) (ho:row1.all one=true):
  ∃ s',s.ldN j1 0 n=some (.agg row1.toArray)∧s.stV j0 0 n (.agg row1.toArray)=some s'∧s'.rdN j0 0 n=some (.agg row1.toArray)∧Mod [j0] s s'∧At s' j0 row1:=by
 obtain ⟨s',e,a,m,_⟩:=h0.stV (k:=0) (zaD row1) l1 ho (row':=row1) (by rw [zbw (by omega)];simp [l0,l1])
 exact ⟨s',h1.ldN l1,e,a.rdN l1,m,a⟩
def rowsF {α:Type} (f:α→List Value) (l:List α):List Value:=l.flatMap f
section
variable {α : Type} {f : α → List Value} {z : Nat}
theorem zb0 (a b:List α):rowsF f (a++b)=rowsF f a++rowsF f b:=by simp [rowsF]
theorem zcA (a:α) (b:List α):rowsF f (a::b)=f a++rowsF f b:=by simp [rowsF]
theorem zcX (a:α):rowsF f [a]=f a:=by simp [rowsF]
theorem zgR (hz:∀ x,(f x).length=z) (l:List α):(rowsF f l).length=l.length*z:=by
 induction l with
 | nil=>simp [rowsF]
 | cons a l ih=>rw [zcA,List.length_append,ih,hz,List.length_cons,Nat.add_mul];omega
theorem zbr (hz:∀ x,(f x).length=z) (l:List α) (i:Nat) (x:α) (h:l[i]?=some x):((rowsF f l).drop (i*z)).take z=f x:=by
 induction l generalizing i with
 | nil=>cases h
 | cons a l ih=>
   rw [zcA]
   cases i with
   | zero=>
     have:a=x:=by simpa using h
     subst this
     rw [Nat.zero_mul,List.drop_zero,List.take_append_of_le_length (by rw [hz];omega),List.take_of_length_le (by rw [hz];omega)]
   | succ i=>
     have e:(i+1)*z=(f a).length+i*z:=by rw [hz,Nat.add_mul];omega
     rw [e,List.drop_append,List.drop_of_length_le (by omega),List.nil_append,Nat.add_sub_cancel_left]
     exact ih i (by simpa using h)
end
theorem wrapI {i k:Nat} (h:i≤1099511627776) (hk:k≤1099511627776):IntKind.wrap .i64 ((i:Int)+(k:Int))=((i+k:Nat):Int):=by rw [wrap64 (by omega) (by omega)];omega
theorem za9 {i:Nat} (h:i≤1099511627776):IntKind.wrap .i64 ((i:Int)+1)=((i+1:Nat):Int):=wrapI h (k:=1) (by omega)
end Go.E
namespace Go.Proofs.YtifploedaacedaaGreatDoorE
set_option maxRecDepth 20000
open Go Go.E Go.Proofs
def ze0:LoopI:=⟨[(0,.str),(9,.any),(10,.int .i64),(12,.int .i64)],[(.exit 6,[(0,.str),(9,.any),(10,.int .i64),(12,.int .i64)])]⟩
def ze1:LoopI:=⟨[(0,.str),(9,.any),(10,.int .i64),(11,.int .i64),(12,.int .i64)],[(.exit 4,[(0,.str),(9,.any),(10,.int .i64),(11,.int .i64)])]⟩
def ze2:LoopI:=⟨[(0,.str),(9,.any),(10,.int .i64),(12,.int .i64)],[(.exit 2,[(0,.str),(9,.any),(10,.int .i64),(12,.int .i64)])]⟩
def zfy:LoopI:=⟨[(0,.str),(3,.int .i64),(4,.int .i64),(5,.int .u8),(6,.int .i64)],[(.exit 0,[(0,.str),(3,.int .i64),(5,.int .u8)])]⟩
def zfH (n:Nat):Option LoopI:=cond (Nat.beq n 5) (some zfy) (cond (Nat.beq n 18) (some ze2) (cond (Nat.beq n 21) (some ze1) (cond (Nat.beq n 27) (some ze0) (none))))
noncomputable def strings_Fields (cf:zak) (lf:zac) (s':ByteArray) (st:SS):Option (Value×SS):=
 (lf 5 [.string s',.int .i64 0,.int .i64 1,.int .u8 0,.int .i64 0] st).bind fun a=>
 ((a.2.1[0]?).bind asS).bind fun b=>
 ((a.2.1[1]?).bind (asI .i64)).bind fun c=>
 ((a.2.1[2]?).bind (asI .u8)).bind fun d=>
 cond (decide (128≤d)) (
 (cf 167 [.string b,.func (.func 168) #[] #[]] a.2.2).bind fun e=>
 some (e.1,e.2)) (
 (zef c c 16).bind fun _=>
 let f:SS:=a.2.2.new (.cells (zd4 [.string ⟨#[]⟩] c) 1)
 (lf 18 [.string b,.slice (some ⟨a.2.2.next,0,none⟩) ((c:Int).toNat) ((c:Int).toNat),.int .i64 0,.int .i64 0] f).bind fun g=>
 ((g.2.1[0]?).bind asS).bind fun h=>
 (g.2.1[1]?).bind fun i=>
 ((g.2.1[2]?).bind (asI .i64)).bind fun j=>
 ((g.2.1[3]?).bind (asI .i64)).bind fun k=>
 (lf 21 [.string h,i,.int .i64 j,.int .i64 k,.int .i64 k] g.2.2).bind fun l=>
 ((l.2.1[0]?).bind asS).bind fun m=>
 (l.2.1[1]?).bind fun n=>
 ((l.2.1[2]?).bind (asI .i64)).bind fun o=>
 ((l.2.1[3]?).bind (asI .i64)).bind fun p=>
 cond (decide (p<(m.size:Int))) (
 (zcr m p (m.size:Int)).bind fun q=>
 (zar n o 1).bind fun r=>
 (l.2.2.st r.1 r.2 [.string q]).bind fun s=>
 some (n,s)) (
 some (n,l.2.2)))
noncomputable abbrev zaB:zac:=lS Tryz.prog Lk0 Tryz.f149 zfH
theorem zjW:Lk0.func 149=some (149,Tryz.f149):=by kernel_rfl
theorem zjX [Sym] (s':ByteArray) (st:SS) {r:Value×SS} (h:strings_Fields cc zaB s' st=some r):cc 149 [.string s'] st=some r:=
 zad (li:=zfH) zai zal zjW rfl (fun _=>rfl) (.trans (by kernel_rfl) h)
noncomputable def zdY (cf:zak) (lf:zac) (s':ByteArray) (n':Int) (wasSpace':Int) (setBits':Int) (i':Int) (st:SS):Option (Nat×List Value×SS):=
 cond (decide (i'<(s'.size:Int))) (
 ((zfD s' i').bind (asI .u8)).bind fun a=>
 let b:Int:=orI .u8 setBits' a
 (za6 (ptr 2 0) 256 a 1).bind fun c=>
 ((st.ld c.1 c.2).bind (asI .u8)).bind fun d=>
 let e:Int:=IntKind.wrap .i64 d
 let f:Int:=xorI .i64 (-1) e
 let g:Int:=andI .i64 wasSpace' f
 let h:Int:=IntKind.wrap .i64 (n'+g)
 let i:Int:=IntKind.wrap .i64 (i'+1)
 lf 5 [.string s',.int .i64 h,.int .i64 e,.int .u8 b,.int .i64 i] st) (
 some (0,[.string s',.int .i64 n',.int .u8 setBits'],st))
theorem zeJ [Sym] (s':ByteArray) (n':Int) (wasSpace':Int) (setBits':Int) (i':Int) (st:SS) {r:Nat×List Value×SS} (h:zdY cc zaB s' n' wasSpace' setBits' i' st=some r):zaB 5 [.string s',.int .i64 n',.int .i64 wasSpace',.int .u8 setBits',.int .i64 i'] st=some r:=
 zaC zai zal (key:=5) (I:=zfy) rfl (by kernel_rfl) (by kernel_rfl) rfl rfl (.trans (by kernel_rfl) h)
noncomputable def zdC (cf:zak) (lf:zac) (s':ByteArray) (a':Value) (na':Int) (i':Int) (st:SS):Option (Nat×List Value×SS):=
 cond (decide (i'<(s'.size:Int))) (
 ((zfD s' i').bind (asI .u8)).bind fun a=>
 (za6 (ptr 2 0) 256 a 1).bind fun b=>
 ((st.ld b.1 b.2).bind (asI .u8)).bind fun c=>
 cond (!(decide (c=0))) (
 let d:Int:=IntKind.wrap .i64 (i'+1)
 lf 18 [.string s',a',.int .i64 na',.int .i64 d] st) (
 some (0,[.string s',a',.int .i64 na',.int .i64 i'],st))) (
 some (0,[.string s',a',.int .i64 na',.int .i64 i'],st))
theorem zhA [Sym] (s':ByteArray) (a':Value) (na':Int) (i':Int) (st:SS) {r:Nat×List Value×SS} (h:zdC cc zaB s' a' na' i' st=some r):zaB 18 [.string s',a',.int .i64 na',.int .i64 i'] st=some r:=
 zaC zai zal (key:=18) (I:=ze2) rfl (by kernel_rfl) (by kernel_rfl) rfl rfl (.trans (by kernel_rfl) h)
noncomputable def zcB (cf:zak) (lf:zac) (s':ByteArray) (a':Value) (na':Int) (fieldStart':Int) (i':Int) (st:SS):Option (Nat×List Value×SS):=
 cond (decide (i'<(s'.size:Int))) (
 ((zfD s' i').bind (asI .u8)).bind fun a=>
 (za6 (ptr 2 0) 256 a 1).bind fun b=>
 ((st.ld b.1 b.2).bind (asI .u8)).bind fun c=>
 cond (decide (c=0)) (
 let d:Int:=IntKind.wrap .i64 (i'+1)
 lf 21 [.string s',a',.int .i64 na',.int .i64 fieldStart',.int .i64 d] st) (
 (zcr s' fieldStart' i').bind fun e=>
 (zar a' na' 1).bind fun f=>
 (st.st f.1 f.2 [.string e]).bind fun g=>
 let h:Int:=IntKind.wrap .i64 (na'+1)
 let i:Int:=IntKind.wrap .i64 (i'+1)
 (lf 27 [.string s',a',.int .i64 h,.int .i64 i] g).bind fun j=>
 ((j.2.1[0]?).bind asS).bind fun k=>
 (j.2.1[1]?).bind fun l=>
 ((j.2.1[2]?).bind (asI .i64)).bind fun m=>
 ((j.2.1[3]?).bind (asI .i64)).bind fun n=>
 lf 21 [.string k,l,.int .i64 m,.int .i64 n,.int .i64 n] j.2.2)) (
 some (0,[.string s',a',.int .i64 na',.int .i64 fieldStart'],st))
theorem zcS [Sym] (s':ByteArray) (a':Value) (na':Int) (fieldStart':Int) (i':Int) (st:SS) {r:Nat×List Value×SS} (h:zcB cc zaB s' a' na' fieldStart' i' st=some r):zaB 21 [.string s',a',.int .i64 na',.int .i64 fieldStart',.int .i64 i'] st=some r:=
 zaC zai zal (key:=21) (I:=ze1) rfl (by kernel_rfl) (by kernel_rfl) rfl rfl (.trans (by kernel_rfl) h)
noncomputable def zdD (cf:zak) (lf:zac) (s':ByteArray) (a':Value) (na':Int) (i':Int) (st:SS):Option (Nat×List Value×SS):=
 cond (decide (i'<(s'.size:Int))) (
 ((zfD s' i').bind (asI .u8)).bind fun a=>
 (za6 (ptr 2 0) 256 a 1).bind fun b=>
 ((st.ld b.1 b.2).bind (asI .u8)).bind fun c=>
 cond (!(decide (c=0))) (
 let d:Int:=IntKind.wrap .i64 (i'+1)
 lf 27 [.string s',a',.int .i64 na',.int .i64 d] st) (
 some (0,[.string s',a',.int .i64 na',.int .i64 i'],st))) (
 some (0,[.string s',a',.int .i64 na',.int .i64 i'],st))
theorem zhB [Sym] (s':ByteArray) (a':Value) (na':Int) (i':Int) (st:SS) {r:Nat×List Value×SS} (h:zdD cc zaB s' a' na' i' st=some r):zaB 27 [.string s',a',.int .i64 na',.int .i64 i'] st=some r:=
 zaC zai zal (key:=27) (I:=ze0) rfl (by kernel_rfl) (by kernel_rfl) rfl rfl (.trans (by kernel_rfl) h)
noncomputable def zn4 (cf:zak) (lf:zac) (s':ByteArray) (st:SS):Option (Value×SS):=
 (cf 149 [.string s'] st).bind fun a=>
 some (a.1,a.2)
noncomputable abbrev zoK:zac:=lS Tryz.prog Lk0 Tryz.f136 zau
theorem zoL:Lk0.func 136=some (136,Tryz.f136):=by kernel_rfl
theorem zoM [Sym] (s':ByteArray) (st:SS) {r:Value×SS} (h:zn4 cc zoK s' st=some r):cc 136 [.string s'] st=some r:=
 zad (li:=zau) zai zal zoL rfl (fun _=>rfl) (.trans (by kernel_rfl) h)
noncomputable def zbv (cf:zak) (lf:zac) (field':ByteArray) (st:SS):Option (Value×SS):=
 cond (eqT field' ⟨#[97,108,117]⟩) (
 (cf 136 [.string ⟨#[110,111,110,101,32,109,111,118,32,110,111,116,32,110,101,103,32,105,110,99,32,100,101,99,32,97,100,100,32,115,117,98,32,97,100,100,99,32,115,117,98,99,32,109,117,108,32,100,105,118,32,111,114,32,98,105,99,32,120,111,114,32,97,110,100,32,99,109,112,32,116,101,115,116,32,99,108,101,97,114,32,115,120,98,32,115,120,119,32,122,120,98,32,122,120,119,32,115,104,108,32,115,104,114,32,97,115,104,32,114,111,116,32,111,112,32,115,120,111,32,101,120,116,32,105,110,115,32,99,118,116]⟩] st).bind fun a=>
 some (a.1,a.2)) (
 cond (eqT field' ⟨#[97]⟩) (
 cond (eqT field' ⟨#[97]⟩) (
 (cf 136 [.string ⟨#[114,48,32,114,49,32,114,50,32,114,51,32,114,52,32,114,53,32,114,54,32,114,55,32,114,56,32,114,57,32,114,49,48,32,114,49,49,32,114,49,50,32,114,49,51,32,114,49,52,32,114,49,53,32,116,48,32,116,49,32,116,50,32,116,51,32,116,52,32,116,53,32,116,54,32,116,55,32,118,48,32,118,49,32,118,50,32,118,51,32,118,52,32,118,53,32,97,48,32,97,49,32,97,50,32,97,51,32,97,52,32,97,53,32,109,100,32,118,97,32,112,115,108,32,114,110,32,114,120,32,108,105,116,32,122,101,114,111,32,118,101,99,32,112,48,32,112,49,32,115,116,97,114,116,32,115,99,98,98,32,107,115,112,32,117,115,112,32,100,105,115,112,32,111,115,105,122,101,32,105,108,101,110,32,108,101,118,101,108,32,118,99,32,97,99,32,97,108,32,107,108,32,99,110,116,32,110,112]⟩] st).bind fun b=>
 some (b.1,b.2)) (
 cond (eqT field' ⟨#[115,105,122,101]⟩) (
 (cf 136 [.string ⟨#[98,121,116,101,32,119,111,114,100,32,108,111,110,103,32,111,119,110]⟩] st).bind fun c=>
 some (c.1,c.2)) (
 cond (eqT field' ⟨#[99,99]⟩) (
 (cf 136 [.string ⟨#[107,101,101,112,32,115,101,116,32,115,101,116,107]⟩] st).bind fun d=>
 some (d.1,d.2)) (
 cond (eqT field' ⟨#[109,101,109]⟩) (
 (cf 136 [.string ⟨#[110,111,110,101,32,114,100,32,119,114,32,112,114,111,98,101,32,98,108,100,32,98,115,116,32,98,112,117,116,32,98,103,101,116,32,98,99,108,114,32,105,102,32,114,100,112,32,107,115,116,32,114,111,119,32,117,110,114,111,119,32,114,111,119,97,32,102,108,117,115,104]⟩] st).bind fun e=>
 some (e.1,e.2)) (
 cond (eqT field' ⟨#[115,101,113]⟩) (
 (cf 136 [.string ⟨#[110,101,120,116,32,106,109,112,32,99,106,32,99,97,108,108,32,114,101,116,32,115,112,101,99,32,109,111,100,101,32,101,110,100]⟩] st).bind fun f=>
 some (f.1,f.2)) (
 cond (eqT field' ⟨#[99,111,110,100]⟩) (
 (cf 136 [.string ⟨#[97,108,119,97,121,115,32,122,32,110,122,32,110,101,103,32,112,111,115,32,99,32,110,99,32,117,115,101,114,32,107,101,114,110,101,108,32,102,112,100,32,110,111,102,112,100,32,116,97,107,101,110,32,109,97,116,99,104,32,107,49,32,107,50,32,107,51,32,108,97,115,116,114,101,103,32,102,32,114,101,97,100,115,32,105,110,100,101,120,32,100,105,118,32,108,101,115,115,97,108,117,32,97,108,117,49,32,115,116,114,105,110,103,32,110,111,105,110,100,101,120,32,110,111,114,101,97,100,115,32,111,118,101,114]⟩] st).bind fun g=>
 some (g.1,g.2)) (
 cond (eqT field' ⟨#[109,105,115,99]⟩) (
 (cf 136 [.string ⟨#[110,111,110,101,32,115,116,101,112,32,117,110,100,111,32,115,101,116,102,112,100,32,99,108,114,102,112,100,32,114,97,105,115,101,32,108,97,116,99,104,107,32,108,97,116,99,104,120,32,109,116,112,114,32,109,102,112,114,32,101,110,116,101,114,32,112,117,116,112,115,108,32,104,97,108,116,32,98,97,99,107,32,100,101,99,111,100,101,32,115,101,108,32,115,101,108,107,32,111,119,110,108,97,115,116,32,112,105,99,107,32,112,105,99,107,116,111,112,32,112,97,114,97,109,115,32,99,111,117,110,116]⟩] st).bind fun h=>
 some (h.1,h.2)) (
 some (.slice none 0 0,st))))))))) (
 cond (eqT field' ⟨#[98]⟩) (
 cond (eqT field' ⟨#[98]⟩) (
 (cf 136 [.string ⟨#[114,48,32,114,49,32,114,50,32,114,51,32,114,52,32,114,53,32,114,54,32,114,55,32,114,56,32,114,57,32,114,49,48,32,114,49,49,32,114,49,50,32,114,49,51,32,114,49,52,32,114,49,53,32,116,48,32,116,49,32,116,50,32,116,51,32,116,52,32,116,53,32,116,54,32,116,55,32,118,48,32,118,49,32,118,50,32,118,51,32,118,52,32,118,53,32,97,48,32,97,49,32,97,50,32,97,51,32,97,52,32,97,53,32,109,100,32,118,97,32,112,115,108,32,114,110,32,114,120,32,108,105,116,32,122,101,114,111,32,118,101,99,32,112,48,32,112,49,32,115,116,97,114,116,32,115,99,98,98,32,107,115,112,32,117,115,112,32,100,105,115,112,32,111,115,105,122,101,32,105,108,101,110,32,108,101,118,101,108,32,118,99,32,97,99,32,97,108,32,107,108,32,99,110,116,32,110,112]⟩] st).bind fun i=>
 some (i.1,i.2)) (
 cond (eqT field' ⟨#[115,105,122,101]⟩) (
 (cf 136 [.string ⟨#[98,121,116,101,32,119,111,114,100,32,108,111,110,103,32,111,119,110]⟩] st).bind fun j=>
 some (j.1,j.2)) (
 cond (eqT field' ⟨#[99,99]⟩) (
 (cf 136 [.string ⟨#[107,101,101,112,32,115,101,116,32,115,101,116,107]⟩] st).bind fun k=>
 some (k.1,k.2)) (
 cond (eqT field' ⟨#[109,101,109]⟩) (
 (cf 136 [.string ⟨#[110,111,110,101,32,114,100,32,119,114,32,112,114,111,98,101,32,98,108,100,32,98,115,116,32,98,112,117,116,32,98,103,101,116,32,98,99,108,114,32,105,102,32,114,100,112,32,107,115,116,32,114,111,119,32,117,110,114,111,119,32,114,111,119,97,32,102,108,117,115,104]⟩] st).bind fun l=>
 some (l.1,l.2)) (
 cond (eqT field' ⟨#[115,101,113]⟩) (
 (cf 136 [.string ⟨#[110,101,120,116,32,106,109,112,32,99,106,32,99,97,108,108,32,114,101,116,32,115,112,101,99,32,109,111,100,101,32,101,110,100]⟩] st).bind fun m=>
 some (m.1,m.2)) (
 cond (eqT field' ⟨#[99,111,110,100]⟩) (
 (cf 136 [.string ⟨#[97,108,119,97,121,115,32,122,32,110,122,32,110,101,103,32,112,111,115,32,99,32,110,99,32,117,115,101,114,32,107,101,114,110,101,108,32,102,112,100,32,110,111,102,112,100,32,116,97,107,101,110,32,109,97,116,99,104,32,107,49,32,107,50,32,107,51,32,108,97,115,116,114,101,103,32,102,32,114,101,97,100,115,32,105,110,100,101,120,32,100,105,118,32,108,101,115,115,97,108,117,32,97,108,117,49,32,115,116,114,105,110,103,32,110,111,105,110,100,101,120,32,110,111,114,101,97,100,115,32,111,118,101,114]⟩] st).bind fun n=>
 some (n.1,n.2)) (
 cond (eqT field' ⟨#[109,105,115,99]⟩) (
 (cf 136 [.string ⟨#[110,111,110,101,32,115,116,101,112,32,117,110,100,111,32,115,101,116,102,112,100,32,99,108,114,102,112,100,32,114,97,105,115,101,32,108,97,116,99,104,107,32,108,97,116,99,104,120,32,109,116,112,114,32,109,102,112,114,32,101,110,116,101,114,32,112,117,116,112,115,108,32,104,97,108,116,32,98,97,99,107,32,100,101,99,111,100,101,32,115,101,108,32,115,101,108,107,32,111,119,110,108,97,115,116,32,112,105,99,107,32,112,105,99,107,116,111,112,32,112,97,114,97,109,115,32,99,111,117,110,116]⟩] st).bind fun o=>
 some (o.1,o.2)) (
 some (.slice none 0 0,st))))))))) (
 cond (eqT field' ⟨#[100]⟩) (
 (cf 136 [.string ⟨#[114,48,32,114,49,32,114,50,32,114,51,32,114,52,32,114,53,32,114,54,32,114,55,32,114,56,32,114,57,32,114,49,48,32,114,49,49,32,114,49,50,32,114,49,51,32,114,49,52,32,114,49,53,32,116,48,32,116,49,32,116,50,32,116,51,32,116,52,32,116,53,32,116,54,32,116,55,32,118,48,32,118,49,32,118,50,32,118,51,32,118,52,32,118,53,32,97,48,32,97,49,32,97,50,32,97,51,32,97,52,32,97,53,32,109,100,32,118,97,32,112,115,108,32,114,110,32,114,120,32,108,105,116,32,122,101,114,111,32,118,101,99,32,112,48,32,112,49,32,115,116,97,114,116,32,115,99,98,98,32,107,115,112,32,117,115,112,32,100,105,115,112,32,111,115,105,122,101,32,105,108,101,110,32,108,101,118,101,108,32,118,99,32,97,99,32,97,108,32,107,108,32,99,110,116,32,110,112]⟩] st).bind fun p=>
 some (p.1,p.2)) (
 cond (eqT field' ⟨#[115,105,122,101]⟩) (
 (cf 136 [.string ⟨#[98,121,116,101,32,119,111,114,100,32,108,111,110,103,32,111,119,110]⟩] st).bind fun q=>
 some (q.1,q.2)) (
 cond (eqT field' ⟨#[99,99]⟩) (
 (cf 136 [.string ⟨#[107,101,101,112,32,115,101,116,32,115,101,116,107]⟩] st).bind fun r=>
 some (r.1,r.2)) (
 cond (eqT field' ⟨#[109,101,109]⟩) (
 (cf 136 [.string ⟨#[110,111,110,101,32,114,100,32,119,114,32,112,114,111,98,101,32,98,108,100,32,98,115,116,32,98,112,117,116,32,98,103,101,116,32,98,99,108,114,32,105,102,32,114,100,112,32,107,115,116,32,114,111,119,32,117,110,114,111,119,32,114,111,119,97,32,102,108,117,115,104]⟩] st).bind fun s=>
 some (s.1,s.2)) (
 cond (eqT field' ⟨#[115,101,113]⟩) (
 (cf 136 [.string ⟨#[110,101,120,116,32,106,109,112,32,99,106,32,99,97,108,108,32,114,101,116,32,115,112,101,99,32,109,111,100,101,32,101,110,100]⟩] st).bind fun t=>
 some (t.1,t.2)) (
 cond (eqT field' ⟨#[99,111,110,100]⟩) (
 (cf 136 [.string ⟨#[97,108,119,97,121,115,32,122,32,110,122,32,110,101,103,32,112,111,115,32,99,32,110,99,32,117,115,101,114,32,107,101,114,110,101,108,32,102,112,100,32,110,111,102,112,100,32,116,97,107,101,110,32,109,97,116,99,104,32,107,49,32,107,50,32,107,51,32,108,97,115,116,114,101,103,32,102,32,114,101,97,100,115,32,105,110,100,101,120,32,100,105,118,32,108,101,115,115,97,108,117,32,97,108,117,49,32,115,116,114,105,110,103,32,110,111,105,110,100,101,120,32,110,111,114,101,97,100,115,32,111,118,101,114]⟩] st).bind fun u=>
 some (u.1,u.2)) (
 cond (eqT field' ⟨#[109,105,115,99]⟩) (
 (cf 136 [.string ⟨#[110,111,110,101,32,115,116,101,112,32,117,110,100,111,32,115,101,116,102,112,100,32,99,108,114,102,112,100,32,114,97,105,115,101,32,108,97,116,99,104,107,32,108,97,116,99,104,120,32,109,116,112,114,32,109,102,112,114,32,101,110,116,101,114,32,112,117,116,112,115,108,32,104,97,108,116,32,98,97,99,107,32,100,101,99,111,100,101,32,115,101,108,32,115,101,108,107,32,111,119,110,108,97,115,116,32,112,105,99,107,32,112,105,99,107,116,111,112,32,112,97,114,97,109,115,32,99,111,117,110,116]⟩] st).bind fun v=>
 some (v.1,v.2)) (
 some (.slice none 0 0,st)))))))))))
noncomputable abbrev zne:zac:=lS Tryz.prog Lk0 Tryz.f117 zau
theorem zng:Lk0.func 117=some (117,Tryz.f117):=by kernel_rfl
theorem za7 [Sym] (field':ByteArray) (st:SS) {r:Value×SS} (h:zbv cc zne field' st=some r):cc 117 [.string field'] st=some r:=
 zad (li:=zau) zai zal zng rfl (fun _=>rfl) (.trans (by kernel_rfl) h)
noncomputable def zcC (cf:zak) (lf:zac) (w':Value) (at0':Int) (st:SS):Option (Value×SS):=
 let a:SS:=st.new (.cells (w':Value).cells.toList 0)
 ((a.ld st.next 8).bind (asI .i64)).bind fun b=>
 cond (decide (b=0)) (
 let c:Int:=IntKind.wrap .i64 (at0'+1)
 let d:SS:=a.new (.cells ([.int .i64 c,.int .i64 1]) 2)
 some (.slice (some ⟨a.next,0,none⟩) 1 1,d)) (
 cond (decide (b=1)) (
 ((a.ld st.next 10).bind (asI .i64)).bind fun e=>
 let f:SS:=a.new (.cells ([.int .i64 e,.int .i64 1]) 2)
 some (.slice (some ⟨a.next,0,none⟩) 1 1,f)) (
 cond (decide (b=2)) (
 cond (decide (b=2)) (
 let g:Int:=IntKind.wrap .i64 (at0'+1)
 ((a.ld st.next 10).bind (asI .i64)).bind fun h=>
 let i:SS:=a.new (.cells ([.int .i64 g,.int .i64 1,.int .i64 h,.int .i64 1]) 2)
 some (.slice (some ⟨a.next,0,none⟩) 2 2,i)) (
 cond (decide (b=5)) (
 ((a.ld st.next 10).bind (asI .i64)).bind fun j=>
 let k:SS:=a.new (.cells ([.int .i64 j,.int .i64 64]) 2)
 some (.slice (some ⟨a.next,0,none⟩) 1 1,k)) (
 cond (decide (b=6)) (
 ((a.ld st.next 10).bind (asI .i64)).bind fun l=>
 let m:SS:=a.new (.cells ([.int .i64 l,.int .i64 16]) 2)
 some (.slice (some ⟨a.next,0,none⟩) 1 1,m)) (
 some (.slice none 0 0,a))))) (
 cond (decide (b=3)) (
 let n:Int:=IntKind.wrap .i64 (at0'+1)
 ((a.ld st.next 10).bind (asI .i64)).bind fun o=>
 let p:SS:=a.new (.cells ([.int .i64 n,.int .i64 1,.int .i64 o,.int .i64 1]) 2)
 some (.slice (some ⟨a.next,0,none⟩) 2 2,p)) (
 cond (decide (b=5)) (
 ((a.ld st.next 10).bind (asI .i64)).bind fun q=>
 let r:SS:=a.new (.cells ([.int .i64 q,.int .i64 64]) 2)
 some (.slice (some ⟨a.next,0,none⟩) 1 1,r)) (
 cond (decide (b=6)) (
 ((a.ld st.next 10).bind (asI .i64)).bind fun s=>
 let t:SS:=a.new (.cells ([.int .i64 s,.int .i64 16]) 2)
 some (.slice (some ⟨a.next,0,none⟩) 1 1,t)) (
 some (.slice none 0 0,a)))))))
noncomputable abbrev znh:zac:=lS Tryz.prog Lk0 Tryz.f62 zau
theorem zni:Lk0.func 62=some (62,Tryz.f62):=by kernel_rfl
theorem zb4 [Sym] (w':Value) (at0':Int) (st:SS) {r:Value×SS} (h:zcC cc znh w' at0' st=some r):cc 62 [w',.int .i64 at0'] st=some r:=
 zad (li:=zau) zai zal zni rfl (fun _=>rfl) (.trans (by kernel_rfl) h)
end Go.Proofs.YtifploedaacedaaGreatDoorE
namespace Go.Proofs.YtifploedaacedaaGreatDoorE
open Go Go.E Go.Proofs
def Simple (l:List UInt8):Bool:=l.all (fun b=>decide (b.toNat<128)&&(!Lib.isSp b||decide (b=32))&&(Lib.isSp b||decide (b≠32)))&&(pieces 32 l).all (fun p=>!p.isEmpty)
theorem Simple.byte {l:List UInt8} (h:Simple l=true) {b:UInt8} (hb:b∈l):b.toNat<128∧Lib.isSp b=decide (b=32):=by
 unfold Simple at h
 rw [zae] at h
 have:=List.all_eq_true.1 h.1 b hb
 simp only [zae,decide_eq_true_eq,Bool.or_eq_true,Bool.not_eq_true'] at this
 refine ⟨this.1.1,?_⟩
 rcases this.1.2 with h1 | h1
 ·rw [h1]
  rcases this.2 with h2 | h2
  ·rw [h1] at h2;cases h2
  ·rw [zdf h2]
 ·rw [zdt h1]
  rcases this.2 with h2 | h2
  ·exact h2
  ·exact absurd h1 h2
theorem Simple.piece {l:List UInt8} (h:Simple l=true) {p:List UInt8} (hp:p∈pieces 32 l):p≠[]:=by
 unfold Simple at h
 rw [zae] at h
 have:=List.all_eq_true.1 h.2 p hp
 intro e
 subst e
 cases this
def zis:Bool→List UInt8→Nat
 | _,[]=>0
 | ws,b::r=>(if ws=true∧b≠32 then 1 else 0)+zis (decide (b=32)) r
theorem zoN (l:List UInt8) (h:∀ p∈(pieces 32 l).tail,p≠[]):zis false l+1=(pieces 32 l).length∧((pieces 32 l).head?≠some []→zis true l=(pieces 32 l).length):=by
 induction l with
 | nil=>exact ⟨rfl,fun h=>absurd rfl h⟩
 | cons b r ih=>
   rw [zeI] at h ⊢
   by_cases hb:b=32
   ·subst hb
    rw [if_pos rfl] at h ⊢
    have h2:∀ p∈pieces 32 r,p≠[]:=h
    have hne:=zes 32 r
    have ih':=ih fun p hp=>h2 p (List.mem_of_mem_tail hp)
    have hh:(pieces 32 r).head?≠some []:=by
     cases hp:pieces 32 r with
     | nil=>exact absurd hp hne
     | cons x y=>rw [hp] at h2;intro e;simp at e;exact h2 x (by simp) e
    refine ⟨?_,fun hc=>absurd rfl hc⟩
    show (if _ then _ else _)+zis (decide ((32:UInt8)=32)) r+1=_
    rw [zdt rfl,ih'.2 hh]
    simp
   ·rw [if_neg hb] at h ⊢
    cases hp:pieces 32 r with
    | nil=>exact absurd hp (zes 32 r)
    | cons x y=>
      rw [hp] at h ih
      have ih':=ih h
      have e:decide (b=32)=false:=zdf hb
      refine ⟨?_,fun _=>?_⟩
      ·show (if _ then _ else _)+zis (decide (b=32)) r+1=_
       rw [e]
       simp at ih' ⊢
       omega
      ·show (if _ then _ else _)+zis (decide (b=32)) r=_
       rw [e,if_pos ⟨rfl,hb⟩]
       simp at ih' ⊢
       omega
theorem zit {i k len z n:Nat} (h:n<len):za6 (ptr i k) len (n:Int) z=some (i,k+n*z):=by
 have h1:(0:Int)≤(n:Int):=by omega
 have h2:(n:Int)<(len:Int):=by omega
 unfold ptr za6
 simp only [zdt h1,zdt h2,Bool.and_self,zct,Int.toNat_natCast]
theorem ziu {st:SS} (hg:Gd st) {b:UInt8}:st.ld 2 (0+b.toNat*1)=some (.int .u8 (if Lib.isSp b=true then 1 else 0)):=by
 rw [SS.ld_table hg.gS]
 have hb:=b.toNat_lt
 have e:0+b.toNat*1=b.toNat:=by omega
 unfold asciiC Lib.asciiSpaceTab
 rw [e,List.getElem?_map,List.getElem?_map,List.getElem?_range hb]
 simp
theorem ztz {a b:Nat} (ha:a<128) (hb:b<128):∃ c:Nat,orI .u8 (a:Int) (b:Int)=(c:Int)∧c<128:=by
 refine ⟨a||| b,?_,Nat.or_lt_two_pow (n:=7) ha hb⟩
 have h:a||| b<128:=Nat.or_lt_two_pow (n:=7) ha hb
 unfold orI
 have e:((BitVec.ofInt 8 (a:Int)||| BitVec.ofInt 8 (b:Int)).toNat:Nat)=a||| b:=by
  rw [BitVec.toNat_or,BitVec.toNat_ofInt,BitVec.toNat_ofInt]
  congr 1<;>omega
 show IntKind.wrap .u8 (((BitVec.ofInt 8 (a:Int)||| BitVec.ofInt 8 (b:Int)).toNat:Nat):Int)=_
 rw [e,zhv (by omega) (by omega)]
theorem zst (w x:Bool):andI .i64 (if w=true then 1 else 0) (xorI .i64 (-1) (if x=true then 1 else 0))=if w=true∧x=false then 1 else 0:=by
 cases w<;>cases x<;>decide
theorem zoO [Sym] (s:ByteArray) (hs:s.size≤4294967296) (hsim:Simple (bl s)=true) (st:SS) (hg:Gd st):∀ (k i n sb:Nat) (ws:Bool),s.size=k+i→sb<128→n≤i→
  ∃ sb',sb'<128∧zaB 5 [.string s,.int .i64 n,.int .i64 (if ws=true then 1 else 0),.int .u8 sb,.int .i64 i] st=some (0,[.string s,.int .i64 ((n+zis ws ((bl s).drop i):Nat):Int),.int .u8 ((sb':Nat):Int)],st):=by
 intro k
 induction k with
 | zero=>
   intro i n sb ws hk hsb hn
   have hlt:¬ (i:Int)<(s.size:Int):=by omega
   refine ⟨sb,hsb,zeJ s _ _ _ _ st ?_⟩
   rw [List.drop_of_length_le (by rw [zaI];omega)]
   simp only [zdY,zdf hlt,zcf]
   rfl
 | succ k ih=>
   intro i n sb ws hk hsb hn
   obtain ⟨b,hb⟩:∃ b,(bl s)[i]?=some b:=⟨_,zge (by rw [zaI];omega)⟩
   have hlt:(i:Int)<(s.size:Int):=by omega
   obtain ⟨b128,bsp⟩:=Simple.byte hsim (zmg hb)
   obtain ⟨c,hc1,hc2⟩:=ztz hsb b128
   have he:za6 (ptr 2 0) 256 (b.toNat:Int) 1=some (2,0+b.toNat*1):=zit (by have:=b.toNat_lt;omega)
   have hl:=ziu hg (b:=b)
   rw [bsp] at hl
   have hw:IntKind.wrap .i64 (if decide (b=32)=true then (1:Int) else 0)=(if decide (b=32)=true then 1 else 0):=by cases decide (b=32)<;>decide
   have hn1:IntKind.wrap .i64 ((n:Int)+(if ws=true∧decide (b=32)=false then 1 else 0))=((n+(if ws=true∧b≠32 then 1 else 0):Nat):Int):=by
    have e:(ws=true∧decide (b=32)=false)↔(ws=true∧b≠32):=by simp
    by_cases h:ws=true∧b≠32
    ·rw [if_pos (e.2 h),if_pos h,wrap64 (by omega) (by omega)];omega
    ·rw [if_neg (fun x=>h (e.1 x)),if_neg h,wrap64 (by omega) (by omega)];omega
   obtain ⟨sb',h1,h2⟩:=ih (i+1) (n+(if ws=true∧b≠32 then 1 else 0)) c (decide (b=32)) (by omega) hc2 (by split<;>omega)
   refine ⟨sb',h1,zeJ s _ _ _ _ st ?_⟩
   have hd:=drop_cons hb
   have hcnt:n+zis ws ((bl s).drop i)=n+(if ws=true∧b≠32 then 1 else 0)+zis (decide (b=32)) ((bl s).drop (i+1)):=by
    rw [hd]
    show n+((if ws=true∧b≠32 then 1 else 0)+_)=_
    omega
   rw [hcnt]
   simp only [zdY,zdt hlt,zct,zhz hb,zob,hc1,he,hl,zaa,zst,hw,hn1,za9 (show i≤1099511627776 by omega)]
   exact h2
theorem ztA [Sym] (s:ByteArray) (hs:s.size≤4294967296) (hsim:Simple (bl s)=true) (st:SS) (hg:Gd st) (a:Value) (na:Int) (i:Nat) (h:∀ b,(bl s)[i]?=some b→b≠32):
  zaB 18 [.string s,a,.int .i64 na,.int .i64 i] st=some (0,[.string s,a,.int .i64 na,.int .i64 i],st):=by
 refine zhA s a _ _ st ?_
 by_cases hlt:(i:Int)<(s.size:Int)
 ·obtain ⟨b,hb⟩:∃ b,(bl s)[i]?=some b:=⟨_,zge (by rw [zaI];omega)⟩
  obtain ⟨b128,bsp⟩:=Simple.byte hsim (zmg hb)
  have he:za6 (ptr 2 0) 256 (b.toNat:Int) 1=some (2,0+b.toNat*1):=zit (by have:=b.toNat_lt;omega)
  have hl:=ziu hg (b:=b)
  rw [bsp,zdf (h b hb),if_neg (by decide)] at hl
  simp only [zdC,zdt hlt,zct,zhz hb,zob,he,hl,zaa,decide_true,znt,zcf]
 ·simp only [zdC,zdf hlt,zcf]
theorem ztB [Sym] (s:ByteArray) (hs:s.size≤4294967296) (hsim:Simple (bl s)=true) (st:SS) (hg:Gd st) (a:Value) (na:Int) (i:Nat) (h:∀ b,(bl s)[i]?=some b→b≠32):
  zaB 27 [.string s,a,.int .i64 na,.int .i64 i] st=some (0,[.string s,a,.int .i64 na,.int .i64 i],st):=by
 refine zhB s a _ _ st ?_
 by_cases hlt:(i:Int)<(s.size:Int)
 ·obtain ⟨b,hb⟩:∃ b,(bl s)[i]?=some b:=⟨_,zge (by rw [zaI];omega)⟩
  obtain ⟨b128,bsp⟩:=Simple.byte hsim (zmg hb)
  have he:za6 (ptr 2 0) 256 (b.toNat:Int) 1=some (2,0+b.toNat*1):=zit (by have:=b.toNat_lt;omega)
  have hl:=ziu hg (b:=b)
  rw [bsp,zdf (h b hb),if_neg (by decide)] at hl
  simp only [zdD,zdt hlt,zct,zhz hb,zob,he,hl,zaa,decide_true,znt,zcf]
 ·simp only [zdD,zdf hlt,zcf]
theorem zpS [Sym] (s:ByteArray) (hs:s.size≤4294967296) (hsim:Simple (bl s)=true) (N j:Nat) (hN:N=(pieces 32 (bl s)).length) (st0:SS) (hg:Gd st0) (hj0:st0.next≤j):∀ (k i f:Nat) (done:List (List UInt8)) (st:SS),s.size=k+i→f≤i→
  done++zfb (((bl s).drop f).take (i-f)) (pieces 32 ((bl s).drop i))=pieces 32 (bl s)→Ext st0 st→j<st.next→st.lim≤j→st.mem.get j=some (.cells (strs done++List.replicate (N-done.length) (Value.string ⟨#[]⟩)) 1)→
  ∃ f' done' st',zaB 21 [.string s,.slice (some ⟨j,0,none⟩) N N,.int .i64 done.length,.int .i64 f,.int .i64 i] st=some (0,[.string s,.slice (some ⟨j,0,none⟩) N N,.int .i64 ((done'.length:Nat):Int),.int .i64 ((f':Nat):Int)],st')∧
   Ext st0 st'∧st'.next=st.next∧st'.lim=st.lim∧done'++[(bl s).drop f']=pieces 32 (bl s)∧f'≤s.size∧st'.mem.get j=some (.cells (strs done'++List.replicate (N-done'.length) (Value.string ⟨#[]⟩)) 1):=by
 have hplen:=pieces_len 32 (bl s)
 rw [zaI] at hplen
 intro k
 induction k with
 | zero=>
   intro i f done st hk hf hp he hj hlim hm
   have hlt:¬ (i:Int)<(s.size:Int):=by omega
   refine ⟨f,done,st,zcS s _ _ _ _ st ?_,he,rfl,rfl,?_,by omega,hm⟩
   ·simp only [zcB,zdf hlt,zcf]
   ·rw [← hp,List.drop_of_length_le (i:=i) (by rw [zaI];omega)]
    show done++[_]=done++[_++[]]
    rw [List.append_nil,List.take_of_length_le (by rw [List.length_drop,zaI];omega)]
 | succ k ih=>
   intro i f done st hk hf hp he hj hlim hm
   obtain ⟨b,hb⟩:∃ b,(bl s)[i]?=some b:=⟨_,zge (by rw [zaI];omega)⟩
   have hlt:(i:Int)<(s.size:Int):=by omega
   obtain ⟨b128,bsp⟩:=Simple.byte hsim (zmg hb)
   have hea:za6 (ptr 2 0) 256 (b.toNat:Int) 1=some (2,0+b.toNat*1):=zit (by have:=b.toNat_lt;omega)
   have hl:=ziu (hg.ext he) (b:=b)
   rw [bsp] at hl
   have hd:=drop_cons hb
   have hw:=za9 (show i≤1099511627776 by omega)
   by_cases h32:b=32
   ·rw [zdt h32,if_pos rfl] at hl
    rw [hd,zeI,if_pos h32] at hp
    have hp':done++((((bl s).drop f).take (i-f))++[])::pieces 32 ((bl s).drop (i+1))=pieces 32 (bl s):=hp
    rw [List.append_nil] at hp'
    have hdl:done.length<N:=by
     have:=congrArg List.length hp'
     simp at this
     omega
    have hsub:zcr s (f:Int) (i:Int)=some (mkS (((bl s).drop f).take (i-f))):=by
     have:=ziq (s:=s) (col:=f) (n:=i-f) (by omega)
     rw [show f+(i-f)=i by omega] at this
     exact this
    have hel:zar (.slice (some ⟨j,0,none⟩) N N) (done.length:Int) 1=some (j,0+done.length*1):=by
     unfold zar
     have h1:(0:Int)≤(done.length:Int):=by omega
     have h2:(done.length:Int)<(N:Int):=by omega
     simp only [zdt h1,zdt h2,Bool.and_self,zct,Int.toNat_natCast]
    have hst:st.st j (0+done.length*1) [.string (mkS (((bl s).drop f).take (i-f)))]=some (st.set j (some (.cells (strs (done++[((bl s).drop f).take (i-f)])++List.replicate (N-(done.length+1)) (Value.string ⟨#[]⟩)) 1))):=by
     refine SS.st_cells hm hlim rfl ?_
     obtain ⟨q,hq⟩:∃ q,N-done.length=q+1:=⟨N-done.length-1,by omega⟩
     have hq2:N-(done.length+1)=q:=by omega
     rw [hq,hq2,zbw (by simp [strs])]
     have:=zkH done q (((bl s).drop f).take (i-f))
     rw [show 0+done.length*1=done.length by omega]
     exact congrArg some this
    have hx:Ext st0 (st.set j (some (.cells (strs (done++[((bl s).drop f).take (i-f)])++List.replicate (N-(done.length+1)) (Value.string ⟨#[]⟩)) 1))):=he.set hj0 _
    have hnext:∀ b',(bl s)[i+1]?=some b'→b'≠32:=by
     intro b' hb' e
     have hd':=drop_cons hb'
     rw [hd',e,zeI,if_pos rfl] at hp'
     exact Simple.piece hsim (p:=[]) (by rw [← hp'];simp) rfl
    have hsk:=ztB s hs hsim _ (hg.ext hx) (.slice (some ⟨j,0,none⟩) N N) ((done.length+1:Nat):Int) (i+1) hnext
    obtain ⟨f',done',st',d1,d2,d3,d4,d5,d6,d7⟩:=ih (i+1) (i+1) (done++[((bl s).drop f).take (i-f)]) (st.set j (some (.cells (strs (done++[((bl s).drop f).take (i-f)])++List.replicate (N-(done.length+1)) (Value.string ⟨#[]⟩)) 1))) (by omega) (zlr _) (by
      rw [Nat.sub_self,List.take_zero,zkh (zes _ _),List.append_assoc];exact hp') hx hj hlim (by simp)
    have hdw:=za9 (show done.length≤1099511627776 by omega)
    have h10:¬ (1:Int)=0:=by omega
    refine ⟨f',done',st',zcS s _ _ _ _ st ?_,d2,d3,d4,d5,d6,d7⟩
    simp only [zcB,zdt hlt,zct,zhz hb,zob,hea,hl,zaa,zdf h10,zcf,hsub,hel,hst,hdw,hw]
    rw [hsk,zob]
    simp only [zgs,zgz,zob,zab,zaa]
    simpa using d1
   ·rw [zdf h32,if_neg (by decide)] at hl
    have hcur:((bl s).drop f).take (i+1-f)=((bl s).drop f).take (i-f)++[b]:=by
     rw [show i+1-f=(i-f)+1 by omega]
     refine zoJ ?_
     rw [List.getElem?_drop,show f+(i-f)=i by omega];exact hb
    obtain ⟨f',done',st',d1,d2,d3,d4,d5,d6,d7⟩:=ih (i+1) f done st (by omega) (by omega) (by
      rw [hcur,← znY _ _ _ _ h32,← hd];exact hp) he hj hlim hm
    refine ⟨f',done',st',zcS s _ _ _ _ st ?_,d2,d3,d4,d5,d6,d7⟩
    simp only [zcB,zdt hlt,zct,zhz hb,zob,hea,hl,zaa,decide_true,hw]
    exact d1
theorem zq6 [Sym] (s:ByteArray) (hs:s.size≤4294967296) (hsim:Simple (bl s)=true) (st:SS) (hg:Gd st) (hll:st.lim≤st.next):
  ∃ v st',cc 149 [.string s] st=some (v,st')∧Ext st st'∧Own st.next st' v (strs (pieces 32 (bl s))) 1 (pieces 32 (bl s)).length:=by
 have hplen:=pieces_len 32 (bl s)
 rw [zaI] at hplen
 have hall:∀ p∈pieces 32 (bl s),p≠[]:=fun p hp=>Simple.piece hsim hp
 have hne:=zes 32 (bl s)
 have hhd:(pieces 32 (bl s)).head?≠some []:=by
  cases hp:pieces 32 (bl s) with
  | nil=>exact absurd hp hne
  | cons x y=>rw [hp] at hall;intro e;simp at e;exact hall x (by simp) e
 obtain ⟨sb,hsb,c1⟩:=zoO s hs hsim st hg s.size 0 0 0 true (by omega) (by omega) (by omega)
 have hcnt:=(zoN (bl s) (fun p hp=>hall p (List.mem_of_mem_tail hp))).2 hhd
 rw [List.drop_zero,Nat.zero_add,hcnt] at c1
 have c1':zaB 5 [.string s,.int .i64 0,.int .i64 1,.int .u8 0,.int .i64 0] st=some (0,[.string s,.int .i64 ((pieces 32 (bl s)).length:Int),.int .u8 (sb:Int)],st):=c1
 have h128:¬ (128:Int)≤(sb:Int):=by omega
 have hmk:zef ((pieces 32 (bl s)).length:Int) ((pieces 32 (bl s)).length:Int) 16=some ():=zkG (by omega) (by omega) (by omega)
 have hz:zd4 [Value.string ⟨#[]⟩] ((pieces 32 (bl s)).length:Int)=List.replicate (pieces 32 (bl s)).length (Value.string ⟨#[]⟩):=zim _ _
 have x1:Ext st (st.new (.cells (List.replicate (pieces 32 (bl s)).length (Value.string ⟨#[]⟩)) 1)):=(Ext.refl st).new _
 have hfirst:∀ b,(bl s)[0]?=some b→b≠32:=by
  intro b hb e
  have hd:=drop_cons hb
  rw [List.drop_zero] at hd
  rw [hd,e,zeI,if_pos rfl] at hhd
  exact hhd rfl
 have hsk:=ztA s hs hsim _ (hg.ext x1) (.slice (some ⟨st.next,0,none⟩) (pieces 32 (bl s)).length (pieces 32 (bl s)).length) 0 0 hfirst
 obtain ⟨f',done',st',d1,d2,d3,d4,d5,d6,d7⟩:=zpS s hs hsim (pieces 32 (bl s)).length st.next rfl st hg (zlr _) s.size 0 0 [] (st.new (.cells (List.replicate (pieces 32 (bl s)).length (Value.string ⟨#[]⟩)) 1)) (by omega) (by omega) (by
   rw [List.drop_zero];show zfb (List.take (0-0) (bl s)) _=_;rw [Nat.sub_self,List.take_zero,zkh hne]) x1 (by simp) hll (by simp [strs])
 have d1':zaB 21 [.string s,.slice (some ⟨st.next,0,none⟩) (pieces 32 (bl s)).length (pieces 32 (bl s)).length,.int .i64 0,.int .i64 0,.int .i64 0] (st.new (.cells (List.replicate (pieces 32 (bl s)).length (Value.string ⟨#[]⟩)) 1))=some (0,[.string s,.slice (some ⟨st.next,0,none⟩) (pieces 32 (bl s)).length (pieces 32 (bl s)).length,.int .i64 ((done'.length:Nat):Int),.int .i64 ((f':Nat):Int)],st'):=d1
 have hlen:(pieces 32 (bl s)).length=done'.length+1:=by rw [← d5];simp
 have hlast:(bl s).drop f'≠[]:=hall _ (by rw [← d5];simp)
 have hf':f'<s.size:=by
  have:((bl s).drop f').length≠0:=fun e=>hlast (List.length_eq_zero_iff.1 e)
  rw [List.length_drop,zaI] at this
  omega
 have hlt:(f':Int)<(s.size:Int):=by omega
 have hsub:zcr s (f':Int) (s.size:Int)=some (mkS ((bl s).drop f')):=zmT (by omega)
 have hel:zar (.slice (some ⟨st.next,0,none⟩) (pieces 32 (bl s)).length (pieces 32 (bl s)).length) (done'.length:Int) 1=some (st.next,0+done'.length*1):=by
  unfold zar
  have h1:(0:Int)≤(done'.length:Int):=by omega
  have h2:(done'.length:Int)<((pieces 32 (bl s)).length:Int):=by omega
  simp only [zdt h1,zdt h2,Bool.and_self,zct,Int.toNat_natCast]
 have hst:st'.st st.next (0+done'.length*1) [.string (mkS ((bl s).drop f'))]=some (st'.set st.next (some (.cells (strs (pieces 32 (bl s))) 1))):=by
  refine SS.st_cells d7 (by rw [d4];exact hll) rfl ?_
  have hq:(pieces 32 (bl s)).length-done'.length=0+1:=by omega
  rw [hq,zbw (by simp [strs])]
  have:=zkH done' 0 ((bl s).drop f')
  rw [show 0+done'.length*1=done'.length by omega]
  exact congrArg some (this.trans (by rw [d5];simp))
 refine ⟨.slice (some ⟨st.next,0,none⟩) (pieces 32 (bl s)).length (pieces 32 (bl s)).length,st'.set st.next (some (.cells (strs (pieces 32 (bl s))) 1)),zjX s st ?_,d2.set (zlr _) _,by simp,.inr ⟨st.next,rfl,by omega,by simp,zlr _,by simp [d3]⟩⟩
 simp only [strings_Fields]
 rw [c1',zob]
 simp only [zgs,zgz,zob,zab,zaa,zdf h128,zcf,hmk,hz,Int.toNat_natCast]
 have hsk':zaB 18 [.string s,.slice (some ⟨st.next,0,none⟩) (pieces 32 (bl s)).length (pieces 32 (bl s)).length,.int .i64 0,.int .i64 0] (st.new (.cells (List.replicate (pieces 32 (bl s)).length (Value.string ⟨#[]⟩)) 1))=some (0,[.string s,.slice (some ⟨st.next,0,none⟩) (pieces 32 (bl s)).length (pieces 32 (bl s)).length,.int .i64 0,.int .i64 0],st.new (.cells (List.replicate (pieces 32 (bl s)).length (Value.string ⟨#[]⟩)) 1)):=hsk
 rw [hsk',zob]
 simp only [zgs,zgz,zob,zab,zaa]
 have d1'':zaB 21 [.string s,.slice (some ⟨st.next,0,none⟩) (pieces 32 (bl s)).length (pieces 32 (bl s)).length,.int .i64 0,.int .i64 0,.int .i64 0] (st.new (.cells (List.replicate (pieces 32 (bl s)).length (Value.string ⟨#[]⟩)) 1))=_:=d1'
 rw [d1'',zob]
 simp only [zgs,zgz,zob,zab,zaa,zdt hlt,zct,hsub,hel,hst]
theorem row_ok [Sym] (s:ByteArray) (hs:s.size≤4294967296) (hsim:Simple (bl s)=true) (st:SS) (hg:Gd st) (hll:st.lim≤st.next):
  ∃ v st',cc 136 [.string s] st=some (v,st')∧Ext st st'∧Own st.next st' v (strs (pieces 32 (bl s))) 1 (pieces 32 (bl s)).length:=by
 obtain ⟨v,st',c,x,o⟩:=zq6 s hs hsim st hg hll
 refine ⟨v,st',zoM s st ?_,x,o⟩
 simp only [zn4,c,zob]
end Go.Proofs.YtifploedaacedaaGreatDoorE
namespace Go.Proofs.YtifploedaacedaaGreatDoorE
set_option maxRecDepth 20000
open Go Go.E Go.Proofs
def zeK:LoopI:=⟨[(1,.str),(7,.any),(8,.int .i64),(9,.int .i64)],[(.exit 0,[]),(.ret,[(4,.int .i64)])]⟩
def ze3 (n:Nat):Option LoopI:=cond (Nat.beq n 2) (some zeK) (none)
noncomputable def zgq (cf:zak) (lf:zac) (l':Value) (s':ByteArray) (st:SS):Option (Value×SS):=
 ((lenV l').bind (asI .i64)).bind fun a=>
 (lf 2 [.string s',l',.int .i64 a,.int .i64 0] (st.ro st.next)).bind fun b=>
 cond (Nat.beq b.1 0) (
 some (.int .i64 (-1),st.adv b.2.2.next)) (
 ((b.2.1[0]?).bind (asI .i64)).bind fun c=>
 some (.int .i64 c,st.adv b.2.2.next))
noncomputable abbrev zbP:zac:=lS Tryz.prog Lk0 Tryz.f47 ze3
theorem ziS:Lk0.func 47=some (47,Tryz.f47):=by kernel_rfl
theorem ziT [Sym] (l':Value) (s':ByteArray) (st:SS) {r:Value×SS} (h:zgq cc zbP l' s' st=some r):cc 47 [l',.string s'] st=some r:=
 zad (li:=ze3) zai zal ziS rfl (fun _=>rfl) (.trans (by kernel_rfl) h)
noncomputable def zcn (cf:zak) (lf:zac) (s':ByteArray) (t7':Value) (t8':Int) (t9':Int) (st:SS):Option (Nat×List Value×SS):=
 cond (decide (t9'<t8')) (
 (zar t7' t9' 1).bind fun a=>
 ((st.ld a.1 a.2).bind asS).bind fun b=>
 cond (eqT b s') (
 some (1,[.int .i64 t9'],st)) (
 let c:Int:=IntKind.wrap .i64 (t9'+1)
 lf 2 [.string s',t7',.int .i64 t8',.int .i64 c] st)) (
 some (0,[],st))
theorem zd9 [Sym] (s':ByteArray) (t7':Value) (t8':Int) (t9':Int) (st:SS) {r:Nat×List Value×SS} (h:zcn cc zbP s' t7' t8' t9' st=some r):zbP 2 [.string s',t7',.int .i64 t8',.int .i64 t9'] st=some r:=
 zaC zai zal (key:=2) (I:=zeK) rfl (by kernel_rfl) (by kernel_rfl) rfl rfl (.trans (by kernel_rfl) h)
noncomputable def zaR (cf:zak) (lf:zac) (w':Value) (at0':Int) (st:SS):Option (Value×SS):=
 let a:SS:=st.new (.cells (w':Value).cells.toList 0)
 ((a.ld st.next 8).bind (asI .i64)).bind fun b=>
 cond (decide (b=0)) (
 let c:Int:=IntKind.wrap .i64 (at0'+1)
 let d:SS:=a.new (.cells ([.int .i64 c,.int .i64 1]) 2)
 some (.slice (some ⟨a.next,0,none⟩) 1 1,d)) (
 ((a.ld st.next 8).bind (asI .i64)).bind fun e=>
 cond (decide (e=1)) (
 ((a.ld st.next 10).bind (asI .i64)).bind fun f=>
 let g:SS:=a.new (.cells ([.int .i64 f,.int .i64 1]) 2)
 some (.slice (some ⟨a.next,0,none⟩) 1 1,g)) (
 ((a.ld st.next 8).bind (asI .i64)).bind fun h=>
 cond (decide (h=2)) (
 let i:Int:=IntKind.wrap .i64 (at0'+1)
 ((a.ld st.next 10).bind (asI .i64)).bind fun j=>
 let k:SS:=a.new (.cells ([.int .i64 i,.int .i64 1,.int .i64 j,.int .i64 1]) 2)
 some (.slice (some ⟨a.next,0,none⟩) 2 2,k)) (
 ((a.ld st.next 8).bind (asI .i64)).bind fun l=>
 cond (decide (l=3)) (
 let m:Int:=IntKind.wrap .i64 (at0'+1)
 ((a.ld st.next 10).bind (asI .i64)).bind fun n=>
 let o:SS:=a.new (.cells ([.int .i64 m,.int .i64 1,.int .i64 n,.int .i64 1]) 2)
 some (.slice (some ⟨a.next,0,none⟩) 2 2,o)) (
 ((a.ld st.next 8).bind (asI .i64)).bind fun p=>
 cond (decide (p=5)) (
 ((a.ld st.next 10).bind (asI .i64)).bind fun q=>
 let r:SS:=a.new (.cells ([.int .i64 q,.int .i64 64]) 2)
 some (.slice (some ⟨a.next,0,none⟩) 1 1,r)) (
 ((a.ld st.next 8).bind (asI .i64)).bind fun s=>
 cond (decide (s=6)) (
 ((a.ld st.next 10).bind (asI .i64)).bind fun t=>
 let u:SS:=a.new (.cells ([.int .i64 t,.int .i64 16]) 2)
 some (.slice (some ⟨a.next,0,none⟩) 1 1,u)) (
 some (.slice none 0 0,a)))))))
noncomputable abbrev zea:zac:=lS Tryz.prog Lk0 Tryz.f21 zau
theorem zg7:Lk0.func 21=some (21,Tryz.f21):=by kernel_rfl
theorem zg8 [Sym] (w':Value) (at0':Int) (st:SS) {r:Value×SS} (h:zaR cc zea w' at0' st=some r):cc 21 [w',.int .i64 at0'] st=some r:=
 zad (li:=zau) zai zal zg7 rfl (fun _=>rfl) (.trans (by kernel_rfl) h)
end Go.Proofs.YtifploedaacedaaGreatDoorE
namespace Go.Proofs.YtifploedaacedaaGreatDoorE
open Go Go.E Go.Proofs
def zpT:List UInt8:=[110,111,110,101,32,109,111,118,32,110,111,116,32,110,101,103,32,105,110,99,32,100,101,99,32,97,100,100,32,115,117,98,32,97,100,100,99,32,115,117,98,99,32,109,117,108,32,100,105,118,32,111,114,32,98,105,99,32,120,111,114,32,97,110,100,32,99,109,112,32,116,101,115,116,32,99,108,101,97,114,32,115,120,98,32,115,120,119,32,122,120,98,32,122,120,119,32,115,104,108,32,115,104,114,32,97,115,104,32,114,111,116,32,111,112,32,115,120,111,32,101,120,116,32,105,110,115,32,99,118,116]
def ziv:List UInt8:=[114,48,32,114,49,32,114,50,32,114,51,32,114,52,32,114,53,32,114,54,32,114,55,32,114,56,32,114,57,32,114,49,48,32,114,49,49,32,114,49,50,32,114,49,51,32,114,49,52,32,114,49,53,32,116,48,32,116,49,32,116,50,32,116,51,32,116,52,32,116,53,32,116,54,32,116,55,32,118,48,32,118,49,32,118,50,32,118,51,32,118,52,32,118,53,32,97,48,32,97,49,32,97,50,32,97,51,32,97,52,32,97,53,32,109,100,32,118,97,32,112,115,108,32,114,110,32,114,120,32,108,105,116,32,122,101,114,111,32,118,101,99,32,112,48,32,112,49,32,115,116,97,114,116,32,115,99,98,98,32,107,115,112,32,117,115,112,32,100,105,115,112,32,111,115,105,122,101,32,105,108,101,110,32,108,101,118,101,108,32,118,99,32,97,99,32,97,108,32,107,108,32,99,110,116,32,110,112]
def zn5:List UInt8:=[98,121,116,101,32,119,111,114,100,32,108,111,110,103,32,111,119,110]
def c_cc:List UInt8:=[107,101,101,112,32,115,101,116,32,115,101,116,107]
def zpU:List UInt8:=[110,111,110,101,32,114,100,32,119,114,32,112,114,111,98,101,32,98,108,100,32,98,115,116,32,98,112,117,116,32,98,103,101,116,32,98,99,108,114,32,105,102,32,114,100,112,32,107,115,116,32,114,111,119,32,117,110,114,111,119,32,114,111,119,97,32,102,108,117,115,104]
def zpV:List UInt8:=[110,101,120,116,32,106,109,112,32,99,106,32,99,97,108,108,32,114,101,116,32,115,112,101,99,32,109,111,100,101,32,101,110,100]
def zn6:List UInt8:=[97,108,119,97,121,115,32,122,32,110,122,32,110,101,103,32,112,111,115,32,99,32,110,99,32,117,115,101,114,32,107,101,114,110,101,108,32,102,112,100,32,110,111,102,112,100,32,116,97,107,101,110,32,109,97,116,99,104,32,107,49,32,107,50,32,107,51,32,108,97,115,116,114,101,103,32,102,32,114,101,97,100,115,32,105,110,100,101,120,32,100,105,118,32,108,101,115,115,97,108,117,32,97,108,117,49,32,115,116,114,105,110,103,32,110,111,105,110,100,101,120,32,110,111,114,101,97,100,115,32,111,118,101,114]
def zn7:List UInt8:=[110,111,110,101,32,115,116,101,112,32,117,110,100,111,32,115,101,116,102,112,100,32,99,108,114,102,112,100,32,114,97,105,115,101,32,108,97,116,99,104,107,32,108,97,116,99,104,120,32,109,116,112,114,32,109,102,112,114,32,101,110,116,101,114,32,112,117,116,112,115,108,32,104,97,108,116,32,98,97,99,107,32,100,101,99,111,100,101,32,115,101,108,32,115,101,108,107,32,111,119,110,108,97,115,116,32,112,105,99,107,32,112,105,99,107,116,111,112,32,112,97,114,97,109,115,32,99,111,117,110,116]
def namesT (f:List UInt8):List (List UInt8):=
 if f=[97,108,117] then pieces 32 zpT else
 if f=[97] then pieces 32 ziv else
 if f=[98] then pieces 32 ziv else
 if f=[100] then pieces 32 ziv else
 if f=[115,105,122,101] then pieces 32 zn5 else
 if f=[99,99] then pieces 32 c_cc else
 if f=[109,101,109] then pieces 32 zpU else
 if f=[115,101,113] then pieces 32 zpV else
 if f=[99,111,110,100] then pieces 32 zn6 else
 if f=[109,105,115,99] then pieces 32 zn7 else
 []
theorem zsu [Sym] (f:ByteArray) (st:SS) (hg:Gd st) (hll:st.lim≤st.next):
  ∃ v st',cc 117 [.string f] st=some (v,st')∧Ext st st'∧Own st.next st' v (strs (namesT (bl f))) 1 (namesT (bl f)).length:=by
 have R:∀ s:ByteArray,s.size≤4294967296→Simple (bl s)=true→∃ v st',((cc 136 [.string s] st).bind fun r=>some (r.1,r.2))=some (v,st')∧Ext st st'∧Own st.next st' v (strs (pieces 32 (bl s))) 1 (pieces 32 (bl s)).length:=fun s h1 h2=>by
  obtain ⟨v,st',c,x,o⟩:=row_ok s h1 h2 st hg hll
  exact ⟨v,st',by rw [c];rfl,x,o⟩
 by_cases h_alu:bl f=[97,108,117]
 ·have e:namesT (bl f)=pieces 32 zpT:=by rw [h_alu];rfl
  obtain ⟨v,st',c,x,o⟩:=R ⟨#[110,111,110,101,32,109,111,118,32,110,111,116,32,110,101,103,32,105,110,99,32,100,101,99,32,97,100,100,32,115,117,98,32,97,100,100,99,32,115,117,98,99,32,109,117,108,32,100,105,118,32,111,114,32,98,105,99,32,120,111,114,32,97,110,100,32,99,109,112,32,116,101,115,116,32,99,108,101,97,114,32,115,120,98,32,115,120,119,32,122,120,98,32,122,120,119,32,115,104,108,32,115,104,114,32,97,115,104,32,114,111,116,32,111,112,32,115,120,111,32,101,120,116,32,105,110,115,32,99,118,116]⟩ (by decide+kernel) (by decide+kernel)
  have q_alu:eqT f ⟨#[97,108,117]⟩=true:=zdt h_alu
  refine ⟨v,st',za7 f st ?_,x,by rw [e];exact o⟩
  simp only [zbv,q_alu,zct,zcf]
  exact c
 have n_alu:eqT f ⟨#[97,108,117]⟩=false:=zdf h_alu
 by_cases h_a:bl f=[97]
 ·have e:namesT (bl f)=pieces 32 ziv:=by rw [h_a];rfl
  obtain ⟨v,st',c,x,o⟩:=R ⟨#[114,48,32,114,49,32,114,50,32,114,51,32,114,52,32,114,53,32,114,54,32,114,55,32,114,56,32,114,57,32,114,49,48,32,114,49,49,32,114,49,50,32,114,49,51,32,114,49,52,32,114,49,53,32,116,48,32,116,49,32,116,50,32,116,51,32,116,52,32,116,53,32,116,54,32,116,55,32,118,48,32,118,49,32,118,50,32,118,51,32,118,52,32,118,53,32,97,48,32,97,49,32,97,50,32,97,51,32,97,52,32,97,53,32,109,100,32,118,97,32,112,115,108,32,114,110,32,114,120,32,108,105,116,32,122,101,114,111,32,118,101,99,32,112,48,32,112,49,32,115,116,97,114,116,32,115,99,98,98,32,107,115,112,32,117,115,112,32,100,105,115,112,32,111,115,105,122,101,32,105,108,101,110,32,108,101,118,101,108,32,118,99,32,97,99,32,97,108,32,107,108,32,99,110,116,32,110,112]⟩ (by decide+kernel) (by decide+kernel)
  have q_a:eqT f ⟨#[97]⟩=true:=zdt h_a
  refine ⟨v,st',za7 f st ?_,x,by rw [e];exact o⟩
  simp only [zbv,n_alu,q_a,zct,zcf]
  exact c
 have n_a:eqT f ⟨#[97]⟩=false:=zdf h_a
 by_cases h_b:bl f=[98]
 ·have e:namesT (bl f)=pieces 32 ziv:=by rw [h_b];rfl
  obtain ⟨v,st',c,x,o⟩:=R ⟨#[114,48,32,114,49,32,114,50,32,114,51,32,114,52,32,114,53,32,114,54,32,114,55,32,114,56,32,114,57,32,114,49,48,32,114,49,49,32,114,49,50,32,114,49,51,32,114,49,52,32,114,49,53,32,116,48,32,116,49,32,116,50,32,116,51,32,116,52,32,116,53,32,116,54,32,116,55,32,118,48,32,118,49,32,118,50,32,118,51,32,118,52,32,118,53,32,97,48,32,97,49,32,97,50,32,97,51,32,97,52,32,97,53,32,109,100,32,118,97,32,112,115,108,32,114,110,32,114,120,32,108,105,116,32,122,101,114,111,32,118,101,99,32,112,48,32,112,49,32,115,116,97,114,116,32,115,99,98,98,32,107,115,112,32,117,115,112,32,100,105,115,112,32,111,115,105,122,101,32,105,108,101,110,32,108,101,118,101,108,32,118,99,32,97,99,32,97,108,32,107,108,32,99,110,116,32,110,112]⟩ (by decide+kernel) (by decide+kernel)
  have q_b:eqT f ⟨#[98]⟩=true:=zdt h_b
  refine ⟨v,st',za7 f st ?_,x,by rw [e];exact o⟩
  simp only [zbv,n_alu,n_a,q_b,zct,zcf]
  exact c
 have n_b:eqT f ⟨#[98]⟩=false:=zdf h_b
 by_cases h_d:bl f=[100]
 ·have e:namesT (bl f)=pieces 32 ziv:=by rw [h_d];rfl
  obtain ⟨v,st',c,x,o⟩:=R ⟨#[114,48,32,114,49,32,114,50,32,114,51,32,114,52,32,114,53,32,114,54,32,114,55,32,114,56,32,114,57,32,114,49,48,32,114,49,49,32,114,49,50,32,114,49,51,32,114,49,52,32,114,49,53,32,116,48,32,116,49,32,116,50,32,116,51,32,116,52,32,116,53,32,116,54,32,116,55,32,118,48,32,118,49,32,118,50,32,118,51,32,118,52,32,118,53,32,97,48,32,97,49,32,97,50,32,97,51,32,97,52,32,97,53,32,109,100,32,118,97,32,112,115,108,32,114,110,32,114,120,32,108,105,116,32,122,101,114,111,32,118,101,99,32,112,48,32,112,49,32,115,116,97,114,116,32,115,99,98,98,32,107,115,112,32,117,115,112,32,100,105,115,112,32,111,115,105,122,101,32,105,108,101,110,32,108,101,118,101,108,32,118,99,32,97,99,32,97,108,32,107,108,32,99,110,116,32,110,112]⟩ (by decide+kernel) (by decide+kernel)
  have q_d:eqT f ⟨#[100]⟩=true:=zdt h_d
  refine ⟨v,st',za7 f st ?_,x,by rw [e];exact o⟩
  simp only [zbv,n_alu,n_a,n_b,q_d,zct,zcf]
  exact c
 have n_d:eqT f ⟨#[100]⟩=false:=zdf h_d
 by_cases h_size:bl f=[115,105,122,101]
 ·have e:namesT (bl f)=pieces 32 zn5:=by rw [h_size];rfl
  obtain ⟨v,st',c,x,o⟩:=R ⟨#[98,121,116,101,32,119,111,114,100,32,108,111,110,103,32,111,119,110]⟩ (by decide+kernel) (by decide+kernel)
  have q_size:eqT f ⟨#[115,105,122,101]⟩=true:=zdt h_size
  refine ⟨v,st',za7 f st ?_,x,by rw [e];exact o⟩
  simp only [zbv,n_alu,n_a,n_b,n_d,q_size,zct,zcf]
  exact c
 have n_size:eqT f ⟨#[115,105,122,101]⟩=false:=zdf h_size
 by_cases h_cc:bl f=[99,99]
 ·have e:namesT (bl f)=pieces 32 c_cc:=by rw [h_cc];rfl
  obtain ⟨v,st',c,x,o⟩:=R ⟨#[107,101,101,112,32,115,101,116,32,115,101,116,107]⟩ (by decide+kernel) (by decide+kernel)
  have q_cc:eqT f ⟨#[99,99]⟩=true:=zdt h_cc
  refine ⟨v,st',za7 f st ?_,x,by rw [e];exact o⟩
  simp only [zbv,n_alu,n_a,n_b,n_d,n_size,q_cc,zct,zcf]
  exact c
 have n_cc:eqT f ⟨#[99,99]⟩=false:=zdf h_cc
 by_cases h_mem:bl f=[109,101,109]
 ·have e:namesT (bl f)=pieces 32 zpU:=by rw [h_mem];rfl
  obtain ⟨v,st',c,x,o⟩:=R ⟨#[110,111,110,101,32,114,100,32,119,114,32,112,114,111,98,101,32,98,108,100,32,98,115,116,32,98,112,117,116,32,98,103,101,116,32,98,99,108,114,32,105,102,32,114,100,112,32,107,115,116,32,114,111,119,32,117,110,114,111,119,32,114,111,119,97,32,102,108,117,115,104]⟩ (by decide+kernel) (by decide+kernel)
  have q_mem:eqT f ⟨#[109,101,109]⟩=true:=zdt h_mem
  refine ⟨v,st',za7 f st ?_,x,by rw [e];exact o⟩
  simp only [zbv,n_alu,n_a,n_b,n_d,n_size,n_cc,q_mem,zct,zcf]
  exact c
 have n_mem:eqT f ⟨#[109,101,109]⟩=false:=zdf h_mem
 by_cases h_seq:bl f=[115,101,113]
 ·have e:namesT (bl f)=pieces 32 zpV:=by rw [h_seq];rfl
  obtain ⟨v,st',c,x,o⟩:=R ⟨#[110,101,120,116,32,106,109,112,32,99,106,32,99,97,108,108,32,114,101,116,32,115,112,101,99,32,109,111,100,101,32,101,110,100]⟩ (by decide+kernel) (by decide+kernel)
  have q_seq:eqT f ⟨#[115,101,113]⟩=true:=zdt h_seq
  refine ⟨v,st',za7 f st ?_,x,by rw [e];exact o⟩
  simp only [zbv,n_alu,n_a,n_b,n_d,n_size,n_cc,n_mem,q_seq,zct,zcf]
  exact c
 have n_seq:eqT f ⟨#[115,101,113]⟩=false:=zdf h_seq
 by_cases h_cond:bl f=[99,111,110,100]
 ·have e:namesT (bl f)=pieces 32 zn6:=by rw [h_cond];rfl
  obtain ⟨v,st',c,x,o⟩:=R ⟨#[97,108,119,97,121,115,32,122,32,110,122,32,110,101,103,32,112,111,115,32,99,32,110,99,32,117,115,101,114,32,107,101,114,110,101,108,32,102,112,100,32,110,111,102,112,100,32,116,97,107,101,110,32,109,97,116,99,104,32,107,49,32,107,50,32,107,51,32,108,97,115,116,114,101,103,32,102,32,114,101,97,100,115,32,105,110,100,101,120,32,100,105,118,32,108,101,115,115,97,108,117,32,97,108,117,49,32,115,116,114,105,110,103,32,110,111,105,110,100,101,120,32,110,111,114,101,97,100,115,32,111,118,101,114]⟩ (by decide+kernel) (by decide+kernel)
  have q_cond:eqT f ⟨#[99,111,110,100]⟩=true:=zdt h_cond
  refine ⟨v,st',za7 f st ?_,x,by rw [e];exact o⟩
  simp only [zbv,n_alu,n_a,n_b,n_d,n_size,n_cc,n_mem,n_seq,q_cond,zct,zcf]
  exact c
 have n_cond:eqT f ⟨#[99,111,110,100]⟩=false:=zdf h_cond
 by_cases h_misc:bl f=[109,105,115,99]
 ·have e:namesT (bl f)=pieces 32 zn7:=by rw [h_misc];rfl
  obtain ⟨v,st',c,x,o⟩:=R ⟨#[110,111,110,101,32,115,116,101,112,32,117,110,100,111,32,115,101,116,102,112,100,32,99,108,114,102,112,100,32,114,97,105,115,101,32,108,97,116,99,104,107,32,108,97,116,99,104,120,32,109,116,112,114,32,109,102,112,114,32,101,110,116,101,114,32,112,117,116,112,115,108,32,104,97,108,116,32,98,97,99,107,32,100,101,99,111,100,101,32,115,101,108,32,115,101,108,107,32,111,119,110,108,97,115,116,32,112,105,99,107,32,112,105,99,107,116,111,112,32,112,97,114,97,109,115,32,99,111,117,110,116]⟩ (by decide+kernel) (by decide+kernel)
  have q_misc:eqT f ⟨#[109,105,115,99]⟩=true:=zdt h_misc
  refine ⟨v,st',za7 f st ?_,x,by rw [e];exact o⟩
  simp only [zbv,n_alu,n_a,n_b,n_d,n_size,n_cc,n_mem,n_seq,n_cond,q_misc,zct,zcf]
  exact c
 have n_misc:eqT f ⟨#[109,105,115,99]⟩=false:=zdf h_misc
 have e:namesT (bl f)=[]:=by simp only [namesT,if_neg h_alu,if_neg h_a,if_neg h_b,if_neg h_d,if_neg h_size,if_neg h_cc,if_neg h_mem,if_neg h_seq,if_neg h_cond,if_neg h_misc]
 refine ⟨.slice none 0 0,st,za7 f st ?_,.refl _,by rw [e];exact Own.nil _ _ _⟩
 simp only [zbv,n_alu,n_a,n_b,n_d,n_size,n_cc,n_mem,n_seq,n_cond,n_misc,zct,zcf]
theorem ztC [Sym] (l:List (List UInt8)) (hl:l.length≤1099511627776) (s:ByteArray) (v:Value) (st:SS) (hv:Rd st v (strs l) 1 l.length):∀ (r:List (List UInt8)) (i:Nat),l.drop i=r→i≤l.length→
  zbP 2 [.string s,v,.int .i64 l.length,.int .i64 i] st=some (match r.findIdx? (fun x=>decide (x=bl s)) with | none=>(0,[],st) | some k=>(1,[.int .i64 ((i+k:Nat):Int)],st)):=by
 intro r
 induction r with
 | nil=>
   intro i hd hi
   have hlen:=congrArg List.length hd
   rw [List.length_drop] at hlen
   have h:¬ (i:Int)<(l.length:Int):=by simp at hlen;omega
   refine zd9 _ _ _ _ st ?_
   simp only [zcn,zdf h,zcf,List.findIdx?_nil]
 | cons p r ih=>
   intro i hd hi
   have hlen:=congrArg List.length hd
   rw [List.length_drop,List.length_cons] at hlen
   have h:(i:Int)<(l.length:Int):=by omega
   have hgp:l[i]?=some p:=by
    have:=List.getElem?_drop (xs:=l) (i:=i) (j:=0)
    rw [hd] at this
    simpa using this.symm
   have hd':l.drop (i+1)=r:=by rw [← List.drop_drop,hd];rfl
   obtain ⟨q,b1,_,b3⟩:=hv.load (j:=(i:Int)) (by omega) h (strs_get _ i p hgp) rfl
   have b3':st.ld q.1 q.2=some (.string (mkS p)):=by simpa using b3 0 (by omega)
   refine zd9 _ _ _ _ st ?_
   have hw:IntKind.wrap .i64 ((i:Int)+1)=((i+1:Nat):Int):=by rw [wrap64 (by omega) (by omega)];omega
   by_cases hp:p=bl s
   ·have he:eqT (mkS p) s=true:=by rw [zel,zbJ];exact zdt hp
    simp only [zcn,zdt h,zct,b1,b3',zob,zab,he,List.findIdx?_cons,zdt hp,if_true]
    rfl
   ·have he:eqT (mkS p) s=false:=by rw [zel,zbJ];exact zdf hp
    have:=ih (i+1) hd' (by omega)
    simp only [zcn,zdt h,zct,b1,b3',zob,zab,he,zcf,hw,List.findIdx?_cons,zdf hp]
    rw [this]
    cases r.findIdx? (fun x=>decide (x=bl s)) with
    | none=>rfl
    | some k=>simp;omega
def inT (l:List (List UInt8)) (s:List UInt8):Int:=match l.findIdx? (fun x=>decide (x=s)) with | none=> -1 | some k=>(k:Int)
theorem in_ok [Sym] (l:List (List UInt8)) (hl:l.length≤1099511627776) (s:ByteArray) (v:Value) (st:SS) (hv:Rd st v (strs l) 1 l.length):∃ n,st.next≤n∧cc 47 [v,.string s] st=some (.int .i64 (inT l (bl s)),st.adv n):=by
 have h:=ztC l hl s v (st.ro st.next) hv l 0 rfl (Nat.zero_le _)
 have h':zbP 2 [.string s,v,.int .i64 l.length,.int .i64 0] (st.ro st.next)=_:=h
 refine ⟨st.next,zlr _,ziT v s st ?_⟩
 simp only [zgq,hv.len,zob,zaa]
 rw [h',zob]
 unfold inT
 cases l.findIdx? (fun x=>decide (x=bl s)) with
 | none=>rfl
 | some k=>simp
end Go.Proofs.YtifploedaacedaaGreatDoorE
namespace Go.Proofs.YtifploedaacedaaGreatDoorE
open Go Go.E Go.Proofs
abbrev Wd:=List Int
def wRow (w:Wd):List Value:=w.map (.int .i64)
def wV (w:Wd):Value:=.agg (wRow w).toArray
theorem zff (w:Wd) (i:Nat):(wRow w)[i]?=(w[i]?).map (.int .i64):=by unfold wRow;rw [List.getElem?_map]
theorem za0 (w:Wd):(wRow w).length=w.length:=by simp [wRow]
theorem zfg (w:Wd):(wRow w).all one=true:=by simp [wRow,one]
def zbD (p:Int×Int):List Value:=[.int .i64 p.1,.int .i64 p.2]
def za3 (s tw a:Int):List (Int×Int):=
 if s=0 then [(a+1,1)] else if s=1 then [(tw,1)] else if s=2∨s=3 then [(a+1,1),(tw,1)] else if s=5 then [(tw,64)] else if s=6 then [(tw,16)] else []
theorem zsv [Sym] (w:Wd) (a s tw:Int) (h8:w[8]?=some s) (h10:w[10]?=some tw) (h0:0≤a) (h1:a≤1099511627776) (st:SS) (hll:st.lim≤st.next):
  ∃ v st',cc 62 [wV w,.int .i64 a] st=some (v,st')∧Ext st st'∧Own st.next st' v (rowsF zbD (za3 s tw a)) 2 (za3 s tw a).length:=by
 have hw:IntKind.wrap .i64 (a+1)=a+1:=wrap64 (by omega) (by omega)
 have x1:Ext st (st.new (.cells (wRow w) 0)):=(Ext.refl st).new _
 have hm:(st.new (.cells (wRow w) 0)).mem.get st.next=some (.cells (wRow w) 0):=SS.new_get
 have l8:(st.new (.cells (wRow w) 0)).ld st.next 8=some (.int .i64 s):=by rw [SS.ld_cells hm,zff,h8];rfl
 have l10:(st.new (.cells (wRow w) 0)).ld st.next 10=some (.int .i64 tw):=by rw [SS.ld_cells hm,zff,h10];rfl
 have hc:(wV w).cells.toList=wRow w:=zaD _
 have mk:∀ (l:List (Int×Int)),l≠[]→∃ v st',some (Value.slice (some ⟨(st.new (.cells (wRow w) 0)).next,0,none⟩) l.length l.length,(st.new (.cells (wRow w) 0)).new (.cells (rowsF zbD l) 2))=some (v,st')∧Ext st st'∧Own st.next st' v (rowsF zbD l) 2 l.length:=fun l hl=>by
  have hne:l.length≠0:=fun e=>hl (List.length_eq_zero_iff.1 e)
  exact ⟨_,_,rfl,x1.new _,⟨zgR (f:=zbD) (z:=2) (fun _=>rfl) l,.inr ⟨_,rfl,by omega,SS.new_get,by simp,by simp⟩⟩⟩
 have nil:∃ v st',some (Value.slice none 0 0,(st.new (.cells (wRow w) 0)))=some (v,st')∧Ext st st'∧Own st.next st' v (rowsF zbD []) 2 0:=⟨_,_,rfl,x1,Own.nil _ _ _⟩
 unfold za3
 by_cases s0:s=0
 ·rw [if_pos s0]
  obtain ⟨v,st',c,r⟩:=mk [(a+1,1)] (by simp)
  refine ⟨v,st',zb4 _ _ st ?_,r⟩
  simp only [zcC,hc,l8,l10,zob,zaa,zdt s0,zct,hw]
  exact c
 rw [if_neg s0]
 by_cases s1:s=1
 ·rw [if_pos s1]
  obtain ⟨v,st',c,r⟩:=mk [(tw,1)] (by simp)
  refine ⟨v,st',zb4 _ _ st ?_,r⟩
  simp only [zcC,hc,l8,l10,zob,zaa,zdf s0,zdt s1,zct,zcf,hw]
  exact c
 rw [if_neg s1]
 by_cases s2:s=2
 ·rw [if_pos (.inl s2)]
  obtain ⟨v,st',c,r⟩:=mk [(a+1,1),(tw,1)] (by simp)
  refine ⟨v,st',zb4 _ _ st ?_,r⟩
  simp only [zcC,hc,l8,l10,zob,zaa,zdf s0,zdf s1,zdt s2,zct,zcf,hw]
  exact c
 by_cases s3:s=3
 ·rw [if_pos (.inr s3)]
  obtain ⟨v,st',c,r⟩:=mk [(a+1,1),(tw,1)] (by simp)
  refine ⟨v,st',zb4 _ _ st ?_,r⟩
  simp only [zcC,hc,l8,l10,zob,zaa,zdf s0,zdf s1,zdf s2,zdt s3,zct,zcf,hw]
  exact c
 rw [if_neg (fun h=>h.elim s2 s3)]
 by_cases s5:s=5
 ·rw [if_pos s5]
  obtain ⟨v,st',c,r⟩:=mk [(tw,64)] (by simp)
  refine ⟨v,st',zb4 _ _ st ?_,r⟩
  simp only [zcC,hc,l8,l10,zob,zaa,zdf s0,zdf s1,zdf s2,zdf s3,zdt s5,zct,zcf,hw]
  exact c
 rw [if_neg s5]
 by_cases s6:s=6
 ·rw [if_pos s6]
  obtain ⟨v,st',c,r⟩:=mk [(tw,16)] (by simp)
  refine ⟨v,st',zb4 _ _ st ?_,r⟩
  simp only [zcC,hc,l8,l10,zob,zaa,zdf s0,zdf s1,zdf s2,zdf s3,zdf s5,zdt s6,zct,zcf,hw]
  exact c
 rw [if_neg s6]
 obtain ⟨v,st',c,r⟩:=nil
 refine ⟨v,st',zb4 _ _ st ?_,r⟩
 simp only [zcC,hc,l8,l10,zob,zaa,zdf s0,zdf s1,zdf s2,zdf s3,zdf s5,zdf s6,zct,zcf,hw]
 exact c
theorem zq7 [Sym] (w:Wd) (a s tw:Int) (h8:w[8]?=some s) (h10:w[10]?=some tw) (h0:0≤a) (h1:a≤1099511627776) (st:SS) (hll:st.lim≤st.next):
  ∃ v st',cc 21 [wV w,.int .i64 a] st=some (v,st')∧Ext st st'∧Own st.next st' v (rowsF zbD (za3 s tw a)) 2 (za3 s tw a).length:=by
 have hw:IntKind.wrap .i64 (a+1)=a+1:=wrap64 (by omega) (by omega)
 have x1:Ext st (st.new (.cells (wRow w) 0)):=(Ext.refl st).new _
 have hm:(st.new (.cells (wRow w) 0)).mem.get st.next=some (.cells (wRow w) 0):=SS.new_get
 have l8:(st.new (.cells (wRow w) 0)).ld st.next 8=some (.int .i64 s):=by rw [SS.ld_cells hm,zff,h8];rfl
 have l10:(st.new (.cells (wRow w) 0)).ld st.next 10=some (.int .i64 tw):=by rw [SS.ld_cells hm,zff,h10];rfl
 have hc:(wV w).cells.toList=wRow w:=zaD _
 have mk:∀ (l:List (Int×Int)),l≠[]→∃ v st',some (Value.slice (some ⟨(st.new (.cells (wRow w) 0)).next,0,none⟩) l.length l.length,(st.new (.cells (wRow w) 0)).new (.cells (rowsF zbD l) 2))=some (v,st')∧Ext st st'∧Own st.next st' v (rowsF zbD l) 2 l.length:=fun l hl=>by
  have hne:l.length≠0:=fun e=>hl (List.length_eq_zero_iff.1 e)
  exact ⟨_,_,rfl,x1.new _,⟨zgR (f:=zbD) (z:=2) (fun _=>rfl) l,.inr ⟨_,rfl,by omega,SS.new_get,by simp,by simp⟩⟩⟩
 have nil:∃ v st',some (Value.slice none 0 0,(st.new (.cells (wRow w) 0)))=some (v,st')∧Ext st st'∧Own st.next st' v (rowsF zbD []) 2 0:=⟨_,_,rfl,x1,Own.nil _ _ _⟩
 have go:∀ (l:List (Int×Int)),(∃ v st',zaR cc zea (wV w) a st=some (v,st')∧Ext st st'∧Own st.next st' v (rowsF zbD l) 2 l.length)→
   ∃ v st',cc 21 [wV w,.int .i64 a] st=some (v,st')∧Ext st st'∧Own st.next st' v (rowsF zbD l) 2 l.length:=fun l ⟨v,st',c,r⟩=>⟨v,st',zg8 _ _ st c,r⟩
 refine go _ ?_
 unfold za3
 by_cases s0:s=0
 ·rw [if_pos s0]
  simp only [zaR,hc,l8,l10,zob,zaa,zdt s0,zct,hw]
  exact mk [(a+1,1)] (by simp)
 rw [if_neg s0]
 by_cases s1:s=1
 ·rw [if_pos s1]
  simp only [zaR,hc,l8,l10,zob,zaa,zdf s0,zdt s1,zct,zcf,hw]
  exact mk [(tw,1)] (by simp)
 rw [if_neg s1]
 by_cases s2:s=2
 ·rw [if_pos (.inl s2)]
  simp only [zaR,hc,l8,l10,zob,zaa,zdf s0,zdf s1,zdt s2,zct,zcf,hw]
  exact mk [(a+1,1),(tw,1)] (by simp)
 by_cases s3:s=3
 ·rw [if_pos (.inr s3)]
  simp only [zaR,hc,l8,l10,zob,zaa,zdf s0,zdf s1,zdf s2,zdt s3,zct,zcf,hw]
  exact mk [(a+1,1),(tw,1)] (by simp)
 rw [if_neg (fun h=>h.elim s2 s3)]
 by_cases s5:s=5
 ·rw [if_pos s5]
  simp only [zaR,hc,l8,l10,zob,zaa,zdf s0,zdf s1,zdf s2,zdf s3,zdt s5,zct,zcf,hw]
  exact mk [(tw,64)] (by simp)
 rw [if_neg s5]
 by_cases s6:s=6
 ·rw [if_pos s6]
  simp only [zaR,hc,l8,l10,zob,zaa,zdf s0,zdf s1,zdf s2,zdf s3,zdf s5,zdt s6,zct,zcf,hw]
  exact mk [(tw,16)] (by simp)
 rw [if_neg s6]
 simp only [zaR,hc,l8,l10,zob,zaa,zdf s0,zdf s1,zdf s2,zdf s3,zdf s5,zdf s6,zct,zcf,hw]
 exact nil
end Go.Proofs.YtifploedaacedaaGreatDoorE
namespace Go.Proofs.YtifploedaacedaaGreatDoorE
set_option maxRecDepth 20000
open Go Go.E Go.Proofs
noncomputable def ziw (cf:zak) (lf:zac) (name':ByteArray) (st:SS):Option (Value×SS):=
 (cf 115 [.string name'] (st.ro st.next)).bind fun a=>
 ((some a.1).bind (asI .i64)).bind fun b=>
 cond (decide (0≤b)) (
 (za6 (ptr 0 0) 12 b 2).bind fun c=>
 ((a.2.ld c.1 (c.2+1)).bind (asI .i64)).bind fun d=>
 some (.int .i64 d,st.adv a.2.next)) (
 some (.int .i64 0,st.adv a.2.next))
noncomputable abbrev znj:zac:=lS Tryz.prog Lk0 Tryz.f98 zau
theorem znk:Lk0.func 98=some (98,Tryz.f98):=by kernel_rfl
theorem znl [Sym] (name':ByteArray) (st:SS) {r:Value×SS} (h:ziw cc znj name' st=some r):cc 98 [.string name'] st=some r:=
 zad (li:=zau) zai zal znk rfl (fun _=>rfl) (.trans (by kernel_rfl) h)
noncomputable def zkm (cf:zak) (lf:zac) (name':ByteArray) (st:SS):Option (Value×SS):=
 let a:SS:=(st.ro st.next).new (.cells [.string name'] 0)
 (zlc 0 0 12 2 0 12).bind fun b=>
 (cf 134 [b,.func (.func 135) #[] #[ptr ((st.ro st.next).next) 0]] a).bind fun c=>
 ((some c.1).bind (asI .i64)).bind fun d=>
 some (.int .i64 d,st.adv c.2.next)
noncomputable abbrev zme:zac:=lS Tryz.prog Lk0 Tryz.f115 zau
theorem zmf:Lk0.func 115=some (115,Tryz.f115):=by kernel_rfl
theorem zmh [Sym] (name':ByteArray) (st:SS) {r:Value×SS} (h:zkm cc zme name' st=some r):cc 115 [.string name'] st=some r:=
 zad (li:=zau) zai zal zmf rfl (fun _=>rfl) (.trans (by kernel_rfl) h)
def zjm:LoopI:=⟨[(0,.any),(1,.any),(7,.int .i64),(8,.int .i64)],[(.exit 0,[]),(.ret,[(4,.int .i64)])]⟩
def zkn (n:Nat):Option LoopI:=cond (Nat.beq n 2) (some zjm) (none)
noncomputable def zkJ (cf:zak) (lf:zac) (s':Value) (q':Nat) (st:SS):Option (Value×SS):=
 ((lenV s').bind (asI .i64)).bind fun a=>
 (lf 2 [s',.func (.func 135) #[] #[ptr q' 0],.int .i64 a,.int .i64 0] (st.ro st.next)).bind fun b=>
 cond (Nat.beq b.1 0) (
 some (.int .i64 (-1),st.adv b.2.2.next)) (
 ((b.2.1[0]?).bind (asI .i64)).bind fun c=>
 some (.int .i64 c,st.adv b.2.2.next))
noncomputable abbrev zdp:zac:=lS Tryz.prog Lk0 Tryz.f134 zkn
theorem zoP:Lk0.func 134=some (134,Tryz.f134):=by kernel_rfl
theorem zko [Sym] (s':Value) (q':Nat) (st:SS) {r:Value×SS} (h:zkJ cc zdp s' q' st=some r):cc 134 [s',.func (.func 135) #[] #[ptr q' 0]] st=some r:=
 zad (li:=zkn) zai zal zoP rfl (fun _=>rfl) (.trans (by kernel_rfl) h)
noncomputable def zg9 (cf:zak) (lf:zac) (s':Value) (q':Nat) (t7':Int) (t8':Int) (st:SS):Option (Nat×List Value×SS):=
 cond (decide (t8'<t7')) (
 (zar s' t8' 2).bind fun a=>
 (st.ldN a.1 a.2 2).bind fun b=>
 (cf 135 [b,ptr q' 0] st).bind fun c=>
 ((some c.1).bind asB).bind fun d=>
 cond d (
 some (1,[.int .i64 t8'],c.2)) (
 let e:Int:=IntKind.wrap .i64 (t8'+1)
 lf 2 [s',.func (.func 135) #[] #[ptr q' 0],.int .i64 t7',.int .i64 e] c.2)) (
 some (0,[],st))
theorem zfh [Sym] (s':Value) (q':Nat) (t7':Int) (t8':Int) (st:SS) {r:Nat×List Value×SS} (h:zg9 cc zdp s' q' t7' t8' st=some r):zdp 2 [s',.func (.func 135) #[] #[ptr q' 0],.int .i64 t7',.int .i64 t8'] st=some r:=
 zaC zai zal (key:=2) (I:=zjm) rfl (by kernel_rfl) (by kernel_rfl) rfl rfl (.trans (by kernel_rfl) h)
noncomputable def zpd (cf:zak) (lf:zac) (f':Value) (x1':Value) (st:SS):Option (Value×SS):=
 let a:SS:=(st.ro st.next).new (.cells (f':Value).cells.toList 0)
 ((a.ld ((st.ro st.next).next) 0).bind asS).bind fun b=>
 (addr? x1').bind fun c=>
 ((a.ld c.1 c.2).bind asS).bind fun d=>
 some (.bool (eqT b d),st.adv a.next)
noncomputable abbrev zpW:zac:=lS Tryz.prog Lk0 Tryz.f135 zau
theorem zpX:Lk0.func 135=some (135,Tryz.f135):=by kernel_rfl
theorem zpY [Sym] (f':Value) (x1':Value) (st:SS) {r:Value×SS} (h:zpd cc zpW f' x1' st=some r):cc 135 [f',x1'] st=some r:=
 zad (li:=zau) zai zal zpX rfl (fun _=>rfl) (.trans (by kernel_rfl) h)
noncomputable def zgS (cf:zak) (lf:zac) (w':Value) (name':ByteArray) (x':Int) (st:SS):Option (Value×SS):=
 let a:SS:=(st.ro st.next).new (.cells (w':Value).cells.toList 0)
 let b:SS:=a.new (.cells [.int .i64 0,.int .i64 0,.int .i64 0,.int .i64 0,.int .i64 0,.int .i64 0,.int .i64 0,.int .i64 0,.int .i64 0,.int .i64 0,.int .i64 0,.int .i64 0] 0)
 (cf 115 [.string name'] b).bind fun c=>
 ((some c.1).bind (asI .i64)).bind fun d=>
 cond (decide (d<0)) (
 (c.2.ldN ((st.ro st.next).next) 0 12).bind fun e=>
 (c.2.stV a.next 0 12 e).bind fun f=>
 (f.rdN a.next 0 12).bind fun g=>
 cond (flat3 (.tuple #[g,.int .i64 5])) (some (.tuple #[g,.int .i64 5],st.adv f.next)) none) (
 (za6 (ptr 0 0) 12 d 2).bind fun h=>
 ((c.2.ld h.1 (h.2+1)).bind (asI .i64)).bind fun i=>
 (cf 118 [.int .i64 x',.int .i64 i] c.2).bind fun j=>
 ((some j.1).bind asB).bind fun k=>
 cond (!k) (
 (j.2.ldN ((st.ro st.next).next) 0 12).bind fun l=>
 (j.2.stV a.next 0 12 l).bind fun m=>
 (m.rdN a.next 0 12).bind fun n=>
 cond (flat3 (.tuple #[n,.int .i64 1])) (some (.tuple #[n,.int .i64 1],st.adv m.next)) none) (
 (cf 53 [ptr ((st.ro st.next).next) 0] j.2).bind fun o=>
 (zar o.1 d 1).bind fun p=>
 (o.2.ld p.1 p.2).bind fun q=>
 (zas q).bind fun r=>
 (addr? r).bind fun s=>
 (o.2.st s.1 s.2 [.int .i64 x']).bind fun t=>
 (t.ldN ((st.ro st.next).next) 0 12).bind fun u=>
 (t.stV a.next 0 12 u).bind fun v=>
 (v.rdN a.next 0 12).bind fun w=>
 cond (flat3 (.tuple #[w,.int .i64 0])) (some (.tuple #[w,.int .i64 0],st.adv v.next)) none))
noncomputable abbrev zn8:zac:=lS Tryz.prog Lk0 Tryz.f100 zau
theorem zn9:Lk0.func 100=some (100,Tryz.f100):=by kernel_rfl
theorem zgr [Sym] (w':Value) (name':ByteArray) (x':Int) (st:SS) {r:Value×SS} (h:zgS cc zn8 w' name' x' st=some r):cc 100 [w',.string name',.int .i64 x'] st=some r:=
 zad (li:=zau) zai zal zn9 rfl (fun _=>rfl) (.trans (by kernel_rfl) h)
noncomputable def zix (cf:zak) (lf:zac) (x':Int) (bits':Int) (st:SS):Option (Value×SS):=
 cond (decide (0≤x')) (
 ((aI .shr .i64 x' bits').bind (asI .i64)).bind fun a=>
 some (.bool (decide (a=0)),st.adv (st.ro st.next).next)) (
 some (.bool false,st.adv (st.ro st.next).next))
noncomputable abbrev znm:zac:=lS Tryz.prog Lk0 Tryz.f118 zau
theorem znn:Lk0.func 118=some (118,Tryz.f118):=by kernel_rfl
theorem zno [Sym] (x':Int) (bits':Int) (st:SS) {r:Value×SS} (h:zix cc znm x' bits' st=some r):cc 118 [.int .i64 x',.int .i64 bits'] st=some r:=
 zad (li:=zau) zai zal znn rfl (fun _=>rfl) (.trans (by kernel_rfl) h)
def zhC:LoopI:=⟨[(5,.any),(6,.int .i64),(7,.int .i64)],[(.exit 0,[]),(.ret,[(2,.bool)])]⟩
def ziM (n:Nat):Option LoopI:=cond (Nat.beq n 2) (some zhC) (none)
noncomputable def ziy (cf:zak) (lf:zac) (w':Value) (st:SS):Option (Value×SS):=
 let a:SS:=(st.ro st.next).new (.cells (w':Value).cells.toList 0)
 (cf 53 [ptr ((st.ro st.next).next) 0] a).bind fun b=>
 ((lenV b.1).bind (asI .i64)).bind fun c=>
 (lf 2 [b.1,.int .i64 c,.int .i64 0] b.2).bind fun d=>
 cond (Nat.beq d.1 0) (
 some (.bool true,st.adv d.2.2.next)) (
 ((d.2.1[0]?).bind asB).bind fun e=>
 some (.bool e,st.adv d.2.2.next))
noncomputable abbrev zde:zac:=lS Tryz.prog Lk0 Tryz.f101 ziM
theorem znp:Lk0.func 101=some (101,Tryz.f101):=by kernel_rfl
theorem znq [Sym] (w':Value) (st:SS) {r:Value×SS} (h:ziy cc zde w' st=some r):cc 101 [w'] st=some r:=
 zad (li:=ziM) zai zal znp rfl (fun _=>rfl) (.trans (by kernel_rfl) h)
noncomputable def zfE (cf:zak) (lf:zac) (t5':Value) (t6':Int) (t7':Int) (st:SS):Option (Nat×List Value×SS):=
 cond (decide (t7'<t6')) (
 (zar t5' t7' 1).bind fun a=>
 (st.ld a.1 a.2).bind fun b=>
 (zas b).bind fun c=>
 (addr? c).bind fun d=>
 ((st.ld d.1 d.2).bind (asI .i64)).bind fun e=>
 (za6 (ptr 0 0) 12 t7' 2).bind fun f=>
 ((st.ld f.1 (f.2+1)).bind (asI .i64)).bind fun g=>
 (cf 118 [.int .i64 e,.int .i64 g] st).bind fun h=>
 ((some h.1).bind asB).bind fun i=>
 cond (!i) (
 some (1,[.bool false],h.2)) (
 let j:Int:=IntKind.wrap .i64 (t7'+1)
 lf 2 [t5',.int .i64 t6',.int .i64 j] h.2)) (
 some (0,[],st))
theorem zem [Sym] (t5':Value) (t6':Int) (t7':Int) (st:SS) {r:Nat×List Value×SS} (h:zfE cc zde t5' t6' t7' st=some r):zde 2 [t5',.int .i64 t6',.int .i64 t7'] st=some r:=
 zaC zai zal (key:=2) (I:=zhC) rfl (by kernel_rfl) (by kernel_rfl) rfl rfl (.trans (by kernel_rfl) h)
def zhD:LoopI:=⟨[(4,.int .u64),(5,.int .i64),(11,.any),(12,.int .i64),(13,.int .i64)],[(.exit 0,[(4,.int .u64)])]⟩
def ziN (n:Nat):Option LoopI:=cond (Nat.beq n 5) (some zhD) (none)
noncomputable def ziz (cf:zak) (lf:zac) (w':Value) (st:SS):Option (Value×SS):=
 let a:SS:=(st.ro st.next).new (.cells (w':Value).cells.toList 0)
 (a.ldN ((st.ro st.next).next) 0 12).bind fun b=>
 (cf 101 [b] a).bind fun c=>
 ((some c.1).bind asB).bind fun d=>
 cond (!d) (
 some (.tuple #[.int .u64 0,.int .i64 1],st.adv c.2.next)) (
 (cf 53 [ptr ((st.ro st.next).next) 0] c.2).bind fun e=>
 ((lenV e.1).bind (asI .i64)).bind fun f=>
 (lf 5 [.int .u64 0,.int .i64 0,e.1,.int .i64 f,.int .i64 0] e.2).bind fun g=>
 ((g.2.1[0]?).bind (asI .u64)).bind fun h=>
 some (.tuple #[.int .u64 h,.int .i64 0],st.adv g.2.2.next))
noncomputable abbrev zdg:zac:=lS Tryz.prog Lk0 Tryz.f73 ziN
theorem znr:Lk0.func 73=some (73,Tryz.f73):=by kernel_rfl
theorem ziO [Sym] (w':Value) (st:SS) {r:Value×SS} (h:ziz cc zdg w' st=some r):cc 73 [w'] st=some r:=
 zad (li:=ziN) zai zal znr rfl (fun _=>rfl) (.trans (by kernel_rfl) h)
noncomputable def ziP (cf:zak) (lf:zac) (x':Int) (at0':Int) (t11':Value) (t12':Int) (t13':Int) (st:SS):Option (Nat×List Value×SS):=
 cond (decide (t13'<t12')) (
 (zar t11' t13' 1).bind fun a=>
 (st.ld a.1 a.2).bind fun b=>
 (zas b).bind fun c=>
 (addr? c).bind fun d=>
 ((st.ld d.1 d.2).bind (asI .i64)).bind fun e=>
 let f:Int:=IntKind.wrap .u64 e
 ((aI .shl .u64 f at0').bind (asI .u64)).bind fun g=>
 let h:Int:=orI .u64 x' g
 (za6 (ptr 0 0) 12 t13' 2).bind fun i=>
 ((st.ld i.1 (i.2+1)).bind (asI .i64)).bind fun j=>
 let k:Int:=IntKind.wrap .i64 (at0'+j)
 let l:Int:=IntKind.wrap .i64 (t13'+1)
 lf 5 [.int .u64 h,.int .i64 k,t11',.int .i64 t12',.int .i64 l] st) (
 some (0,[.int .u64 x'],st))
theorem zgt [Sym] (x':Int) (at0':Int) (t11':Value) (t12':Int) (t13':Int) (st:SS) {r:Nat×List Value×SS} (h:ziP cc zdg x' at0' t11' t12' t13' st=some r):zdg 5 [.int .u64 x',.int .i64 at0',t11',.int .i64 t12',.int .i64 t13'] st=some r:=
 zaC zai zal (key:=5) (I:=zhD) rfl (by kernel_rfl) (by kernel_rfl) rfl rfl (.trans (by kernel_rfl) h)
noncomputable def zjn (cf:zak) (lf:zac) (w':Value) (st:SS):Option (Value×SS):=
 (zas w').bind fun a=>
 (addr? a).bind fun b=>
 (zas w').bind fun c=>
 (addr? c).bind fun d=>
 (zas w').bind fun e=>
 (addr? e).bind fun f=>
 (zas w').bind fun g=>
 (addr? g).bind fun h=>
 (zas w').bind fun i=>
 (addr? i).bind fun j=>
 (zas w').bind fun k=>
 (addr? k).bind fun l=>
 (zas w').bind fun m=>
 (addr? m).bind fun n=>
 (zas w').bind fun o=>
 (addr? o).bind fun p=>
 (zas w').bind fun q=>
 (addr? q).bind fun r=>
 (zas w').bind fun s=>
 (addr? s).bind fun t=>
 (zas w').bind fun u=>
 (addr? u).bind fun v=>
 (zas w').bind fun w=>
 (addr? w).bind fun x=>
 let y:SS:=st.new (.cells ([ptr b.1 b.2,ptr d.1 (d.2+1),ptr f.1 (f.2+2),ptr h.1 (h.2+3),ptr j.1 (j.2+4),ptr l.1 (l.2+5),ptr n.1 (n.2+6),ptr p.1 (p.2+7),ptr r.1 (r.2+8),ptr t.1 (t.2+9),ptr v.1 (v.2+10),ptr x.1 (x.2+11)]) 1)
 some (.slice (some ⟨st.next,0,none⟩) 12 12,y)
noncomputable abbrev zlw:zac:=lS Tryz.prog Lk0 Tryz.f53 zau
theorem zlx:Lk0.func 53=some (53,Tryz.f53):=by kernel_rfl
theorem zly [Sym] (w':Value) (st:SS) {r:Value×SS} (h:zjn cc zlw w' st=some r):cc 53 [w'] st=some r:=
 zad (li:=zau) zai zal zlx rfl (fun _=>rfl) (.trans (by kernel_rfl) h)
end Go.Proofs.YtifploedaacedaaGreatDoorE
namespace Go.Proofs.YtifploedaacedaaGreatDoorE
open Go Go.E Go.Proofs
def zeb (x:List UInt8×Nat):List Value:=[.string (mkS x.1),.int .i64 x.2]
theorem zjo:fieldsC=rowsF zeb zbx:=rfl
def zgT (f:List UInt8) (x:List UInt8×Nat):Bool:=decide (x.1=f)
def zeL (f:List UInt8):Option Nat:=zbx.findIdx? (zgT f)
def ixI:Option Nat→Int
 | none=> -1
 | some k=>(k:Int)
theorem ztD {i:Nat} {x:List UInt8×Nat} (h:zbx[i]?=some x):cut fieldsC (0+i*2) 2=some (zeb x):=by
 rw [Nat.zero_add,zjo]
 exact zqW (zbr (f:=zeb) (z:=2) (fun _=>rfl) zbx i x h) rfl
theorem zsw {i:Nat} {x:List UInt8×Nat} (h:zbx[i]?=some x):fieldsC[0+i*2+1]?=some (.int .i64 x.2):=by
 have:=zbr (f:=zeb) (z:=2) (fun _=>rfl) zbx i x h
 rw [← zjo] at this
 have h1:=congrArg (·[1]?) this
 simp only [List.getElem?_take_of_lt (show 1<2 by omega),List.getElem?_drop] at h1
 rw [Nat.zero_add]
 exact h1
theorem zpZ [Sym] (x:List UInt8×Nat) (f:List UInt8) (q:Nat) (st:SS) (hq:st.mem.get q=some (.cells [.string (mkS f)] 0)) (hlt:q<st.next):∃ n,st.next≤n∧cc 135 [.agg (zeb x).toArray,ptr q 0] st=some (.bool (zgT f x),st.adv n):=by
 refine ⟨st.next+1,by omega,zpY _ _ st ?_⟩
 have l0:((st.ro st.next).new (.cells (zeb x) 0)).ld st.next 0=some (.string (mkS x.1)):=by
  have hm:((st.ro st.next).new (.cells (zeb x) 0)).mem.get st.next=some (.cells (zeb x) 0):=SS.new_get (st:=st.ro st.next)
  rw [SS.ld_cells hm];rfl
 have l1:((st.ro st.next).new (.cells (zeb x) 0)).ld q 0=some (.string (mkS f)):=by
  rw [SS.ld_cells (c:=[.string (mkS f)]) (z:=0) (by rw [SS.new_old (by simp;omega)];exact hq)];rfl
 have he:eqT (mkS x.1) (mkS f)=zgT f x:=by rw [zel,zbJ,zbJ];rfl
 simp only [zpd,zaD,SS.ro_next,l0,zob,zab,zaf,l1,he]
 rfl
theorem zsx [Sym] (f:List UInt8) (q:Nat) (st0:SS) (hg:Gd st0) (hq:st0.mem.get q=some (.cells [.string (mkS f)] 0)) (hlt:q<st0.next):
  ∀ (k j:Nat) (st:SS),12=k+j→Ext st0 st→∃ e vs st',zdp 2 [.slice (some ⟨0,0,none⟩) 12 12,.func (.func 135) #[] #[ptr q 0],.int .i64 12,.int .i64 j] st=some (e,vs,st')∧Ext st0 st'∧
   ((e=0∧vs=[]∧(zbx.drop j).findIdx? (zgT f)=none)∨(∃ m:Nat,e=1∧(zbx.drop j).findIdx? (zgT f)=some m∧vs=[.int .i64 ((j+m:Nat):Int)])):=by
 intro k
 induction k with
 | zero=>
   intro j st hk he
   have:j=12:=by omega
   subst this
   exact ⟨0,[],st,zfh _ q _ _ st rfl,he,.inl ⟨rfl,rfl,rfl⟩⟩
 | succ k ih=>
   intro j st hk he
   obtain ⟨x,hx⟩:∃ x,zbx[j]?=some x:=⟨_,zge (by show j<12;omega)⟩
   have hjl:(j:Int)<12:=by omega
   have hel:zar (.slice (some ⟨0,0,none⟩) 12 12) (j:Int) 2=some (0,0+j*2):=by
    unfold zar
    have h1:(0:Int)≤(j:Int):=by omega
    have h2:(j:Int)<((12:Nat):Int):=by omega
    simp only [zdt h1,zdt h2,Bool.and_self,zct,Int.toNat_natCast]
   have hld:st.ldN 0 (0+j*2) 2=some (.agg (zeb x).toArray):=by rw [SS.ldN_table (hg.ext he).gF,ztD hx];rfl
   obtain ⟨n,hn,c1⟩:=zpZ x f q st (he.get hlt hq) (zll hlt he.next)
   have hd:=drop_cons hx
   have hw:=za9 (i:=j) (by omega)
   by_cases hf:zgT f x=true
   ·refine ⟨1,[.int .i64 j],st.adv n,zfh _ q _ _ st ?_,he.adv (by have:=he.next;omega),.inr ⟨0,rfl,?_,rfl⟩⟩
    ·rw [hf] at c1
     simp only [zg9,zdt hjl,zct,hel,zob,hld,c1,zan]
    ·rw [hd,List.findIdx?_cons,hf];rfl
   ·have hf':zgT f x=false:=by simpa using hf
    obtain ⟨e,vs,st',d1,d2,d3⟩:=ih (j+1) (st.adv n) (by omega) (he.adv (by have:=he.next;omega))
    rw [hf'] at c1
    refine ⟨e,vs,st',zfh _ q _ _ st ?_,d2,?_⟩
    ·simp only [zg9,zdt hjl,zct,hel,zob,hld,c1,zan,zcf,hw]
     exact d1
    ·rw [hd,List.findIdx?_cons,hf']
     rcases d3 with ⟨e1,e2,e3⟩ | ⟨m,e1,e2,e3⟩
     ·exact .inl ⟨e1,e2,by rw [e3];rfl⟩
     ·exact .inr ⟨m+1,e1,by rw [e2];rfl,by rw [e3,show j+1+m=j+(m+1) by omega]⟩
theorem zoa [Sym] (f:List UInt8) (st:SS) (hg:Gd st):∃ n,st.next≤n∧cc 115 [.string (mkS f)] st=some (.int .i64 (ixI (zeL f)),st.adv n):=by
 have g1:Gd ((st.ro st.next).new (.cells [.string (mkS f)] 0)):=(hg.ro (n:=st.next)).ext ((Ext.refl _).new _)
 have hm:((st.ro st.next).new (.cells [.string (mkS f)] 0)).mem.get st.next=some (.cells [.string (mkS f)] 0):=SS.new_get (st:=st.ro st.next)
 have g2:=g1.ro (n:=((st.ro st.next).new (.cells [.string (mkS f)] 0)).next)
 obtain ⟨e,vs,st',d1,d2,d3⟩:=zsx f st.next _ g2 hm (by simp) 12 0 _ (by omega) (.refl _)
 have d1':zdp 2 [.slice (some ⟨0,0,none⟩) 12 12,.func (.func 135) #[] #[ptr st.next 0],.int .i64 12,.int .i64 0] (((st.ro st.next).new (.cells [.string (mkS f)] 0)).ro ((st.ro st.next).new (.cells [.string (mkS f)] 0)).next)=_:=d1
 have hnx:=d2.next
 simp at hnx
 have hsl:zlc 0 0 12 2 0 12=some (.slice (some ⟨0,0,none⟩) 12 12):=rfl
 have hlen:(lenV (.slice (some ⟨0,0,none⟩) 12 12)).bind (asI .i64)=some 12:=rfl
 have c:∀ z,(∃ e vs,zdp 2 [.slice (some ⟨0,0,none⟩) 12 12,.func (.func 135) #[] #[ptr st.next 0],.int .i64 12,.int .i64 0] (((st.ro st.next).new (.cells [.string (mkS f)] 0)).ro ((st.ro st.next).new (.cells [.string (mkS f)] 0)).next)=some (e,vs,st')∧((e=0∧z= -1)∨(e=1∧vs=[.int .i64 z])))→
   cc 134 [.slice (some ⟨0,0,none⟩) 12 12,.func (.func 135) #[] #[ptr st.next 0]] ((st.ro st.next).new (.cells [.string (mkS f)] 0))=some (.int .i64 z,((st.ro st.next).new (.cells [.string (mkS f)] 0)).adv st'.next):=by
  rintro z ⟨e,vs,h,⟨rfl,rfl⟩ | ⟨rfl,rfl⟩⟩
  ·refine zko _ _ _ ?_
   have hb0:Nat.beq 0 0=true:=rfl
   simp only [zkJ,hlen,zob,h,hb0,zct]
  ·refine zko _ _ _ ?_
   have hb0:Nat.beq 1 0=false:=rfl
   simp only [zkJ,hlen,zob,h,hb0,zcf,zgz,zaa]
 have c':=c (ixI (zeL f)) ⟨e,vs,d1',by
  rw [List.drop_zero] at d3
  rcases d3 with ⟨e1,e2,e3⟩ | ⟨m,e1,e2,e3⟩
  ·exact .inl ⟨e1,by unfold zeL;rw [e3];rfl⟩
  ·exact .inr ⟨e1,by unfold zeL;rw [e2,e3,Nat.zero_add];rfl⟩⟩
 refine ⟨st'.next,by omega,zmh _ st ?_⟩
 simp only [zkm,hsl,zob,SS.ro_next,c',zaa]
 rfl
theorem zkK {f:List UInt8} {k:Nat} (h:zeL f=some k):∃ x,zbx[k]?=some x∧x.1=f∧k<12:=by
 unfold zeL at h
 obtain ⟨hlt,hp,_⟩:=List.findIdx?_eq_some_iff_getElem.1 h
 exact ⟨_,zge hlt,by simpa [zgT] using hp,hlt⟩
def zaw (k:Nat):Nat:=((zbx[k]?).map (·.2)).getD 0
def zfY (f:List UInt8):Nat:=match zeL f with | none=>0 | some k=>zaw k
theorem znx {k:Nat} (h:k<12):za6 (ptr 0 0) 12 (k:Int) 2=some (0,0+k*2):=by
 have h1:(0:Int)≤(k:Int):=by omega
 have h2:(k:Int)<((12:Nat):Int):=by omega
 unfold ptr za6
 simp only [zdt h1,zdt h2,Bool.and_self,zct,Int.toNat_natCast]
theorem zlz {st:SS} (hg:Gd st) {k:Nat} (h:k<12):st.ld 0 (0+k*2+1)=some (.int .i64 (zaw k)):=by
 obtain ⟨x,hx⟩:∃ x,zbx[k]?=some x:=⟨_,zge (by show k<12;omega)⟩
 rw [SS.ld_table hg.gF,zsw hx]
 unfold zaw
 rw [hx];rfl
theorem ztE [Sym] (f:List UInt8) (st:SS) (hg:Gd st):∃ n,st.next≤n∧cc 98 [.string (mkS f)] st=some (.int .i64 (zfY f),st.adv n):=by
 obtain ⟨n,hn,c⟩:=zoa f (st.ro st.next) hg.ro
 refine ⟨n,hn,znl _ st ?_⟩
 unfold zfY
 cases hk:zeL f with
 | none=>
   rw [hk] at c
   have h0:¬ (0:Int)≤ixI none:=by decide
   simp only [ziw,c,zob,zaa,zdf h0,zcf]
   rfl
 | some k=>
   rw [hk] at c
   obtain ⟨x,_,_,hlt⟩:=zkK hk
   have h0:(0:Int)≤ixI (some k):=Int.natCast_nonneg k
   have e1:za6 (ptr 0 0) 12 (ixI (some k)) 2=some (0,0+k*2):=znx hlt
   have e2:((st.ro st.next).adv n).ld 0 (0+k*2+1)=some (.int .i64 (zaw k)):=zlz (hg.ro.ext ((Ext.refl _).adv hn)) hlt
   simp only [ziw,c,zob,zaa,zdt h0,zct,e1,e2]
   rfl
end Go.Proofs.YtifploedaacedaaGreatDoorE
namespace Go.Proofs.YtifploedaacedaaGreatDoorE
open Go Go.E Go.Proofs
def plRow (b:Nat):List Value:=(List.range 12).map fun i=>ptr b i
theorem zmV (b:Nat) {k:Nat} (h:k<12):(plRow b)[k]?=some (ptr b k):=by
 unfold plRow
 rw [List.getElem?_map,List.getElem?_range h];rfl
theorem zjq [Sym] (b:Nat) (st:SS):cc 53 [ptr b 0] st=some (.slice (some ⟨st.next,0,none⟩) 12 12,st.new (.cells (plRow b) 1)):=by
 refine zly _ st ?_
 have h1:zas (ptr b 0)=some (ptr b 0):=rfl
 simp only [zjn,h1,zob,zaf]
 rfl
def fitsT (x:Int) (n:Nat):Bool:=decide (0≤x∧x<2^n)
theorem zpe [Sym] (x:Int) (n:Nat) (hn:n≤62) (st:SS):cc 118 [.int .i64 x,.int .i64 n] st=some (.bool (fitsT x n),st.adv st.next):=by
 refine zno _ _ st ?_
 by_cases h:0≤x
 ·have hb:¬ ((n:Int)<0):=by omega
  have h1:(aI .shr .i64 x (n:Int)).bind (asI .i64)=some (x/2^n):=by
   have e:min ((n:Int)).toNat (IntKind.bits .i64)=n:=by
    show min ((n:Int)).toNat 64=n
    rw [Int.toNat_natCast];omega
   have e2:shrI .i64 x (n:Int)=x/2^n:=by
    unfold shrI
    rw [e]
    exact Int.fdiv_eq_ediv_of_nonneg x (Int.pow_nonneg (by omega))
   simp only [aI,zdf hb,zcf,zob,zaa,e2]
  have e3:decide (x/2^n=0)=fitsT x n:=by
   unfold fitsT
   have hp:(0:Int)<2^n:=Int.pow_pos (by omega)
   by_cases hx:x<2^n
   ·rw [zdt (Int.ediv_eq_zero_of_lt h hx),zdt ⟨h,hx⟩]
   ·rw [zdf (fun hc=>hx ?_),zdf (fun hc=>hx hc.2)]
    have:=Int.lt_ediv_add_one_mul_self x hp
    rw [hc] at this
    omega
  simp only [zix,zdt h,zct,h1,zob,e3]
  rfl
 ·have e3:fitsT x n=false:=zdf (fun hc=>h hc.1)
  simp only [zix,zdf h,zcf,e3]
  rfl
theorem zgU (k:Nat):zaw k≤11:=by
 by_cases h:k<12
 ·have:∀ k,k<12→zaw k≤11:=by decide+kernel
  exact this k h
 ·unfold zaw
  rw [List.getElem?_eq_none (by show 12≤k;omega)]
  decide
def zbF (w:Wd) (f:List UInt8) (x:Int):Wd×Int:=match zeL f with
 | none=>(w,5)
 | some k=>if fitsT x (zaw k)=true then (w.set k x,0) else (w,1)
theorem zcK (w:Wd) (f:List UInt8) (x:Int):(zbF w f x).1.length=w.length:=by
 unfold zbF
 repeat' split
 all_goals simp
theorem zlA (w:Wd) (z:Int):flat3 (.tuple #[wV w,.int .i64 z])=true:=by
 have:zav (wV w)=true:=by
  show ((wRow w).toArray.toList.all zbG)=true
  simp [wRow,zbG]
 show ([wV w,.int .i64 z].all zav)=true
 simp only [List.all_cons,this,Bool.true_and,List.all_nil,Bool.and_true]
 rfl
theorem zsy (w:Wd) (k:Nat) (x:Int):wRow (w.set k x)=(wRow w).set k (.int .i64 x):=by simp [wRow,List.map_set]
theorem zlB {row:List Value} {k:Nat} (h:k<row.length) (v:Value):zcv row k [v]=some (row.set k v):=by
 rw [zbw (by simp;omega)]
 congr 1
 rw [List.set_eq_take_append_cons_drop,if_pos h]
 simp
abbrev Z12:List Value:=[.int .i64 0,.int .i64 0,.int .i64 0,.int .i64 0,.int .i64 0,.int .i64 0,.int .i64 0,.int .i64 0,.int .i64 0,.int .i64 0,.int .i64 0,.int .i64 0]
theorem set_ok [Sym] (w:Wd) (hw:w.length=12) (f:List UInt8) (x:Int) (st:SS) (hg:Gd st):∃ n,st.next≤n∧cc 100 [wV w,.string (mkS f),.int .i64 x] st=some (.tuple #[wV (zbF w f x).1,.int .i64 (zbF w f x).2],st.adv n):=by
 have hc:(wV w).cells.toList=wRow w:=zaD _
 have hl:(wRow w).length=12:=by rw [za0,hw]
 have a0:At ((st.ro st.next).new (.cells (wRow w) 0)) st.next (wRow w):=At.new (st:=st.ro st.next) (zlr _) _
 have x1:Ext (st.ro st.next) ((st.ro st.next).new (.cells (wRow w) 0)):=(Ext.refl _).new _
 have a1:At (((st.ro st.next).new (.cells (wRow w) 0)).new (.cells Z12 0)) (st.next+1) Z12:=At.new (st:=(st.ro st.next).new (.cells (wRow w) 0)) (by simp) _
 have x2:Ext ((st.ro st.next).new (.cells (wRow w) 0)) (((st.ro st.next).new (.cells (wRow w) 0)).new (.cells Z12 0)):=(Ext.refl _).new _
 have g2:Gd (((st.ro st.next).new (.cells (wRow w) 0)).new (.cells Z12 0)):=(hg.ro (n:=st.next)).ext (x1.trans x2)
 have hn2:(((st.ro st.next).new (.cells (wRow w) 0)).new (.cells Z12 0)).next=st.next+2:=rfl
 obtain ⟨n3,hn3,c3⟩:=zoa f _ g2
 have x3:Ext (((st.ro st.next).new (.cells (wRow w) 0)).new (.cells Z12 0)) ((((st.ro st.next).new (.cells (wRow w) 0)).new (.cells Z12 0)).adv n3):=(Ext.refl _).adv hn3
 have a0':=(a0.ext x2).ext x3
 have a1':=a1.ext x3
 cases hk:zeL f with
 | none=>
   rw [hk] at c3
   have hs:zbF w f x=(w,5):=by unfold zbF;rw [hk]
   rw [hs]
   obtain ⟨s',f1,f2,f3,f4,_⟩:=zb7 (n:=12) a1' rfl a0' hl (zfg w)
   have h0:ixI none<0:=by decide
   refine ⟨s'.next,by have:=f4.next;simp at this;omega,zgr _ _ _ st ?_⟩
   have hz:=zlA w 5
   unfold wV at hz
   simp only [zgS,hc,SS.ro_next,SS.new_next,c3,zob,zaa,zdt h0,zct,f1,f2,f3,hz]
   rfl
 | some k=>
   rw [hk] at c3
   obtain ⟨fx,_,_,hlt⟩:=zkK hk
   have h0:¬ ixI (some k)<0:=by
    show ¬ (k:Int)<0
    omega
   have e1:za6 (ptr 0 0) 12 (ixI (some k)) 2=some (0,0+k*2):=znx hlt
   have e2:=zlz (g2.ext x3) hlt
   have c4:=zpe x (zaw k) (by have:=zgU k;omega) ((((st.ro st.next).new (.cells (wRow w) 0)).new (.cells Z12 0)).adv n3)
   have x4:Ext ((((st.ro st.next).new (.cells (wRow w) 0)).new (.cells Z12 0)).adv n3) (((((st.ro st.next).new (.cells (wRow w) 0)).new (.cells Z12 0)).adv n3).adv ((((st.ro st.next).new (.cells (wRow w) 0)).new (.cells Z12 0)).adv n3).next):=(Ext.refl _).adv (zlr _)
   have a0'':=a0'.ext x4
   have a1'':=a1'.ext x4
   by_cases hf:fitsT x (zaw k)=true
   ·rw [hf] at c4
    have hs:zbF w f x=(w.set k x,0):=by unfold zbF;rw [hk];exact if_pos hf
    rw [hs]
    have c5:=zjq st.next (((((st.ro st.next).new (.cells (wRow w) 0)).new (.cells Z12 0)).adv n3).adv ((((st.ro st.next).new (.cells (wRow w) 0)).new (.cells Z12 0)).adv n3).next)
    generalize hs4:(((((st.ro st.next).new (.cells (wRow w) 0)).new (.cells Z12 0)).adv n3).adv ((((st.ro st.next).new (.cells (wRow w) 0)).new (.cells Z12 0)).adv n3).next)=s4 at*
    have x5:Ext s4 (s4.new (.cells (plRow st.next) 1)):=(Ext.refl _).new _
    have a0v:=a0''.ext x5
    have a1v:=a1''.ext x5
    have hel:zar (.slice (some ⟨s4.next,0,none⟩) 12 12) (ixI (some k)) 1=some (s4.next,0+k*1):=by
     show zar (.slice (some ⟨s4.next,0,none⟩) 12 12) (k:Int) 1=_
     unfold zar
     have h1:(0:Int)≤(k:Int):=by omega
     have h2:(k:Int)<((12:Nat):Int):=by omega
     simp only [zdt h1,zdt h2,Bool.and_self,zct,Int.toNat_natCast]
    have hld:(s4.new (.cells (plRow st.next) 1)).ld s4.next (0+k*1)=some (ptr st.next k):=by
     rw [SS.ld_cells SS.new_get,show 0+k*1=k by omega,zmV _ hlt]
    obtain ⟨s6,e6,a6,m6,_⟩:=a0v.sto (k:=k) (vs:=[.int .i64 x]) (row':=wRow (w.set k x)) rfl (by rw [zsy];exact zlB (by rw [hl];exact hlt) _)
    have a1w:=a1v.mod m6 (by simp)
    obtain ⟨s',f1,f2,f3,f4,_⟩:=zb7 (n:=12) a1w rfl a6 (by rw [za0,List.length_set,hw]) (zfg _)
    have hnl:zas (ptr st.next k)=some (ptr st.next k):=rfl
    have hz:=zlA (w.set k x) 0
    unfold wV at hz
    have hq:∀ q:Nat,s4.next≥st.next:=fun _=>by rw [← hs4];simp;omega
    refine ⟨s'.next,by have:=f4.next;have:=m6.next;have:=x5.next;have:=hq 0;omega,zgr _ _ _ st ?_⟩
    have e1':za6 (ptr 0 0) 12 (ixI (some k)) 2=some (0,0+k*2):=e1
    simp only [zgS,hc,SS.ro_next,SS.new_next,c3,zob,zaa,zdf h0,zcf,e1',e2,c4,zan,znt,c5,hel,hld,hnl,zaf,e6,f1,f2,f3,hz,zct]
    rfl
   ·have hf':fitsT x (zaw k)=false:=by simpa using hf
    rw [hf'] at c4
    have hs:zbF w f x=(w,1):=by unfold zbF;rw [hk];exact if_neg hf
    rw [hs]
    obtain ⟨s',f1,f2,f3,f4,_⟩:=zb7 (n:=12) a1'' rfl a0'' hl (zfg w)
    have hz:=zlA w 1
    unfold wV at hz
    refine ⟨s'.next,by have:=f4.next;simp at this;omega,zgr _ _ _ st ?_⟩
    simp only [zgS,hc,SS.ro_next,SS.new_next,c3,zob,zaa,zdf h0,zcf,e1,e2,c4,zan,znf,f1,f2,f3,hz,zct]
    rfl
end Go.Proofs.YtifploedaacedaaGreatDoorE
namespace Go.Proofs.YtifploedaacedaaGreatDoorE
open Go Go.E Go.Proofs
def zcD (w:Wd):Bool:=(List.range 12).all fun k=>fitsT (w.getD k 0) (zaw k)
structure Pls (st:SS) (b j:Nat) (w:Wd):Prop where
 pl:st.mem.get j=some (.cells (plRow b) 1)
 lt:j<st.next
 at0:At st b (wRow w)
section
variable {st st' : SS} {b j : Nat} {w : Wd}
theorem Pls.ext (h:Pls st b j w) (e:Ext st st'):Pls st' b j w:=⟨e.get h.lt h.pl,zll h.lt e.next,h.at0.ext e⟩
theorem plS {k:Nat} (h:k<12):zar (.slice (some ⟨j,0,none⟩) 12 12) (k:Int) 1=some (j,0+k*1):=by
 unfold zar
 have h1:(0:Int)≤(k:Int):=by omega
 have h2:(k:Int)<((12:Nat):Int):=by omega
 simp only [zdt h1,zdt h2,Bool.and_self,zct,Int.toNat_natCast]
theorem Pls.ptr (h:Pls st b j w) {k:Nat} (hk:k<12):st.ld j (0+k*1)=some (Go.E.ptr b k):=by
 rw [SS.ld_cells h.pl,show 0+k*1=k by omega,zmV _ hk]
theorem Pls.part (h:Pls st b j w) (hw:w.length=12) {k:Nat} (hk:k<12):st.ld b k=some (.int .i64 (w.getD k 0)):=by
 rw [h.at0.ld,zff,List.getD_eq_getElem?_getD]
 rw [zge (by omega)]
 rfl
end
theorem zq8 [Sym] (w:Wd) (hw:w.length=12) (b j:Nat) (st0:SS) (hg:Gd st0) (hp:Pls st0 b j w):∀ (m k:Nat) (st:SS),12=m+k→Ext st0 st→
  ∃ st',Ext st0 st'∧zde 2 [.slice (some ⟨j,0,none⟩) 12 12,.int .i64 12,.int .i64 k] st=some (if ((List.range' k m).all fun k=>fitsT (w.getD k 0) (zaw k))=true then (0,[],st') else (1,[.bool false],st')):=by
 intro m
 induction m with
 | zero=>
   intro k st hk he
   have:k=12:=by omega
   subst this
   exact ⟨st,he,zem _ _ _ st rfl⟩
 | succ m ih=>
   intro k st hk he
   have hkl:k<12:=by omega
   have h1:(k:Int)<12:=by omega
   have hnl:zas (ptr b k)=some (ptr b k):=rfl
   have c:=zpe (w.getD k 0) (zaw k) (by have:=zgU k;omega) st
   have hw1:=za9 (i:=k) (by omega)
   have e1:=(hp.ext he).ptr hkl
   have e2:=(hp.ext he).part hw hkl
   have e3:=zlz (hg.ext he) hkl
   have e4:=znx hkl
   rw [List.range'_succ,List.all_cons]
   cases hf:fitsT (w.getD k 0) (zaw k) with
   | true=>
     obtain ⟨st',x',l⟩:=ih (k+1) (st.adv st.next) (by omega) (he.adv (zlr _))
     rw [hf] at c
     refine ⟨st',x',zem _ _ _ st ?_⟩
     simp only [zfE,zdt h1,zct,plS hkl,zob,e1,hnl,zaf,e2,zaa,e4,e3,c,zan,znt,zcf,hw1,Bool.true_and]
     exact l
   | false=>
     rw [hf] at c
     refine ⟨st.adv st.next,he.adv (zlr _),zem _ _ _ st ?_⟩
     simp only [zfE,zdt h1,zct,plS hkl,zob,e1,hnl,zaf,e2,zaa,e4,e3,c,zan,znf,Bool.false_and]
     rfl
theorem ztF [Sym] (w:Wd) (hw:w.length=12) (st:SS) (hg:Gd st):∃ n,st.next≤n∧cc 101 [wV w] st=some (.bool (zcD w),st.adv n):=by
 have hc:(wV w).cells.toList=wRow w:=zaD _
 have a0:At ((st.ro st.next).new (.cells (wRow w) 0)) st.next (wRow w):=At.new (st:=st.ro st.next) (zlr _) _
 have x1:Ext (st.ro st.next) ((st.ro st.next).new (.cells (wRow w) 0)):=(Ext.refl _).new _
 have c2:=zjq st.next ((st.ro st.next).new (.cells (wRow w) 0))
 have x2:Ext ((st.ro st.next).new (.cells (wRow w) 0)) (((st.ro st.next).new (.cells (wRow w) 0)).new (.cells (plRow st.next) 1)):=(Ext.refl _).new _
 have hp:Pls (((st.ro st.next).new (.cells (wRow w) 0)).new (.cells (plRow st.next) 1)) st.next (st.next+1) w:=⟨SS.new_get (st:=(st.ro st.next).new (.cells (wRow w) 0)),by simp,a0.ext x2⟩
 obtain ⟨s',x',l⟩:=zq8 w hw st.next (st.next+1) _ ((hg.ro (n:=st.next)).ext (x1.trans x2)) hp 12 0 _ (by omega) (.refl _)
 have hnx:=x'.next
 simp at hnx
 have hlen:(lenV (.slice (some ⟨st.next+1,0,none⟩) 12 12)).bind (asI .i64)=some 12:=rfl
 have l':zde 2 [.slice (some ⟨st.next+1,0,none⟩) 12 12,.int .i64 12,.int .i64 0] (((st.ro st.next).new (.cells (wRow w) 0)).new (.cells (plRow st.next) 1))=some (if zcD w=true then (0,[],s') else (1,[.bool false],s')):=by
  have hg':zcD w=(List.range' 0 12).all fun k=>fitsT (w.getD k 0) (zaw k):=by unfold zcD;rw [List.range_eq_range']
  rw [hg']
  exact l
 refine ⟨s'.next,by omega,znq _ st ?_⟩
 have b0:Nat.beq 0 0=true:=rfl
 have b1:Nat.beq 1 0=false:=rfl
 cases hgd:zcD w with
 | true=>
   rw [hgd,if_pos rfl] at l'
   simp only [ziy,hc,SS.ro_next,c2,zob,SS.new_next,hlen,l',b0,zct]
 | false=>
   rw [hgd,if_neg (by decide)] at l'
   simp only [ziy,hc,SS.ro_next,c2,zob,SS.new_next,hlen,l',b1,zcf,zgz,zan]
def zbV:List Nat:=zbx.map (·.2)
def zdx:List Nat→List Int→Int
 | n::ns,p::ps=>p+2^n*zdx ns ps
 | _,_=>0
def zdy (w:Wd):Int:=zdx zbV w
theorem orU64 {a c s:Nat} (ha:a<2^s) (hc:a+c*2^s<2^64):orI .u64 (a:Int) ((c*2^s:Nat):Int)=((a+c*2^s:Nat):Int):=by
 have h1:a||| c*2^s=a+c*2^s:=by
  have:=Nat.two_pow_add_eq_or_of_lt ha c
  rw [Nat.or_comm,Nat.mul_comm,← this,Nat.add_comm]
 unfold orI
 have e:((BitVec.ofInt 64 (a:Int)||| BitVec.ofInt 64 ((c*2^s:Nat):Int)).toNat:Nat)=a+c*2^s:=by
  rw [BitVec.toNat_or,BitVec.ofInt_natCast,BitVec.ofInt_natCast,BitVec.toNat_ofNat,BitVec.toNat_ofNat,Nat.mod_eq_of_lt (by omega),Nat.mod_eq_of_lt (by omega),h1]
 show IntKind.wrap .u64 (((BitVec.ofInt 64 (a:Int)||| BitVec.ofInt 64 ((c*2^s:Nat):Int)).toNat:Nat):Int)=_
 rw [e]
 exact zdl (by omega) (by omega)
theorem shl64 {c s:Nat} (hs:s<64) (hc:c*2^s<2^64):(aI .shl .u64 (c:Int) (s:Int)).bind (asI .u64)=some ((c*2^s:Nat):Int):=by
 have hb:¬ ((s:Int)<0):=by omega
 have e:min ((s:Int)).toNat (IntKind.bits .u64)=s:=by
  show min ((s:Int)).toNat 64=s
  rw [Int.toNat_natCast];omega
 have e2:zi4 .u64 (c:Int) (s:Int)=((c*2^s:Nat):Int):=by
  unfold zi4
  rw [e]
  have:(c:Int)*2^s=((c*2^s:Nat):Int):=by simp
  rw [this]
  exact zdl (by omega) (by omega)
 simp only [aI,zdf hb,zcf,zob,zaa,e2]
def zaX (k:Nat):Nat:=(zbV.take k).sum
theorem zjr {k:Nat} (h:k<12):zaX (k+1)=zaX k+zaw k:=by
 have:∀ k,k<12→zaX (k+1)=zaX k+zaw k:=by decide+kernel
 exact this k h
theorem zpf {k:Nat} (h:k<12):zaX k+zaw k≤64∧0<zaw k:=by
 have:∀ k,k<12→zaX k+zaw k≤64∧0<zaw k:=by decide+kernel
 exact this k h
theorem zlC {k:Nat} (h:k<12):zbV.drop k=zaw k::zbV.drop (k+1):=by
 have:∀ k,k<12→zbV.drop k=zaw k::zbV.drop (k+1):=by decide+kernel
 exact this k h
theorem getD_drop {w:Wd} {k:Nat} (h:k<w.length):w.drop k=w.getD k 0::w.drop (k+1):=by
 rw [List.drop_eq_getElem_cons h,List.getD_eq_getElem?_getD,zge h]
 rfl
theorem ziA {w:Wd} (h:zcD w=true) {k:Nat} (hk:k<12):∃ p:Nat,w.getD k 0=(p:Int)∧p<2^zaw k:=by
 have:=List.all_eq_true.1 h k (List.mem_range.2 hk)
 unfold fitsT at this
 obtain ⟨h1,h2⟩:=of_decide_eq_true this
 obtain ⟨p,hp⟩:=Int.eq_ofNat_of_zero_le h1
 refine ⟨p,hp,?_⟩
 rw [hp] at h2
 have:((p:Int))<((2^zaw k:Nat):Int):=by simpa using h2
 omega
theorem zq9 [Sym] (w:Wd) (hw:w.length=12) (hgd:zcD w=true) (b j:Nat) (st0:SS) (hg:Gd st0) (hp:Pls st0 b j w):∀ (m k x:Nat),12=m+k→x<2^zaX k→
  zdg 5 [.int .u64 x,.int .i64 (zaX k),.slice (some ⟨j,0,none⟩) 12 12,.int .i64 12,.int .i64 k] st0=some (0,[.int .u64 ((x:Int)+2^zaX k*zdx (zbV.drop k) (w.drop k))],st0):=by
 intro m
 induction m with
 | zero=>
   intro k x hk hx
   have:k=12:=by omega
   subst this
   refine zgt _ _ _ _ _ st0 ?_
   have e:zdx (zbV.drop 12) (w.drop 12)=0:=rfl
   rw [e,Int.mul_zero,Int.add_zero]
   rfl
 | succ m ih=>
   intro k x hk hx
   have hkl:k<12:=by omega
   have h1:(k:Int)<12:=by omega
   have hnl:zas (ptr b k)=some (ptr b k):=rfl
   obtain ⟨p,hp1,hp2⟩:=ziA hgd hkl
   have hs:=zpf hkl
   have hss:=zjr hkl
   have hw1:=za9 (i:=k) (by omega)
   have e1:=hp.ptr hkl
   have e2:=hp.part hw hkl
   rw [hp1] at e2
   have e3:=zlz hg hkl
   have e4:=znx hkl
   have hpow:2^zaw k≤2^11:=Nat.pow_le_pow_right (by omega) (zgU k)
   have hw2:IntKind.wrap .u64 (p:Int)=(p:Int):=zdl (by omega) (by omega)
   have hpm:p*2^zaX k+2^zaX k≤2^(zaX k+zaw k):=by
    rw [Nat.pow_add,Nat.mul_comm (2^zaX k)]
    have:(p+1)*2^zaX k≤2^zaw k*2^zaX k:=Nat.mul_le_mul_right _ hp2
    rw [Nat.add_mul] at this
    omega
   have h64:2^(zaX k+zaw k)≤2^64:=Nat.pow_le_pow_right (by omega) hs.1
   have e5:=shl64 (c:=p) (s:=zaX k) (by omega) (by omega)
   have e6:=orU64 (a:=x) (c:=p) (s:=zaX k) hx (by omega)
   have hw3:IntKind.wrap .i64 ((zaX k:Int)+(zaw k:Int))=((zaX (k+1):Nat):Int):=by rw [wrap64 (by omega) (by omega),hss];omega
   have:=ih (k+1) (x+p*2^zaX k) (by omega) (by rw [hss];omega)
   have e7:(((x+p*2^zaX k:Nat):Int)+2^zaX (k+1)*zdx (zbV.drop (k+1)) (w.drop (k+1)))=(x:Int)+2^zaX k*zdx (zbV.drop k) (w.drop k):=by
    rw [zlC hkl,getD_drop (w:=w) (k:=k) (by omega),hp1]
    show _=(x:Int)+2^zaX k*((p:Int)+2^zaw k*zdx (zbV.drop (k+1)) (w.drop (k+1)))
    rw [hss,Int.pow_add,Int.mul_add,Int.mul_assoc]
    simp only [Int.natCast_add,Int.natCast_mul,Int.natCast_pow]
    rw [Int.mul_comm (p:Int)]
    simp [Int.add_assoc]
   rw [e7] at this
   refine zgt _ _ _ _ _ st0 ?_
   simp only [ziP,zdt h1,zct,plS hkl,zob,e1,hnl,zaf,e2,zaa,hw2,e5,e6,e4,e3,hw3,hw1]
   exact this
theorem ztG [Sym] (w:Wd) (hw:w.length=12) (st:SS) (hg:Gd st):∃ n,st.next≤n∧cc 73 [wV w] st=some (if zcD w=true then .tuple #[.int .u64 (zdy w),.int .i64 0] else .tuple #[.int .u64 0,.int .i64 1],st.adv n):=by
 have hc:(wV w).cells.toList=wRow w:=zaD _
 have a0:At ((st.ro st.next).new (.cells (wRow w) 0)) st.next (wRow w):=At.new (st:=st.ro st.next) (zlr _) _
 have x1:Ext (st.ro st.next) ((st.ro st.next).new (.cells (wRow w) 0)):=(Ext.refl _).new _
 have l0:((st.ro st.next).new (.cells (wRow w) 0)).ldN st.next 0 12=some (wV w):=a0.ldN (by rw [za0,hw])
 obtain ⟨n3,hn3,c3⟩:=ztF w hw _ ((hg.ro (n:=st.next)).ext x1)
 have x3:Ext ((st.ro st.next).new (.cells (wRow w) 0)) (((st.ro st.next).new (.cells (wRow w) 0)).adv n3):=(Ext.refl _).adv hn3
 simp at hn3
 have b0:Nat.beq 0 0=true:=rfl
 cases hgd:zcD w with
 | false=>
   rw [hgd] at c3
   refine ⟨n3,by omega,ziO _ st ?_⟩
   simp only [ziz,hc,SS.ro_next,l0,c3,zob,zan,znf,zct]
   rfl
 | true=>
   rw [hgd] at c3
   have c5:=zjq st.next (((st.ro st.next).new (.cells (wRow w) 0)).adv n3)
   have x5:Ext (((st.ro st.next).new (.cells (wRow w) 0)).adv n3) ((((st.ro st.next).new (.cells (wRow w) 0)).adv n3).new (.cells (plRow st.next) 1)):=(Ext.refl _).new _
   have hp:Pls ((((st.ro st.next).new (.cells (wRow w) 0)).adv n3).new (.cells (plRow st.next) 1)) st.next n3 w:=⟨SS.new_get (st:=((st.ro st.next).new (.cells (wRow w) 0)).adv n3),by simp,(a0.ext x3).ext x5⟩
   have l:=zq9 w hw hgd st.next n3 _ ((hg.ro (n:=st.next)).ext (x1.trans (x3.trans x5))) hp 12 0 0 (by omega) (by decide)
   have e:((0:Nat):Int)+2^zaX 0*zdx (zbV.drop 0) (w.drop 0)=zdy w:=by
    rw [List.drop_zero,List.drop_zero]
    show (0:Int)+2^0*zdy w=zdy w
    omega
   rw [e] at l
   have l':zdg 5 [.int .u64 0,.int .i64 0,.slice (some ⟨n3,0,none⟩) 12 12,.int .i64 12,.int .i64 0] ((((st.ro st.next).new (.cells (wRow w) 0)).adv n3).new (.cells (plRow st.next) 1))=_:=l
   have hlen:(lenV (.slice (some ⟨n3,0,none⟩) 12 12)).bind (asI .i64)=some 12:=rfl
   refine ⟨n3+1,by omega,ziO _ st ?_⟩
   have hnx:(((st.ro st.next).new (.cells (wRow w) 0)).adv n3).next=n3:=rfl
   simp only [ziz,hc,SS.ro_next,l0,c3,zob,zan,znt,zcf,c5,hnx,hlen,l',zgz,zaa]
   rfl
end Go.Proofs.YtifploedaacedaaGreatDoorE
namespace Go.Proofs.YtifploedaacedaaGreatDoorE
set_option maxRecDepth 20000
open Go Go.E Go.Proofs
noncomputable def zjs (cf:zak) (lf:zac) (st:SS):Option (Value×SS):=
 let st1:SS:=st.new (.cells ([.int .i64 32,.int .i64 64,.int .i64 64,.int .i64 64,.int .i64 256,.int .i64 4,.int .i64 4,.int .i64 16,.int .i64 8,.int .i64 32,.int .i64 2048,.int .i64 64]) 1)
 some (.slice (some ⟨st.next,0,none⟩) 12 12,st1)
noncomputable abbrev zhE:zac:=lS Tryz.prog Lk0 Tryz.f48 zau
theorem zhF:Lk0.func 48=some (48,Tryz.f48):=by kernel_rfl
theorem zhG [Sym] (st:SS) {r:Value×SS} (h:zjs cc zhE st=some r):cc 48 [] st=some r:=
 zad (li:=zau) zai zal zhF rfl (fun _=>rfl) (.trans (by kernel_rfl) h)
noncomputable def zfz (cf:zak) (lf:zac) (p':Value) (st:SS):Option (Value×SS):=
 let a:SS:=(st.ro st.next).new (.cells [.int .i64 0,.int .i64 0,.int .i64 0,.int .i64 0,.int .i64 0,.int .i64 0,.int .i64 0,.int .i64 0,.int .i64 0,.int .i64 0,.int .i64 0,.int .i64 0] 0)
 (zar p' 0 1).bind fun b=>
 ((a.ld b.1 b.2).bind (asI .i64)).bind fun c=>
 (zar p' 1 1).bind fun d=>
 ((a.ld d.1 d.2).bind (asI .i64)).bind fun e=>
 (zar p' 2 1).bind fun f=>
 ((a.ld f.1 f.2).bind (asI .i64)).bind fun g=>
 (zar p' 3 1).bind fun h=>
 ((a.ld h.1 h.2).bind (asI .i64)).bind fun i=>
 (zar p' 4 1).bind fun j=>
 ((a.ld j.1 j.2).bind (asI .i64)).bind fun k=>
 (zar p' 5 1).bind fun l=>
 ((a.ld l.1 l.2).bind (asI .i64)).bind fun m=>
 (zar p' 6 1).bind fun n=>
 ((a.ld n.1 n.2).bind (asI .i64)).bind fun o=>
 (zar p' 7 1).bind fun p=>
 ((a.ld p.1 p.2).bind (asI .i64)).bind fun q=>
 (zar p' 8 1).bind fun r=>
 ((a.ld r.1 r.2).bind (asI .i64)).bind fun s=>
 (zar p' 9 1).bind fun t=>
 ((a.ld t.1 t.2).bind (asI .i64)).bind fun u=>
 (zar p' 10 1).bind fun v=>
 ((a.ld v.1 v.2).bind (asI .i64)).bind fun w=>
 (zar p' 11 1).bind fun x=>
 ((a.ld x.1 x.2).bind (asI .i64)).bind fun y=>
 (a.st ((st.ro st.next).next) 0 [.int .i64 c,.int .i64 e,.int .i64 g,.int .i64 i,.int .i64 k,.int .i64 m,.int .i64 o,.int .i64 q,.int .i64 s,.int .i64 u,.int .i64 w,.int .i64 y]).bind fun z=>
 (z.rdN ((st.ro st.next).next) 0 12).bind fun A=>
 cond (flat3 A) (some (A,st.adv z.next)) none
noncomputable abbrev zhH:zac:=lS Tryz.prog Lk0 Tryz.f56 zau
theorem zhI:Lk0.func 56=some (56,Tryz.f56):=by kernel_rfl
theorem zhJ [Sym] (p':Value) (st:SS) {r:Value×SS} (h:zfz cc zhH p' st=some r):cc 56 [p'] st=some r:=
 zad (li:=zau) zai zal zhI rfl (fun _=>rfl) (.trans (by kernel_rfl) h)
end Go.Proofs.YtifploedaacedaaGreatDoorE
namespace Go.Proofs.YtifploedaacedaaGreatDoorE
open Go Go.E Go.Proofs
theorem len12 {α:Type} {w:List α} (h:w.length=12):∃ a b c d e f g i j k l m,w=[a,b,c,d,e,f,g,i,j,k,l,m]:=by
 match w,h with
 | [a,b,c,d,e,f,g,i,j,k,l,m],_=>exact ⟨a,b,c,d,e,f,g,i,j,k,l,m,rfl⟩
def zeM:List Int:=zbV.map fun n=>2^n
theorem ztH [Sym] (st:SS):cc 48 [] st=some (.slice (some ⟨st.next,0,none⟩) 12 12,st.new (.cells (wRow zeM) 1)):=by
 refine zhG st ?_
 have:wRow zeM=[.int .i64 32,.int .i64 64,.int .i64 64,.int .i64 64,.int .i64 256,.int .i64 4,.int .i64 4,.int .i64 16,.int .i64 8,.int .i64 32,.int .i64 2048,.int .i64 64]:=by rfl
 rw [this]
 rfl
theorem zsz {k:Nat} (h:k<12):(wRow zeM)[k]?=some (.int .i64 ((2^zaw k:Nat):Int)):=by
 rw [zff]
 unfold zeM zbV zaw
 rw [List.getElem?_map,List.getElem?_map]
 obtain ⟨x,hx⟩:∃ x,zbx[k]?=some x:=⟨_,zge (by show k<12;omega)⟩
 rw [hx]
 simp
theorem flatV (w:Wd):flat3 (wV w)=true:=by
 show ((wRow w).toArray.toList.all zbG)=true
 simp [wRow,zbG]
theorem ztI [Sym] (w:Wd) (hw:w.length=12) (j:Nat) (z:Nat) (st:SS) (hj:st.mem.get j=some (.cells (wRow w) z)) (hlt:j<st.next):cc 56 [.slice (some ⟨j,0,none⟩) 12 12] st=some (wV w,st.adv (st.next+1)):=by
 have hm:((st.ro st.next).new (.cells Z12 0)).mem.get j=some (.cells (wRow w) z):=by rw [SS.new_old (by simp;omega)];exact hj
 have l:∀ k x,(wRow w)[k]?=some x→((st.ro st.next).new (.cells Z12 0)).ld j (0+k*1)=some x:=fun k x h=>by rw [SS.ld_cells hm,show 0+k*1=k by omega,h]
 obtain ⟨s2,e2,a2,x2,n2⟩:=zjl (st:=st.ro st.next) (zlr _) (r:=Z12) (row:=wRow w) (zfg w) (by rw [za0,hw];rfl)
 have hr:=a2.rdN (n:=12) (by rw [za0,hw])
 have hz:flat3 (wV w)=true:=flatV w
 obtain ⟨a,b,c,d,e,f,g,i,jj,k,m,n,rfl⟩:=len12 hw
 refine zhJ _ st ?_
 have p0:zar (.slice (some ⟨j,0,none⟩) 12 12) 0 1=some (j,0+0*1):=plS (k:=0) (by omega)
 have p1:zar (.slice (some ⟨j,0,none⟩) 12 12) 1 1=some (j,0+1*1):=plS (k:=1) (by omega)
 have p2:zar (.slice (some ⟨j,0,none⟩) 12 12) 2 1=some (j,0+2*1):=plS (k:=2) (by omega)
 have p3:zar (.slice (some ⟨j,0,none⟩) 12 12) 3 1=some (j,0+3*1):=plS (k:=3) (by omega)
 have p4:zar (.slice (some ⟨j,0,none⟩) 12 12) 4 1=some (j,0+4*1):=plS (k:=4) (by omega)
 have p5:zar (.slice (some ⟨j,0,none⟩) 12 12) 5 1=some (j,0+5*1):=plS (k:=5) (by omega)
 have p6:zar (.slice (some ⟨j,0,none⟩) 12 12) 6 1=some (j,0+6*1):=plS (k:=6) (by omega)
 have p7:zar (.slice (some ⟨j,0,none⟩) 12 12) 7 1=some (j,0+7*1):=plS (k:=7) (by omega)
 have p8:zar (.slice (some ⟨j,0,none⟩) 12 12) 8 1=some (j,0+8*1):=plS (k:=8) (by omega)
 have p9:zar (.slice (some ⟨j,0,none⟩) 12 12) 9 1=some (j,0+9*1):=plS (k:=9) (by omega)
 have p10:zar (.slice (some ⟨j,0,none⟩) 12 12) 10 1=some (j,0+10*1):=plS (k:=10) (by omega)
 have p11:zar (.slice (some ⟨j,0,none⟩) 12 12) 11 1=some (j,0+11*1):=plS (k:=11) (by omega)
 have e2':((st.ro st.next).new (.cells Z12 0)).st (st.ro st.next).next 0 [.int .i64 a,.int .i64 b,.int .i64 c,.int .i64 d,.int .i64 e,.int .i64 f,.int .i64 g,.int .i64 i,.int .i64 jj,.int .i64 k,.int .i64 m,.int .i64 n]=some s2:=e2
 have hr':s2.rdN (st.ro st.next).next 0 12=some (wV [a,b,c,d,e,f,g,i,jj,k,m,n]):=hr
 simp only [zfz,p0,p1,p2,p3,p4,p5,p6,p7,p8,p9,p10,p11,l 0 _ rfl,l 1 _ rfl,l 2 _ rfl,l 3 _ rfl,l 4 _ rfl,l 5 _ rfl,l 6 _ rfl,l 7 _ rfl,l 8 _ rfl,l 9 _ rfl,l 10 _ rfl,l 11 _ rfl,zob,zaa,e2',hr',hz,zct]
 rw [n2]
 rfl
end Go.Proofs.YtifploedaacedaaGreatDoorE
namespace Go.Proofs.YtifploedaacedaaGreatDoorE
open Go Go.E Go.Proofs
structure Val where
 nm:List UInt8
 x:Int
 col:Nat
structure Pr where
 fd:List UInt8
 col:Nat
 v:Val
structure PLine where
 ln:Nat
 lab:List UInt8
 dir:List UInt8
 args:List Val
 prs:List Pr
def zaE (t:Tok) (s:List UInt8):Bool:=decide (t.kd=3)&&decide (t.tx=s)
def zdN:List Tok→Except Nat (Val×Nat)
 | []=>.error 0
 | t::r=>if t.kd=2 then .ok (⟨[],t.nm,t.col⟩,1) else if t.kd=1 then (match r with
   | []=>.error 0
   | s::u=>if zaE s [43]=true then (match u with
     | n::_=>if n.kd=2 then .ok (⟨t.tx,n.nm,t.col⟩,3) else .error 2
     | []=>.error 2)
     else if zaE s [45]=true then (match u with
      | n::_=>if n.kd=2 then .ok (⟨t.tx, -n.nm,t.col⟩,3) else .error 2
      | []=>.error 2)
     else .ok (⟨t.tx,0,t.col⟩,1)) else .error 0
def zc8:Nat→List Tok→Except Nat (List Val)
 | 0,_=>.ok []
 | _+1,[]=>.ok []
 | k+1,t::r=>if t.kd=0 then .ok [] else match zdN (t::r) with
   | .error o=>.error o
   | .ok (v,n)=>match zc8 k ((t::r).drop n) with
     | .error o=>.error (n+o)
     | .ok vs=>.ok (v::vs)
def pairT (seen:List (List UInt8)):List Tok→Except Nat (Pr×Nat)
 | []=>.error 0
 | t::r=>if t.kd=1∧t.tx∉seen then (match r with
   | []=>.error 1
   | e::u=>if zaE e [61]=true then (match zdN u with
     | .error o=>.error (2+o)
     | .ok (v,n)=>.ok (⟨t.tx,t.col,v⟩,2+n)) else .error 1)
   else .error 0
def zbf:Nat→List (List UInt8)→List Tok→Except Nat (List Pr)
 | 0,_,_=>.ok []
 | _+1,_,[]=>.ok []
 | k+1,seen,t::r=>if t.kd=0 then .ok [] else match pairT seen (t::r) with
   | .error o=>.error o
   | .ok (p,n)=>match zbf k (seen++[p.fd]) ((t::r).drop n) with
     | .error o=>.error (n+o)
     | .ok ps=>.ok (p::ps)
def zcP (lab:List UInt8):List Tok→Except Nat PLine
 | []=>.error 0
 | t::r=>if zaE t [46]=true then (match r with
   | []=>.error 1
   | d::u=>if d.kd=1 then (match zc8 u.length u with
     | .error o=>.error (2+o)
     | .ok vs=>.ok ⟨0,lab,d.tx,vs,[]⟩) else .error 1)
   else match zbf (t::r).length [] (t::r) with
    | .error o=>.error o
    | .ok ps=>.ok ⟨0,lab,[],[],ps⟩
def readT:List Tok→Except Nat PLine
 | t::s::r=>if t.kd=1∧zaE s [58]=true then (match zcP t.tx r with
   | .error o=>.error (2+o)
   | .ok x=>.ok x) else zcP [] (t::s::r)
 | l=>zcP [] l
def zp0 (l:List Tok) (o:Nat):Nat:=((l[o]?).map (·.col)).getD 0
def zcT:Nat→List (List Tok)→Except (Nat×Nat) (List PLine)
 | _,[]=>.ok []
 | i,ts::r=>match readT ts with
   | .error o=>.error (i+1,zp0 ts o)
   | .ok x=>match zcT (i+1) r with
     | .error e=>.error e
     | .ok xs=>.ok (if 1<ts.length then { x with ln:=i+1 }::xs else xs)
def zcE:Nat→List (List UInt8)→Except (Nat×Nat) (List (List Tok))
 | _,[]=>.ok []
 | i,p::r=>match zcz p with
   | .error c=>.error (i+1,c)
   | .ok ts=>match zcE (i+1) r with
     | .error e=>.error e
     | .ok tss=>.ok (ts::tss)
def zeN (l:List UInt8):Except (Nat×Nat) (List PLine):=match zcE 0 (pieces 10 l) with
 | .error e=>.error e
 | .ok tss=>zcT 0 tss
def flat:Nat→List (List Tok)→List (Nat×Tok)
 | _,[]=>[]
 | i,ts::r=>ts.map (fun t=>(i+1,t))++flat (i+1) r
theorem zp1 (ps:List (List UInt8)) (i:Nat):zfu i ps=match zcE i ps with
  | .error e=>.error e
  | .ok tss=>.ok (flat i tss):=by
 induction ps generalizing i with
 | nil=>rfl
 | cons p r ih=>
   unfold zfu zcE
   cases hx:zcz p with
   | error c=>rfl
   | ok ts=>
     simp only
     rw [ih (i+1)]
     cases hy:zcE (i+1) r with
     | error e=>rfl
     | ok tss=>rfl
def Lin:List Tok→Prop
 | []=>False
 | t::r=>(t.kd=0∧r=[])∨(t.kd≠0∧Lin r)
theorem Lin.tail {t:Tok} {r:List Tok} (h:Lin (t::r)) (hk:t.kd≠0):Lin r:=h.elim (fun x=>absurd x.1 hk) (·.2)
theorem Lin.last {t:Tok} {r:List Tok} (h:Lin (t::r)) (hk:t.kd=0):r=[]:=h.elim (·.2) fun x=>absurd hk x.1
theorem Lin.ne {r:List Tok} (h:Lin r):∃ t u,r=t::u:=by
 cases r with
 | nil=>exact h.elim
 | cons t u=>exact ⟨t,u,rfl⟩
structure TokOk (t:Tok):Prop where
 kd:t.kd≤3
 tx:t.kd=1→t.tx≠[]
 nm0:0≤t.nm
 nm1:t.nm≤2147483647
theorem zp2 {l:List UInt8} {m:Nat} (h:numO (zc7 l)=some m):m≤2147483647:=by
 have key:∀ B q,numO (zaU B q)=some m→m≤2147483647:=by
  intro B q h
  have hr:=zfx (B:=B) (l:=q)
  cases hp:zaU B q with
  | none=>rw [hp] at h;cases h
  | some x=>cases x with
    | none=>rw [hp] at h;cases h
    | some k=>
      rw [hp] at h hr
      have:k=m:=by injection h
      subst this
      simp only [puV] at hr
      omega
 unfold zc7 at h
 split at h
 ·exact key _ _ h
 ·exact key _ _ h
theorem zsA {l:List UInt8} {kd n:Nat} {x:Int} {c:Nat} (h:stepT l=.tok kd n x):TokOk ⟨kd,l.take n,x,c⟩∧kd≠0:=by
 obtain ⟨h1,h2,h3⟩:=zq5 h
 have hne:l.take n≠[]:=by
  intro e
  have:=congrArg List.length e
  rw [List.length_take] at this
  simp at this
  rcases this with rfl | rfl
  ·omega
  ·simp at h2;omega
 have hx:0≤x∧x≤2147483647:=by
  cases l with
  | nil=>cases h
  | cons c r=>
    rw [zlv] at h
    split at h
    ·cases h
    ·split at h
     ·cases h
     ·split at h
      ·split at h
       ·cases h
       ·cases h;omega
      ·split at h
       ·split at h
        ·rename_i m hm
         cases h
         have:=zp2 hm
         omega
        ·cases h
       ·split at h
        ·cases h;omega
        ·cases h
 exact ⟨⟨by show kd≤3;omega,fun _=>hne,hx.1,hx.2⟩,by omega⟩
theorem Lin.snoc {ts:List Tok} {e:Tok} (h:∀ t∈ts,t.kd≠0) (he:e.kd=0):Lin (ts++[e]):=by
 induction ts with
 | nil=>exact .inl ⟨he,rfl⟩
 | cons t r ih=>exact .inr ⟨h t (List.mem_cons_self ..),ih fun u hu=>h u (List.mem_cons_of_mem _ hu)⟩
theorem ztJ (k col:Nat) (l:List UInt8) (ts:List Tok) (h:zdr k col l=.ok ts):∀ t∈ts,TokOk t∧t.kd≠0:=by
 induction k generalizing col l ts with
 | zero=>cases h;intro t ht;cases ht
 | succ k ih=>
   unfold zdr at h
   split at h
   ·cases h;intro t ht;cases ht
   ·exact ih _ _ _ h
   ·rename_i kd n x hs
    cases hx:zdr k (col+n) (l.drop n) with
    | error e=>rw [hx] at h;cases h
    | ok us=>
      rw [hx] at h;cases h
      intro t ht
      rcases List.mem_cons.1 ht with rfl | ht
      ·exact zsA hs
      ·exact ih _ _ _ hx t ht
   ·cases h
theorem zoc {p:List UInt8} {ts:List Tok} (h:zcz p=.ok ts):Lin ts∧∀ t∈ts,TokOk t:=by
 unfold zcz at h
 split at h
 ·rename_i us hu
  cases h
  have h1:=ztJ _ _ _ _ hu
  refine ⟨Lin.snoc (fun t ht=>(h1 t ht).2) rfl,fun t ht=>?_⟩
  rcases List.mem_append.1 ht with ht | ht
  ·exact (h1 t ht).1
  ·have:t=zfe p:=by simpa using ht
   subst this
   exact ⟨by simp [zfe],fun h=>by simp [zfe] at h,by simp [zfe],by simp [zfe]⟩
 ·cases h
theorem zsB (ps:List (List UInt8)) (i:Nat) (tss:List (List Tok)) (h:zcE i ps=.ok tss):∀ ts∈tss,Lin ts∧∀ t∈ts,TokOk t:=by
 induction ps generalizing i tss with
 | nil=>cases h;intro ts hts;cases hts
 | cons p r ih=>
   unfold zcE at h
   cases hx:zcz p with
   | error c=>rw [hx] at h;cases h
   | ok ts=>
     rw [hx] at h
     cases hy:zcE (i+1) r with
     | error e=>rw [hy] at h;cases h
     | ok us=>
       rw [hy] at h;cases h
       intro ts' ht
       rcases List.mem_cons.1 ht with rfl | ht
       ·exact zoc hx
       ·exact ih _ _ hy ts' ht
theorem zcF {t:Tok} {s:List UInt8} (h:zaE t s=true):t.kd=3:=by
 simp [zaE] at h;exact h.1
theorem zfZ (t:Tok) (r:List Tok):zdN (t::r)=(if t.kd=2 then .ok (⟨[],t.nm,t.col⟩,1) else if t.kd=1 then (match r with
   | []=>.error 0
   | s::u=>if zaE s [43]=true then (match u with
     | n::_=>if n.kd=2 then .ok (⟨t.tx,n.nm,t.col⟩,3) else .error 2
     | []=>.error 2)
     else if zaE s [45]=true then (match u with
      | n::_=>if n.kd=2 then .ok (⟨t.tx, -n.nm,t.col⟩,3) else .error 2
      | []=>.error 2)
     else .ok (⟨t.tx,0,t.col⟩,1)) else .error 0):=rfl
theorem ziB (seen:List (List UInt8)) (t:Tok) (r:List Tok):pairT seen (t::r)=(if t.kd=1∧t.tx∉seen then (match r with
   | []=>.error 1
   | e::u=>if zaE e [61]=true then (match zdN u with
     | .error o=>.error (2+o)
     | .ok (v,n)=>.ok (⟨t.tx,t.col,v⟩,2+n)) else .error 1)
  else .error 0):=rfl
theorem zjt {l:List Tok} (hl:Lin l):match zdN l with
  | .ok (_,n)=>Lin (l.drop n)∧0<n
  | .error o=>o<l.length:=by
 obtain ⟨t,r,rfl⟩:=hl.ne
 rw [zfZ]
 by_cases h2:t.kd=2
 ·rw [if_pos h2]
  exact ⟨hl.tail (by omega),by omega⟩
 ·rw [if_neg h2]
  by_cases h1:t.kd=1
  ·rw [if_pos h1]
   have hr:=hl.tail (by omega)
   obtain ⟨s,u,rfl⟩:=hr.ne
   simp only
   by_cases hp:zaE s [43]=true
   ·rw [if_pos hp]
    have hu:=hr.tail (by have:=zcF hp;omega)
    obtain ⟨n,w,rfl⟩:=hu.ne
    simp only
    by_cases hn:n.kd=2
    ·rw [if_pos hn];exact ⟨hu.tail (by omega),by omega⟩
    ·rw [if_neg hn];simp
   ·rw [if_neg hp]
    by_cases hm:zaE s [45]=true
    ·rw [if_pos hm]
     have hu:=hr.tail (by have:=zcF hm;omega)
     obtain ⟨n,w,rfl⟩:=hu.ne
     simp only
     by_cases hn:n.kd=2
     ·rw [if_pos hn];exact ⟨hu.tail (by omega),by omega⟩
     ·rw [if_neg hn];simp
    ·rw [if_neg hm];exact ⟨hr,by omega⟩
  ·rw [if_neg h1];simp
theorem zmW {seen:List (List UInt8)} {l:List Tok} (hl:Lin l):match pairT seen l with
  | .ok (_,n)=>Lin (l.drop n)∧0<n
  | .error o=>o<l.length:=by
 obtain ⟨t,r,rfl⟩:=hl.ne
 rw [ziB]
 by_cases h1:t.kd=1∧t.tx∉seen
 ·rw [if_pos h1]
  have hr:=hl.tail (by omega)
  obtain ⟨e,u,rfl⟩:=hr.ne
  simp only
  by_cases he:zaE e [61]=true
  ·rw [if_pos he]
   have hu:=hr.tail (by have:=zcF he;omega)
   have h:=zjt hu
   cases hx:zdN u with
   | error o=>rw [hx] at h;simp only at h ⊢;simp;omega
   | ok y=>
     obtain ⟨v,n⟩:=y
     rw [hx] at h
     simp only at h ⊢
     rw [Nat.add_comm 2 n]
     exact ⟨h.1,by omega⟩
  ·rw [if_neg he];simp
 ·rw [if_neg h1];simp
theorem zra (k:Nat) (l:List Tok) (hl:Lin l) (o:Nat) (h:zc8 k l=.error o):o<l.length:=by
 induction k generalizing l o with
 | zero=>cases h
 | succ k ih=>
   obtain ⟨t,r,rfl⟩:=hl.ne
   unfold zc8 at h
   split at h
   ·cases h
   ·have hx:=zjt hl
    cases hy:zdN (t::r) with
    | error o'=>rw [hy] at h hx;cases h;exact hx
    | ok y=>
      obtain ⟨v,n⟩:=y
      rw [hy] at h hx
      simp only at h hx
      cases hz:zc8 k ((t::r).drop n) with
      | ok vs=>rw [hz] at h;cases h
      | error o'=>
        rw [hz] at h
        have:=ih _ hx.1 o' hz
        rw [List.length_drop] at this
        have h':n+o'=o:=by injection h
        omega
theorem zp3 (k:Nat) (seen:List (List UInt8)) (l:List Tok) (hl:Lin l) (o:Nat) (h:zbf k seen l=.error o):o<l.length:=by
 induction k generalizing seen l o with
 | zero=>cases h
 | succ k ih=>
   obtain ⟨t,r,rfl⟩:=hl.ne
   unfold zbf at h
   split at h
   ·cases h
   ·have hx:=zmW (seen:=seen) hl
    cases hy:pairT seen (t::r) with
    | error o'=>rw [hy] at h hx;cases h;exact hx
    | ok y=>
      obtain ⟨v,n⟩:=y
      rw [hy] at h hx
      simp only at h hx
      cases hz:zbf k (seen++[v.fd]) ((t::r).drop n) with
      | ok vs=>rw [hz] at h;cases h
      | error o'=>
        rw [hz] at h
        have:=ih _ _ hx.1 o' hz
        rw [List.length_drop] at this
        have h':n+o'=o:=by injection h
        omega
theorem zdO (lab:List UInt8) (t:Tok) (r:List Tok):zcP lab (t::r)=if zaE t [46]=true then (match r with
   | []=>.error 1
   | d::u=>if d.kd=1 then (match zc8 u.length u with
     | .error o=>.error (2+o)
     | .ok vs=>.ok ⟨0,lab,d.tx,vs,[]⟩) else .error 1)
  else match zbf (t::r).length [] (t::r) with
   | .error o=>.error o
   | .ok ps=>.ok ⟨0,lab,[],[],ps⟩:=rfl
theorem zgV (t s:Tok) (r:List Tok):readT (t::s::r)=if t.kd=1∧zaE s [58]=true then (match zcP t.tx r with
   | .error o=>.error (2+o)
   | .ok x=>.ok x) else zcP [] (t::s::r):=rfl
theorem zju (lab:List UInt8) (l:List Tok) (hl:Lin l) (o:Nat) (h:zcP lab l=.error o):o<l.length:=by
 obtain ⟨t,r,rfl⟩:=hl.ne
 rw [zdO] at h
 by_cases hs:zaE t [46]=true
 ·rw [if_pos hs] at h
  have hr:=hl.tail (by have:=zcF hs;omega)
  obtain ⟨d,u,rfl⟩:=hr.ne
  simp only at h
  by_cases hd:d.kd=1
  ·rw [if_pos hd] at h
   have hu:=hr.tail (by omega)
   cases hx:zc8 u.length u with
   | ok vs=>rw [hx] at h;cases h
   | error o'=>
     rw [hx] at h
     have:=zra _ _ hu o' hx
     have h':2+o'=o:=by injection h
     simp;omega
  ·rw [if_neg hd] at h;cases h;simp
 ·rw [if_neg hs] at h
  cases hx:zbf (t::r).length [] (t::r) with
  | ok vs=>rw [hx] at h;cases h
  | error o'=>
    rw [hx] at h
    have:=zp3 _ _ _ hl o' hx
    have h':o'=o:=by injection h
    omega
theorem zrb (l:List Tok) (hl:Lin l) (o:Nat) (h:readT l=.error o):o<l.length:=by
 obtain ⟨t,r,rfl⟩:=hl.ne
 cases r with
 | nil=>exact zju [] _ hl o h
 | cons s r=>
   rw [zgV] at h
   split at h
   ·rename_i hc
    have hr:Lin r:=(hl.tail (by omega)).tail (by have:=zcF hc.2;omega)
    cases hx:zcP t.tx r with
    | ok x=>rw [hx] at h;cases h
    | error o'=>
      rw [hx] at h
      have:=zju _ _ hr o' hx
      have h':2+o'=o:=by injection h
      simp;omega
   ·exact zju [] _ hl o h
end Go.Proofs.YtifploedaacedaaGreatDoorE
namespace Go.Proofs.YtifploedaacedaaGreatDoorE
set_option maxRecDepth 20000
open Go Go.E Go.Proofs
noncomputable def zfI (cf:zak) (lf:zac) (p':Value) (st:SS):Option (Value×SS):=
 let a:SS:=(st.ro st.next).new (.cells [.int .i64 0,.string ⟨#[]⟩,.int .i64 0,.int .i64 0,.int .i64 0] 0)
 (zas p').bind fun b=>
 (addr? b).bind fun c=>
 (a.ld c.1 c.2).bind fun d=>
 (zas p').bind fun e=>
 (addr? e).bind fun f=>
 ((a.ld f.1 (f.2+1)).bind (asI .i64)).bind fun g=>
 (zar d g 5).bind fun h=>
 (a.ldN h.1 h.2 5).bind fun i=>
 (a.stV ((st.ro st.next).next) 0 5 i).bind fun j=>
 (j.rdN ((st.ro st.next).next) 0 5).bind fun k=>
 cond (flat3 k) (some (k,st.adv j.next)) none
noncomputable abbrev ziC:zac:=lS Tryz.prog Lk0 Tryz.f69 zau
theorem ziD:Lk0.func 69=some (69,Tryz.f69):=by kernel_rfl
theorem ziE [Sym] (p':Value) (st:SS) {r:Value×SS} (h:zfI cc ziC p' st=some r):cc 69 [p'] st=some r:=
 zad (li:=zau) zai zal ziD rfl (fun _=>rfl) (.trans (by kernel_rfl) h)
noncomputable def zdE (cf:zak) (lf:zac) (p':Value) (st:SS):Option (Value×SS):=
 let a:SS:=(st.ro st.next).new (.cells [.int .i64 0,.string ⟨#[]⟩,.int .i64 0,.int .i64 0,.int .i64 0] 0)
 (cf 69 [p'] a).bind fun b=>
 ((zc1 Lk0 150 0 b.1).bind (asI .i64)).bind fun c=>
 cond (decide (c=0)) (
 (cf 69 [p'] b.2).bind fun d=>
 (d.2.stV ((st.ro st.next).next) 0 5 d.1).bind fun e=>
 (e.rdN ((st.ro st.next).next) 0 5).bind fun f=>
 cond (flat3 f) (some (f,st.adv e.next)) none) (
 (zas p').bind fun g=>
 (addr? g).bind fun h=>
 (b.2.ld h.1 h.2).bind fun i=>
 (zas p').bind fun j=>
 (addr? j).bind fun k=>
 ((b.2.ld k.1 (k.2+1)).bind (asI .i64)).bind fun l=>
 let m:Int:=IntKind.wrap .i64 (l+1)
 (zar i m 5).bind fun n=>
 (b.2.ldN n.1 n.2 5).bind fun o=>
 (b.2.stV ((st.ro st.next).next) 0 5 o).bind fun p=>
 (p.rdN ((st.ro st.next).next) 0 5).bind fun q=>
 cond (flat3 q) (some (q,st.adv p.next)) none)
noncomputable abbrev zhK:zac:=lS Tryz.prog Lk0 Tryz.f91 zau
theorem zhL:Lk0.func 91=some (91,Tryz.f91):=by kernel_rfl
theorem zeu [Sym] (p':Value) (st:SS) {r:Value×SS} (h:zdE cc zhK p' st=some r):cc 91 [p'] st=some r:=
 zad (li:=zau) zai zal zhL rfl (fun _=>rfl) (.trans (by kernel_rfl) h)
noncomputable def zco (cf:zak) (lf:zac) (p':Value) (sign':ByteArray) (st:SS):Option (Value×SS):=
 (cf 69 [p'] st).bind fun a=>
 let b:SS:=a.2.new (.cells [.int .i64 0,.string ⟨#[]⟩,.int .i64 0,.int .i64 0,.int .i64 0] 0)
 (b.stV a.2.next 0 5 a.1).bind fun c=>
 ((c.ld a.2.next 0).bind (asI .i64)).bind fun d=>
 cond (!(decide (d=3))) (
 some (.bool false,c)) (
 ((c.ld a.2.next 1).bind asS).bind fun e=>
 cond (!(eqT e sign')) (
 some (.bool false,c)) (
 (zas p').bind fun f=>
 (addr? f).bind fun g=>
 ((c.ld g.1 (g.2+1)).bind (asI .i64)).bind fun h=>
 let i:Int:=IntKind.wrap .i64 (h+1)
 (zas p').bind fun j=>
 (addr? j).bind fun k=>
 (c.st k.1 (k.2+1) [.int .i64 i]).bind fun l=>
 some (.bool true,l)))
noncomputable abbrev zha:zac:=lS Tryz.prog Lk0 Tryz.f92 zau
theorem zhb:Lk0.func 92=some (92,Tryz.f92):=by kernel_rfl
theorem zcL [Sym] (p':Value) (sign':ByteArray) (st:SS) {r:Value×SS} (h:zco cc zha p' sign' st=some r):cc 92 [p',.string sign'] st=some r:=
 zad (li:=zau) zai zal zhb rfl (fun _=>rfl) (.trans (by kernel_rfl) h)
noncomputable def zdF (cf:zak) (lf:zac) (p':Value) (st:SS):Option (Value×SS):=
 (cf 69 [p'] st).bind fun a=>
 let b:SS:=a.2.new (.cells [.int .i64 0,.string ⟨#[]⟩,.int .i64 0,.int .i64 0,.int .i64 0] 0)
 (b.stV a.2.next 0 5 a.1).bind fun c=>
 ((c.ld a.2.next 0).bind (asI .i64)).bind fun d=>
 cond (!(decide (d=1))) (
 some (.tuple #[.string ⟨#[]⟩,.bool false],c)) (
 (zas p').bind fun e=>
 (addr? e).bind fun f=>
 ((c.ld f.1 (f.2+1)).bind (asI .i64)).bind fun g=>
 let h:Int:=IntKind.wrap .i64 (g+1)
 (zas p').bind fun i=>
 (addr? i).bind fun j=>
 (c.st j.1 (j.2+1) [.int .i64 h]).bind fun k=>
 ((k.ld a.2.next 1).bind asS).bind fun l=>
 some (.tuple #[.string l,.bool true],k))
noncomputable abbrev zhM:zac:=lS Tryz.prog Lk0 Tryz.f93 zau
theorem zhN:Lk0.func 93=some (93,Tryz.f93):=by kernel_rfl
theorem zev [Sym] (p':Value) (st:SS) {r:Value×SS} (h:zdF cc zhM p' st=some r):cc 93 [p'] st=some r:=
 zad (li:=zau) zai zal zhN rfl (fun _=>rfl) (.trans (by kernel_rfl) h)
noncomputable def zc9 (cf:zak) (lf:zac) (p':Value) (st:SS):Option (Value×SS):=
 (cf 69 [p'] st).bind fun a=>
 let b:SS:=a.2.new (.cells [.int .i64 0,.string ⟨#[]⟩,.int .i64 0,.int .i64 0,.int .i64 0] 0)
 (b.stV a.2.next 0 5 a.1).bind fun c=>
 ((c.ld a.2.next 0).bind (asI .i64)).bind fun d=>
 cond (!(decide (d=2))) (
 some (.tuple #[.int .i64 0,.bool false],c)) (
 (zas p').bind fun e=>
 (addr? e).bind fun f=>
 ((c.ld f.1 (f.2+1)).bind (asI .i64)).bind fun g=>
 let h:Int:=IntKind.wrap .i64 (g+1)
 (zas p').bind fun i=>
 (addr? i).bind fun j=>
 (c.st j.1 (j.2+1) [.int .i64 h]).bind fun k=>
 ((k.ld a.2.next 2).bind (asI .i64)).bind fun l=>
 some (.tuple #[.int .i64 l,.bool true],k))
noncomputable abbrev zgD:zac:=lS Tryz.prog Lk0 Tryz.f111 zau
theorem zgE:Lk0.func 111=some (111,Tryz.f111):=by kernel_rfl
theorem zdR [Sym] (p':Value) (st:SS) {r:Value×SS} (h:zc9 cc zgD p' st=some r):cc 111 [p'] st=some r:=
 zad (li:=zau) zai zal zgE rfl (fun _=>rfl) (.trans (by kernel_rfl) h)
noncomputable def zaZ (cf:zak) (lf:zac) (p':Value) (st:SS):Option (Value×SS):=
 let a:SS:=st.new (.cells [.string ⟨#[]⟩,.int .i64 0,.int .i64 0] 0)
 (cf 69 [p'] a).bind fun b=>
 ((zc1 Lk0 150 4 b.1).bind (asI .i64)).bind fun c=>
 let d:SS:=b.2.new (.cells [.string ⟨#[]⟩,.int .i64 0,.int .i64 0] 0)
 (d.st b.2.next 0 [.string ⟨#[]⟩,.int .i64 0,.int .i64 c]).bind fun e=>
 (cf 111 [p'] e).bind fun f=>
 ((zam f.1 0).bind (asI .i64)).bind fun g=>
 ((zam f.1 1).bind asB).bind fun h=>
 (f.2.st b.2.next 1 [.int .i64 g]).bind fun i=>
 cond h (
 (i.ldN b.2.next 0 3).bind fun j=>
 (i.stV st.next 0 3 j).bind fun k=>
 (k.rdN st.next 0 3).bind fun l=>
 some (.tuple #[l,.bool true],k)) (
 (cf 93 [p'] i).bind fun m=>
 ((zam m.1 0).bind asS).bind fun n=>
 ((zam m.1 1).bind asB).bind fun o=>
 (m.2.st b.2.next 0 [.string n]).bind fun p=>
 cond (!o) (
 (p.ldN b.2.next 0 3).bind fun q=>
 (p.stV st.next 0 3 q).bind fun r=>
 (r.rdN st.next 0 3).bind fun s=>
 some (.tuple #[s,.bool false],r)) (
 (cf 92 [p',.string ⟨#[43]⟩] p).bind fun t=>
 ((some t.1).bind asB).bind fun u=>
 cond u (
 (cf 111 [p'] t.2).bind fun v=>
 ((zam v.1 0).bind (asI .i64)).bind fun w=>
 ((zam v.1 1).bind asB).bind fun x=>
 (v.2.st b.2.next 1 [.int .i64 w]).bind fun y=>
 (y.ldN b.2.next 0 3).bind fun z=>
 (y.stV st.next 0 3 z).bind fun A=>
 (A.rdN st.next 0 3).bind fun B=>
 some (.tuple #[B,.bool x],A)) (
 (cf 92 [p',.string ⟨#[45]⟩] t.2).bind fun C=>
 ((some C.1).bind asB).bind fun D=>
 cond D (
 (cf 111 [p'] C.2).bind fun E=>
 ((zam E.1 0).bind (asI .i64)).bind fun F=>
 ((zam E.1 1).bind asB).bind fun G=>
 (E.2.st b.2.next 1 [.int .i64 F]).bind fun H=>
 ((H.ld b.2.next 1).bind (asI .i64)).bind fun I=>
 let J:Int:=IntKind.wrap .i64 (0-I)
 (H.st b.2.next 1 [.int .i64 J]).bind fun K=>
 (K.ldN b.2.next 0 3).bind fun L=>
 (K.stV st.next 0 3 L).bind fun M=>
 (M.rdN st.next 0 3).bind fun N=>
 some (.tuple #[N,.bool G],M)) (
 (C.2.ldN b.2.next 0 3).bind fun O=>
 (C.2.stV st.next 0 3 O).bind fun P=>
 (P.rdN st.next 0 3).bind fun Q=>
 some (.tuple #[Q,.bool o],P)))))
noncomputable abbrev zhc:zac:=lS Tryz.prog Lk0 Tryz.f94 zau
theorem zhd:Lk0.func 94=some (94,Tryz.f94):=by kernel_rfl
theorem zaV [Sym] (p':Value) (st:SS) {r:Value×SS} (h:zaZ cc zhc p' st=some r):cc 94 [p'] st=some r:=
 zad (li:=zau) zai zal zhd rfl (fun _=>rfl) (.trans (by kernel_rfl) h)
noncomputable def zby (cf:zak) (lf:zac) (p':Value) (l':Value) (st:SS):Option (Value×SS):=
 (cf 69 [p'] st).bind fun a=>
 ((zc1 Lk0 150 4 a.1).bind (asI .i64)).bind fun b=>
 let c:SS:=a.2.new (.cells [.string ⟨#[]⟩,.int .i64 0,.string ⟨#[]⟩,.int .i64 0,.int .i64 0] 0)
 (c.st a.2.next 0 [.string ⟨#[]⟩,.int .i64 b,.string ⟨#[]⟩,.int .i64 0,.int .i64 0]).bind fun d=>
 (cf 69 [p'] d).bind fun e=>
 ((zc1 Lk0 150 1 e.1).bind asS).bind fun f=>
 let g:SS:=e.2.new (.cells [.string ⟨#[]⟩] 0)
 (g.st e.2.next 0 [.string f]).bind fun h=>
 (cf 69 [p'] h).bind fun i=>
 ((zc1 Lk0 150 0 i.1).bind (asI .i64)).bind fun j=>
 cond (!(decide (j=1))) (
 some (.bool false,i.2)) (
 (zas l').bind fun k=>
 (addr? k).bind fun l=>
 (i.2.ld l.1 (l.2+4)).bind fun m=>
 (cf 112 [m,.func (.func 113) #[] #[ptr e.2.next 0]] i.2).bind fun n=>
 ((some n.1).bind asB).bind fun o=>
 cond o (
 some (.bool false,n.2)) (
 ((n.2.ld e.2.next 0).bind asS).bind fun p=>
 (n.2.st a.2.next 0 [.string p]).bind fun q=>
 (zas p').bind fun r=>
 (addr? r).bind fun s=>
 ((q.ld s.1 (s.2+1)).bind (asI .i64)).bind fun t=>
 let u:Int:=IntKind.wrap .i64 (t+1)
 (zas p').bind fun v=>
 (addr? v).bind fun w=>
 (q.st w.1 (w.2+1) [.int .i64 u]).bind fun x=>
 (cf 92 [p',.string ⟨#[61]⟩] x).bind fun y=>
 ((some y.1).bind asB).bind fun z=>
 cond (!z) (
 some (.bool false,y.2)) (
 (cf 94 [p'] y.2).bind fun A=>
 (zam A.1 0).bind fun B=>
 ((zam A.1 1).bind asB).bind fun C=>
 (A.2.stV a.2.next 2 3 B).bind fun D=>
 cond (!C) (
 some (.bool false,D)) (
 (zas l').bind fun E=>
 (addr? E).bind fun F=>
 (D.ld F.1 (F.2+4)).bind fun G=>
 (D.ldN a.2.next 0 5).bind fun H=>
 (zaP H 5).bind fun I=>
 let J:SS:=D.new (.cells (I++([])) 5)
 (J.app 5 56 G (.slice (some ⟨D.next,0,none⟩) 1 1)).bind fun K=>
 (zas l').bind fun L=>
 (addr? L).bind fun M=>
 (K.2.stV M.1 (M.2+4) 1 K.1).bind fun N=>
 some (.bool true,N)))))
noncomputable abbrev zhO:zac:=lS Tryz.prog Lk0 Tryz.f95 zau
theorem zhP:Lk0.func 95=some (95,Tryz.f95):=by kernel_rfl
theorem zbz [Sym] (p':Value) (l':Value) (st:SS) {r:Value×SS} (h:zby cc zhO p' l' st=some r):cc 95 [p',l'] st=some r:=
 zad (li:=zau) zai zal zhP rfl (fun _=>rfl) (.trans (by kernel_rfl) h)
def zdS:LoopI:=⟨[(0,.any),(2,.any),(4,.any)],[(.exit 2,[(2,.any),(4,.any)]),(.ret,[(2,.any),(3,.bool)])]⟩
def zdT:LoopI:=⟨[(0,.any),(2,.any),(4,.any)],[(.exit 0,[(2,.any),(4,.any)]),(.ret,[(2,.any),(3,.bool)])]⟩
def zew (n:Nat):Option LoopI:=cond (Nat.beq n 11) (some zdT) (cond (Nat.beq n 17) (some zdS) (none))
noncomputable def zb1 (cf:zak) (lf:zac) (p':Value) (st:SS):Option (Value×SS):=
 let a:SS:=st.new (.cells [.int .i64 0,.string ⟨#[]⟩,.string ⟨#[]⟩,.slice none 0 0,.slice none 0 0] 0)
 (cf 69 [p'] a).bind fun b=>
 ((zc1 Lk0 150 3 b.1).bind (asI .i64)).bind fun c=>
 let d:SS:=b.2.new (.cells [.int .i64 0,.string ⟨#[]⟩,.string ⟨#[]⟩,.slice none 0 0,.slice none 0 0] 0)
 (d.st b.2.next 0 [.int .i64 c,.string ⟨#[]⟩,.string ⟨#[]⟩,.slice none 0 0,.slice none 0 0]).bind fun e=>
 (cf 91 [p'] e).bind fun f=>
 let g:SS:=f.2.new (.cells [.int .i64 0,.string ⟨#[]⟩,.int .i64 0,.int .i64 0,.int .i64 0] 0)
 (g.stV f.2.next 0 5 f.1).bind fun h=>
 (cf 69 [p'] h).bind fun i=>
 ((zc1 Lk0 150 0 i.1).bind (asI .i64)).bind fun j=>
 cond (decide (j=1)) (
 ((i.2.ld f.2.next 0).bind (asI .i64)).bind fun k=>
 cond (decide (k=3)) (
 ((i.2.ld f.2.next 1).bind asS).bind fun l=>
 cond (eqT l ⟨#[58]⟩) (
 (cf 69 [p'] i.2).bind fun m=>
 ((zc1 Lk0 150 1 m.1).bind asS).bind fun n=>
 (m.2.st b.2.next 1 [.string n]).bind fun o=>
 (zas p').bind fun p=>
 (addr? p).bind fun q=>
 ((o.ld q.1 (q.2+1)).bind (asI .i64)).bind fun r=>
 let s:Int:=IntKind.wrap .i64 (r+2)
 (zas p').bind fun t=>
 (addr? t).bind fun u=>
 (o.st u.1 (u.2+1) [.int .i64 s]).bind fun v=>
 (cf 92 [p',.string ⟨#[46]⟩] v).bind fun w=>
 ((some w.1).bind asB).bind fun x=>
 cond x (
 (cf 93 [p'] w.2).bind fun y=>
 ((zam y.1 0).bind asS).bind fun z=>
 ((zam y.1 1).bind asB).bind fun A=>
 (y.2.st b.2.next 2 [.string z]).bind fun B=>
 cond (!A) (
 (B.ldN b.2.next 0 5).bind fun C=>
 (B.stV st.next 0 5 C).bind fun D=>
 (D.rdN st.next 0 5).bind fun E=>
 some (.tuple #[E,.bool false],D)) (
 (lf 11 [p',ptr st.next 0,ptr b.2.next 0] B).bind fun F=>
 cond (Nat.beq F.1 0) (
 (F.2.1[0]?).bind fun G=>
 (F.2.1[1]?).bind fun H=>
 (addr? H).bind fun I=>
 (F.2.2.ldN I.1 I.2 5).bind fun J=>
 (addr? G).bind fun K=>
 (F.2.2.stV K.1 K.2 5 J).bind fun L=>
 (addr? G).bind fun M=>
 (L.rdN M.1 M.2 5).bind fun N=>
 some (.tuple #[N,.bool true],L)) (
 (F.2.1[0]?).bind fun O=>
 ((F.2.1[1]?).bind asB).bind fun P=>
 (addr? O).bind fun Q=>
 (F.2.2.rdN Q.1 Q.2 5).bind fun R=>
 some (.tuple #[R,.bool P],F.2.2)))) (
 (lf 17 [p',ptr st.next 0,ptr b.2.next 0] w.2).bind fun S=>
 cond (Nat.beq S.1 0) (
 (S.2.1[0]?).bind fun T=>
 (S.2.1[1]?).bind fun U=>
 (addr? U).bind fun V=>
 (S.2.2.ldN V.1 V.2 5).bind fun W=>
 (addr? T).bind fun X=>
 (S.2.2.stV X.1 X.2 5 W).bind fun Y=>
 (addr? T).bind fun Z=>
 (Y.rdN Z.1 Z.2 5).bind fun aA=>
 some (.tuple #[aA,.bool true],Y)) (
 (S.2.1[0]?).bind fun aB=>
 ((S.2.1[1]?).bind asB).bind fun aC=>
 (addr? aB).bind fun aD=>
 (S.2.2.rdN aD.1 aD.2 5).bind fun aE=>
 some (.tuple #[aE,.bool aC],S.2.2)))) (
 (cf 92 [p',.string ⟨#[46]⟩] i.2).bind fun aF=>
 ((some aF.1).bind asB).bind fun aG=>
 cond aG (
 (cf 93 [p'] aF.2).bind fun aH=>
 ((zam aH.1 0).bind asS).bind fun aI=>
 ((zam aH.1 1).bind asB).bind fun aJ=>
 (aH.2.st b.2.next 2 [.string aI]).bind fun aK=>
 cond (!aJ) (
 (aK.ldN b.2.next 0 5).bind fun aL=>
 (aK.stV st.next 0 5 aL).bind fun aM=>
 (aM.rdN st.next 0 5).bind fun aN=>
 some (.tuple #[aN,.bool false],aM)) (
 (lf 11 [p',ptr st.next 0,ptr b.2.next 0] aK).bind fun aO=>
 cond (Nat.beq aO.1 0) (
 (aO.2.1[0]?).bind fun aP=>
 (aO.2.1[1]?).bind fun aQ=>
 (addr? aQ).bind fun aR=>
 (aO.2.2.ldN aR.1 aR.2 5).bind fun aS=>
 (addr? aP).bind fun aT=>
 (aO.2.2.stV aT.1 aT.2 5 aS).bind fun aU=>
 (addr? aP).bind fun aV=>
 (aU.rdN aV.1 aV.2 5).bind fun aW=>
 some (.tuple #[aW,.bool true],aU)) (
 (aO.2.1[0]?).bind fun aX=>
 ((aO.2.1[1]?).bind asB).bind fun aY=>
 (addr? aX).bind fun aZ=>
 (aO.2.2.rdN aZ.1 aZ.2 5).bind fun bA=>
 some (.tuple #[bA,.bool aY],aO.2.2)))) (
 (lf 17 [p',ptr st.next 0,ptr b.2.next 0] aF.2).bind fun bB=>
 cond (Nat.beq bB.1 0) (
 (bB.2.1[0]?).bind fun bC=>
 (bB.2.1[1]?).bind fun bD=>
 (addr? bD).bind fun bE=>
 (bB.2.2.ldN bE.1 bE.2 5).bind fun bF=>
 (addr? bC).bind fun bG=>
 (bB.2.2.stV bG.1 bG.2 5 bF).bind fun bH=>
 (addr? bC).bind fun bI=>
 (bH.rdN bI.1 bI.2 5).bind fun bJ=>
 some (.tuple #[bJ,.bool true],bH)) (
 (bB.2.1[0]?).bind fun bK=>
 ((bB.2.1[1]?).bind asB).bind fun bL=>
 (addr? bK).bind fun bM=>
 (bB.2.2.rdN bM.1 bM.2 5).bind fun bN=>
 some (.tuple #[bN,.bool bL],bB.2.2))))) (
 (cf 92 [p',.string ⟨#[46]⟩] i.2).bind fun bO=>
 ((some bO.1).bind asB).bind fun bP=>
 cond bP (
 (cf 93 [p'] bO.2).bind fun bQ=>
 ((zam bQ.1 0).bind asS).bind fun bR=>
 ((zam bQ.1 1).bind asB).bind fun bS=>
 (bQ.2.st b.2.next 2 [.string bR]).bind fun bT=>
 cond (!bS) (
 (bT.ldN b.2.next 0 5).bind fun bU=>
 (bT.stV st.next 0 5 bU).bind fun bV=>
 (bV.rdN st.next 0 5).bind fun bW=>
 some (.tuple #[bW,.bool false],bV)) (
 (lf 11 [p',ptr st.next 0,ptr b.2.next 0] bT).bind fun bX=>
 cond (Nat.beq bX.1 0) (
 (bX.2.1[0]?).bind fun bY=>
 (bX.2.1[1]?).bind fun bZ=>
 (addr? bZ).bind fun cA=>
 (bX.2.2.ldN cA.1 cA.2 5).bind fun cB=>
 (addr? bY).bind fun cC=>
 (bX.2.2.stV cC.1 cC.2 5 cB).bind fun cD=>
 (addr? bY).bind fun cE=>
 (cD.rdN cE.1 cE.2 5).bind fun cF=>
 some (.tuple #[cF,.bool true],cD)) (
 (bX.2.1[0]?).bind fun cG=>
 ((bX.2.1[1]?).bind asB).bind fun cH=>
 (addr? cG).bind fun cI=>
 (bX.2.2.rdN cI.1 cI.2 5).bind fun cJ=>
 some (.tuple #[cJ,.bool cH],bX.2.2)))) (
 (lf 17 [p',ptr st.next 0,ptr b.2.next 0] bO.2).bind fun cK=>
 cond (Nat.beq cK.1 0) (
 (cK.2.1[0]?).bind fun cL=>
 (cK.2.1[1]?).bind fun cM=>
 (addr? cM).bind fun cN=>
 (cK.2.2.ldN cN.1 cN.2 5).bind fun cO=>
 (addr? cL).bind fun cP=>
 (cK.2.2.stV cP.1 cP.2 5 cO).bind fun cQ=>
 (addr? cL).bind fun cR=>
 (cQ.rdN cR.1 cR.2 5).bind fun cS=>
 some (.tuple #[cS,.bool true],cQ)) (
 (cK.2.1[0]?).bind fun cT=>
 ((cK.2.1[1]?).bind asB).bind fun cU=>
 (addr? cT).bind fun cV=>
 (cK.2.2.rdN cV.1 cV.2 5).bind fun cW=>
 some (.tuple #[cW,.bool cU],cK.2.2))))) (
 (cf 92 [p',.string ⟨#[46]⟩] i.2).bind fun cX=>
 ((some cX.1).bind asB).bind fun cY=>
 cond cY (
 (cf 93 [p'] cX.2).bind fun cZ=>
 ((zam cZ.1 0).bind asS).bind fun dA=>
 ((zam cZ.1 1).bind asB).bind fun dB=>
 (cZ.2.st b.2.next 2 [.string dA]).bind fun dC=>
 cond (!dB) (
 (dC.ldN b.2.next 0 5).bind fun dD=>
 (dC.stV st.next 0 5 dD).bind fun dE=>
 (dE.rdN st.next 0 5).bind fun dF=>
 some (.tuple #[dF,.bool false],dE)) (
 (lf 11 [p',ptr st.next 0,ptr b.2.next 0] dC).bind fun dG=>
 cond (Nat.beq dG.1 0) (
 (dG.2.1[0]?).bind fun dH=>
 (dG.2.1[1]?).bind fun dI=>
 (addr? dI).bind fun dJ=>
 (dG.2.2.ldN dJ.1 dJ.2 5).bind fun dK=>
 (addr? dH).bind fun dL=>
 (dG.2.2.stV dL.1 dL.2 5 dK).bind fun dM=>
 (addr? dH).bind fun dN=>
 (dM.rdN dN.1 dN.2 5).bind fun dO=>
 some (.tuple #[dO,.bool true],dM)) (
 (dG.2.1[0]?).bind fun dP=>
 ((dG.2.1[1]?).bind asB).bind fun dQ=>
 (addr? dP).bind fun dR=>
 (dG.2.2.rdN dR.1 dR.2 5).bind fun dS=>
 some (.tuple #[dS,.bool dQ],dG.2.2)))) (
 (lf 17 [p',ptr st.next 0,ptr b.2.next 0] cX.2).bind fun dT=>
 cond (Nat.beq dT.1 0) (
 (dT.2.1[0]?).bind fun dU=>
 (dT.2.1[1]?).bind fun dV=>
 (addr? dV).bind fun dW=>
 (dT.2.2.ldN dW.1 dW.2 5).bind fun dX=>
 (addr? dU).bind fun dY=>
 (dT.2.2.stV dY.1 dY.2 5 dX).bind fun dZ=>
 (addr? dU).bind fun gA=>
 (dZ.rdN gA.1 gA.2 5).bind fun gB=>
 some (.tuple #[gB,.bool true],dZ)) (
 (dT.2.1[0]?).bind fun gC=>
 ((dT.2.1[1]?).bind asB).bind fun gD=>
 (addr? gC).bind fun gE=>
 (dT.2.2.rdN gE.1 gE.2 5).bind fun gF=>
 some (.tuple #[gF,.bool gD],dT.2.2))))
noncomputable abbrev zaz:zac:=lS Tryz.prog Lk0 Tryz.f68 zew
theorem zhQ:Lk0.func 68=some (68,Tryz.f68):=by kernel_rfl
theorem zex [Sym] (p':Value) (st:SS) {r:Value×SS} (h:zb1 cc zaz p' st=some r):cc 68 [p'] st=some r:=
 zad (li:=zew) zai zal zhQ rfl (fun _=>rfl) (.trans (by kernel_rfl) h)
noncomputable def zbW (cf:zak) (lf:zac) (p':Value) (t2':Value) (l':Value) (st:SS):Option (Nat×List Value×SS):=
 (cf 69 [p'] st).bind fun a=>
 ((zc1 Lk0 150 0 a.1).bind (asI .i64)).bind fun b=>
 cond (!(decide (b=0))) (
 (cf 94 [p'] a.2).bind fun c=>
 (zam c.1 0).bind fun d=>
 ((zam c.1 1).bind asB).bind fun e=>
 let f:SS:=c.2.new (.cells [.string ⟨#[]⟩,.int .i64 0,.int .i64 0] 0)
 (f.stV c.2.next 0 3 d).bind fun g=>
 cond (!e) (
 (addr? l').bind fun h=>
 (g.ldN h.1 h.2 5).bind fun i=>
 (addr? t2').bind fun j=>
 (g.stV j.1 j.2 5 i).bind fun k=>
 some (1,[t2',.bool false],k)) (
 (addr? l').bind fun l=>
 (g.ld l.1 (l.2+3)).bind fun m=>
 (g.ldN c.2.next 0 3).bind fun n=>
 (zaP n 3).bind fun o=>
 let p:SS:=g.new (.cells (o++([])) 3)
 (p.app 3 32 m (.slice (some ⟨g.next,0,none⟩) 1 1)).bind fun q=>
 (addr? l').bind fun r=>
 (q.2.stV r.1 (r.2+3) 1 q.1).bind fun s=>
 lf 11 [p',t2',l'] s)) (
 some (0,[t2',l'],a.2))
theorem zca [Sym] (p':Value) (t2':Value) (l':Value) (st:SS) {r:Nat×List Value×SS} (h:zbW cc zaz p' t2' l' st=some r):zaz 11 [p',t2',l'] st=some r:=
 zaC zai zal (key:=11) (I:=zdT) rfl (by kernel_rfl) (by kernel_rfl) rfl rfl (.trans (by kernel_rfl) h)
noncomputable def zbX (cf:zak) (lf:zac) (p':Value) (t2':Value) (l':Value) (st:SS):Option (Nat×List Value×SS):=
 (cf 69 [p'] st).bind fun a=>
 ((zc1 Lk0 150 0 a.1).bind (asI .i64)).bind fun b=>
 cond (!(decide (b=0))) (
 (cf 95 [p',l'] a.2).bind fun c=>
 ((some c.1).bind asB).bind fun d=>
 cond (!d) (
 (addr? l').bind fun e=>
 (c.2.ldN e.1 e.2 5).bind fun f=>
 (addr? t2').bind fun g=>
 (c.2.stV g.1 g.2 5 f).bind fun h=>
 some (1,[t2',.bool false],h)) (
 lf 17 [p',t2',l'] c.2)) (
 some (0,[t2',l'],a.2))
theorem zcb [Sym] (p':Value) (t2':Value) (l':Value) (st:SS) {r:Nat×List Value×SS} (h:zbX cc zaz p' t2' l' st=some r):zaz 17 [p',t2',l'] st=some r:=
 zaC zai zal (key:=17) (I:=zdS) rfl (by kernel_rfl) (by kernel_rfl) rfl rfl (.trans (by kernel_rfl) h)
def zgu:LoopI:=⟨[(3,.any),(5,.any),(8,.any),(9,.any)],[(.exit 0,[(3,.any),(9,.any)]),(.ret,[(2,.any),(3,.any),(4,.int .i64)])]⟩
def zgW (n:Nat):Option LoopI:=cond (Nat.beq n 6) (some zgu) (none)
noncomputable def zeO (cf:zak) (lf:zac) (text':ByteArray) (st:SS):Option (Value×SS):=
 let a:SS:=st.new (.cells [.int .i64 0,.int .i64 0] 0)
 (cf 67 [.string text'] a).bind fun b=>
 (zam b.1 0).bind fun c=>
 (zam b.1 1).bind fun d=>
 ((zam b.1 2).bind (asI .i64)).bind fun e=>
 let f:SS:=b.2.new (.cells [.int .i64 0,.int .i64 0] 0)
 (f.stV b.2.next 0 2 d).bind fun g=>
 cond (!(decide (e=0))) (
 (g.ldN b.2.next 0 2).bind fun h=>
 (g.stV st.next 0 2 h).bind fun i=>
 (i.rdN st.next 0 2).bind fun j=>
 some (.tuple #[.slice none 0 0,j,.int .i64 e],i)) (
 (zaP c 1).bind fun k=>
 let l:SS:=g.new (.cells (.agg ⟨spl [.slice none 0 0,.int .i64 0] 0 k⟩:Value).cells.toList 0)
 (lf 6 [ptr st.next 0,c,ptr g.next 0,.slice none 0 0] l).bind fun m=>
 cond (Nat.beq m.1 0) (
 (m.2.1[0]?).bind fun n=>
 (m.2.1[1]?).bind fun o=>
 (addr? n).bind fun p=>
 (m.2.2.st p.1 p.2 [.int .i64 0,.int .i64 0]).bind fun q=>
 (addr? n).bind fun r=>
 (q.rdN r.1 r.2 2).bind fun s=>
 some (.tuple #[o,s,.int .i64 0],q)) (
 (m.2.1[0]?).bind fun t=>
 (m.2.1[1]?).bind fun u=>
 ((m.2.1[2]?).bind (asI .i64)).bind fun v=>
 (addr? u).bind fun w=>
 (m.2.2.rdN w.1 w.2 2).bind fun x=>
 some (.tuple #[t,x,.int .i64 v],m.2.2)))
noncomputable abbrev zbs:zac:=lS Tryz.prog Lk0 Tryz.f42 zgW
theorem zlD:Lk0.func 42=some (42,Tryz.f42):=by kernel_rfl
theorem zeP [Sym] (text':ByteArray) (st:SS) {r:Value×SS} (h:zeO cc zbs text' st=some r):cc 42 [.string text'] st=some r:=
 zad (li:=zgW) zai zal zlD rfl (fun _=>rfl) (.trans (by kernel_rfl) h)
noncomputable def zbK (cf:zak) (lf:zac) (t3':Value) (tokens':Value) (p':Value) (out':Value) (st:SS):Option (Nat×List Value×SS):=
 (zas p').bind fun a=>
 (addr? a).bind fun b=>
 ((st.ld b.1 (b.2+1)).bind (asI .i64)).bind fun c=>
 ((lenV tokens').bind (asI .i64)).bind fun d=>
 cond (decide (c<d)) (
 (cf 68 [p'] st).bind fun e=>
 (zam e.1 0).bind fun f=>
 ((zam e.1 1).bind asB).bind fun g=>
 let h:SS:=e.2.new (.cells [.int .i64 0,.string ⟨#[]⟩,.string ⟨#[]⟩,.slice none 0 0,.slice none 0 0] 0)
 (h.stV e.2.next 0 5 f).bind fun i=>
 cond (!g) (
 (cf 69 [p'] i).bind fun j=>
 ((zc1 Lk0 150 3 j.1).bind (asI .i64)).bind fun k=>
 (cf 69 [p'] j.2).bind fun l=>
 ((zc1 Lk0 150 4 l.1).bind (asI .i64)).bind fun m=>
 (addr? t3').bind fun n=>
 (l.2.st n.1 n.2 [.int .i64 k,.int .i64 m]).bind fun o=>
 some (1,[.slice none 0 0,t3',.int .i64 4],o)) (
 (zas p').bind fun p=>
 (addr? p).bind fun q=>
 ((i.ld q.1 (q.2+1)).bind (asI .i64)).bind fun r=>
 let s:Int:=IntKind.wrap .i64 (r+1)
 (zas p').bind fun t=>
 (addr? t).bind fun u=>
 (i.st u.1 (u.2+1) [.int .i64 s]).bind fun v=>
 ((v.ld e.2.next 1).bind asS).bind fun w=>
 cond (!(eqT w ⟨#[]⟩)) (
 (v.ldN e.2.next 0 5).bind fun x=>
 (zaP x 5).bind fun y=>
 let z:SS:=v.new (.cells (y++([])) 5)
 (z.app 5 88 out' (.slice (some ⟨v.next,0,none⟩) 1 1)).bind fun A=>
 lf 6 [t3',tokens',p',A.1] A.2) (
 ((v.ld e.2.next 2).bind asS).bind fun B=>
 cond (!(eqT B ⟨#[]⟩)) (
 (v.ldN e.2.next 0 5).bind fun C=>
 (zaP C 5).bind fun D=>
 let E:SS:=v.new (.cells (D++([])) 5)
 (E.app 5 88 out' (.slice (some ⟨v.next,0,none⟩) 1 1)).bind fun F=>
 lf 6 [t3',tokens',p',F.1] F.2) (
 (v.ld e.2.next 4).bind fun G=>
 ((lenV G).bind (asI .i64)).bind fun H=>
 cond (decide (0<H)) (
 (v.ldN e.2.next 0 5).bind fun I=>
 (zaP I 5).bind fun J=>
 let K:SS:=v.new (.cells (J++([])) 5)
 (K.app 5 88 out' (.slice (some ⟨v.next,0,none⟩) 1 1)).bind fun L=>
 lf 6 [t3',tokens',p',L.1] L.2) (
 lf 6 [t3',tokens',p',out'] v))))) (
 some (0,[t3',out'],st))
theorem zcG [Sym] (t3':Value) (tokens':Value) (p':Value) (out':Value) (st:SS) {r:Nat×List Value×SS} (h:zbK cc zbs t3' tokens' p' out' st=some r):zbs 6 [t3',tokens',p',out'] st=some r:=
 zaC zai zal (key:=6) (I:=zgu) rfl (by kernel_rfl) (by kernel_rfl) rfl rfl (.trans (by kernel_rfl) h)
end Go.Proofs.YtifploedaacedaaGreatDoorE
