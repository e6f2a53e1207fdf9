/- Parts of the proof of UasmMakes, packed by a program: an evaluator over the given code, functions as plain texts, their laws. -/
import Derived.KernelRfl
import Derived.Test.YtifploedaacedaaGreatDoorPNB
set_option linter.unusedVariables false
set_option linter.unusedSimpArgs false
namespace Go.E
open Go
def PT.vals {α:Type}:PT α→(Nat→Nat)→List (Nat×α)
 | .nil,_=>[]
 | .node l v r,f=>(match v with | some x=>[(f 0,x)] | none=>[])++(l.vals (fun k=>f (2*k+1))++r.vals (fun k=>f (2*k+2)))
theorem PT.all_vals {α:Type} {p:Nat→α→Prop}:∀ (t:PT α) (f:Nat→Nat),(∀ x∈t.vals f,p x.1 x.2)→t.All p f
 | .nil,_,_=>trivial
 | .node l v r,f,h=>⟨fun x hx=>by
   subst hx
   exact h (f 0,x) (by simp [PT.vals]),PT.all_vals l _ fun x hx=>h x (by simp [PT.vals,hx]),PT.all_vals r _ fun x hx=>h x (by simp [PT.vals,hx])⟩
theorem PT.all_map {α β:Type} {p:Nat→α→Prop} {g h:Nat×α→β} {t:PT α} (hp:∀ x:Nat×α,g x=h x→p x.1 x.2) (e:(t.vals fun k=>k).map g=(t.vals fun k=>k).map h):t.All p fun k=>k:=
 PT.all_vals t _ fun x hx=>hp x (List.map_inj_left.1 e x hx)
noncomputable def zL {α:Type} (x:α):PT α:=.node .nil (some x) .nil
noncomputable def zN {α:Type} (l:PT α) (x:α) (r:PT α):PT α:=.node l (some x) r
end Go.E
namespace Go.Proofs.YtifploedaacedaaGreatDoorE
open Go Go.E Go.Proofs
set_option maxRecDepth 100000
open Tryz in
noncomputable def tyT:PT TypeInfo:=zN (zN (zN (zN (zN (zN (zN (zN (zL t255) t127 .nil) t63 (zL t191)) t31 (zN (zN (zL t287) t159 .nil) t95 (zL t223))) t15 (zN (zN (zN (zL t271) t143 .nil) t79 (zL t207)) t47 (zN (zL t175)
 t111 (zL t239)))) t7 (zN (zN (zN (zN (zL t263) t135 .nil) t71 (zL t199)) t39 (zN (zL t167) t103 (zL t231))) t23 (zN (zN (zN (zL t279) t151 .nil) t87 (zL t215)) t55 (zN (zL t183) t119 (zL t247))))) t3 (zN (zN (zN (zN (zN (zL t259) t131
 .nil) t67 (zL t195)) t35 (zN (zL t163) t99 (zL t227))) t19 (zN (zN (zN (zL t275) t147 .nil) t83 (zL t211)) t51 (zN (zL t179) t115 (zL t243)))) t11 (zN (zN (zN (zN (zL t267) t139 .nil) t75 (zL t203)) t43 (zN (zL t171) t107 (zL t235))) t27
 (zN (zN (zN (zL t283) t155 .nil) t91 (zL t219)) t59 (zN (zL t187) t123 (zL t251)))))) t1 (zN (zN (zN (zN (zN (zN (zL t257) t129 .nil) t65 (zL t193)) t33 (zN (zL t161) t97 (zL t225))) t17 (zN (zN (zN (zL t273) t145 .nil) t81 (zL t209)) t49
 (zN (zL t177) t113 (zL t241)))) t9 (zN (zN (zN (zN (zL t265) t137 .nil) t73 (zL t201)) t41 (zN (zL t169) t105 (zL t233))) t25 (zN (zN (zN (zL t281) t153 .nil) t89 (zL t217)) t57 (zN (zL t185) t121 (zL t249))))) t5 (zN (zN (zN (zN (zN (zL
 t261) t133 .nil) t69 (zL t197)) t37 (zN (zL t165) t101 (zL t229))) t21 (zN (zN (zN (zL t277) t149 .nil) t85 (zL t213)) t53 (zN (zL t181) t117 (zL t245)))) t13 (zN (zN (zN (zN (zL t269) t141 .nil) t77 (zL t205)) t45 (zN (zL t173) t109 (zL
 t237))) t29 (zN (zN (zN (zL t285) t157 .nil) t93 (zL t221)) t61 (zN (zL t189) t125 (zL t253))))))) t0 (zN (zN (zN (zN (zN (zN (zN (zL t256) t128 .nil) t64 (zL t192)) t32 (zN (zL t160) t96 (zL t224))) t16 (zN (zN (zN (zL t272) t144 .nil)
 t80 (zL t208)) t48 (zN (zL t176) t112 (zL t240)))) t8 (zN (zN (zN (zN (zL t264) t136 .nil) t72 (zL t200)) t40 (zN (zL t168) t104 (zL t232))) t24 (zN (zN (zN (zL t280) t152 .nil) t88 (zL t216)) t56 (zN (zL t184) t120 (zL t248))))) t4 (zN
 (zN (zN (zN (zN (zL t260) t132 .nil) t68 (zL t196)) t36 (zN (zL t164) t100 (zL t228))) t20 (zN (zN (zN (zL t276) t148 .nil) t84 (zL t212)) t52 (zN (zL t180) t116 (zL t244)))) t12 (zN (zN (zN (zN (zL t268) t140 .nil) t76 (zL t204)) t44 (zN
 (zL t172) t108 (zL t236))) t28 (zN (zN (zN (zL t284) t156 .nil) t92 (zL t220)) t60 (zN (zL t188) t124 (zL t252)))))) t2 (zN (zN (zN (zN (zN (zN (zL t258) t130 .nil) t66 (zL t194)) t34 (zN (zL t162) t98 (zL t226))) t18 (zN (zN (zN (zL t274)
 t146 .nil) t82 (zL t210)) t50 (zN (zL t178) t114 (zL t242)))) t10 (zN (zN (zN (zN (zL t266) t138 .nil) t74 (zL t202)) t42 (zN (zL t170) t106 (zL t234))) t26 (zN (zN (zN (zL t282) t154 .nil) t90 (zL t218)) t58 (zN (zL t186) t122 (zL
 t250))))) t6 (zN (zN (zN (zN (zN (zL t262) t134 .nil) t70 (zL t198)) t38 (zN (zL t166) t102 (zL t230))) t22 (zN (zN (zN (zL t278) t150 .nil) t86 (zL t214)) t54 (zN (zL t182) t118 (zL t246)))) t14 (zN (zN (zN (zN (zL t270) t142 .nil) t78
 (zL t206)) t46 (zN (zL t174) t110 (zL t238))) t30 (zN (zN (zN (zL t286) t158 .nil) t94 (zL t222)) t62 (zN (zL t190) t126 (zL t254)))))))
open Tryz in
noncomputable def unT:PT TypeDesc:=zN (zN (zN (zN (zN (zN (zN (zN (zL t255.desc) t126.desc .nil) t63.desc (zL t191.desc)) t31.desc (zN (zN (zL t287.desc) t159.desc .nil) t94.desc (zL t223.desc))) t15.desc (zN (zN (zN (zL
 t271.desc) t143.desc .nil) t79.desc (zL t207.desc)) t46.desc (zN (zL t175.desc) t111.desc (zL t239.desc)))) t7.desc (zN (zN (zN (zN (zL t262.desc) t134.desc .nil) t71.desc (zL t198.desc)) t38.desc (zN (zL t167.desc) t103.desc (zL
 t231.desc))) t23.desc (zN (zN (zN (zL t278.desc) t151.desc .nil) t87.desc (zL t215.desc)) t55.desc (zN (zL t183.desc) t119.desc (zL t247.desc))))) t3.desc (zN (zN (zN (zN (zN (zL t258.desc) t131.desc .nil) t67.desc (zL t195.desc)) t34.desc
 (zN (zL t163.desc) t99.desc (zL t227.desc))) t18.desc (zN (zN (zN (zL t275.desc) t146.desc .nil) t83.desc (zL t211.desc)) t51.desc (zN (zL t179.desc) t115.desc (zL t243.desc)))) t9.desc (zN (zN (zN (zN (zL t267.desc) t138.desc .nil)
 t75.desc (zL t203.desc)) t43.desc (zN (zL t171.desc) t106.desc (zL t235.desc))) t27.desc (zN (zN (zN (zL t21.desc) t155.desc .nil) t91.desc (zL t219.desc)) t59.desc (zN (zL t187.desc) t123.desc (zL t251.desc)))))) t1.desc (zN (zN (zN (zN
 (zN (zN (zL t257.desc) t129.desc .nil) t65.desc (zL t193.desc)) t33.desc (zN (zL t161.desc) t27.desc (zL t225.desc))) t17.desc (zN (zN (zN (zL t273.desc) t145.desc .nil) t81.desc (zL t209.desc)) t49.desc (zN (zL t177.desc) t113.desc (zL
 t241.desc)))) t9.desc (zN (zN (zN (zN (zL t265.desc) t137.desc .nil) t73.desc (zL t201.desc)) t41.desc (zN (zL t169.desc) t105.desc (zL t233.desc))) t25.desc (zN (zN (zN (zL t5.desc) t153.desc .nil) t89.desc (zL t217.desc)) t57.desc (zN
 (zL t185.desc) t120.desc (zL t249.desc))))) t5.desc (zN (zN (zN (zN (zN (zL t261.desc) t133.desc .nil) t69.desc (zL t197.desc)) t37.desc (zN (zL t165.desc) t101.desc (zL t229.desc))) t21.desc (zN (zN (zN (zL t277.desc) t149.desc .nil)
 t85.desc (zL t213.desc)) t53.desc (zN (zL t181.desc) t117.desc (zL t245.desc)))) t13.desc (zN (zN (zN (zN (zL t268.desc) t141.desc .nil) t76.desc (zL t205.desc)) t45.desc (zN (zL t173.desc) t108.desc (zL t237.desc))) t29.desc (zN (zN (zN
 (zL t285.desc) t157.desc .nil) t93.desc (zL t221.desc)) t61.desc (zN (zL t189.desc) t125.desc (zL t253.desc))))))) t0.desc (zN (zN (zN (zN (zN (zN (zN (zL t256.desc) t128.desc .nil) t64.desc (zL t192.desc)) t32.desc (zN (zL t160.desc)
 t96.desc (zL t224.desc))) t16.desc (zN (zN (zN (zL t272.desc) t144.desc .nil) t79.desc (zL t207.desc)) t48.desc (zN (zL t176.desc) t112.desc (zL t240.desc)))) t7.desc (zN (zN (zN (zN (zL t264.desc) t136.desc .nil) t72.desc (zL t200.desc))
 t40.desc (zN (zL t168.desc) t104.desc (zL t232.desc))) t24.desc (zN (zN (zN (zL t5.desc) t152.desc .nil) t88.desc (zL t216.desc)) t56.desc (zN (zL t184.desc) t120.desc (zL t247.desc))))) t4.desc (zN (zN (zN (zN (zN (zL t260.desc) t132.desc
 .nil) t68.desc (zL t196.desc)) t36.desc (zN (zL t164.desc) t100.desc (zL t3.desc))) t20.desc (zN (zN (zN (zL t275.desc) t148.desc .nil) t84.desc (zL t212.desc)) t52.desc (zN (zL t180.desc) t116.desc (zL t244.desc)))) t12.desc (zN (zN (zN
 (zN (zL t268.desc) t140.desc .nil) t76.desc (zL t204.desc)) t44.desc (zN (zL t172.desc) t108.desc (zL t236.desc))) t3.desc (zN (zN (zN (zL t21.desc) t106.desc .nil) t91.desc (zL t220.desc)) t60.desc (zN (zL t188.desc) t124.desc (zL
 t251.desc)))))) t2.desc (zN (zN (zN (zN (zN (zN (zL t258.desc) t130.desc .nil) t66.desc (zL t194.desc)) t34.desc (zN (zL t162.desc) t98.desc (zL t226.desc))) t18.desc (zN (zN (zN (zL t274.desc) t146.desc .nil) t82.desc (zL t210.desc))
 t50.desc (zN (zL t178.desc) t114.desc (zL t241.desc)))) t9.desc (zN (zN (zN (zN (zL t265.desc) t138.desc .nil) t74.desc (zL t202.desc)) t42.desc (zN (zL t170.desc) t106.desc (zL t234.desc))) t25.desc (zN (zN (zN (zL t282.desc) t153.desc
 .nil) t90.desc (zL t218.desc)) t58.desc (zN (zL t186.desc) t122.desc (zL t250.desc))))) t5.desc (zN (zN (zN (zN (zN (zL t262.desc) t134.desc .nil) t70.desc (zL t198.desc)) t38.desc (zN (zL t166.desc) t101.desc (zL t230.desc))) t22.desc (zN
 (zN (zN (zL t278.desc) t120.desc .nil) t86.desc (zL t214.desc)) t54.desc (zN (zL t182.desc) t118.desc (zL t246.desc)))) t13.desc (zN (zN (zN (zN (zL t270.desc) t142.desc .nil) t78.desc (zL t206.desc)) t46.desc (zN (zL t174.desc) t110.desc
 (zL t238.desc))) t30.desc (zN (zN (zN (zL t285.desc) t157.desc .nil) t94.desc (zL t222.desc)) t62.desc (zN (zL t190.desc) t126.desc (zL t254.desc)))))))
open Tryz in
noncomputable def fnT:PT (FuncId×Func):=(.node (.node (zN (zN (zN (zN (zN (zL (127,f127)) (63,f63) .nil) (31,f31) (zN (zL (159,f159)) (95,f95) .nil)) (15,f15) (zN (zL (79,f79)) (47,f47) (zN (zL (175,f175)) (111,
 f111) .nil))) (7,f7) (zN (zN (zN (zL (135,f135)) (71,f71) .nil) (39,f39) (zN (zL (167,f167)) (103,f103) .nil)) (23,f23) (zN (zN (zL (151,f151)) (87,f87) .nil) (55,f55) (zL (119,f119))))) (3,f3) (zN (zN (zN (zN (zL (131,f131))
 (67,f67) .nil) (35,f35) (zN (zL (163,f163)) (99,f99) .nil)) (19,f19) (zN (zN (zL (147,f147)) (83,f83) .nil) (51,f51) (zN (zL (179,f179)) (115,f115) .nil))) (11,f11) (zN (zN (zN (zL (139,f139)) (75,f75) .nil) (43,f43) (zN (zL
 (171,f171)) (107,f107) .nil)) (27,f27) (zN (zN (zL (155,f155)) (91,f91) .nil) (59,f59) (zL (123,f123)))))) none (zN (zN (zN (zN (zN (zL (129,f129)) (65,f65) .nil) (33,f33) (zN (zL (161,f161)) (97,f97) .nil)) (17,f17) (zN (zN
 (zL (145,f145)) (81,f81) .nil) (49,f49) (zN (zL (177,f177)) (113,f113) .nil))) (9,f9) (zN (zN (zN (zL (137,f137)) (73,f73) .nil) (41,f41) (zN (zL (169,f169)) (105,f105) .nil)) (25,f25) (zN (zN (zL (153,f153)) (89,f89) .nil)
 (57,f57) (zL (121,f121))))) (5,f5) (zN (zN (zN (zN (zL (133,f133)) (69,f69) .nil) (37,f37) (zN (zL (165,f165)) (101,f101) .nil)) (21,f21) (zN (zN (zL (149,f149)) (85,f85) .nil) (53,f53) (zN (zL (181,f181)) (117,f117) .nil)))
 (13,f13) (zN (zN (zN (zL (141,f141)) (77,f77) .nil) (45,f45) (zN (zL (173,f173)) (109,f109) .nil)) (29,f29) (zN (zL (93,f93)) (61,f61) (zL (125,f125))))))) none (zN (zN (zN (zN (zN (zN (zL (128,f128)) (64,f64) .nil) (32,f32)
 (zN (zL (160,f160)) (96,f96) .nil)) (16,f16) (zN (zN (zL (144,f144)) (80,f80) .nil) (48,f48) (zN (zL (176,f176)) (112,f112) .nil))) (8,f8) (zN (zN (zN (zL (136,f136)) (72,f72) .nil) (40,f40) (zN (zL (168,f168)) (104,f104)
 .nil)) (24,f24) (zN (zN (zL (152,f152)) (88,f88) .nil) (56,f56) (zL (120,f120))))) (4,f4) (zN (zN (zN (zN (zL (132,f132)) (68,f68) .nil) (36,f36) (zN (zL (164,f164)) (100,f100) .nil)) (20,f20) (zN (zL (84,f84)) (52,f52) (zN
 (zL (180,f180)) (116,f116) .nil))) (12,f12) (zN (zN (zN (zL (140,f140)) (76,f76) .nil) (44,f44) (zN (zL (172,f172)) (108,f108) .nil)) (28,f28) (zN (zN (zL (156,f156)) (92,f92) .nil) (60,f60) (zL (124,f124)))))) (2,f2) (zN (zN
 (zN (zN (zN (zL (130,f130)) (66,f66) .nil) (34,f34) (zN (zL (162,f162)) (98,f98) .nil)) (18,f18) (zN (zN (zL (146,f146)) (82,f82) .nil) (50,f50) (zN (zL (178,f178)) (114,f114) .nil))) (10,f10) (zN (zN (zN (zL (138,f138)) (74,
 f74) .nil) (42,f42) (zN (zL (170,f170)) (106,f106) .nil)) (26,f26) (zN (zN (zL (154,f154)) (90,f90) (zL (218,f218))) (58,f58) (zL (122,f122))))) (6,f6) (zN (zN (zN (zN (zL (134,f134)) (70,f70) .nil) (38,f38) (zN (zL (166,
 f166)) (102,f102) .nil)) (22,f22) (zN (zN (zL (150,f150)) (86,f86) .nil) (54,f54) (zN (zL (182,f182)) (118,f118) .nil))) (14,f14) (zN (zN (zN (zL (142,f142)) (78,f78) .nil) (46,f46) (zN (zL (174,f174)) (110,f110) .nil)) (30,
 f30) (zN (zN (zL (158,f158)) (94,f94) .nil) (62,f62) (zL (126,f126))))))))
theorem tyT_ok:tyT.All (InfP Tryz.prog) (fun k=>k):=PT.all_map (g:=fun x=>Tryz.prog.info? x.1) (h:=fun x=>some x.2) (fun _ e=>e) (by kernel_rfl)
theorem unT_ok:unT.All (UndP Tryz.prog) (fun k=>k):=PT.all_map (g:=fun x=>Tryz.prog.underlying x.1) (h:=fun x=>some x.2) (fun _ e=>e) (by kernel_rfl)
theorem fnT_ok:fnT.All (FnP Tryz.prog) (fun k=>k):=PT.all_map (g:=fun x=>(fun args w=>(callFunc x.1 args).run Tryz.prog w,Tryz.prog.funcs[x.2.1]?)) (h:=fun x=>(fun args w=>.ok (.enter x.2.1 args) w,some x.2.2)) (fun _ e=>⟨fun args w=>congrFun (congrFun (congrArg Prod.fst e) args) w,congrArg Prod.snd e⟩) (by kernel_rfl)
def zbx:List (List UInt8×Nat):=[([97,108,117],5),([97],6),([98],6),([100],6),([108,105,116],8),([115,105,122,101],2),([99,99],2),([109,101,109],4),([115,101,113],3),([99,111,110,100],5),([116,111],11),([109,105,115,99],6)]
def fieldsC:List Value:=zbx.flatMap fun x=>[.string ⟨⟨x.1⟩⟩,.int .i64 x.2]
def asciiC:List Value:=Lib.asciiSpaceTab.map fun z=>.int .u8 z
def zqk (f:Nat):Bool:=Nat.beq f 110||Nat.beq f 132
def zql (f:Nat) (vs:List Value):Option Value:=
 cond (zqk f) (match vs with
  | [.string s,.int .u8 c]=>some (.int .i64 (Lib.indexByte s.data.toList c.toNat.toUInt8))
  | _=>none)
 (cond (Nat.beq f 128) (match vs with
  | [.string s,.string t]=>(match t.data.toList with
    | [c]=>some (.int .i64 (Lib.countByte s.data.toList c))
    | _=>none)
  | _=>none)
 (cond (Nat.beq f 129) (match vs with
  | [.string s,.string t]=>(match t.data.toList with
    | [c]=>some (.int .i64 (Lib.indexByte s.data.toList c))
    | _=>none)
  | _=>none) none))
def extF (f:Nat) (vs:List Value):Option Value:=
 cond (Nat.beq f 102) (match vs with
  | [.int .i64 n]=>cond (decide (0≤n)&&decide (n<100)) (some (.string ⟨(Lib.decDigits n.toNat).toArray⟩)) none
  | _=>none) (zql f vs)
def zeu (nx g:Nat):Con:=⟨nx,nx+1,[(g,.table [.chan (some g)])],[],.iface 230 (.pointer (some ⟨nx,0,none⟩))⟩
def zkT (f:Nat) (vs:List Value) (nx:Nat):Option Con:=
 cond (Nat.beq f 147) (match vs with
  | [.string _,.string s,.int .i64 _,.int .i64 _,.iface t (.int .i64 k)]=>cond (Nat.ble s.size 281474976710656&&Nat.beq t 228) (cond (decide (k=2)) (some (zeu nx 6)) (cond (decide (k=1)) (some (zeu nx 7)) none)) none
  | _=>none) none
def pureL:List Nat:=[107,109,69,91,81,82,112,113,133,47,46,75,22,18,77,34,56,98,115,100,118,101,73,20,135,134,116,96,114,97,99,72,15,25,35,12,86,61,88,64,87,104,103,123,124,122,138,60,38,40]
noncomputable def Lk0:Lk where
 info t:=tyT.get t
 und t:=unT.get t
 func f:=fnT.get f
 glob g:=Nat.beq g 6||Nat.beq g 7||Nat.beq g 0||Nat.beq g 2
 ext:=extF
 con:=zkT
 pureF f:=pureL.any (Nat.beq f)
theorem zng {t:ByteArray} {c:UInt8} (h:t.data.toList=[c]):t=⟨#[c]⟩:=by
 cases t with
 | mk d=>cases d with
   | mk l=>simp only at h;rw [h]
theorem zsC {f:Nat} {vs:List Value} {v:Value} (h:zql f vs=some v):(∀ x∈vs,flat3 x=true)∧flat3 v=true∧∀ w,
  ∃ j,(∀ bs w,(callFunc f bs).run Tryz.prog w=.ok (.enter j bs) w)∧Calls Tryz.prog j vs.toArray w fun e w'=>e=.returned v∧RowKit.Below w.heap.size w w':=by
 have still:∀ (w w':World),w'=w→RowKit.Below w.heap.size w w':=fun w w' e=>by subst e;exact ⟨rfl,rfl,rfl,zlr _,fun _ _=>rfl⟩
 unfold zql at h
 cases hi:zqk f with
 | true=>
   rw [hi] at h
   simp only [zct] at h
   split at h
   ·rename_i s c
    cases h
    refine ⟨fun x hx=>by simp at hx;rcases hx with rfl | rfl<;>rfl,rfl,fun w=>?_⟩
    unfold zqk at hi
    simp only [Bool.or_eq_true,zax,decide_eq_true_eq] at hi
    rcases hi with rfl | rfl
    ·exact ⟨110,Tryz.call110,(Tryz.strings_IndexByte s c w).mono fun e w' ⟨h1,h2⟩=>⟨h1,still w w' h2⟩⟩
    ·exact ⟨132,Tryz.call132,(Tryz.stringslite_IndexByte s c w).mono fun e w' ⟨h1,h2⟩=>⟨h1,still w w' h2⟩⟩
   ·cases h
 | false=>
   rw [hi] at h
   simp only [zcf] at h
   cases h59:Nat.beq f 128 with
   | true=>
     rw [h59] at h
     have:=beq_true h59
     subst this
     simp only [zct] at h
     split at h
     ·rename_i s t
      split at h
      ·rename_i c hc
       cases h
       have:=zng hc
       subst this
       exact ⟨fun x hx=>by simp at hx;rcases hx with rfl | rfl<;>rfl,rfl,fun w=>⟨128,Tryz.call128,(Tryz.strings_Count_one s c w).mono fun e w' ⟨h1,h2⟩=>⟨h1,still w w' h2⟩⟩⟩
      ·cases h
     ·cases h
   | false=>
     rw [h59] at h
     simp only [zcf] at h
     cases h60:Nat.beq f 129 with
     | true=>
       rw [h60] at h
       have:=beq_true h60
       subst this
       simp only [zct] at h
       split at h
       ·rename_i s t
        split at h
        ·rename_i c hc
         cases h
         have:=zng hc
         subst this
         exact ⟨fun x hx=>by simp at hx;rcases hx with rfl | rfl<;>rfl,rfl,fun w=>⟨129,Tryz.call129,(Tryz.strings_Index_one s c w).mono fun e w' ⟨h1,h2⟩=>⟨h1,still w w' h2⟩⟩⟩
        ·cases h
       ·cases h
     | false=>rw [h60] at h;cases h
theorem ztR {f:Nat} {vs:List Value} {v:Value} (h:extF f vs=some v):(∀ x∈vs,flat3 x=true)∧flat3 v=true∧∀ w,
  ∃ j,(∀ bs w,(callFunc f bs).run Tryz.prog w=.ok (.enter j bs) w)∧Calls Tryz.prog j vs.toArray w fun e w'=>e=.returned v∧RowKit.Below w.heap.size w w':=by
 have still:∀ (w w':World),w'=w→RowKit.Below w.heap.size w w':=fun w w' e=>by subst e;exact ⟨rfl,rfl,rfl,zlr _,fun _ _=>rfl⟩
 unfold extF at h
 cases hi:Nat.beq f 102 with
 | false=>rw [hi] at h;exact zsC h
 | true=>
   rw [hi] at h
   simp only [zct] at h
   have hf:f=102:=by rw [zax] at hi;exact of_decide_eq_true hi
   subst hf
   split at h
   ·rename_i n
    cases hc:(decide (0≤n)&&decide (n<100)) with
    | false=>rw [hc] at h;cases h
    | true=>
      rw [hc] at h
      simp only [zct] at h
      cases h
      simp only [zae,decide_eq_true_eq] at hc
      refine ⟨fun x hx=>by simp at hx;subst hx;rfl,rfl,fun w=>⟨102,Tryz.call102,?_⟩⟩
      have hn:(n.toNat:Int)=n:=Int.toNat_of_nonneg hc.1
      have:=Tryz.strconv_Itoa_small n.toNat (by omega) w
      rw [hn] at this
      exact this.mono fun e w' ⟨h1,h2⟩=>⟨h1,still w w' h2⟩
   ·cases h
theorem zai [Sym]:Lk0.Ok Tryz.prog where
 symOp _ _ _ _ _ h:=by cases h
 symLen _ _ h:=by cases h
 info t i h:=PT.all_get tyT _ tyT_ok t i h
 und t d h:=PT.all_get unT _ unT_ok t d h
 func f j fn h:=PT.all_get fnT _ fnT_ok f (j,fn) h
 mixed:=by kernel_rfl
 ext f vs v h:=by
  obtain ⟨h1,h2,h3⟩:=ztR h
  exact ⟨h1,h2,fun w=>.inl (h3 w)⟩
theorem zar:LkS Lk0:=⟨fun _ _ _ _=>rfl⟩
structure ErrSym [Sym]:Prop where
 e4:∃ t u,Sym.v 6=.iface t u
 e5:∃ t u,Sym.v 7=.iface t u
theorem zpG [Sym] {g nx:Nat} {fn s:ByteArray} {base bits k:Int} (hs:s.size≤281474976710656) (he:∃ t u,Sym.v g=.iface t u)
  (hc:∀ (ev:Value) (w:World),w.cell? ⟨g,0,none⟩=some ev→(ev=.nilIface∨∃ te pe,ev=.iface te pe)→
   Calls Tryz.prog 147 #[.string fn,.string s,.int .i64 base,.int .i64 bits,.iface 228 (.int .i64 k)] w fun e w'=>∃ N,e=.returned (.iface 230 (.pointer (some ⟨N,0,none⟩)))∧w.heap.size≤N∧w'.heap[N]?=some (.cells #[.string fn,.string s,ev] 248 (0,0))∧RowKit.Below w.heap.size w w'):
  ConFact Tryz.prog 147 [.string fn,.string s,.int .i64 base,.int .i64 bits,.iface 228 (.int .i64 k)] (zeu nx g):=by
 refine ⟨fun x hx=>by simp at hx;rcases hx with rfl | rfl | rfl | rfl | rfl<;>rfl,147,Tryz.call147,fun w pl hob=>?_⟩
 obtain ⟨hb,hoo,obj,hobj,_,arr,T,fr,rfl,hcells⟩:=hob (g,.table [.chan (some g)]) (by simp [zeu])
 obtain ⟨v',hv',hvr⟩:=hcells 0 (.chan (some g)) rfl
 have hv2:v'=Sym.v g:=by cases hvr;rfl
 subst hv2
 have hcell:w.cell? ⟨g,0,none⟩=some (Sym.v g):=by
  unfold World.cell?
  simp only [hobj]
  rw [hoo] at hv'
  simpa using hv'
 refine (hc (Sym.v g) w hcell (.inr he)).mono fun e w' ⟨N,h1,h2,h3,h4⟩=>?_
 refine ⟨_,fun i=>if i=nx then some ⟨N,0,3,0⟩ else none,h1,?_⟩
 have hN:N<w'.heap.size:=(Array.getElem?_eq_some_iff.1 h3).1
 refine ⟨.iface (.ptr (p:=⟨N,0,3,0⟩) (by simp)),h4,fun i p hp=>?_,fun i p hp=>?_,fun i p ob hp ho=>by simp [zeu] at ho,fun i j p q hp hq hi=>by simp [zeu] at hi⟩
 ·split at hp
  ·rename_i e;cases hp;subst e
   exact .inr ⟨zlr _,Nat.lt_succ_self _,h2⟩
  ·cases hp
 ·split at hp
  ·cases hp;exact hN
  ·cases hp
theorem ztS [Sym] (hE:ErrSym):zlk Tryz.prog Lk0:=by
 intro f vs nx c h
 have h0:zkT f vs nx=some c:=h
 clear h
 unfold zkT at h0
 obtain ⟨hf,h1⟩:=zaN h0
 clear h0
 have:=beq_true hf
 subst this
 split at h1
 ·rename_i fn s base bits t k
  obtain ⟨hq,h2⟩:=zaN h1
  clear h1
  simp only [zae,Nat.ble_eq] at hq
  have:=beq_true hq.2
  subst this
  cases k2:decide (k=2) with
  | true=>
    rw [k2] at h2;cases h2
    have:=of_decide_eq_true k2
    subst this
    exact zpG hq.1 hE.e4 fun ev w hv hev=>Tryz.toError_syntax _ _ _ _ ev w hq.1 hv hev
  | false=>
    rw [k2] at h2
    cases k1:decide (k=1) with
    | true=>
      rw [k1] at h2;cases h2
      have:=of_decide_eq_true k1
      subst this
      exact zpG hq.1 hE.e5 fun ev w hv hev=>Tryz.toError_range _ _ _ _ ev w hq.1 hv hev
    | false=>rw [k1] at h2;cases h2
 ·cases h1
noncomputable abbrev cc:zan:=cS Tryz.prog Lk0
end Go.Proofs.YtifploedaacedaaGreatDoorE
namespace Go.Proofs.YtifploedaacedaaGreatDoorE
set_option maxRecDepth 20000
open Go Go.E Go.Proofs
noncomputable def zkv (cf:zan) (lf:zac) (c':Int) (st:SS):Option (Value×SS):=
 cond (decide (97≤c')) (
 cond (decide (c'≤122)) (
 some (.bool true,st)) (
 cond (decide (65≤c')) (
 cond (decide (c'≤90)) (
 some (.bool true,st)) (
 some (.bool (decide (c'=95)),st))) (
 some (.bool (decide (c'=95)),st)))) (
 cond (decide (65≤c')) (
 cond (decide (c'≤90)) (
 some (.bool true,st)) (
 some (.bool (decide (c'=95)),st))) (
 some (.bool (decide (c'=95)),st)))
noncomputable abbrev zmC:zac:=lS Tryz.prog Lk0 Tryz.f106 zaC
theorem zmD:Lk0.func 106=some (106,Tryz.f106):=by kernel_rfl
theorem zmE [Sym] (c':Int) (st:SS) {r:Value×SS} (h:zkv cc zmC c' st=some r):cc 106 [.int .u8 c'] st=some r:=
 zaf (li:=zaC) zai zar zmD rfl (fun _=>rfl) (.trans (by kernel_rfl) h)
noncomputable def zlQ (cf:zan) (lf:zac) (c':Int) (st:SS):Option (Value×SS):=
 cond (decide (48≤c')) (
 some (.bool (decide (c'≤57)),st)) (
 some (.bool false,st))
noncomputable abbrev znI:zac:=lS Tryz.prog Lk0 Tryz.f108 zaC
theorem znJ:Lk0.func 108=some (108,Tryz.f108):=by kernel_rfl
theorem znK [Sym] (c':Int) (st:SS) {r:Value×SS} (h:zlQ cc znI c' st=some r):cc 108 [.int .u8 c'] st=some r:=
 zaf (li:=zaC) zai zar znJ rfl (fun _=>rfl) (.trans (by kernel_rfl) h)
def zjA:LoopI:=⟨[(0,.str),(6,.any)],[(.exit 0,[(0,.str)]),(.ret,[(2,.int .i64)])]⟩
def zkw (n:Nat):Option LoopI:=cond (Nat.beq n 2) (some zjA) (none)
noncomputable def zkU (cf:zan) (lf:zac) (s':ByteArray) (st:SS):Option (Value×SS):=
 let a:SS:=(st.ro st.next).new (.iter s' 0)
 (lf 2 [.string s',ptr ((st.ro st.next).next) 0] a).bind fun b=>
 cond (Nat.beq b.1 0) (
 ((b.2.1[0]?).bind asS).bind fun c=>
 some (.int .i64 (c.size:Int),st.adv b.2.2.next)) (
 ((b.2.1[0]?).bind (asI .i64)).bind fun d=>
 some (.int .i64 d,st.adv b.2.2.next))
noncomputable abbrev zfM:zac:=lS Tryz.prog Lk0 Tryz.f107 zkw
theorem zpd:Lk0.func 107=some (107,Tryz.f107):=by kernel_rfl
theorem zpe [Sym] (s':ByteArray) (st:SS) {r:Value×SS} (h:zkU cc zfM s' st=some r):cc 107 [.string s'] st=some r:=
 zaf (li:=zkw) zai zar zpd rfl (fun _=>rfl) (.trans (by kernel_rfl) h)
noncomputable def zdG (cf:zan) (lf:zac) (s':ByteArray) (t6':Value) (st:SS):Option (Nat×List Value×SS):=
 (addr? t6').bind fun a=>
 cond (Nat.beq a.2 0) (
 (st.iterG a.1).bind fun q2=>
 cond (Nat.ble st.lim a.1) (
 cond (decide (q2.2<q2.1.size)) (
 let b:SS:=st.set a.1 (some (.iter q2.1 (q2.2+(Utf8.decode q2.1 q2.2).2)))
 cond (decide (128≤((Utf8.decode q2.1 q2.2).1:Int))) (
 some (1,[.int .i64 (q2.2:Int)],b)) (
 let c:Int:=IntKind.wrap .u8 ((Utf8.decode q2.1 q2.2).1:Int)
 (cf 106 [.int .u8 c] b).bind fun d=>
 ((some d.1).bind asB).bind fun e=>
 cond (!e) (
 let f:Int:=IntKind.wrap .u8 ((Utf8.decode q2.1 q2.2).1:Int)
 (cf 108 [.int .u8 f] d.2).bind fun g=>
 ((some g.1).bind asB).bind fun h=>
 cond (!h) (
 some (1,[.int .i64 (q2.2:Int)],g.2)) (
 lf 2 [.string s',t6'] g.2)) (
 lf 2 [.string s',t6'] d.2))) (
 some (0,[.string s'],st))) none) none
theorem zd7 [Sym] (s':ByteArray) (t6':Value) (st:SS) {r:Nat×List Value×SS} (h:zdG cc zfM s' t6' st=some r):zfM 2 [.string s',t6'] st=some r:=
 zaA zai zar (key:=2) (I:=zjA) rfl (by kernel_rfl) (by kernel_rfl) rfl rfl (.trans (by kernel_rfl) h)
end Go.Proofs.YtifploedaacedaaGreatDoorE
namespace Go.Proofs.YtifploedaacedaaGreatDoorE
open Go Go.E Go.Proofs
def zbD (c:Int):Bool:=(decide (97≤c)&&decide (c≤122))||(decide (65≤c)&&decide (c≤90))||decide (c=95)
def zcN (c:Int):Bool:=decide (48≤c)&&decide (c≤57)
theorem zhe [Sym] (c:Int) (st:SS):cc 106 [.int .u8 c] st=some (.bool (zbD c),st):=by
 refine zmE c st ?_
 unfold zkv zbD
 cases decide (97≤c)<;>cases decide (c≤122)<;>cases decide (65≤c)<;>cases decide (c≤90)<;>simp
theorem digit_ok [Sym] (c:Int) (st:SS):cc 108 [.int .u8 c] st=some (.bool (zcN c),st):=by
 refine znK c st ?_
 unfold zlQ zcN
 cases decide (48≤c)<;>cases decide (c≤57)<;>simp
def nameB (b:UInt8):Bool:=zbD b.toNat||zcN b.toNat
theorem zsD {b:UInt8} (h:nameB b=true):b.toNat<128:=by
 unfold nameB zbD zcN at h
 simp only [Bool.or_eq_true,zae,decide_eq_true_eq] at h
 omega
def zaI (l:List UInt8):Nat:=(l.takeWhile nameB).length
theorem get!_of {s:ByteArray} {i:Nat} {b:UInt8} (h:(bl s)[i]?=some b):s.get! i=b:=by
 unfold bl at h
 rw [Array.getElem?_toList] at h
 show s.data[i]! =b
 rw [getElem!_def,h]
theorem zot {s:ByteArray} {i:Nat} {b:UInt8} (h:(bl s)[i]?=some b) (hb:b.toNat<128):Utf8.decode s i=(b.toNat,1):=by
 unfold Utf8.decode
 simp only [Nat.add_zero,get!_of h,if_pos hb]
theorem zqm {s:ByteArray} {i:Nat} {b:UInt8} (h:(bl s)[i]?=some b) (hb:128≤b.toNat):128≤(Utf8.decode s i).1:=by
 unfold Utf8.decode
 simp only [Nat.add_zero,get!_of h,if_neg (Nat.not_lt.2 hb)]
 repeat' split
 all_goals simp_all [Utf8.runeError]
 all_goals omega
theorem drop_cons {α:Type} {l:List α} {i:Nat} {b:α} (h:l[i]?=some b):l.drop i=b::l.drop (i+1):=by
 obtain ⟨h1,h2⟩:=List.getElem?_eq_some_iff.1 h
 rw [List.drop_eq_getElem_cons h1,h2]
theorem zeV {b:UInt8} {l:List UInt8}:zaI (b::l)=if nameB b then 1+zaI l else 0:=by
 unfold zaI
 simp only [List.takeWhile_cons]
 split<;>simp;omega
theorem zkx (s:ByteArray):(bl s).drop s.size=[]:=by
 rw [List.drop_eq_nil_iff];simp
theorem zsE [Sym] (s:ByteArray) (i:Nat):∀ (k p:Nat) (st:SS),k+p=s.size→st.mem.get i=some (.iter s p)→st.lim≤i→
  ∃ idx vs st',zfM 2 [.string s,ptr i 0] st=some (idx,vs,st')∧st'.next=st.next∧
   ((idx=0∧vs=[.string s]∧p+zaI ((bl s).drop p)=s.size)∨(idx=1∧vs=[.int .i64 ((p+zaI ((bl s).drop p):Nat):Int)])):=by
 intro k
 induction k with
 | zero=>
   intro p st hk hm hl
   have hp:p=s.size:=by omega
   subst hp
   refine ⟨0,[.string s],st,zd7 s _ st ?_,rfl,.inl ⟨rfl,rfl,by rw [zkx];rfl⟩⟩
   simp [zdG,addr?,ptr,SS.iterG_get hm,hl]
 | succ k ih=>
   intro p st hk hm hl
   have hlt:p<s.size:=by omega
   have hb:∃ b,(bl s)[p]?=some b:=⟨_,zge (by rw [zaK];exact hlt)⟩
   obtain ⟨b,hb⟩:=hb
   have hd:=drop_cons hb
   by_cases hbig:128≤b.toNat
   ·have hdec:=zqm hb hbig
    have hn:nameB b=false:=by
     cases h:nameB b with
     | false=>rfl
     | true=>have:=zsD h;omega
    refine ⟨1,[.int .i64 (p:Int)],st.set i (some (.iter s (p+(Utf8.decode s p).2))),zd7 s _ st ?_,rfl,.inr ⟨rfl,by rw [hd,zeV,hn];simp⟩⟩
    have h128:(128:Int)≤((Utf8.decode s p).1:Int):=by omega
    simp [zdG,addr?,ptr,SS.iterG_get hm,hl,hlt,h128]
   ·have hdec:=zot hb (by omega)
    have h128:¬ (128:Int)≤(b.toNat:Int):=by omega
    have hw:IntKind.wrap .u8 (b.toNat:Int)=b.toNat:=zgR (by omega) (u8_lt b)
    cases hn:nameB b with
    | false=>
      unfold nameB at hn
      simp only [Bool.or_eq_false_iff] at hn
      refine ⟨1,[.int .i64 (p:Int)],st.set i (some (.iter s (p+1))),zd7 s _ st ?_,rfl,.inr ⟨rfl,by rw [hd,zeV,nameB,hn.1,hn.2];simp⟩⟩
      simp [zdG,addr?,ptr,SS.iterG_get hm,hl,hlt,hdec,h128,hw,zhe,digit_ok,hn.1,hn.2]
    | true=>
      obtain ⟨idx,vs,st',h1,h2,h3⟩:=ih (p+1) (st.set i (some (.iter s (p+1)))) (by omega) (by simp) hl
      refine ⟨idx,vs,st',zd7 s _ st ?_,h2,?_⟩
      ·have hn':=hn
       unfold nameB at hn'
       cases hl1:zbD b.toNat with
       | true=>simpa [zdG,addr?,ptr,SS.iterG_get hm,hl,hlt,hdec,h128,hw,zhe,hl1] using h1
       | false=>
         rw [hl1,Bool.false_or] at hn'
         simpa [zdG,addr?,ptr,SS.iterG_get hm,hl,hlt,hdec,h128,hw,zhe,digit_ok,hl1,hn'] using h1
      ·rw [hd,zeV,hn,if_pos rfl]
       rcases h3 with ⟨a,b',c⟩ | ⟨a,b'⟩
       ·exact .inl ⟨a,b',by omega⟩
       ·exact .inr ⟨a,by rw [b'];congr 2;omega⟩
theorem zfR [Sym] (s:ByteArray) (st:SS):∃ n,st.next≤n∧cc 107 [.string s] st=some (.int .i64 (zaI (bl s):Nat),st.adv n):=by
 obtain ⟨idx,vs,st',h1,h2,h3⟩:=zsE s st.next s.size 0 ((st.ro st.next).new (.iter s 0)) (by omega) (SS.new_get (st:=st.ro st.next)) (zlr _)
 refine ⟨st'.next,by rw [h2];simp,zpe s st ?_⟩
 rcases h3 with ⟨rfl,rfl,h⟩ | ⟨rfl,rfl⟩
 ·simp only [List.drop_zero,Nat.zero_add] at h
  simp [zkU,h1,h]
 ·simp [zkU,h1]
def mkS (l:List UInt8):ByteArray:=⟨⟨l⟩⟩
@[simp] theorem zbO (l:List UInt8):bl (mkS l)=l:=rfl
@[simp] theorem mkS_bl (s:ByteArray):mkS (bl s)=s:=by cases s with | mk d=>cases d;rfl
@[simp] theorem zsF (l:List UInt8):(mkS l).size=l.length:=rfl
theorem zfN (s:ByteArray) (l h:Nat):s.extract l h=mkS (((bl s).take h).drop l):=by
 rw [← ziB,mkS_bl]
theorem zeN (a b:ByteArray):eqT a b=decide (bl a=bl b):=rfl
def pieces (c:UInt8):List UInt8→List (List UInt8)
 | []=>[[]]
 | b::r=>if b=c then []::pieces c r else match pieces c r with
   | []=>[[b]]
   | x::y=>(b::x)::y
def zfA (cur:List UInt8):List (List UInt8)→List (List UInt8)
 | []=>[cur]
 | x::y=>(cur++x)::y
theorem zdV (c:UInt8) (l:List UInt8):pieces c l≠[]:=by
 cases l with
 | nil=>simp [pieces]
 | cons b r=>
   unfold pieces
   split
   ·simp
   ·split<;>simp
theorem zky {p:List (List UInt8)} (h:p≠[]):zfA [] p=p:=by cases p with | nil=>exact absurd rfl h | cons x y=>rfl
theorem zou (cur:List UInt8) (b c:UInt8) (r:List UInt8) (h:b≠c):zfA cur (pieces c (b::r))=zfA (cur++[b]) (pieces c r):=by
 show zfA cur (if b=c then []::pieces c r else match pieces c r with
  | []=>[[b]]
  | x::y=>(b::x)::y)=_
 rw [if_neg h]
 have:=zdV c r
 cases hp:pieces c r with
 | nil=>exact absurd hp this
 | cons x y=>simp [zfA]
theorem pieces_len (c:UInt8) (l:List UInt8):(pieces c l).length≤l.length+1:=by
 induction l with
 | nil=>simp [pieces]
 | cons b r ih=>
   unfold pieces
   split
   ·simp;omega
   ·split<;>rename_i h<;>rw [h] at ih<;>simp at ih ⊢<;>omega
def strs (l:List (List UInt8)):List Value:=l.map fun x=>.string (mkS x)
@[simp] theorem zuA (l:List (List UInt8)):(strs l).length=l.length:=by simp [strs]
theorem zkz (a b:List (List UInt8)):strs (a++b)=strs a++strs b:=by simp [strs]
theorem Rd.new1 {st:SS} {row:List Value} {z:Nat} (h:row.length=z):Rd (st.new (.cells row z)) (.slice (some ⟨st.next,0,none⟩) 1 1) row z 1:=
 ⟨by rw [h,Nat.one_mul],.inr ⟨st.next,1,rfl,⟨z,SS.new_get⟩,by simp⟩⟩
end Go.Proofs.YtifploedaacedaaGreatDoorE
namespace Go.Proofs.YtifploedaacedaaGreatDoorE
set_option maxRecDepth 20000
open Go Go.E Go.Proofs
noncomputable def strings_Split (cf:zan) (lf:zac) (s':ByteArray) (sep':ByteArray) (st:SS):Option (Value×SS):=
 (cf 105 [.string s',.string sep',.int .i64 0,.int .i64 (-1)] st).bind fun a=>
 some (a.1,a.2)
noncomputable abbrev zkV:zac:=lS Tryz.prog Lk0 Tryz.f89 zaC
theorem zkW:Lk0.func 89=some (89,Tryz.f89):=by kernel_rfl
theorem zkX [Sym] (s':ByteArray) (sep':ByteArray) (st:SS) {r:Value×SS} (h:strings_Split cc zkV s' sep' st=some r):cc 89 [.string s',.string sep'] st=some r:=
 zaf (li:=zaC) zai zar zkW rfl (fun _=>rfl) (.trans (by kernel_rfl) h)
def zeW:LoopI:=⟨[(0,.str),(1,.str),(2,.int .i64),(3,.int .i64),(9,.any),(10,.int .i64)],[(.exit 0,[(0,.str),(9,.any),(10,.int .i64)])]⟩
def zfm (n:Nat):Option LoopI:=cond (Nat.beq n 11) (some zeW) (none)
noncomputable def strings_genSplit (cf:zan) (lf:zac) (s':ByteArray) (sep':ByteArray) (sepSave':Int) (n':Int) (st:SS):Option (Value×SS):=
 cond (decide (n'=0)) (
 some (.slice none 0 0,st)) (
 cond (eqT sep' ⟨#[]⟩) (
 (cf 127 [.string s',.int .i64 n'] st).bind fun a=>
 some (a.1,a.2)) (
 cond (decide (n'<0)) (
 (cf 128 [.string s',.string sep'] st).bind fun b=>
 ((some b.1).bind (asI .i64)).bind fun c=>
 let d:Int:=IntKind.wrap .i64 (c+1)
 let e:Int:=IntKind.wrap .i64 ((s'.size:Int)+1)
 let f:Int:=if e<d then e else d
 (zeF f f 16).bind fun _=>
 let g:SS:=b.2.new (.cells (zet [.string ⟨#[]⟩] f) 1)
 let h:Int:=IntKind.wrap .i64 (f-1)
 (lf 11 [.string s',.string sep',.int .i64 sepSave',.int .i64 h,.slice (some ⟨b.2.next,0,none⟩) ((f:Int).toNat) ((f:Int).toNat),.int .i64 0] g).bind fun i=>
 ((i.2.1[0]?).bind asS).bind fun j=>
 (i.2.1[1]?).bind fun k=>
 ((i.2.1[2]?).bind (asI .i64)).bind fun l=>
 (zaw k l 1).bind fun m=>
 (i.2.2.st m.1 m.2 [.string j]).bind fun n=>
 let o:Int:=IntKind.wrap .i64 (l+1)
 (n.resl k 1 0 o).bind fun p=>
 some (p,n)) (
 let q:Int:=IntKind.wrap .i64 ((s'.size:Int)+1)
 let r:Int:=if q<n' then q else n'
 (zeF r r 16).bind fun _=>
 let s:SS:=st.new (.cells (zet [.string ⟨#[]⟩] r) 1)
 let t:Int:=IntKind.wrap .i64 (r-1)
 (lf 11 [.string s',.string sep',.int .i64 sepSave',.int .i64 t,.slice (some ⟨st.next,0,none⟩) ((r:Int).toNat) ((r:Int).toNat),.int .i64 0] s).bind fun u=>
 ((u.2.1[0]?).bind asS).bind fun v=>
 (u.2.1[1]?).bind fun w=>
 ((u.2.1[2]?).bind (asI .i64)).bind fun x=>
 (zaw w x 1).bind fun y=>
 (u.2.2.st y.1 y.2 [.string v]).bind fun z=>
 let A:Int:=IntKind.wrap .i64 (x+1)
 (z.resl w 1 0 A).bind fun B=>
 some (B,z))))
noncomputable abbrev zbX:zac:=lS Tryz.prog Lk0 Tryz.f105 zfm
theorem zi7:Lk0.func 105=some (105,Tryz.f105):=by kernel_rfl
theorem zi8 [Sym] (s':ByteArray) (sep':ByteArray) (sepSave':Int) (n':Int) (st:SS) {r:Value×SS} (h:strings_genSplit cc zbX s' sep' sepSave' n' st=some r):cc 105 [.string s',.string sep',.int .i64 sepSave',.int .i64 n'] st=some r:=
 zaf (li:=zfm) zai zar zi7 rfl (fun _=>rfl) (.trans (by kernel_rfl) h)
noncomputable def zdn (cf:zan) (lf:zac) (s':ByteArray) (sep':ByteArray) (sepSave':Int) (n':Int) (a':Value) (i':Int) (st:SS):Option (Nat×List Value×SS):=
 cond (decide (i'<n')) (
 (cf 129 [.string s',.string sep'] st).bind fun a=>
 ((some a.1).bind (asI .i64)).bind fun b=>
 cond (decide (b<0)) (
 some (0,[.string s',a',.int .i64 i'],a.2)) (
 let c:Int:=IntKind.wrap .i64 (b+sepSave')
 (zcK s' 0 c).bind fun d=>
 (zaw a' i' 1).bind fun e=>
 (a.2.st e.1 e.2 [.string d]).bind fun f=>
 let g:Int:=IntKind.wrap .i64 (b+(sep'.size:Int))
 (zcK s' g (s'.size:Int)).bind fun h=>
 let i:Int:=IntKind.wrap .i64 (i'+1)
 lf 11 [.string h,.string sep',.int .i64 sepSave',.int .i64 n',a',.int .i64 i] f)) (
 some (0,[.string s',a',.int .i64 i'],st))
theorem zed [Sym] (s':ByteArray) (sep':ByteArray) (sepSave':Int) (n':Int) (a':Value) (i':Int) (st:SS) {r:Nat×List Value×SS} (h:zdn cc zbX s' sep' sepSave' n' a' i' st=some r):zbX 11 [.string s',.string sep',.int .i64 sepSave',.int .i64 n',a',.int .i64 i'] st=some r:=
 zaA zai zar (key:=11) (I:=zeW) rfl (by kernel_rfl) (by kernel_rfl) rfl rfl (.trans (by kernel_rfl) h)
noncomputable def zev (cf:zan) (lf:zac) (s':ByteArray) (prefix0':ByteArray) (st:SS):Option (Value×SS):=
 (cf 160 [.string s',.string prefix0'] st).bind fun a=>
 ((some a.1).bind asB).bind fun b=>
 cond (!b) (
 some (.tuple #[.string s',.bool false],a.2)) (
 (zcK s' (prefix0'.size:Int) (s'.size:Int)).bind fun c=>
 some (.tuple #[.string c,.bool true],a.2))
noncomputable abbrev zgj:zac:=lS Tryz.prog Lk0 Tryz.f145 zaC
theorem zgk:Lk0.func 145=some (145,Tryz.f145):=by kernel_rfl
theorem zgl [Sym] (s':ByteArray) (prefix0':ByteArray) (st:SS) {r:Value×SS} (h:zev cc zgj s' prefix0' st=some r):cc 145 [.string s',.string prefix0'] st=some r:=
 zaf (li:=zaC) zai zar zgk rfl (fun _=>rfl) (.trans (by kernel_rfl) h)
noncomputable def zew (cf:zan) (lf:zac) (s':ByteArray) (prefix0':ByteArray) (st:SS):Option (Value×SS):=
 cond (decide ((prefix0'.size:Int)≤(s'.size:Int))) (
 (zcK s' 0 (prefix0'.size:Int)).bind fun s1=>
 some (.bool (eqT s1 prefix0'),st)) (
 some (.bool false,st))
noncomputable abbrev zgm:zac:=lS Tryz.prog Lk0 Tryz.f160 zaC
theorem zgn:Lk0.func 160=some (160,Tryz.f160):=by kernel_rfl
theorem zgo [Sym] (s':ByteArray) (prefix0':ByteArray) (st:SS) {r:Value×SS} (h:zew cc zgm s' prefix0' st=some r):cc 160 [.string s',.string prefix0'] st=some r:=
 zaf (li:=zaC) zai zar zgn rfl (fun _=>rfl) (.trans (by kernel_rfl) h)
noncomputable def strings_CutPrefix (cf:zan) (lf:zac) (s':ByteArray) (prefix0':ByteArray) (st:SS):Option (Value×SS):=
 (cf 145 [.string s',.string prefix0'] st).bind fun a=>
 ((zaq a.1 0).bind asS).bind fun b=>
 ((zaq a.1 1).bind asB).bind fun c=>
 some (.tuple #[.string b,.bool c],a.2)
noncomputable abbrev ziD:zac:=lS Tryz.prog Lk0 Tryz.f130 zaC
theorem ziE:Lk0.func 130=some (130,Tryz.f130):=by kernel_rfl
theorem ziF [Sym] (s':ByteArray) (prefix0':ByteArray) (st:SS) {r:Value×SS} (h:strings_CutPrefix cc ziD s' prefix0' st=some r):cc 130 [.string s',.string prefix0'] st=some r:=
 zaf (li:=zaC) zai zar ziE rfl (fun _=>rfl) (.trans (by kernel_rfl) h)
noncomputable def zek (cf:zan) (lf:zac) (s':ByteArray) (base':Int) (bitSize':Int) (st:SS):Option (Value×SS):=
 (cf 146 [.string s',.int .i64 base',.int .i64 bitSize'] st).bind fun a=>
 ((zaq a.1 0).bind (asI .u64)).bind fun b=>
 (zaq a.1 1).bind fun c=>
 (((ze8 c).bind fun r=>some (.bool !r)).bind asB).bind fun d=>
 cond d (
 (cf 147 [.string ⟨#[80,97,114,115,101,85,105,110,116]⟩,.string s',.int .i64 base',.int .i64 bitSize',c] a.2).bind fun e=>
 some (.tuple #[.int .u64 b,e.1],e.2)) (
 some (.tuple #[.int .u64 b,.nilIface],a.2))
noncomputable abbrev ziG:zac:=lS Tryz.prog Lk0 Tryz.f131 zaC
theorem ziH:Lk0.func 131=some (131,Tryz.f131):=by kernel_rfl
theorem zfa [Sym] (s':ByteArray) (base':Int) (bitSize':Int) (st:SS) {r:Value×SS} (h:zek cc ziG s' base' bitSize' st=some r):cc 131 [.string s',.int .i64 base',.int .i64 bitSize'] st=some r:=
 zaf (li:=zaC) zai zar ziH rfl (fun _=>rfl) (.trans (by kernel_rfl) h)
noncomputable def zhU (cf:zan) (lf:zac) (c':Int) (st:SS):Option (Value×SS):=
 let n1:Int:=orI .u8 c' 32
 some (.int .u8 n1,st)
noncomputable abbrev zka:zac:=lS Tryz.prog Lk0 Tryz.f161 zaC
theorem zkb:Lk0.func 161=some (161,Tryz.f161):=by kernel_rfl
theorem zkc [Sym] (c':Int) (st:SS) {r:Value×SS} (h:zhU cc zka c' st=some r):cc 161 [.int .u8 c'] st=some r:=
 zaf (li:=zaC) zai zar zkb rfl (fun _=>rfl) (.trans (by kernel_rfl) h)
def znh:LoopI:=⟨[(1,.int .i64),(8,.bool),(9,.str),(10,.int .u64),(11,.int .u64),(12,.bool),(13,.int .u64),(99,.any),(100,.int .i64),(101,.int .i64)],[(.exit 3,[(9,.str),(12,.bool),(13,.int .u64)]),(.ret,[(6,.int .u64),(7,.any)])]⟩
def zpH (n:Nat):Option LoopI:=cond (Nat.beq n 36) (some znh) (none)
noncomputable def pu10 (cf:zan) (lf:zac) (s':ByteArray) (st:SS):Option (Value×SS):=
 cond (eqT s' ⟨#[]⟩) (
 some (.tuple #[.int .u64 0,.iface 228 (.int .i64 2)],st)) (
 let a:Int:=zjq .u64 1 31
 let c:Int:=IntKind.wrap .u64 (a-1)
 let d:SS:=st.new (.cells (s'.data.toList.map fun b=>.int .u8 b.toNat) 1)
 (lf 36 [.int .i64 10,.bool false,.string s',.int .u64 1844674407370955162,.int .u64 c,.bool false,.int .u64 0,.slice (some ⟨st.next,0,none⟩) s'.size s'.size,.int .i64 ((s'.size:Nat):Int),.int .i64 0] d).bind fun e=>
 cond (Nat.beq e.1 0) (
 ((e.2.1[0]?).bind asS).bind fun f=>
 ((e.2.1[1]?).bind asB).bind fun g=>
 ((e.2.1[2]?).bind (asI .u64)).bind fun h=>
 cond g (
 (cf 162 [.string f] e.2.2).bind fun i=>
 ((some i.1).bind asB).bind fun j=>
 cond (!j) (
 some (.tuple #[.int .u64 0,.iface 228 (.int .i64 2)],i.2)) (
 some (.tuple #[.int .u64 h,.nilIface],i.2))) (
 some (.tuple #[.int .u64 h,.nilIface],e.2.2))) (
 ((e.2.1[0]?).bind (asI .u64)).bind fun k=>
 (e.2.1[1]?).bind fun l=>
 some (.tuple #[.int .u64 k,l],e.2.2)))
noncomputable abbrev zgC:zac:=lS Tryz.prog Lk0 Tryz.f146 zpH
theorem ztT:Lk0.func 146=some (146,Tryz.f146):=by kernel_rfl
theorem zpI [Sym] (s':ByteArray) (st:SS) {r:Value×SS} (h:pu10 cc zgC s' st=some r):cc 146 [.string s',.int .i64 10,.int .i64 31] st=some r:=
 zaf (li:=zpH) zai zar ztT rfl (fun _=>rfl) (.trans (by kernel_rfl) h)
noncomputable def zdo (cf:zan) (lf:zac) (base':Int) (s0':ByteArray) (cutoff':Int) (maxVal':Int) (underscores':Bool) (n':Int) (t99':Value) (t100':Int) (t101':Int) (st:SS):Option (Nat×List Value×SS):=
 cond (decide (t101'<t100')) (
 (zaw t99' t101' 1).bind fun a=>
 ((st.ld a.1 a.2).bind (asI .u8)).bind fun b=>
 cond (decide (b=95)) (
 cond (decide (48≤b)) (
 cond (decide (b≤57)) (
 let c:Int:=IntKind.wrap .u8 (b-48)
 let d:Int:=IntKind.wrap .u8 base'
 cond (decide (d≤c)) (
 some (1,[.int .u64 0,.iface 228 (.int .i64 2)],st)) (
 cond (decide (cutoff'≤n')) (
 some (1,[.int .u64 maxVal',.iface 228 (.int .i64 1)],st)) (
 let e:Int:=IntKind.wrap .u64 base'
 let f:Int:=IntKind.wrap .u64 (n'*e)
 let g:Int:=IntKind.wrap .u64 c
 let h:Int:=IntKind.wrap .u64 (f+g)
 cond (decide (h<f)) (
 some (1,[.int .u64 maxVal',.iface 228 (.int .i64 1)],st)) (
 cond (decide (maxVal'<h)) (
 some (1,[.int .u64 maxVal',.iface 228 (.int .i64 1)],st)) (
 let i:Int:=IntKind.wrap .i64 (t101'+1)
 lf 36 [.int .i64 base',.bool false,.string s0',.int .u64 cutoff',.int .u64 maxVal',.bool underscores',.int .u64 h,t99',.int .i64 t100',.int .i64 i] st))))) (
 (cf 161 [.int .u8 b] st).bind fun j=>
 ((some j.1).bind (asI .u8)).bind fun k=>
 cond (decide (97≤k)) (
 (cf 161 [.int .u8 b] j.2).bind fun l=>
 ((some l.1).bind (asI .u8)).bind fun m=>
 cond (decide (m≤122)) (
 (cf 161 [.int .u8 b] l.2).bind fun n=>
 ((some n.1).bind (asI .u8)).bind fun o=>
 let p:Int:=IntKind.wrap .u8 (o-97)
 let q:Int:=IntKind.wrap .u8 (p+10)
 let r:Int:=IntKind.wrap .u8 base'
 cond (decide (r≤q)) (
 some (1,[.int .u64 0,.iface 228 (.int .i64 2)],n.2)) (
 cond (decide (cutoff'≤n')) (
 some (1,[.int .u64 maxVal',.iface 228 (.int .i64 1)],n.2)) (
 let s:Int:=IntKind.wrap .u64 base'
 let t:Int:=IntKind.wrap .u64 (n'*s)
 let u:Int:=IntKind.wrap .u64 q
 let v:Int:=IntKind.wrap .u64 (t+u)
 cond (decide (v<t)) (
 some (1,[.int .u64 maxVal',.iface 228 (.int .i64 1)],n.2)) (
 cond (decide (maxVal'<v)) (
 some (1,[.int .u64 maxVal',.iface 228 (.int .i64 1)],n.2)) (
 let w:Int:=IntKind.wrap .i64 (t101'+1)
 lf 36 [.int .i64 base',.bool false,.string s0',.int .u64 cutoff',.int .u64 maxVal',.bool underscores',.int .u64 v,t99',.int .i64 t100',.int .i64 w] n.2))))) (
 some (1,[.int .u64 0,.iface 228 (.int .i64 2)],l.2))) (
 some (1,[.int .u64 0,.iface 228 (.int .i64 2)],j.2)))) (
 (cf 161 [.int .u8 b] st).bind fun x=>
 ((some x.1).bind (asI .u8)).bind fun y=>
 cond (decide (97≤y)) (
 (cf 161 [.int .u8 b] x.2).bind fun z=>
 ((some z.1).bind (asI .u8)).bind fun A=>
 cond (decide (A≤122)) (
 (cf 161 [.int .u8 b] z.2).bind fun B=>
 ((some B.1).bind (asI .u8)).bind fun C=>
 let D:Int:=IntKind.wrap .u8 (C-97)
 let E:Int:=IntKind.wrap .u8 (D+10)
 let F:Int:=IntKind.wrap .u8 base'
 cond (decide (F≤E)) (
 some (1,[.int .u64 0,.iface 228 (.int .i64 2)],B.2)) (
 cond (decide (cutoff'≤n')) (
 some (1,[.int .u64 maxVal',.iface 228 (.int .i64 1)],B.2)) (
 let G:Int:=IntKind.wrap .u64 base'
 let H:Int:=IntKind.wrap .u64 (n'*G)
 let I:Int:=IntKind.wrap .u64 E
 let J:Int:=IntKind.wrap .u64 (H+I)
 cond (decide (J<H)) (
 some (1,[.int .u64 maxVal',.iface 228 (.int .i64 1)],B.2)) (
 cond (decide (maxVal'<J)) (
 some (1,[.int .u64 maxVal',.iface 228 (.int .i64 1)],B.2)) (
 let K:Int:=IntKind.wrap .i64 (t101'+1)
 lf 36 [.int .i64 base',.bool false,.string s0',.int .u64 cutoff',.int .u64 maxVal',.bool underscores',.int .u64 J,t99',.int .i64 t100',.int .i64 K] B.2))))) (
 some (1,[.int .u64 0,.iface 228 (.int .i64 2)],z.2))) (
 some (1,[.int .u64 0,.iface 228 (.int .i64 2)],x.2)))) (
 cond (decide (48≤b)) (
 cond (decide (b≤57)) (
 let L:Int:=IntKind.wrap .u8 (b-48)
 let M:Int:=IntKind.wrap .u8 base'
 cond (decide (M≤L)) (
 some (1,[.int .u64 0,.iface 228 (.int .i64 2)],st)) (
 cond (decide (cutoff'≤n')) (
 some (1,[.int .u64 maxVal',.iface 228 (.int .i64 1)],st)) (
 let N:Int:=IntKind.wrap .u64 base'
 let O:Int:=IntKind.wrap .u64 (n'*N)
 let P:Int:=IntKind.wrap .u64 L
 let Q:Int:=IntKind.wrap .u64 (O+P)
 cond (decide (Q<O)) (
 some (1,[.int .u64 maxVal',.iface 228 (.int .i64 1)],st)) (
 cond (decide (maxVal'<Q)) (
 some (1,[.int .u64 maxVal',.iface 228 (.int .i64 1)],st)) (
 let R:Int:=IntKind.wrap .i64 (t101'+1)
 lf 36 [.int .i64 base',.bool false,.string s0',.int .u64 cutoff',.int .u64 maxVal',.bool underscores',.int .u64 Q,t99',.int .i64 t100',.int .i64 R] st))))) (
 (cf 161 [.int .u8 b] st).bind fun S=>
 ((some S.1).bind (asI .u8)).bind fun T=>
 cond (decide (97≤T)) (
 (cf 161 [.int .u8 b] S.2).bind fun U=>
 ((some U.1).bind (asI .u8)).bind fun V=>
 cond (decide (V≤122)) (
 (cf 161 [.int .u8 b] U.2).bind fun W=>
 ((some W.1).bind (asI .u8)).bind fun X=>
 let Y:Int:=IntKind.wrap .u8 (X-97)
 let Z:Int:=IntKind.wrap .u8 (Y+10)
 let aA:Int:=IntKind.wrap .u8 base'
 cond (decide (aA≤Z)) (
 some (1,[.int .u64 0,.iface 228 (.int .i64 2)],W.2)) (
 cond (decide (cutoff'≤n')) (
 some (1,[.int .u64 maxVal',.iface 228 (.int .i64 1)],W.2)) (
 let aB:Int:=IntKind.wrap .u64 base'
 let aC:Int:=IntKind.wrap .u64 (n'*aB)
 let aD:Int:=IntKind.wrap .u64 Z
 let aE:Int:=IntKind.wrap .u64 (aC+aD)
 cond (decide (aE<aC)) (
 some (1,[.int .u64 maxVal',.iface 228 (.int .i64 1)],W.2)) (
 cond (decide (maxVal'<aE)) (
 some (1,[.int .u64 maxVal',.iface 228 (.int .i64 1)],W.2)) (
 let aF:Int:=IntKind.wrap .i64 (t101'+1)
 lf 36 [.int .i64 base',.bool false,.string s0',.int .u64 cutoff',.int .u64 maxVal',.bool underscores',.int .u64 aE,t99',.int .i64 t100',.int .i64 aF] W.2))))) (
 some (1,[.int .u64 0,.iface 228 (.int .i64 2)],U.2))) (
 some (1,[.int .u64 0,.iface 228 (.int .i64 2)],S.2)))) (
 (cf 161 [.int .u8 b] st).bind fun aG=>
 ((some aG.1).bind (asI .u8)).bind fun aH=>
 cond (decide (97≤aH)) (
 (cf 161 [.int .u8 b] aG.2).bind fun aI=>
 ((some aI.1).bind (asI .u8)).bind fun aJ=>
 cond (decide (aJ≤122)) (
 (cf 161 [.int .u8 b] aI.2).bind fun aK=>
 ((some aK.1).bind (asI .u8)).bind fun aL=>
 let aM:Int:=IntKind.wrap .u8 (aL-97)
 let aN:Int:=IntKind.wrap .u8 (aM+10)
 let aO:Int:=IntKind.wrap .u8 base'
 cond (decide (aO≤aN)) (
 some (1,[.int .u64 0,.iface 228 (.int .i64 2)],aK.2)) (
 cond (decide (cutoff'≤n')) (
 some (1,[.int .u64 maxVal',.iface 228 (.int .i64 1)],aK.2)) (
 let aP:Int:=IntKind.wrap .u64 base'
 let aQ:Int:=IntKind.wrap .u64 (n'*aP)
 let aR:Int:=IntKind.wrap .u64 aN
 let aS:Int:=IntKind.wrap .u64 (aQ+aR)
 cond (decide (aS<aQ)) (
 some (1,[.int .u64 maxVal',.iface 228 (.int .i64 1)],aK.2)) (
 cond (decide (maxVal'<aS)) (
 some (1,[.int .u64 maxVal',.iface 228 (.int .i64 1)],aK.2)) (
 let aT:Int:=IntKind.wrap .i64 (t101'+1)
 lf 36 [.int .i64 base',.bool false,.string s0',.int .u64 cutoff',.int .u64 maxVal',.bool underscores',.int .u64 aS,t99',.int .i64 t100',.int .i64 aT] aK.2))))) (
 some (1,[.int .u64 0,.iface 228 (.int .i64 2)],aI.2))) (
 some (1,[.int .u64 0,.iface 228 (.int .i64 2)],aG.2))))) (
 some (0,[.string s0',.bool underscores',.int .u64 n'],st))
theorem zkA [Sym] (base':Int) (s0':ByteArray) (cutoff':Int) (maxVal':Int) (underscores':Bool) (n':Int) (t99':Value) (t100':Int) (t101':Int) (st:SS) {r:Nat×List Value×SS} (h:zdo cc zgC base' s0' cutoff' maxVal' underscores' n' t99' t100' t101' st=some r):zgC 36 [.int .i64 base',.bool false,.string s0',.int .u64 cutoff',.int .u64 maxVal',.bool underscores',.int .u64 n',t99',.int .i64 t100',.int .i64 t101'] st=some r:=
 zaA zai zar (key:=36) (I:=znh) rfl (by kernel_rfl) (by kernel_rfl) rfl rfl (.trans (by kernel_rfl) h)
def zrq:LoopI:=⟨[(1,.int .i64),(8,.bool),(9,.str),(10,.int .u64),(11,.int .u64),(12,.bool),(13,.int .u64),(99,.any),(100,.int .i64),(101,.int .i64)],[(.exit 3,[(9,.str),(12,.bool),(13,.int .u64)]),(.ret,[(6,.int .u64),(7,.any)])]⟩
def zpJ (n:Nat):Option LoopI:=cond (Nat.beq n 36) (some zrq) (none)
noncomputable def pu16 (cf:zan) (lf:zac) (s':ByteArray) (st:SS):Option (Value×SS):=
 cond (eqT s' ⟨#[]⟩) (
 some (.tuple #[.int .u64 0,.iface 228 (.int .i64 2)],st)) (
 let a:Int:=zjq .u64 1 31
 let c:Int:=IntKind.wrap .u64 (a-1)
 let d:SS:=st.new (.cells (s'.data.toList.map fun b=>.int .u8 b.toNat) 1)
 (lf 36 [.int .i64 16,.bool false,.string s',.int .u64 1152921504606846976,.int .u64 c,.bool false,.int .u64 0,.slice (some ⟨st.next,0,none⟩) s'.size s'.size,.int .i64 ((s'.size:Nat):Int),.int .i64 0] d).bind fun e=>
 cond (Nat.beq e.1 0) (
 ((e.2.1[0]?).bind asS).bind fun f=>
 ((e.2.1[1]?).bind asB).bind fun g=>
 ((e.2.1[2]?).bind (asI .u64)).bind fun h=>
 cond g (
 (cf 162 [.string f] e.2.2).bind fun i=>
 ((some i.1).bind asB).bind fun j=>
 cond (!j) (
 some (.tuple #[.int .u64 0,.iface 228 (.int .i64 2)],i.2)) (
 some (.tuple #[.int .u64 h,.nilIface],i.2))) (
 some (.tuple #[.int .u64 h,.nilIface],e.2.2))) (
 ((e.2.1[0]?).bind (asI .u64)).bind fun k=>
 (e.2.1[1]?).bind fun l=>
 some (.tuple #[.int .u64 k,l],e.2.2)))
noncomputable abbrev zpK:zac:=lS Tryz.prog Lk0 Tryz.f146 zpJ
theorem ztU:Lk0.func 146=some (146,Tryz.f146):=by kernel_rfl
theorem zpL [Sym] (s':ByteArray) (st:SS) {r:Value×SS} (h:pu16 cc zpK s' st=some r):cc 146 [.string s',.int .i64 16,.int .i64 31] st=some r:=
 zaf (li:=zpJ) zai zar ztU rfl (fun _=>rfl) (.trans (by kernel_rfl) h)
noncomputable def zex (cf:zan) (lf:zac) (s':ByteArray) (st:SS):Option (Value×SS):=
 (cf 130 [.string s',.string ⟨#[48,120]⟩] (st.ro st.next)).bind fun a=>
 ((zaq a.1 0).bind asS).bind fun b=>
 ((zaq a.1 1).bind asB).bind fun c=>
 cond c (
 (cf 131 [.string b,.int .i64 16,.int .i64 31] a.2).bind fun d=>
 ((zaq d.1 0).bind (asI .u64)).bind fun e=>
 (zaq d.1 1).bind fun f=>
 let g:Int:=IntKind.wrap .i64 e
 (((ze8 f).bind fun r=>some (.bool r)).bind asB).bind fun h=>
 cond h (
 (cf 110 [.string b,.int .u8 95] d.2).bind fun i=>
 ((some i.1).bind (asI .i64)).bind fun j=>
 some (.tuple #[.int .i64 g,.bool (decide (j<0))],st.adv i.2.next)) (
 some (.tuple #[.int .i64 g,.bool false],st.adv d.2.next))) (
 (cf 131 [.string s',.int .i64 10,.int .i64 31] a.2).bind fun k=>
 ((zaq k.1 0).bind (asI .u64)).bind fun l=>
 (zaq k.1 1).bind fun m=>
 let n:Int:=IntKind.wrap .i64 l
 (((ze8 m).bind fun r=>some (.bool r)).bind asB).bind fun o=>
 cond o (
 (cf 110 [.string s',.int .u8 95] k.2).bind fun p=>
 ((some p.1).bind (asI .i64)).bind fun q=>
 some (.tuple #[.int .i64 n,.bool (decide (q<0))],st.adv p.2.next)) (
 some (.tuple #[.int .i64 n,.bool false],st.adv k.2.next)))
noncomputable abbrev zmF:zac:=lS Tryz.prog Lk0 Tryz.f109 zaC
theorem zmG:Lk0.func 109=some (109,Tryz.f109):=by kernel_rfl
theorem zhV [Sym] (s':ByteArray) (st:SS) {r:Value×SS} (h:zex cc zmF s' st=some r):cc 109 [.string s'] st=some r:=
 zaf (li:=zaC) zai zar zmG rfl (fun _=>rfl) (.trans (by kernel_rfl) h)
end Go.Proofs.YtifploedaacedaaGreatDoorE
namespace Go.Proofs.YtifploedaacedaaGreatDoorE
open Go Go.E Go.Proofs
theorem zni (c:UInt8) (l:List UInt8):(Lib.indexByte l c= -1∧pieces c l=[l]∧l.count c=0)∨
  ∃ m:Nat,Lib.indexByte l c=m∧m<l.length∧pieces c l=l.take m::pieces c (l.drop (m+1))∧l.count c=(l.drop (m+1)).count c+1:=by
 induction l with
 | nil=>exact .inl ⟨rfl,rfl,rfl⟩
 | cons b r ih=>
   by_cases hb:b=c
   ·subst hb
    refine .inr ⟨0,?_,by simp,?_,?_⟩
    ·simp [Lib.indexByte]
    ·simp [pieces]
    ·simp
   ·rcases ih with ⟨h1,h2,h3⟩ | ⟨m,h1,h2,h3,h4⟩
    ·refine .inl ⟨?_,?_,?_⟩
     ·simp [Lib.indexByte,hb,h1]
     ·simp [pieces,hb,h2]
     ·simp [List.count_cons,hb,h3]
    ·refine .inr ⟨m+1,?_,by simp;omega,?_,?_⟩
     ·have:¬ ((m:Int)= -1):=by omega
      simp [Lib.indexByte,hb,h1,this]
     ·simp [pieces,hb,h3]
     ·simp [List.count_cons,hb,h4]
theorem zkY {n:Int} {z:Nat} (h0:0≤n) (h1:n≤1099511627776) (h2:n*z≤70368744177664):zeF n n z=some ():=by
 unfold zeF
 simp [h0,h1,h2]
theorem ziI (v:Value) (n:Nat):zet [v] (n:Int)=List.replicate n v:=by
 unfold zet
 apply List.ext_getElem
 ·simp
 ·intro i h1 h2
  simp
  have:i%1=0:=Nat.mod_one i
  simp [this]
theorem zkZ (done:List (List UInt8)) (k:Nat) (x:List UInt8):(strs done++List.replicate (k+1) (Value.string ⟨#[]⟩)).take done.length++([.string (mkS x)]++(strs done++List.replicate (k+1) (Value.string ⟨#[]⟩)).drop (done.length+1))=strs (done++[x])++List.replicate k (Value.string ⟨#[]⟩):=by
 rw [zkz,List.take_append_of_le_length (by simp),List.take_of_length_le (by simp),List.drop_append]
 have h1:(strs done).drop (done.length+1)=[]:=by rw [List.drop_eq_nil_iff];simp
 rw [h1]
 simp [strs]
theorem count_le (c:UInt8) (l:List UInt8):l.count c≤l.length:=List.count_le_length
theorem ztV (c:UInt8) (s:ByteArray) (st:SS) [Sym]:cc 129 [.string s,.string ⟨#[c]⟩] st=some (.int .i64 (Lib.indexByte (bl s) c),st):=
 zjw (by rfl) st
theorem zsG (c:UInt8) (s:ByteArray) (st:SS) [Sym]:cc 128 [.string s,.string ⟨#[c]⟩] st=some (.int .i64 ((bl s).count c:Nat),st):=
 zjw (by rfl) st
theorem zgT (c:UInt8) (s:ByteArray) (st:SS) [Sym]:cc 110 [.string s,.int .u8 c.toNat] st=some (.int .i64 (Lib.indexByte (bl s) c),st):=by
 refine zjw ?_ st
 show some (Value.int .i64 (Lib.indexByte s.data.toList (c.toNat:Int).toNat.toUInt8))=_
 have:((c.toNat:Int).toNat).toUInt8=c:=by simp
 rw [this];rfl
theorem zqn [Sym] (c:UInt8) (N b:Nat) (st0:SS) (hN:N≤4294967296):∀ (k:Nat) (rest:ByteArray) (done:List (List UInt8)) (st:SS),k=(bl rest).count c→done.length+k=N→rest.size≤4294967296→
  st.mem.get b=some (.cells (strs done++List.replicate (k+1) (.string ⟨#[]⟩)) 1)→st.lim≤b→st0.next≤b→b<st.next→Ext st0 st→
  ∃ (rest':ByteArray) (front:List (List UInt8)) (st':SS),zbX 11 [.string rest,.string ⟨#[c]⟩,.int .i64 0,.int .i64 N,.slice (some ⟨b,0,none⟩) (N+1) (N+1),.int .i64 done.length] st=some (0,[.string rest',.slice (some ⟨b,0,none⟩) (N+1) (N+1),.int .i64 N],st')∧
   st'.mem.get b=some (.cells (strs (done++front)++[.string ⟨#[]⟩]) 1)∧front++[bl rest']=pieces c (bl rest)∧(done++front).length=N∧st'.lim≤b∧b<st'.next∧Ext st0 st':=by
 intro k
 induction k with
 | zero=>
   intro rest done st hk hd hs hm hl hb0 hb he
   rcases zni c (bl rest) with ⟨h1,h2,h3⟩ | ⟨m,h1,h2,h3,h4⟩
   ·refine ⟨rest,[],st,zed rest _ 0 _ _ _ st ?_,by simpa using hm,by simp [h2],by simp;omega,hl,hb,he⟩
    have:¬ ((done.length:Int)<(N:Int)):=by omega
    simp [zdn,this]
    omega
   ·omega
 | succ k ih=>
   intro rest done st hk hd hs hm hl hb0 hb he
   rcases zni c (bl rest) with ⟨h1,h2,h3⟩ | ⟨m,h1,h2,h3,h4⟩
   ·omega
   ·rw [zaK] at h2
    have hlt:(done.length:Int)<(N:Int):=by omega
    have hm0:¬ ((m:Int)<0):=by omega
    have hw:IntKind.wrap .i64 (m:Int)=m:=wrap64 (by omega) (by omega)
    have hw1:IntKind.wrap .i64 ((m:Int)+1)=((m+1:Nat):Int):=by rw [wrap64 (by omega) (by omega)];omega
    have hwd:IntKind.wrap .i64 ((done.length:Int)+1)=(((done++[(bl rest).take m]).length:Nat):Int):=by rw [wrap64 (by omega) (by omega)];simp
    have hb1:bl (rest.extract (m+1) rest.size)=(bl rest).drop (m+1):=by
     rw [ziB,List.take_of_length_le (by simp)]
    have hst:st.st b done.length [.string (mkS ((bl rest).take m))]=some (st.set b (some (.cells (strs (done++[(bl rest).take m])++List.replicate (k+1) (.string ⟨#[]⟩)) 1))):=
     SS.st_cells hm hl (by rfl) (by
      rw [zbs (by simp),← zkZ]
      rfl)
    obtain ⟨rest',front,st',e1,e2,e3,e4,e5,e6,e7⟩:=ih (rest.extract (m+1) rest.size) (done++[(bl rest).take m]) (st.set b (some (.cells (strs (done++[(bl rest).take m])++List.replicate (k+1) (.string ⟨#[]⟩)) 1)))
     (by rw [hb1];omega) (by simp;omega) (by simp;omega) (by simp) hl hb0 hb (he.set hb0 _)
    refine ⟨rest',(bl rest).take m::front,st',zed rest _ 0 _ _ _ st ?_,by simpa using e2,by rw [h3,← hb1,← e3];rfl,by simpa using e4,e5,e6,e7⟩
    have hel:zaw (.slice (some ⟨b,0,none⟩) (N+1) (N+1)) (done.length:Int) 1=some (b,done.length):=by
     unfold zaw
     have:(done.length:Int)<((N+1:Nat):Int):=by omega
     simp only [zdt this]
     simp
    have hs1:zcK rest 0 (m:Int)=some (mkS ((bl rest).take m)):=by rw [zhT (by omega) (by omega) (by omega),zfN];simp
    have hs2:zcK rest ((m+1:Nat):Int) (rest.size:Int)=some (rest.extract (m+1) rest.size):=by rw [zhT (by omega) (by omega) (by omega)];simp
    have hsz:(((⟨#[c]⟩:ByteArray).size:Nat):Int)=1:=rfl
    simp only [zdn,zdt hlt,zct,ztV,zob,zaa,h1,zdf hm0,zcf,Int.add_zero,hw,hs1,hel,hst,hsz,hw1,hs2,hwd]
    exact e1
theorem split_ok [Sym] (s:ByteArray) (c:UInt8) (hs:s.size≤4294967296) (st:SS) (hl:st.lim≤st.next):∃ v st',cc 89 [.string s,.string ⟨#[c]⟩] st=some (v,st')∧Ext st st'∧
  Rd st' v (strs (pieces c (bl s))) 1 (pieces c (bl s)).length:=by
 have hc:=count_le c (bl s)
 rw [zaK] at hc
 obtain ⟨rest',front,st',e1,e2,e3,e4,e5,e6,e7⟩:=zqn c ((bl s).count c) st.next st (by omega) _ s [] (st.new (.cells (List.replicate ((bl s).count c+1) (.string ⟨#[]⟩)) 1)) rfl (by simp) hs (by simp [strs]) hl (zlr _) (by simp) ((Ext.refl st).new _)
 simp only [List.nil_append] at e2 e4
 have hlen:(pieces c (bl s)).length=(bl s).count c+1:=by rw [← e3];simp [e4]
 have hst:st'.st st.next ((bl s).count c) [.string rest']=some (st'.set st.next (some (.cells (strs (pieces c (bl s))) 1))):=
  SS.st_cells e2 e5 (by rfl) (by
   rw [← e4,zbs (by simp),← e3]
   rw [List.take_append_of_le_length (by simp),List.take_of_length_le (by simp),zkz]
   congr 2
   simp [strs])
 have hw1:IntKind.wrap .i64 (((bl s).count c:Nat)+1:Int)=(((bl s).count c+1:Nat):Int):=by rw [wrap64 (by omega) (by omega)];omega
 have hw2:IntKind.wrap .i64 ((s.size:Int)+1)=((s.size+1:Nat):Int):=by rw [wrap64 (by omega) (by omega)];omega
 have hw3:IntKind.wrap .i64 ((((bl s).count c+1:Nat):Int)-1)=(((bl s).count c:Nat):Int):=by rw [wrap64 (by omega) (by omega)];omega
 have hmin:(if ((s.size+1:Nat):Int)<(((bl s).count c+1:Nat):Int) then ((s.size+1:Nat):Int) else (((bl s).count c+1:Nat):Int))=(((bl s).count c+1:Nat):Int):=by split<;>omega
 have hmk:zeF (((bl s).count c+1:Nat):Int) (((bl s).count c+1:Nat):Int) 16=some ():=zkY (by omega) (by omega) (by omega)
 have hel:zaw (.slice (some ⟨st.next,0,none⟩) ((bl s).count c+1) ((bl s).count c+1)) (((bl s).count c:Nat):Int) 1=some (st.next,(bl s).count c):=by
  unfold zaw
  have:(((bl s).count c:Nat):Int)<(((bl s).count c+1:Nat):Int):=by omega
  simp only [zdt this]
  simp
 have hre:(st'.set st.next (some (.cells (strs (pieces c (bl s))) 1))).resl (.slice (some ⟨st.next,0,none⟩) ((bl s).count c+1) ((bl s).count c+1)) 1 0 (((bl s).count c+1:Nat):Int)=some (.slice (some ⟨st.next,0,none⟩) ((bl s).count c+1) ((bl s).count c+1)):=by
  unfold SS.resl
  simp
  rfl
 refine ⟨.slice (some ⟨st.next,0,none⟩) ((bl s).count c+1) ((bl s).count c+1),st'.set st.next (some (.cells (strs (pieces c (bl s))) 1)),zkX s _ st ?_,e7.set (zlr _) _,by simp,.inr ⟨st.next,(bl s).count c+1,by rw [hlen],⟨1,by simp⟩,e6⟩⟩
 have hgen:cc 105 [.string s,.string ⟨#[c]⟩,.int .i64 0,.int .i64 (-1)] st=some (.slice (some ⟨st.next,0,none⟩) ((bl s).count c+1) ((bl s).count c+1),st'.set st.next (some (.cells (strs (pieces c (bl s))) 1))):=by
  refine zi8 s _ 0 (-1) st ?_
  have h0:eqT (⟨#[c]⟩:ByteArray) ⟨#[]⟩=false:=by rfl
  have hm1:decide ((-1:Int)=0)=false:=rfl
  have hm2:decide ((-1:Int)<0)=true:=rfl
  simp only [strings_genSplit,hm1,zcf,h0,hm2,zct,zsG,zob,zaa,hw1,hw2,hmin,hmk,ziI,hw3]
  have e1':zbX 11 [.string s,.string ⟨#[c]⟩,.int .i64 0,.int .i64 (((bl s).count c:Nat):Int),.slice (some ⟨st.next,0,none⟩) (Int.toNat (((bl s).count c+1:Nat):Int)) (Int.toNat (((bl s).count c+1:Nat):Int)),.int .i64 0] (st.new (.cells (List.replicate ((bl s).count c+1) (.string ⟨#[]⟩)) 1))=some (0,[.string rest',.slice (some ⟨st.next,0,none⟩) ((bl s).count c+1) ((bl s).count c+1),.int .i64 (((bl s).count c:Nat):Int)],st'):=e1
  rw [e1']
  simp only [zob,zgz,zgs,zab,zaa,hel,hst,hw1,hre]
 simp only [strings_Split,hgen,zob]
end Go.Proofs.YtifploedaacedaaGreatDoorE
namespace Go.Proofs.YtifploedaacedaaGreatDoorE
set_option maxRecDepth 20000
open Go Go.E Go.Proofs
def zi2:LoopI:=⟨[(0,.str),(1,.int .i64),(7,.any),(8,.int .i64)],[(.exit 0,[(0,.str),(1,.int .i64),(7,.any)]),(.ret,[(4,.any),(5,.int .i64),(6,.bool)])]⟩
def zjB (n:Nat):Option LoopI:=cond (Nat.beq n 3) (some zi2) (none)
noncomputable def zjC (cf:zan) (lf:zac) (s':ByteArray) (at0':Int) (st:SS):Option (Value×SS):=
 (lf 3 [.string s',.int .i64 at0',.slice none 0 0,.int .i64 0] st).bind fun a=>
 cond (Nat.beq a.1 0) (
 ((a.2.1[0]?).bind asS).bind fun b=>
 ((a.2.1[1]?).bind (asI .i64)).bind fun c=>
 (a.2.1[2]?).bind fun d=>
 let e:Int:=IntKind.wrap .i64 ((b.size:Int)+1)
 let f:SS:=a.2.2.new (.cells ([.int .i64 0,.string ⟨#[]⟩,.int .i64 0,.int .i64 c,.int .i64 e]) 5)
 (f.app 5 48 d (.slice (some ⟨a.2.2.next,0,none⟩) 1 1)).bind fun g=>
 some (.tuple #[g.1,.int .i64 0,.bool true],g.2)) (
 (a.2.1[0]?).bind fun h=>
 ((a.2.1[1]?).bind (asI .i64)).bind fun i=>
 ((a.2.1[2]?).bind asB).bind fun j=>
 some (.tuple #[h,.int .i64 i,.bool j],a.2.2))
noncomputable abbrev zbe:zac:=lS Tryz.prog Lk0 Tryz.f90 zjB
theorem zov:Lk0.func 90=some (90,Tryz.f90):=by kernel_rfl
theorem zjD [Sym] (s':ByteArray) (at0':Int) (st:SS) {r:Value×SS} (h:zjC cc zbe s' at0' st=some r):cc 90 [.string s',.int .i64 at0'] st=some r:=
 zaf (li:=zjB) zai zar zov rfl (fun _=>rfl) (.trans (by kernel_rfl) h)
noncomputable def zbf (cf:zan) (lf:zac) (s':ByteArray) (at0':Int) (out':Value) (col':Int) (st:SS):Option (Nat×List Value×SS):=
 cond (decide (col'<(s'.size:Int))) (
 let a:Int:=IntKind.wrap .i64 (col'+1)
 let b:SS:=st.new (.cells [.int .i64 0,.string ⟨#[]⟩,.int .i64 0,.int .i64 0,.int .i64 0] 0)
 (b.st st.next 0 [.int .i64 0,.string ⟨#[]⟩,.int .i64 0,.int .i64 at0',.int .i64 a]).bind fun c=>
 ((zf2 s' col').bind (asI .u8)).bind fun d=>
 cond (decide (d=59)) (
 lf 3 [.string s',.int .i64 at0',out',.int .i64 (s'.size:Int)] c) (
 cond (decide (d=32)) (
 let e:Int:=IntKind.wrap .i64 (col'+1)
 lf 3 [.string s',.int .i64 at0',out',.int .i64 e] c) (
 cond (decide (d=9)) (
 let f:Int:=IntKind.wrap .i64 (col'+1)
 lf 3 [.string s',.int .i64 at0',out',.int .i64 f] c) (
 cond (decide (d=13)) (
 let g:Int:=IntKind.wrap .i64 (col'+1)
 lf 3 [.string s',.int .i64 at0',out',.int .i64 g] c) (
 (cf 106 [.int .u8 d] c).bind fun h=>
 ((some h.1).bind asB).bind fun i=>
 cond i (
 (zcK s' col' (s'.size:Int)).bind fun j=>
 (cf 107 [.string j] h.2).bind fun k=>
 ((some k.1).bind (asI .i64)).bind fun l=>
 let m:Int:=IntKind.wrap .i64 (col'+l)
 (zcK s' col' m).bind fun n=>
 (k.2.st st.next 0 [.int .i64 1]).bind fun o=>
 (o.st st.next 1 [.string n]).bind fun p=>
 ((p.ld st.next 1).bind asS).bind fun q=>
 cond (decide (24<(q.size:Int))) (
 ((p.ld st.next 4).bind (asI .i64)).bind fun r=>
 some (1,[.slice none 0 0,.int .i64 r,.bool false],p)) (
 ((p.ld st.next 1).bind asS).bind fun s=>
 let t:Int:=IntKind.wrap .i64 (col'+(s.size:Int))
 (p.ldN st.next 0 5).bind fun u=>
 (zaS u 5).bind fun v=>
 let w:SS:=p.new (.cells (v++([])) 5)
 (w.app 5 48 out' (.slice (some ⟨p.next,0,none⟩) 1 1)).bind fun x=>
 lf 3 [.string s',.int .i64 at0',x.1,.int .i64 t] x.2)) (
 (cf 108 [.int .u8 d] h.2).bind fun y=>
 ((some y.1).bind asB).bind fun z=>
 cond z (
 (zcK s' col' (s'.size:Int)).bind fun A=>
 (cf 107 [.string A] y.2).bind fun B=>
 ((some B.1).bind (asI .i64)).bind fun C=>
 let D:Int:=IntKind.wrap .i64 (col'+C)
 (zcK s' col' D).bind fun E=>
 (B.2.st st.next 0 [.int .i64 2]).bind fun F=>
 (F.st st.next 1 [.string E]).bind fun G=>
 ((G.ld st.next 1).bind asS).bind fun H=>
 (cf 109 [.string H] G).bind fun I=>
 ((zaq I.1 0).bind (asI .i64)).bind fun J=>
 ((zaq I.1 1).bind asB).bind fun K=>
 (I.2.st st.next 2 [.int .i64 J]).bind fun L=>
 cond (!K) (
 ((L.ld st.next 4).bind (asI .i64)).bind fun M=>
 some (1,[.slice none 0 0,.int .i64 M,.bool false],L)) (
 ((L.ld st.next 1).bind asS).bind fun N=>
 let O:Int:=IntKind.wrap .i64 (col'+(N.size:Int))
 (L.ldN st.next 0 5).bind fun P=>
 (zaS P 5).bind fun Q=>
 let R:SS:=L.new (.cells (Q++([])) 5)
 (R.app 5 48 out' (.slice (some ⟨L.next,0,none⟩) 1 1)).bind fun S=>
 lf 3 [.string s',.int .i64 at0',S.1,.int .i64 O] S.2)) (
 (cf 110 [.string ⟨#[58,61,46,43,45]⟩,.int .u8 d] y.2).bind fun T=>
 ((some T.1).bind (asI .i64)).bind fun U=>
 cond (decide (0≤U)) (
 let V:Int:=IntKind.wrap .i64 (col'+1)
 (zcK s' col' V).bind fun W=>
 (T.2.st st.next 0 [.int .i64 3]).bind fun X=>
 (X.st st.next 1 [.string W]).bind fun Y=>
 ((Y.ld st.next 1).bind asS).bind fun Z=>
 let aA:Int:=IntKind.wrap .i64 (col'+(Z.size:Int))
 (Y.ldN st.next 0 5).bind fun aB=>
 (zaS aB 5).bind fun aC=>
 let aD:SS:=Y.new (.cells (aC++([])) 5)
 (aD.app 5 48 out' (.slice (some ⟨Y.next,0,none⟩) 1 1)).bind fun aE=>
 lf 3 [.string s',.int .i64 at0',aE.1,.int .i64 aA] aE.2) (
 ((T.2.ld st.next 4).bind (asI .i64)).bind fun aF=>
 some (1,[.slice none 0 0,.int .i64 aF,.bool false],T.2))))))))) (
 some (0,[.string s',.int .i64 at0',out'],st))
theorem zaY [Sym] (s':ByteArray) (at0':Int) (out':Value) (col':Int) (st:SS) {r:Nat×List Value×SS} (h:zbf cc zbe s' at0' out' col' st=some r):zbe 3 [.string s',.int .i64 at0',out',.int .i64 col'] st=some r:=
 zaA zai zar (key:=3) (I:=zi2) rfl (by kernel_rfl) (by kernel_rfl) rfl rfl (.trans (by kernel_rfl) h)
def zjE:LoopI:=⟨[(3,.any),(5,.any),(16,.any),(17,.int .i64),(18,.int .i64)],[(.exit 0,[(3,.any),(5,.any)]),(.ret,[(2,.any),(3,.any),(4,.int .i64)])]⟩
def zkB (n:Nat):Option LoopI:=cond (Nat.beq n 5) (some zjE) (none)
noncomputable def zk0 (cf:zan) (lf:zac) (text':ByteArray) (st:SS):Option (Value×SS):=
 let a:SS:=st.new (.cells [.int .i64 0,.int .i64 0] 0)
 cond (decide (131072<(text'.size:Int))) (
 (a.st st.next 0 [.int .i64 0,.int .i64 0]).bind fun b=>
 (b.rdN st.next 0 2).bind fun c=>
 some (.tuple #[.slice none 0 0,c,.int .i64 3],b)) (
 (cf 89 [.string text',.string ⟨#[10]⟩] a).bind fun d=>
 ((lenV d.1).bind (asI .i64)).bind fun e=>
 (lf 5 [ptr st.next 0,.slice none 0 0,d.1,.int .i64 e,.int .i64 0] d.2).bind fun f=>
 cond (Nat.beq f.1 0) (
 (f.2.1[0]?).bind fun g=>
 (f.2.1[1]?).bind fun h=>
 (addr? g).bind fun i=>
 (f.2.2.st i.1 i.2 [.int .i64 0,.int .i64 0]).bind fun j=>
 (addr? g).bind fun k=>
 (j.rdN k.1 k.2 2).bind fun l=>
 some (.tuple #[h,l,.int .i64 0],j)) (
 (f.2.1[0]?).bind fun m=>
 (f.2.1[1]?).bind fun n=>
 ((f.2.1[2]?).bind (asI .i64)).bind fun o=>
 (addr? n).bind fun p=>
 (f.2.2.rdN p.1 p.2 2).bind fun q=>
 some (.tuple #[m,q,.int .i64 o],f.2.2)))
noncomputable abbrev zdH:zac:=lS Tryz.prog Lk0 Tryz.f67 zkB
theorem zpf:Lk0.func 67=some (67,Tryz.f67):=by kernel_rfl
theorem zkC [Sym] (text':ByteArray) (st:SS) {r:Value×SS} (h:zk0 cc zdH text' st=some r):cc 67 [.string text'] st=some r:=
 zaf (li:=zkB) zai zar zpf rfl (fun _=>rfl) (.trans (by kernel_rfl) h)
noncomputable def zfO (cf:zan) (lf:zac) (t3':Value) (out':Value) (t16':Value) (t17':Int) (t18':Int) (st:SS):Option (Nat×List Value×SS):=
 cond (decide (t18'<t17')) (
 (zaw t16' t18' 1).bind fun a=>
 ((st.ld a.1 a.2).bind asS).bind fun b=>
 let c:Int:=IntKind.wrap .i64 (t18'+1)
 (cf 90 [.string b,.int .i64 c] st).bind fun d=>
 (zaq d.1 0).bind fun e=>
 ((zaq d.1 1).bind (asI .i64)).bind fun f=>
 ((zaq d.1 2).bind asB).bind fun g=>
 cond (!g) (
 let h:Int:=IntKind.wrap .i64 (t18'+1)
 (addr? t3').bind fun i=>
 (d.2.st i.1 i.2 [.int .i64 h,.int .i64 f]).bind fun j=>
 some (1,[.slice none 0 0,t3',.int .i64 4],j)) (
 (d.2.app 5 48 out' e).bind fun k=>
 let l:Int:=IntKind.wrap .i64 (t18'+1)
 lf 5 [t3',k.1,t16',.int .i64 t17',.int .i64 l] k.2)) (
 some (0,[t3',out'],st))
theorem zfB [Sym] (t3':Value) (out':Value) (t16':Value) (t17':Int) (t18':Int) (st:SS) {r:Nat×List Value×SS} (h:zfO cc zdH t3' out' t16' t17' t18' st=some r):zdH 5 [t3',out',t16',.int .i64 t17',.int .i64 t18'] st=some r:=
 zaA zai zar (key:=5) (I:=zjE) rfl (by kernel_rfl) (by kernel_rfl) rfl rfl (.trans (by kernel_rfl) h)
end Go.Proofs.YtifploedaacedaaGreatDoorE
namespace Go.Proofs.YtifploedaacedaaGreatDoorE
open Go Go.E Go.Proofs
structure Gd (st:SS):Prop where
 g4:st.mem.get 6=some (.table [.chan (some 6)])
 g5:st.mem.get 7=some (.table [.chan (some 7)])
 gF:st.mem.get 0=some (.table fieldsC)
 gS:st.mem.get 2=some (.table asciiC)
 nx:12≤st.next
theorem Gd.ext {st st':SS} (h:Gd st) (he:Ext st st'):Gd st':=
 ⟨he.get (by have:=h.nx;omega) h.g4,he.get (by have:=h.nx;omega) h.g5,he.get (by have:=h.nx;omega) h.gF,he.get (by have:=h.nx;omega) h.gS,zlt h.nx he.next⟩
theorem Gd.ro {st:SS} {n:Nat} (h:Gd st):Gd (st.ro n):=⟨h.g4,h.g5,h.gF,h.gS,h.nx⟩
theorem zpg (p l:List UInt8):(l.take p.length=p)↔p.isPrefixOf l=true:=by
 rw [List.isPrefixOf_iff_prefix,List.prefix_iff_eq_take]
 exact eq_comm
theorem zow [Sym] (s p:ByteArray) (st:SS):cc 160 [.string s,.string p] st=some (.bool ((bl p).isPrefixOf (bl s)),st):=by
 refine zgo s p st ?_
 unfold zew
 by_cases h:(p.size:Int)≤(s.size:Int)
 ·simp only [zdt h,zct,zhT (s:=s) (l:=0) (h:=p.size) (by omega) (by omega) h,zob,zeN]
  congr 3
  rw [Bool.eq_iff_iff,decide_eq_true_eq,← zpg,ziB,zaK]
  simp
 ·simp only [zdf h,zcf]
  congr 3
  have:(bl p).isPrefixOf (bl s)=false:=by
   rw [Bool.eq_false_iff]
   intro hp
   rw [List.isPrefixOf_iff_prefix] at hp
   have:=hp.length_le
   simp at this
   omega
  rw [this]
theorem zox [Sym] (s p:ByteArray) (st:SS):cc 130 [.string s,.string p] st=some (.tuple #[.string (if (bl p).isPrefixOf (bl s) then mkS ((bl s).drop p.size) else s),.bool ((bl p).isPrefixOf (bl s))],st):=by
 have h1:cc 145 [.string s,.string p] st=some (.tuple #[.string (if (bl p).isPrefixOf (bl s) then mkS ((bl s).drop p.size) else s),.bool ((bl p).isPrefixOf (bl s))],st):=by
  refine zgl s p st ?_
  unfold zev
  rw [zow]
  cases hp:(bl p).isPrefixOf (bl s) with
  | false=>simp
  | true=>
    have hp':=hp
    rw [List.isPrefixOf_iff_prefix] at hp'
    have:=hp'.length_le
    simp only [zaK] at this
    simp [zhT (s:=s) (l:=p.size) (h:=s.size) (by omega) (by omega) (by omega),zfN]
    rw [List.take_of_length_le (by simp)]
 refine ziF s p st ?_
 unfold strings_CutPrefix
 rw [h1]
 rfl
def zdK (b:UInt8):Nat:=(orI .u8 b.toNat 32).toNat
theorem zjF (n:Int):0≤IntKind.wrap .u8 n∧IntKind.wrap .u8 n<256:=by
 rw [← zfx]
 show 0≤((zb2 n 256:Nat):Int)∧((zb2 n 256:Nat):Int)<256
 rw [zfw _ _ (by decide)]
 omega
theorem zrr (b:UInt8):orI .u8 b.toNat 32=(zdK b:Int):=by
 have:=(zjF ((BitVec.ofInt 8 b.toNat||| BitVec.ofInt 8 32).toNat:Nat)).1
 unfold zdK
 rw [Int.toNat_of_nonneg]
 exact this
theorem low_lt (b:UInt8):zdK b<256:=by
 have:=(zjF ((BitVec.ofInt 8 b.toNat||| BitVec.ofInt 8 32).toNat:Nat)).2
 have h2:=zrr b
 have h3:orI .u8 b.toNat 32<256:=this
 omega
theorem zsH [Sym] (b:UInt8) (st:SS):cc 161 [.int .u8 b.toNat] st=some (.int .u8 (zdK b),st):=by
 refine zkc _ st ?_
 unfold zhU
 rw [zrr]
def zfb (b:UInt8):Option Nat:=if 48≤b.toNat∧b.toNat≤57 then some (b.toNat-48) else if 97≤zdK b∧zdK b≤122 then some (zdK b-87) else none
def za6 (B:Nat):Nat→List UInt8→Option (Option Nat)
 | n,[]=>some (some n)
 | n,b::r=>match zfb b with
   | none=>none
   | some d=>if B≤d then none else if 2147483647<n*B+d then some none else za6 B (n*B+d) r
def puR (x:Option (Option Nat)) (s:ByteArray) (st:SS):Nat×List Value×SS:=match x with
 | none=>(1,[.int .u64 0,.iface 228 (.int .i64 2)],st)
 | some none=>(1,[.int .u64 2147483647,.iface 228 (.int .i64 1)],st)
 | some (some m)=>(0,[.string s,.bool false,.int .u64 m],st)
theorem zpM [Sym] (s s0:ByteArray) (B:Nat) (hB:0<B∧B≤16) (C:Int) (hC:2147483648≤C) (i cap:Nat) (st:SS) (hs:s.size≤4294967296) (hm:st.mem.get i=some (.cells (s.data.toList.map fun b=>.int .u8 b.toNat) 1)):∀ (l:List UInt8) (p n:Nat),(bl s).drop p=l→p≤s.size→n≤2147483647→
  zgC 36 [.int .i64 B,.bool false,.string s0,.int .u64 C,.int .u64 2147483647,.bool false,.int .u64 n,.slice (some ⟨i,0,none⟩) s.size cap,.int .i64 s.size,.int .i64 p] st=some (puR (za6 B n l) s0 st):=by
 intro l
 induction l with
 | nil=>
   intro p n hp hle hn
   have hps:p=s.size:=by
    rw [List.drop_eq_nil_iff,zaK] at hp
    omega
   subst hps
   refine zkA _ _ _ _ _ _ _ _ _ st ?_
   simp [zdo,za6,puR]
 | cons b r ih=>
   intro p n hp hle hn
   have hb:(bl s)[p]?=some b:=by
    have:=congrArg (·[0]?) hp
    simpa using this
   have hlt:p<s.size:=by
    obtain ⟨h,_⟩:=List.getElem?_eq_some_iff.1 hb
    simpa using h
   have hr:(bl s).drop (p+1)=r:=by
    have:=drop_cons hb
    rw [hp] at this
    exact (List.cons.inj this).2.symm
   have hlt':(p:Int)<(s.size:Int):=by omega
   have hel:zaw (.slice (some ⟨i,0,none⟩) s.size cap) (p:Int) 1=some (i,p):=by
    unfold zaw
    simp [hlt]
   have hld:(st.ld i p).bind (asI .u8)=some (b.toNat:Int):=by
    rw [SS.ld_cells hm,List.getElem?_map]
    show (((bl s)[p]?).map _).bind _=_
    rw [hb]
    rfl
   have hwp:IntKind.wrap .i64 ((p:Int)+1)=((p+1:Nat):Int):=by rw [wrap64 (by omega) (by omega)];omega
   have hB8:IntKind.wrap .u8 (B:Int)=B:=zgR (by omega) (by omega)
   have hB64:IntKind.wrap .u64 (B:Int)=B:=zc5 (by omega) (by omega)
   have hmul:n*B≤2147483647*16:=Nat.mul_le_mul hn hB.2
   have hmulw:IntKind.wrap .u64 ((n:Int)*(B:Int))=((n*B:Nat):Int):=by
    rw [← Int.natCast_mul]
    exact zc5 (by omega) (by omega)
   have hCn:¬ C≤(n:Int):=by omega
   have hlow:=low_lt b
   have hbl:=b.toNat_lt
   have fin:∀ d:Nat,d<256→zfb b=some d→∀ (q:Int),q=d→
    (cond (decide ((B:Int)≤q)) (some (1,[Value.int .u64 0,.iface 228 (.int .i64 2)],st)) (
     cond (decide (C≤(n:Int))) (some (1,[.int .u64 2147483647,.iface 228 (.int .i64 1)],st)) (
      cond (decide (IntKind.wrap .u64 (((n*B:Nat):Int)+IntKind.wrap .u64 q)<((n*B:Nat):Int))) (some (1,[.int .u64 2147483647,.iface 228 (.int .i64 1)],st)) (
       cond (decide (2147483647<IntKind.wrap .u64 (((n*B:Nat):Int)+IntKind.wrap .u64 q))) (some (1,[.int .u64 2147483647,.iface 228 (.int .i64 1)],st)) (
        zgC 36 [.int .i64 B,.bool false,.string s0,.int .u64 C,.int .u64 2147483647,.bool false,.int .u64 (IntKind.wrap .u64 (((n*B:Nat):Int)+IntKind.wrap .u64 q)),.slice (some ⟨i,0,none⟩) s.size cap,.int .i64 s.size,.int .i64 ((p+1:Nat):Int)] st)))))=some (puR (za6 B n (b::r)) s0 st):=by
    intro d hd hv q hq
    subst hq
    have hw1:IntKind.wrap .u64 (d:Int)=d:=zc5 (by omega) (by omega)
    have hw2:IntKind.wrap .u64 (((n*B:Nat):Int)+(d:Int))=((n*B+d:Nat):Int):=by
     rw [← Int.natCast_add]
     exact zc5 (by omega) (by omega)
    have hnl:¬ (((n*B+d:Nat):Int)<((n*B:Nat):Int)):=by omega
    rw [hw1,hw2,zdf hCn,zdf hnl]
    unfold za6
    rw [hv]
    by_cases h1:B≤d
    ·have h1':(B:Int)≤(d:Int):=by omega
     simp [h1,puR]
    ·have h1':¬ (B:Int)≤(d:Int):=by omega
     rw [zdf h1']
     simp only [zcf,h1,if_false]
     by_cases h2:2147483647<n*B+d
     ·have h2':(2147483647:Int)<((n*B+d:Nat):Int):=by omega
      rw [zdt h2',if_pos h2]
      rfl
     ·have h2':¬ (2147483647:Int)<((n*B+d:Nat):Int):=by omega
      rw [zdf h2',if_neg h2]
      exact ih (p+1) (n*B+d) hr (by omega) (by omega)
   refine zkA _ _ _ _ _ _ _ _ _ st ?_
   by_cases hdig:48≤b.toNat∧b.toNat≤57
   ·have h1:(48:Int)≤(b.toNat:Int):=by omega
    have h2:(b.toNat:Int)≤57:=by omega
    have h3:¬ (b.toNat:Int)=95:=by omega
    have hw:IntKind.wrap .u8 ((b.toNat:Int)-48)=((b.toNat-48:Nat):Int):=by rw [zgR (by omega) (by omega)];omega
    have:=fin (b.toNat-48) (by omega) (by unfold zfb;rw [if_pos hdig]) _ rfl
    simp only [zdo,zdt hlt',zct,hel,zob,hld,zdf h3,zcf,zdt h1,zdt h2,hw,hB8,hB64,hmulw,hwp]
    exact this
   ·have hlo:=zsH b st
    have h4857:decide ((48:Int)≤(b.toNat:Int))=false∨(decide ((48:Int)≤(b.toNat:Int))=true∧decide ((b.toNat:Int)≤57)=false):=by
     by_cases h:(48:Int)≤(b.toNat:Int)
     ·exact .inr ⟨zdt h,zdf (by omega)⟩
     ·exact .inl (zdf h)
    by_cases h1:97≤zdK b
    ·have h1':(97:Int)≤(zdK b:Int):=by omega
     have hw1:IntKind.wrap .u8 ((zdK b:Int)-97)=((zdK b-97:Nat):Int):=by rw [zgR (by omega) (by omega)];omega
     by_cases h2:zdK b≤122
     ·have h2':(zdK b:Int)≤122:=by omega
      have hw2:IntKind.wrap .u8 (((zdK b-97:Nat):Int)+10)=((zdK b-87:Nat):Int):=by rw [zgR (by omega) (by omega)];omega
      have:=fin (zdK b-87) (by omega) (by unfold zfb;rw [if_neg hdig,if_pos ⟨h1,h2⟩]) _ rfl
      rcases h4857 with h48 | ⟨h48,h57⟩
      ·cases h95:decide ((b.toNat:Int)=95)
       all_goals
        simp only [zdo,zdt hlt',zct,hel,zob,hld,h95,zcf,h48,hlo,zaa,zdt h1',zdt h2',hw1,hw2,hB8,hB64,hmulw,hwp]
        exact this
      ·cases h95:decide ((b.toNat:Int)=95)
       all_goals
        simp only [zdo,zdt hlt',zct,hel,zob,hld,h95,zcf,h48,h57,hlo,zaa,zdt h1',zdt h2',hw1,hw2,hB8,hB64,hmulw,hwp]
        exact this
     ·have h2':¬ (zdK b:Int)≤122:=by omega
      have hv:zfb b=none:=by unfold zfb;rw [if_neg hdig,if_neg (by omega)]
      have e:za6 B n (b::r)=none:=by unfold za6;rw [hv]
      rw [e]
      rcases h4857 with h48 | ⟨h48,h57⟩
      ·cases h95:decide ((b.toNat:Int)=95)
       all_goals
        simp only [zdo,zdt hlt',zct,hel,zob,hld,h95,zcf,h48,hlo,zaa,zdt h1',zdf h2',puR]
      ·cases h95:decide ((b.toNat:Int)=95)
       all_goals
        simp only [zdo,zdt hlt',zct,hel,zob,hld,h95,zcf,h48,h57,hlo,zaa,zdt h1',zdf h2',puR]
    ·have h1':¬ (97:Int)≤(zdK b:Int):=by omega
     have hv:zfb b=none:=by unfold zfb;rw [if_neg hdig,if_neg (by omega)]
     have e:za6 B n (b::r)=none:=by unfold za6;rw [hv]
     rw [e]
     rcases h4857 with h48 | ⟨h48,h57⟩
     ·cases h95:decide ((b.toNat:Int)=95)
      all_goals
       simp only [zdo,zdt hlt',zct,hel,zob,hld,h95,zcf,h48,hlo,zaa,zdf h1',puR]
     ·cases h95:decide ((b.toNat:Int)=95)
      all_goals
       simp only [zdo,zdt hlt',zct,hel,zob,hld,h95,zcf,h48,h57,hlo,zaa,zdf h1',puR]
def zaU (B:Nat) (l:List UInt8):Option (Option Nat):=if l=[] then none else za6 B 0 l
def puV (x:Option (Option Nat)):Int×Option Nat:=match x with
 | none=>(0,some 4)
 | some none=>(2147483647,some 5)
 | some (some m)=>(m,none)
def zfC (x:Option (Option Nat)):Int×Bool:=((puV x).1,(puV x).2.isNone)
def puE (x:Option (Option Nat)):Value:=match x with
 | none=>.iface 228 (.int .i64 2)
 | some none=>.iface 228 (.int .i64 1)
 | some (some m)=>.nilIface
theorem zhf (s:ByteArray):eqT s ⟨#[]⟩=decide (bl s=[]):=rfl
theorem ztW [Sym] (s:ByteArray) (hs:s.size≤4294967296) (st:SS):∃ st',cc 146 [.string s,.int .i64 10,.int .i64 31] st=some (.tuple #[.int .u64 (puV (zaU 10 (bl s))).1,puE (zaU 10 (bl s))],st')∧Ext st st':=by
 have hsh:IntKind.wrap .u64 (zjq .u64 1 31-1)=2147483647:=by decide
 by_cases h0:bl s=[]
 ·refine ⟨st,zpI s st ?_,.refl _⟩
  simp [pu10,zhf,h0,zaU,puV,puE]
 ·refine ⟨st.new (.cells (s.data.toList.map fun b=>.int .u8 b.toNat) 1),zpI s st ?_,(Ext.refl st).new _⟩
  have:=zpM s s 10 (by omega) 1844674407370955162 (by omega) st.next s.size (st.new (.cells (s.data.toList.map fun b=>.int .u8 b.toNat) 1)) hs (by simp) (bl s) 0 0 rfl (by omega) (by omega)
  have this':zgC 36 [.int .i64 10,.bool false,.string s,.int .u64 1844674407370955162,.int .u64 2147483647,.bool false,.int .u64 0,.slice (some ⟨st.next,0,none⟩) s.size s.size,.int .i64 ((s.size:Nat):Int),.int .i64 0] (st.new (.cells (s.data.toList.map fun b=>.int .u8 b.toNat) 1))=_:=this
  simp only [pu10,zhf,zdf h0,zcf,hsh,this',zob,zaU,if_neg h0]
  rcases za6 10 0 (bl s) with _ | _ | m<;>simp [puR,puV,puE]
theorem ztX [Sym] (s:ByteArray) (hs:s.size≤4294967296) (st:SS):∃ st',cc 146 [.string s,.int .i64 16,.int .i64 31] st=some (.tuple #[.int .u64 (puV (zaU 16 (bl s))).1,puE (zaU 16 (bl s))],st')∧Ext st st':=by
 have hsh:IntKind.wrap .u64 (zjq .u64 1 31-1)=2147483647:=by decide
 by_cases h0:bl s=[]
 ·refine ⟨st,zpL s st ?_,.refl _⟩
  simp [pu16,zhf,h0,zaU,puV,puE]
 ·refine ⟨st.new (.cells (s.data.toList.map fun b=>.int .u8 b.toNat) 1),zpL s st ?_,(Ext.refl st).new _⟩
  have:=zpM s s 16 (by omega) 1152921504606846976 (by omega) st.next s.size (st.new (.cells (s.data.toList.map fun b=>.int .u8 b.toNat) 1)) hs (by simp) (bl s) 0 0 rfl (by omega) (by omega)
  have this':zpK 36 [.int .i64 16,.bool false,.string s,.int .u64 1152921504606846976,.int .u64 2147483647,.bool false,.int .u64 0,.slice (some ⟨st.next,0,none⟩) s.size s.size,.int .i64 ((s.size:Nat):Int),.int .i64 0] (st.new (.cells (s.data.toList.map fun b=>.int .u8 b.toNat) 1))=_:=this
  simp only [pu16,zhf,zdf h0,zcf,hsh,this',zob,zaU,if_neg h0]
  rcases za6 16 0 (bl s) with _ | _ | m<;>simp [puR,puV,puE]
theorem zsI [Sym] {st:SS} (hg:Gd st) (fn s:ByteArray) (hs:s.size≤4294967296) (base bits:Int) (x:Option (Option Nat)) (hx:(puV x).2.isNone=false):
  cc 147 [.string fn,.string s,.int .i64 base,.int .i64 bits,puE x] st=some (.iface 230 (.pointer (some ⟨st.next,0,none⟩)),st.adv (st.next+1)):=by
 have hq:Nat.ble s.size 281474976710656=true:=by rw [Nat.ble_eq];omega
 have hn:=hg.nx
 rcases x with _ | _ | m
 ·have h:=zne (P:=Tryz.prog) (L:=Lk0) (f:=147) (args:=[.string fn,.string s,.int .i64 base,.int .i64 bits,.iface 228 (.int .i64 2)]) (st:=st) (c:=zeu st.next 6) (by rfl)
   (by show zkT 147 [.string fn,.string s,.int .i64 base,.int .i64 bits,.iface 228 (.int .i64 2)] st.next=_;simp [zkT, -zos,hq]) (by
    have h4:Nat.blt 6 st.next=true:=by rw [Nat.blt_eq];omega
    have hgl:Lk0.glob 6=true:=rfl
    simp [zeu,hg.g4,zfK,zii,h4,hgl])
  exact h
 ·have h:=zne (P:=Tryz.prog) (L:=Lk0) (f:=147) (args:=[.string fn,.string s,.int .i64 base,.int .i64 bits,.iface 228 (.int .i64 1)]) (st:=st) (c:=zeu st.next 7) (by rfl)
   (by show zkT 147 [.string fn,.string s,.int .i64 base,.int .i64 bits,.iface 228 (.int .i64 1)] st.next=_;simp [zkT, -zos,hq]) (by
    have h4:Nat.blt 7 st.next=true:=by rw [Nat.blt_eq];omega
    have hgl:Lk0.glob 7=true:=rfl
    simp [zeu,hg.g5,zfK,zii,h4,hgl])
  exact h
 ·cases hx
theorem zjG [Sym] {st:SS} (hg:Gd st) (s:ByteArray) (hs:s.size≤4294967296) (base:Int) (B:Nat) (hb:(base=10∧B=10)∨(base=16∧B=16)):
  ∃ e st',cc 131 [.string s,.int .i64 base,.int .i64 31] st=some (.tuple #[.int .u64 (puV (zaU B (bl s))).1,e],st')∧ze8 e=some (puV (zaU B (bl s))).2.isNone∧Ext st st':=by
 have h:∃ st',cc 146 [.string s,.int .i64 base,.int .i64 31] st=some (.tuple #[.int .u64 (puV (zaU B (bl s))).1,puE (zaU B (bl s))],st')∧Ext st st':=by
  rcases hb with ⟨rfl,rfl⟩ | ⟨rfl,rfl⟩
  ·exact ztW s hs st
  ·exact ztX s hs st
 obtain ⟨st',h1,h2⟩:=h
 have hE:ze8 (puE (zaU B (bl s)))=some (puV (zaU B (bl s))).2.isNone:=by
  rcases zaU B (bl s) with _ | _ | m<;>rfl
 cases hx:(puV (zaU B (bl s))).2.isNone with
 | true=>
   refine ⟨.nilIface,st',zfa s _ _ st ?_,rfl,h2⟩
   rw [hx] at hE
   simp [zek,h1,zaq,hE]
 | false=>
   refine ⟨.iface 230 (.pointer (some ⟨st'.next,0,none⟩)),st'.adv (st'.next+1),zfa s _ _ st ?_,rfl,h2.adv (Nat.le_succ _)⟩
   rw [hx] at hE
   simp [zek,h1,zaq,hE,zsI (hg.ext h2) _ s hs _ _ _ hx]
def zmH (l:List UInt8):Bool:=[48,120].isPrefixOf l
def zcX (l:List UInt8):Option (Option Nat):=if zmH l then zaU 16 (l.drop 2) else zaU 10 l
theorem zoy {B n m:Nat} {l:List UInt8} (h:za6 B n l=some (some m)):Lib.indexByte l 95= -1:=by
 induction l generalizing n with
 | nil=>rfl
 | cons b r ih=>
   unfold za6 at h
   split at h
   ·cases h
   ·rename_i d hd
    split at h
    ·cases h
    ·split at h
     ·cases h
     ·have hb:b≠95:=by
       rintro rfl
       have:zfb 95=none:=by decide
       rw [this] at hd;cases hd
      simp [Lib.indexByte,hb,ih h]
theorem znj {B:Nat} {l:List UInt8} (h:(puV (zaU B l)).2.isNone=true):Lib.indexByte l 95= -1:=by
 unfold zaU at h
 split at h
 ·cases h
 ·cases hp:za6 B 0 l with
  | none=>rw [hp] at h;cases h
  | some x=>cases x with
    | none=>rw [hp] at h;cases h
    | some m=>exact zoy hp
theorem zfV {B:Nat} {l:List UInt8}:0≤(puV (zaU B l)).1∧(puV (zaU B l)).1≤2147483647:=by
 have:∀ (l:List UInt8) (n m:Nat),n≤2147483647→za6 B n l=some (some m)→m≤2147483647:=by
  intro l
  induction l with
  | nil=>intro n m hn h;cases h;exact hn
  | cons b r ih=>
    intro n m hn h
    unfold za6 at h
    split at h
    ·cases h
    ·split at h
     ·cases h
     ·split at h
      ·cases h
      ·exact ih _ _ (by omega) h
 unfold zaU
 split
 ·simp [puV]
 ·cases hp:za6 B 0 l with
  | none=>simp [puV]
  | some x=>cases x with
    | none=>simp [puV]
    | some m=>have:=this l 0 m (by omega) hp;simp only [puV];omega
theorem zrt [Sym] {st:SS} (hg:Gd st) (s:ByteArray) (hs:s.size≤4294967296):∃ n,st.next≤n∧cc 109 [.string s] st=some (.tuple #[.int .i64 (zfC (zcX (bl s))).1,.bool (zfC (zcX (bl s))).2],st.adv n):=by
 have hcut:=zox s ⟨#[48,120]⟩ (st.ro st.next)
 have hp:(bl (⟨#[48,120]⟩:ByteArray))=[48,120]:=rfl
 have hsz:(⟨#[48,120]⟩:ByteArray).size=2:=rfl
 rw [hp,hsz] at hcut
 cases hh:zmH (bl s) with
 | true=>
   have hh':=hh
   unfold zmH at hh'
   rw [hh'] at hcut
   obtain ⟨e,st',h1,h2,h3⟩:=zjG (st:=st.ro st.next) (hg.ro) (mkS ((bl s).drop 2)) (by simp;omega) 16 16 (.inr ⟨rfl,rfl⟩)
   rw [zbO] at h1 h2
   refine ⟨st'.next,h3.next,zhV s st ?_⟩
   have hw:=wrap64 (n:=(puV (zaU 16 ((bl s).drop 2))).1) (by have:=zfV (B:=16) (l:=(bl s).drop 2);omega) (by have:=zfV (B:=16) (l:=(bl s).drop 2);omega)
   have hi:=zgT 95 (mkS ((bl s).drop 2)) st'
   cases hx:(puV (zaU 16 ((bl s).drop 2))).2.isNone with
   | true=>
     rw [hx] at h2
     have hu:=znj hx
     have hi':cc 110 [.string (mkS ((bl s).drop 2)),.int .u8 95] st'=_:=hi
     rw [zbO,hu] at hi'
     simp [zex,hcut,zaq,h1,h2,hw,zcX,hh,zfC,hx,hi']
   | false=>
     rw [hx] at h2
     simp [zex,hcut,zaq,h1,h2,hw,zcX,hh,zfC,hx]
 | false=>
   have hh':=hh
   unfold zmH at hh'
   rw [hh'] at hcut
   obtain ⟨e,st',h1,h2,h3⟩:=zjG (st:=st.ro st.next) (hg.ro) s hs 10 10 (.inl ⟨rfl,rfl⟩)
   refine ⟨st'.next,h3.next,zhV s st ?_⟩
   have hw:=wrap64 (n:=(puV (zaU 10 (bl s))).1) (by have:=zfV (B:=10) (l:=bl s);omega) (by have:=zfV (B:=10) (l:=bl s);omega)
   have hi:=zgT 95 s st'
   cases hx:(puV (zaU 10 (bl s))).2.isNone with
   | true=>
     rw [hx] at h2
     have hu:=znj hx
     have hi':cc 110 [.string s,.int .u8 95] st'=_:=hi
     rw [hu] at hi'
     simp [zex,hcut,zaq,h1,h2,hw,zcX,hh,zfC,hx,hi']
   | false=>
     rw [hx] at h2
     simp [zex,hcut,zaq,h1,h2,hw,zcX,hh,zfC,hx]
end Go.Proofs.YtifploedaacedaaGreatDoorE
namespace Go.Proofs.YtifploedaacedaaGreatDoorE
open Go Go.E Go.Proofs
structure Tok where
 kd:Nat
 tx:List UInt8
 nm:Int
 col:Nat
def zaV (at':Int) (t:Tok):List Value:=[.int .i64 t.kd,.string (mkS t.tx),.int .i64 t.nm,.int .i64 at',.int .i64 t.col]
def zb3 (at':Int):List Tok→List Value
 | []=>[]
 | t::r=>zaV at' t++zb3 at' r
theorem zjH (at':Int) (a b:List Tok):zb3 at' (a++b)=zb3 at' a++zb3 at' b:=by
 induction a with
 | nil=>rfl
 | cons t r ih=>simp [zb3,ih]
theorem zru (at':Int) (a:List Tok):(zb3 at' a).all one=true:=by
 induction a with
 | nil=>rfl
 | cons t r ih=>simp [zb3,ih,zaV,one]
inductive Stp where
 | stop | blank | bad
 | tok (kd n:Nat) (x:Int)
def numO (x:Option (Option Nat)):Option Nat:=x.getD none
def zlR (c:UInt8):Bool:=decide (0≤Lib.indexByte [58,61,46,43,45] c)
def stepT:List UInt8→Stp
 | []=>.stop
 | c::r=>if (c.toNat:Int)=59 then .stop
   else if (c.toNat:Int)=32∨(c.toNat:Int)=9∨(c.toNat:Int)=13 then .blank
   else if zbD c.toNat=true then (if 24<zaI (c::r) then .bad else .tok 1 (zaI (c::r)) 0)
   else if zcN c.toNat=true then (match numO (zcX ((c::r).take (zaI (c::r)))) with
    | some m=>.tok 2 (zaI (c::r)) m
    | none=>.bad)
   else if zlR c=true then .tok 3 1 0 else .bad
def zj6 (t:Tok):Except Nat (List Tok)→Except Nat (List Tok)
 | .ok ts=>.ok (t::ts)
 | .error e=>.error e
def zca:Nat→Nat→List UInt8→Except Nat (List Tok)
 | 0,_,_=>.ok []
 | k+1,col,l=>match stepT l with
   | .stop=>.ok []
   | .blank=>zca k (col+1) (l.drop 1)
   | .tok kd n x=>zj6 ⟨kd,l.take n,x,col+1⟩ (zca k (col+n) (l.drop n))
   | .bad=>.error (col+1)
structure TK (st stX:SS) (row:List Value):Prop where
 mem:stX.mem.get st.next=some (.cells row 0)
 ext:Ext st stX
 lt:st.next<stX.next
theorem TK.new {st:SS} {r row:List Value} (hl:st.lim≤st.next) (h1:row.all one=true) (hr:r.length=row.length):∃ stX,(st.new (.cells r 0)).st st.next 0 row=some stX∧TK st stX row:=by
 refine ⟨_,SS.st_cells SS.new_get hl h1 (c':=row) ?_,?_,?_,?_⟩
 ·rw [zbs (by omega)]
  simp [hr]
 ·simp
 ·exact ((Ext.refl st).new _).set (zlr _) _
 ·simp
theorem TK.st {st stX:SS} {row row' vs:List Value} {k:Nat} (h:TK st stX row) (hl:st.lim≤st.next) (h1:vs.all one=true) (hs:zcx row k vs=some row'):∃ stY,stX.st st.next k vs=some stY∧TK st stY row'∧stY.next=stX.next:=
 ⟨_,SS.st_cells h.mem (by rw [h.ext.lim];exact hl) h1 hs,⟨by simp,h.ext.set (zlr _) _,h.lt⟩,rfl⟩
theorem TK.adv {st stX:SS} {row:List Value} {n:Nat} (h:TK st stX row) (hn:stX.next≤n):TK st (stX.adv n) row:=
 ⟨h.mem,h.ext.adv hn,zll h.lt hn⟩
theorem TK.ld {st stX:SS} {row:List Value} {k:Nat} (h:TK st stX row):stX.ld st.next k=row[k]?:=SS.ld_cells h.mem
theorem TK.ldN {st stX:SS} {row:List Value} {n:Nat} (h:TK st stX row) (hn:row.length=n):stX.ldN st.next 0 n=some (.agg row.toArray):=by
 rw [SS.ldN_cells h.mem,zdF hn];rfl
theorem zlS {row:List Value} {n:Nat} (hn:row.length=n):zaS (.agg row.toArray) n=some row:=by
 unfold zaS
 have:(Value.agg row.toArray).cells=row.toArray:=rfl
 rw [this]
 simp [hn]
theorem cells5 (a b c d e:Value):zaS (.agg [a,b,c,d,e].toArray) 5=some [a,b,c,d,e]:=rfl
theorem own_ne {b:Nat} {st:SS} {v:Value} {c:List Value} {z n j:Nat} (h:Own b st v c z n) (hj:st.next≤j):∀ q,v≠.slice (some ⟨j,0,none⟩) q q:=by
 obtain ⟨_,⟨rfl,_⟩ | ⟨i,rfl,_,_,_,hi⟩⟩:=h
 ·intro q h;cases h
 ·intro q h;cases h;omega
theorem TK.app {st0 st stX:SS} {row c:List Value} {out:Value} {n z bt:Nat} (h:TK st stX row) (he:Ext st0 st) (ho:Own st0.next st out c z n) (hr:row.length=z) (hz:0<z) (hl:st0.lim≤st0.next) (h1:row.all one=true) (hs:(n+2)*bt≤2^44) (hn:n+1≤2^44):
  ∃ v st',(stX.new (.cells row z)).app z bt out (.slice (some ⟨stX.next,0,none⟩) 1 1)=some (v,st')∧Ext st0 st'∧Own st0.next st' v (c++row) z (n+1)∧st'.mem.get st.next=some (.cells row 0):=by
 have e1:Ext st (stX.new (.cells row z)):=h.ext.new _
 have e0:Ext st0 (stX.new (.cells row z)):=he.trans e1
 obtain ⟨v,st',g1,g2,g3,g4,g5,g6⟩:=(ho.ext e1).app (Rd.new1 (st:=stX) hr) e0.next (by rw [e0.lim];exact hl) hz h1 (bt:=bt) (by simpa [Nat.add_assoc] using hs) hn
 refine ⟨v,st',g1,g5 st0 (zlr _) e0,g2,?_⟩
 rw [g6 st.next (by simp;have:=h.lt;omega) (own_ne ho (zlr _)),SS.new_old (by have:=h.lt;omega)]
 exact h.mem
theorem zmI (l:List UInt8):zaI l≤l.length:=by
 unfold zaI
 exact (List.takeWhile_sublist _).length_le
theorem ziJ {c:UInt8} {r:List UInt8} (h:nameB c=true):0<zaI (c::r):=by rw [zeV,if_pos h];omega
theorem ziK {s:ByteArray} {col n:Nat} (h:col+n≤s.size):zcK s (col:Int) ((col+n:Nat):Int)=some (mkS (((bl s).drop col).take n)):=by
 rw [zhT (by omega) (by omega) (by omega),zfN]
 simp only [Int.toNat_natCast]
 rw [List.drop_take,Nat.add_sub_cancel_left]
theorem znk {s:ByteArray} {col:Nat} (h:col≤s.size):zcK s (col:Int) (s.size:Int)=some (mkS ((bl s).drop col)):=by
 rw [zhT (by omega) (by omega) (by omega),zfN]
 simp only [Int.toNat_natCast]
 rw [List.take_of_length_le (by simp)]
def zd8 (errv:Nat→List Value) (s:ByteArray) (at':Int) (st0:SS) (done:List Tok) (r:Option (Nat×List Value×SS)):Except Nat (List Tok)→Prop
 | .ok ts=>∃ v st',r=some (0,[.string s,.int .i64 at',v],st')∧Ext st0 st'∧Own st0.next st' v (zb3 at' (done++ts)) 5 (done++ts).length∧(done++ts).length≤s.size
 | .error c=>∃ st',r=some (1,errv c,st')∧Ext st0 st'
theorem zd8.to {errv:Nat→List Value} {s:ByteArray} {at':Int} {st0:SS} {done:List Tok} {r r':Option (Nat×List Value×SS)} {x:Except Nat (List Tok)} (h:zd8 errv s at' st0 done r x) (hr:∀ y,r=some y→r'=some y):zd8 errv s at' st0 done r' x:=by
 cases x with
 | ok ts=>obtain ⟨v,st',a,b⟩:=h;exact ⟨v,st',hr _ a,b⟩
 | error c=>obtain ⟨st',a,b⟩:=h;exact ⟨st',hr _ a,b⟩
theorem zd8.cons {errv:Nat→List Value} {s:ByteArray} {at':Int} {st0:SS} {done:List Tok} {t:Tok} {r:Option (Nat×List Value×SS)} {x:Except Nat (List Tok)} (h:zd8 errv s at' st0 (done++[t]) r x):zd8 errv s at' st0 done r (zj6 t x):=by
 cases x with
 | ok ts=>
   have e:done++[t]++ts=done++t::ts:=by simp
   obtain ⟨v,st',a,b,c,d⟩:=h
   rw [e] at c d
   exact ⟨v,st',a,b,c,d⟩
 | error c=>exact h
theorem zd8.tok {errv:Nat→List Value} {s:ByteArray} {at':Int} {st0 st stY:SS} {done:List Tok} {out:Value} {kd n col k:Nat} {x:Int} {lf:zac} (hs:s.size≤4294967296) (hl0:st0.lim≤st0.next) (hd:done.length≤col) (he:Ext st0 st) (ho:Own st0.next st out (zb3 at' done) 5 done.length) (hn0:0<n) (hn:col+n≤s.size)
  (tk:TK st stY [.int .i64 kd,.string (mkS (((bl s).drop col).take n)),.int .i64 x,.int .i64 at',.int .i64 ((col+1:Nat):Int)])
  (ih:∀ (done:List Tok) (out:Value) (st:SS),done.length≤col+n→Ext st0 st→Own st0.next st out (zb3 at' done) 5 done.length→zd8 errv s at' st0 done (lf 3 [.string s,.int .i64 at',out,.int .i64 ((col+n:Nat):Int)] st) (zca k (col+n) ((bl s).drop (col+n))))
  (step:∀ v stZ,(stY.new (.cells [.int .i64 kd,.string (mkS (((bl s).drop col).take n)),.int .i64 x,.int .i64 at',.int .i64 ((col+1:Nat):Int)] 5)).app 5 48 out (.slice (some ⟨stY.next,0,none⟩) 1 1)=some (v,stZ)→stZ.mem.get st.next=some (.cells [.int .i64 kd,.string (mkS (((bl s).drop col).take n)),.int .i64 x,.int .i64 at',.int .i64 ((col+1:Nat):Int)] 0)→
      ∀ y,lf 3 [.string s,.int .i64 at',v,.int .i64 ((col+n:Nat):Int)] stZ=some y→lf 3 [.string s,.int .i64 at',out,.int .i64 col] st=some y):
  zd8 errv s at' st0 done (lf 3 [.string s,.int .i64 at',out,.int .i64 col] st) (zj6 ⟨kd,((bl s).drop col).take n,x,col+1⟩ (zca k (col+n) (((bl s).drop col).drop n))):=by
 obtain ⟨v,stZ,b1,b2,b3,b4⟩:=tk.app he ho rfl (by omega) hl0 (by rfl) (bt:=48) (by omega) (by omega)
 have hrow:zb3 at' done++[.int .i64 kd,.string (mkS (((bl s).drop col).take n)),.int .i64 x,.int .i64 at',.int .i64 ((col+1:Nat):Int)]=zb3 at' (done++[⟨kd,((bl s).drop col).take n,x,col+1⟩]):=by
  rw [zjH];rfl
 have hlen:done.length+1=(done++[(⟨kd,((bl s).drop col).take n,x,col+1⟩:Tok)]).length:=by simp
 rw [hrow,hlen] at b3
 rw [List.drop_drop]
 exact ((ih _ v stZ (by simp;omega) b2 b3).cons).to (step v stZ b1 b4)
theorem ziL {L r:List UInt8} {c:UInt8} (h:L=c::r):stepT L=if (c.toNat:Int)=59 then .stop
  else if (c.toNat:Int)=32∨(c.toNat:Int)=9∨(c.toNat:Int)=13 then .blank
  else if zbD c.toNat=true then (if 24<zaI L then .bad else .tok 1 (zaI L) 0)
  else if zcN c.toNat=true then (match numO (zcX (L.take (zaI L))) with
   | some m=>.tok 2 (zaI L) m
   | none=>.bad)
  else if zlR c=true then .tok 3 1 0 else .bad:=by subst h;rfl
theorem zrv [Sym] (s:ByteArray) (at':Int) (hs:s.size≤4294967296) (st0:SS) (hg:Gd st0) (hl0:st0.lim≤st0.next):∀ (k col:Nat) (done:List Tok) (out:Value) (st:SS),s.size≤k+col→col≤s.size→done.length≤col→Ext st0 st→Own st0.next st out (zb3 at' done) 5 done.length→
  zd8 (fun c=>[.slice none 0 0,.int .i64 c,.bool false]) s at' st0 done (zbe 3 [.string s,.int .i64 at',out,.int .i64 col] st) (zca k col ((bl s).drop col)):=by
 intro k
 induction k with
 | zero=>
   intro col done out st hk hc hd he ho
   have:col=s.size:=by omega
   subst this
   refine ⟨out,st,zaY s _ out _ st ?_,he,by simpa using ho,by simpa using hd⟩
   simp [zbf]
 | succ k ih=>
   intro col done out st hk hc hd he ho
   have hfin:∀ (stX:SS),zbe 3 [.string s,.int .i64 at',out,.int .i64 s.size] stX=some (0,[.string s,.int .i64 at',out],stX):=by
    intro stX
    refine zaY s _ out _ stX ?_
    simp [zbf]
   by_cases hlt:col<s.size
   ·obtain ⟨c,hb⟩:∃ c,(bl s)[col]?=some c:=⟨_,zge (by rw [zaK];exact hlt)⟩
    have hdc:=drop_cons hb
    have hix:(zf2 s (col:Int)).bind (asI .u8)=some (c.toNat:Int):=by
     obtain ⟨b',hb',hidx⟩:=zrn (s:=s) (i:=(col:Int)) (by omega) (by omega)
     have:b'=c:=by simp at hb';rw [hb] at hb';cases hb';rfl
     subst this
     rw [hidx];simp
    have hlt':(col:Int)<(s.size:Int):=by omega
    have hw1:IntKind.wrap .i64 ((col:Int)+1)=((col+1:Nat):Int):=by rw [wrap64 (by omega) (by omega)];omega
    have hl:st.lim≤st.next:=by rw [he.lim];have:=he.next;omega
    obtain ⟨st3,e3,t3⟩:=TK.new (st:=st) (r:=[.int .i64 0,.string ⟨#[]⟩,.int .i64 0,.int .i64 0,.int .i64 0]) (row:=[.int .i64 0,.string ⟨#[]⟩,.int .i64 0,.int .i64 at',.int .i64 ((col+1:Nat):Int)]) hl (by rfl) rfl
    have he3:Ext st0 st3:=he.trans t3.ext
    have ho3:=ho.ext t3.ext
    have hL:=ziL hdc
    have hrl:zaI ((bl s).drop col)≤s.size-col:=by
     have:=zmI ((bl s).drop col)
     simpa using this
    unfold zca
    rw [hL]
    by_cases h59:(c.toNat:Int)=59
    ·rw [if_pos h59]
     refine ⟨out,st3,zaY s _ out _ st ?_,he3,by simpa using ho3,by simp;omega⟩
     simp only [zbf,zdt hlt',zct,hw1,e3,zob,hix,zdt h59]
     exact hfin st3
    rw [if_neg h59]
    by_cases hbk:(c.toNat:Int)=32∨(c.toNat:Int)=9∨(c.toNat:Int)=13
    ·rw [if_pos hbk]
     simp only [List.drop_drop]
     refine (ih (col+1) done out st3 (by omega) (by omega) (by omega) he3 ho3).to ?_
     intro r hr
     refine zaY s _ out _ st ?_
     simp only [zbf,zdt hlt',zct,hw1,e3,zob,hix,zdf h59,zcf]
     rcases hbk with h | h | h
     ·simp only [zdt h,zct,hr]
     ·have h':¬ (c.toNat:Int)=32:=by omega
      simp only [zdt h,zct,hr,zdf h',zcf]
     ·have h':¬ (c.toNat:Int)=32:=by omega
      have h'':¬ (c.toNat:Int)=9:=by omega
      simp only [zdt h,zct,hr,zdf h',zdf h'',zcf]
    rw [if_neg hbk]
    have h32:¬ (c.toNat:Int)=32:=fun h=>hbk (.inl h)
    have h9:¬ (c.toNat:Int)=9:=fun h=>hbk (.inr (.inl h))
    have h13:¬ (c.toNat:Int)=13:=fun h=>hbk (.inr (.inr h))
    have hsub:=znk (s:=s) (col:=col) (by omega)
    have hlet:=zhe (c.toNat:Int)
    have hdig:=digit_ok (c.toNat:Int)
    by_cases hlt1:zbD c.toNat=true
    ·rw [if_pos hlt1]
     have hpos:0<zaI ((bl s).drop col):=by rw [hdc];exact ziJ (by unfold nameB;rw [hlt1];rfl)
     obtain ⟨m,hm,hrun⟩:=zfR (mkS ((bl s).drop col)) st3
     rw [zbO] at hrun
     have t4:=t3.adv hm
     obtain ⟨st5,e5,t5,n5⟩:=t4.st (k:=0) (vs:=[.int .i64 1]) (row':=[.int .i64 1,.string ⟨#[]⟩,.int .i64 0,.int .i64 at',.int .i64 ((col+1:Nat):Int)]) hl (by rfl) rfl
     obtain ⟨st6,e6,t6,n6⟩:=t5.st (k:=1) (vs:=[.string (mkS (((bl s).drop col).take (zaI ((bl s).drop col))))]) (row':=[.int .i64 1,.string (mkS (((bl s).drop col).take (zaI ((bl s).drop col)))),.int .i64 0,.int .i64 at',.int .i64 ((col+1:Nat):Int)]) hl (by rfl) rfl
     have hw2:IntKind.wrap .i64 ((col:Int)+(zaI ((bl s).drop col):Nat))=((col+zaI ((bl s).drop col):Nat):Int):=by rw [wrap64 (by omega) (by omega)];omega
     have hmid:=ziK (s:=s) (col:=col) (n:=zaI ((bl s).drop col)) (by omega)
     have hsz:(mkS (((bl s).drop col).take (zaI ((bl s).drop col)))).size=zaI ((bl s).drop col):=by simp;omega
     have common:zbf cc zbe s at' out col st=cond (decide ((24:Int)<(zaI ((bl s).drop col):Nat))) (some (1,[.slice none 0 0,.int .i64 ((col+1:Nat):Int),.bool false],st6))
       ((((st6.new (.cells [.int .i64 1,.string (mkS (((bl s).drop col).take (zaI ((bl s).drop col)))),.int .i64 0,.int .i64 at',.int .i64 ((col+1:Nat):Int)] 5)).app 5 48 out (.slice (some ⟨st6.next,0,none⟩) 1 1))).bind fun r24=>zbe 3 [.string s,.int .i64 at',r24.1,.int .i64 ((col+zaI ((bl s).drop col):Nat):Int)] r24.2):=by
      simp only [zbf,zdt hlt',zct,hw1,e3,zob,hix,zdf h59,zcf,zdf h32,zdf h9,zdf h13,hlet,hlt1,zal,hsub,hrun,zaa,hw2,hmid,e5,e6,t6.ld,t6.ldN (n:=5) rfl,zgs,zgz,zab,hsz,cells5,List.append_nil]
     by_cases h24:24<zaI ((bl s).drop col)
     ·rw [if_pos h24]
      refine ⟨st6,zaY s _ out _ st ?_,he.trans t6.ext⟩
      rw [common,zdt (by omega)]
      rfl
     ·rw [if_neg h24]
      refine zd8.tok hs hl0 hd he ho hpos (by omega) t6 (fun done out st hd he ho=>ih _ done out st (by omega) (by omega) hd he ho) ?_
      intro v stZ hv _ y hy
      refine zaY s _ out _ st ?_
      rw [common,zdf (by omega),zcf]
      have hv':((st6.new (.cells [.int .i64 1,.string (mkS (((bl s).drop col).take (zaI ((bl s).drop col)))),.int .i64 0,.int .i64 at',.int .i64 ((col+1:Nat):Int)] 5)).app 5 48 out (.slice (some ⟨st6.next,0,none⟩) 1 1))=some (v,stZ):=hv
      rw [hv']
      exact hy
    rw [if_neg hlt1]
    have hlt1':zbD c.toNat=false:=Bool.eq_false_iff.2 hlt1
    by_cases hd1:zcN c.toNat=true
    ·rw [if_pos hd1]
     have hpos:0<zaI ((bl s).drop col):=by rw [hdc];exact ziJ (by unfold nameB;rw [hd1];simp)
     obtain ⟨m,hm,hrun⟩:=zfR (mkS ((bl s).drop col)) st3
     rw [zbO] at hrun
     have t4:=t3.adv hm
     obtain ⟨st5,e5,t5,n5⟩:=t4.st (k:=0) (vs:=[.int .i64 2]) (row':=[.int .i64 2,.string ⟨#[]⟩,.int .i64 0,.int .i64 at',.int .i64 ((col+1:Nat):Int)]) hl (by rfl) rfl
     obtain ⟨st6,e6,t6,n6⟩:=t5.st (k:=1) (vs:=[.string (mkS (((bl s).drop col).take (zaI ((bl s).drop col))))]) (row':=[.int .i64 2,.string (mkS (((bl s).drop col).take (zaI ((bl s).drop col)))),.int .i64 0,.int .i64 at',.int .i64 ((col+1:Nat):Int)]) hl (by rfl) rfl
     obtain ⟨m2,hm2,hnum⟩:=zrt (hg.ext (he.trans t6.ext)) (mkS (((bl s).drop col).take (zaI ((bl s).drop col)))) (by simp;omega)
     rw [zbO] at hnum
     have t7:=t6.adv hm2
     obtain ⟨st8,e8,t8,n8⟩:=t7.st (k:=2) (vs:=[.int .i64 (zfC (zcX (((bl s).drop col).take (zaI ((bl s).drop col))))).1]) (row':=[.int .i64 2,.string (mkS (((bl s).drop col).take (zaI ((bl s).drop col)))),.int .i64 (zfC (zcX (((bl s).drop col).take (zaI ((bl s).drop col))))).1,.int .i64 at',.int .i64 ((col+1:Nat):Int)]) hl (by rfl) rfl
     have hw2:IntKind.wrap .i64 ((col:Int)+(zaI ((bl s).drop col):Nat))=((col+zaI ((bl s).drop col):Nat):Int):=by rw [wrap64 (by omega) (by omega)];omega
     have hmid:=ziK (s:=s) (col:=col) (n:=zaI ((bl s).drop col)) (by omega)
     have hsz:(mkS (((bl s).drop col).take (zaI ((bl s).drop col)))).size=zaI ((bl s).drop col):=by simp;omega
     have common:zbf cc zbe s at' out col st=cond (!(zfC (zcX (((bl s).drop col).take (zaI ((bl s).drop col))))).2) (some (1,[.slice none 0 0,.int .i64 ((col+1:Nat):Int),.bool false],st8))
       ((((st8.new (.cells [.int .i64 2,.string (mkS (((bl s).drop col).take (zaI ((bl s).drop col)))),.int .i64 (zfC (zcX (((bl s).drop col).take (zaI ((bl s).drop col))))).1,.int .i64 at',.int .i64 ((col+1:Nat):Int)] 5)).app 5 48 out (.slice (some ⟨st8.next,0,none⟩) 1 1))).bind fun r24=>zbe 3 [.string s,.int .i64 at',r24.1,.int .i64 ((col+zaI ((bl s).drop col):Nat):Int)] r24.2):=by
      simp only [zbf,zdt hlt',zct,hw1,e3,zob,hix,zdf h59,zcf,zdf h32,zdf h9,zdf h13,hlet,hlt1',hdig,hd1,zal,hsub,hrun,zaa,hw2,hmid,e5,e6,t6.ld,hnum,zaq,e8,t8.ld,t8.ldN (n:=5) rfl,zgs,zgz,zab,hsz,cells5,List.append_nil,List.getElem?_toArray]
     cases hx:zcX (((bl s).drop col).take (zaI ((bl s).drop col))) with
     | some y=>cases y with
       | some w=>
         have hx2:zfC (zcX (((bl s).drop col).take (zaI ((bl s).drop col))))=((w:Int),true):=by rw [hx];rfl
         rw [hx2] at common t8
         simp only [numO,Option.getD_some]
         refine zd8.tok hs hl0 hd he ho hpos (by omega) t8 (fun done out st hd he ho=>ih _ done out st (by omega) (by omega) hd he ho) ?_
         intro v stZ hv _ y hy
         refine zaY s _ out _ st ?_
         rw [common,znt,zcf]
         have hv':((st8.new (.cells [.int .i64 2,.string (mkS (((bl s).drop col).take (zaI ((bl s).drop col)))),.int .i64 (w:Int),.int .i64 at',.int .i64 ((col+1:Nat):Int)] 5)).app 5 48 out (.slice (some ⟨st8.next,0,none⟩) 1 1))=some (v,stZ):=hv
         rw [hv']
         exact hy
       | none=>
         have hx2:(zfC (zcX (((bl s).drop col).take (zaI ((bl s).drop col))))).2=false:=by rw [hx];rfl
         rw [hx2] at common
         refine ⟨st8,zaY s _ out _ st ?_,he.trans t8.ext⟩
         rw [common]
         rfl
     | none=>
       have hx2:(zfC (zcX (((bl s).drop col).take (zaI ((bl s).drop col))))).2=false:=by rw [hx];rfl
       rw [hx2] at common
       refine ⟨st8,zaY s _ out _ st ?_,he.trans t8.ext⟩
       rw [common]
       rfl
    rw [if_neg hd1]
    have hd1':zcN c.toNat=false:=Bool.eq_false_iff.2 hd1
    have hsg:=zgT c ⟨#[58,61,46,43,45]⟩ st3
    by_cases hs1:zlR c=true
    ·rw [if_pos hs1]
     have hs1':(0:Int)≤Lib.indexByte (bl ⟨#[58,61,46,43,45]⟩) c:=of_decide_eq_true hs1
     obtain ⟨st5,e5,t5,n5⟩:=t3.st (k:=0) (vs:=[.int .i64 3]) (row':=[.int .i64 3,.string ⟨#[]⟩,.int .i64 0,.int .i64 at',.int .i64 ((col+1:Nat):Int)]) hl (by rfl) rfl
     obtain ⟨st6,e6,t6,n6⟩:=t5.st (k:=1) (vs:=[.string (mkS (((bl s).drop col).take 1))]) (row':=[.int .i64 3,.string (mkS (((bl s).drop col).take 1)),.int .i64 0,.int .i64 at',.int .i64 ((col+1:Nat):Int)]) hl (by rfl) rfl
     have hmid:=ziK (s:=s) (col:=col) (n:=1) (by omega)
     have hsz:(mkS (((bl s).drop col).take 1)).size=1:=by simp;omega
     have hw2:IntKind.wrap .i64 ((col:Int)+((1:Nat):Int))=((col+1:Nat):Int):=hw1
     refine zd8.tok hs hl0 hd he ho (by omega) (by omega) t6 (fun done out st hd he ho=>ih _ done out st (by omega) (by omega) hd he ho) ?_
     intro v stZ hv _ y hy
     refine zaY s _ out _ st ?_
     have hv':((st6.new (.cells [.int .i64 3,.string (mkS (((bl s).drop col).take 1)),.int .i64 0,.int .i64 at',.int .i64 ((col+1:Nat):Int)] 5)).app 5 48 out (.slice (some ⟨st6.next,0,none⟩) 1 1))=some (v,stZ):=hv
     simp only [zbf,zdt hlt',zct,hw1,e3,zob,hix,zdf h59,zcf,zdf h32,zdf h9,zdf h13,hlet,hlt1',hdig,hd1',zal,hsg,zaa,zdt hs1',hmid,e5,e6,t6.ld,t6.ldN (n:=5) rfl,zgs,zgz,zab,hsz,hw2,cells5,List.append_nil,hv']
     exact hy
    ·rw [if_neg hs1]
     have hs1':¬ (0:Int)≤Lib.indexByte (bl ⟨#[58,61,46,43,45]⟩) c:=fun h=>hs1 (zdt h)
     refine ⟨st3,zaY s _ out _ st ?_,he3⟩
     simp only [zbf,zdt hlt',zct,hw1,e3,zob,hix,zdf h59,zcf,zdf h32,zdf h9,zdf h13,hlet,hlt1',hdig,hd1',zal,hsg,zaa,zdf hs1',t3.ld,zgs,zgz]
   ·have:col=s.size:=by omega
    subst this
    have hnil:(bl s).drop s.size=[]:=zkx s
    rw [hnil]
    exact ⟨out,st,hfin st,he,by simpa [stepT] using ho,by simpa using hd⟩
end Go.Proofs.YtifploedaacedaaGreatDoorE
namespace Go.Proofs.YtifploedaacedaaGreatDoorE
open Go Go.E Go.Proofs
def zdp (l:List UInt8):Tok:=⟨0,[],0,l.length+1⟩
def zb4 (l:List UInt8):Except Nat (List Tok):=match zca l.length 0 l with
 | .ok ts=>.ok (ts++[zdp l])
 | .error c=>.error c
def LineR (okv:Value→List Value) (errv:Nat→List Value) (s:ByteArray) (at':Int) (st:SS) (r:Option (Value×SS)):Except Nat (List Tok)→Prop
 | .ok ts=>∃ v st',r=some (.tuple (okv v).toArray,st')∧Ext st st'∧Own st.next st' v (zb3 at' ts) 5 ts.length∧ts.length≤s.size+1
 | .error c=>∃ st',r=some (.tuple (errv c).toArray,st')∧Ext st st'
theorem ztY {st st':SS} {v:Value} {at':Int} {ts:List Tok} (s:ByteArray) (hs:s.size≤4294967296) (hl:st.lim≤st.next) (he:Ext st st') (ho:Own st.next st' v (zb3 at' ts) 5 ts.length) (hn:ts.length≤s.size):
  ∃ w st'',(st'.new (.cells [.int .i64 0,.string ⟨#[]⟩,.int .i64 0,.int .i64 at',.int .i64 ((s.size+1:Nat):Int)] 5)).app 5 48 v (.slice (some ⟨st'.next,0,none⟩) 1 1)=some (w,st'')∧Ext st st''∧
   Own st.next st'' w (zb3 at' (ts++[zdp (bl s)])) 5 (ts++[zdp (bl s)]).length∧(ts++[zdp (bl s)]).length≤s.size+1:=by
 have e0:Ext st (st'.new (.cells [.int .i64 0,.string ⟨#[]⟩,.int .i64 0,.int .i64 at',.int .i64 ((s.size+1:Nat):Int)] 5)):=he.new _
 obtain ⟨w,st'',g1,g2,g3,g4,g5,g6⟩:=(ho.ext ((Ext.refl st').new (.cells [.int .i64 0,.string ⟨#[]⟩,.int .i64 0,.int .i64 at',.int .i64 ((s.size+1:Nat):Int)] 5))).app (Rd.new1 (st:=st') rfl) e0.next (by rw [e0.lim];exact hl) (by omega) (by rfl) (bt:=48) (by omega) (by omega)
 refine ⟨w,st'',g1,g5 st (zlr _) e0,?_,by simp;omega⟩
 have e1:zb3 at' (ts++[zdp (bl s)])=zb3 at' ts++[.int .i64 0,.string ⟨#[]⟩,.int .i64 0,.int .i64 at',.int .i64 ((s.size+1:Nat):Int)]:=by
  rw [zjH]
  show _++(zaV at' (zdp (bl s))++[])=_
  simp [zaV,zdp,mkS]
 rw [e1,List.length_append]
 exact g2
theorem ztZ [Sym] {st:SS} (hg:Gd st) (hl:st.lim≤st.next) (s:ByteArray) (hs:s.size≤4294967296) (at':Int):
  LineR (fun v=>[v,.int .i64 0,.bool true]) (fun c=>[.slice none 0 0,.int .i64 c,.bool false]) s at' st (cc 90 [.string s,.int .i64 at'] st) (zb4 (bl s)):=by
 have h:=zrv s at' hs st hg hl s.size 0 [] (.slice none 0 0) st (by omega) (by omega) (by simp) (.refl _) (Own.nil _ _ _)
 simp only [List.drop_zero] at h
 have hw:IntKind.wrap .i64 ((s.size:Int)+1)=((s.size+1:Nat):Int):=by rw [wrap64 (by omega) (by omega)];omega
 unfold zb4
 rw [zaK]
 cases hx:zca s.size 0 (bl s) with
 | ok ts=>
   rw [hx] at h
   obtain ⟨v,st',a,b,c,d⟩:=h
   obtain ⟨w,st'',e1,e2,e3,e4⟩:=ztY s hs hl b c d
   refine ⟨w,st'',zjD s at' st ?_,e2,e3,e4⟩
   have a':zbe 3 [.string s,.int .i64 at',.slice none 0 0,.int .i64 0] st=some (0,[.string s,.int .i64 at',v],st'):=a
   have hb0:Nat.beq 0 0=true:=rfl
   simp only [zjC,a',zob,hb0,zct,zgs,zgz,zab,zaa,hw,e1]
 | error c=>
   rw [hx] at h
   obtain ⟨st',a,b⟩:=h
   refine ⟨st',zjD s at' st ?_,b⟩
   have a':zbe 3 [.string s,.int .i64 at',.slice none 0 0,.int .i64 0] st=some (1,[.slice none 0 0,.int .i64 c,.bool false],st'):=a
   have hb0:Nat.beq 1 0=false:=rfl
   simp only [zjC,a',zob,hb0,zcf,zgs,zgz,zal,zaa]
end Go.Proofs.YtifploedaacedaaGreatDoorE
namespace Go.Proofs.YtifploedaacedaaGreatDoorE
open Go Go.E Go.Proofs
def rowsL:List (Nat×Tok)→List Value
 | []=>[]
 | t::r=>zaV t.1 t.2++rowsL r
theorem zoz (a b:List (Nat×Tok)):rowsL (a++b)=rowsL a++rowsL b:=by
 induction a with
 | nil=>rfl
 | cons t r ih=>simp [rowsL,ih]
theorem zrx (i:Nat) (ts:List Tok):rowsL (ts.map fun t=>(i,t))=zb3 i ts:=by
 induction ts with
 | nil=>rfl
 | cons t r ih=>simp [rowsL,zb3,ih]
def zqo (a:List (Nat×Tok)):Except (Nat×Nat) (List (Nat×Tok))→Except (Nat×Nat) (List (Nat×Tok))
 | .ok us=>.ok (a++us)
 | .error e=>.error e
def zfP:Nat→List (List UInt8)→Except (Nat×Nat) (List (Nat×Tok))
 | _,[]=>.ok []
 | i,p::r=>match zb4 p with
   | .error c=>.error (i+1,c)
   | .ok ts=>zqo (ts.map fun t=>(i+1,t)) (zfP (i+1) r)
def lexT (l:List UInt8):Except (Nat×Nat) (List (Nat×Tok)):=zfP 0 (pieces 10 l)
theorem ziM (c:UInt8) (l:List UInt8):∀ p∈pieces c l,p.length≤l.length:=by
 induction l with
 | nil=>simp [pieces]
 | cons b r ih=>
   unfold pieces
   split
   ·intro p hp
    simp only [List.mem_cons] at hp
    rcases hp with rfl | hp
    ·simp
    ·have:=ih p hp;simp;omega
   ·cases hr:pieces c r with
    | nil=>exact absurd hr (zdV c r)
    | cons x y=>
      intro p hp
      simp only [List.mem_cons] at hp
      rcases hp with rfl | hp
      ·have:=ih x (by rw [hr];simp);simp;omega
      ·have:=ih p (by rw [hr];simp [hp]);simp;omega
def zgU (errv:List Value) (j:Nat) (st0 st1:SS) (done:List (Nat×Tok)) (r:Option (Nat×List Value×SS)):Except (Nat×Nat) (List (Nat×Tok))→Prop
 | .ok us=>∃ v st',r=some (0,[ptr j 0,v],st')∧Ext st1 st'∧Own st1.next st' v (rowsL (done++us)) 5 (done++us).length
 | .error e=>∃ st',r=some (1,errv,st')∧st'.mem.get j=some (.cells [.int .i64 e.1,.int .i64 e.2] 0)∧Ext st0 st'
theorem zgU.to {errv:List Value} {j:Nat} {st0 st1:SS} {done:List (Nat×Tok)} {r r':Option (Nat×List Value×SS)} {x:Except (Nat×Nat) (List (Nat×Tok))} (h:zgU errv j st0 st1 done r x) (hr:∀ y,r=some y→r'=some y):zgU errv j st0 st1 done r' x:=by
 cases x with
 | ok ts=>obtain ⟨v,st',a,b⟩:=h;exact ⟨v,st',hr _ a,b⟩
 | error c=>obtain ⟨st',a,b⟩:=h;exact ⟨st',hr _ a,b⟩
theorem zgU.cons {errv:List Value} {j:Nat} {st0 st1:SS} {done a:List (Nat×Tok)} {r:Option (Nat×List Value×SS)} {x:Except (Nat×Nat) (List (Nat×Tok))} (h:zgU errv j st0 st1 (done++a) r x):zgU errv j st0 st1 done r (zqo a x):=by
 cases x with
 | ok ts=>
   have e:done++a++ts=done++(a++ts):=by simp
   obtain ⟨v,st',p,b,c⟩:=h
   rw [e] at c
   exact ⟨v,st',p,b,c⟩
 | error c=>exact h
theorem strs_get (ps:List (List UInt8)) (i:Nat) (p:List UInt8) (h:ps[i]?=some p):((strs ps).drop (i*1)).take 1=[.string (mkS p)]:=by
 rw [Nat.mul_one]
 have:(strs ps)[i]?=some (.string (mkS p)):=by simp [strs,h]
 rw [drop_cons this]
 rfl
theorem zgU.add {errv:List Value} {j:Nat} {st0 st1 st st':SS} {done:List (Nat×Tok)} {ts:List Tok} {i N:Nat} {out v:Value} {x:Except (Nat×Nat) (List (Nat×Tok))} {r':Option (Nat×List Value×SS)}
  (hN:N≤131073) (hl1:st1.lim≤st1.next) (hi:i<N) (hd:done.length≤i*N) (hts:ts.length≤N) (he:Ext st1 st) (ho:Own st1.next st out (rowsL done) 5 done.length) (he2:Ext st st') (ho2:Own st.next st' v (zb3 ((i+1:Nat):Int) ts) 5 ts.length)
  (h:∀ w st'',st'.app 5 48 out v=some (w,st'')→Ext st1 st''→Own st1.next st'' w (rowsL (done++ts.map fun t=>(i+1,t))) 5 (done++ts.map fun t=>(i+1,t)).length→(done++ts.map fun t=>(i+1,t)).length≤(i+1)*N→zgU errv j st0 st1 (done++ts.map fun t=>(i+1,t)) r' x):
  zgU errv j st0 st1 done r' (zqo (ts.map fun t=>(i+1,t)) x):=by
 have hmul:i*N≤131073*131073:=Nat.mul_le_mul (by omega) hN
 have e0:Ext st1 st':=he.trans he2
 have hN2:(i+1)*N=i*N+N:=by rw [Nat.add_mul,Nat.one_mul]
 have hN3:i*N+N≤131073*131073:=by rw [← hN2];exact Nat.mul_le_mul (by omega) hN
 obtain ⟨w,st'',g1,g2,g3,g4,g5,g6⟩:=(ho.ext he2).app (ho2.rd) e0.next (by rw [e0.lim];exact hl1) (by omega) (zru _ _) (bt:=48) (by omega) (by omega)
 refine (h w st'' g1 (g5 st1 (zlr _) e0) ?_ ?_).cons
 ·rw [zoz,zrx,List.length_append,List.length_map]
  exact g2
 ·rw [List.length_append,List.length_map,hN2];omega
theorem zsJ [Sym] (st0 st1:SS) (hg:Gd st1) (h01:Ext st0 st1) (hl1:st1.lim≤st1.next) (j:Nat) (hj0:st0.next≤j) (hj1:j<st1.next) (hjm:∃ r,st1.mem.get j=some (.cells r 0)∧r.length=2) (hjl:st1.lim≤j) (all:List (List UInt8)) (v:Value) (hv:Rd st1 v (strs all) 1 all.length) (N:Nat) (hN:N≤131073) (hall:all.length≤N) (hmem:∀ p∈all,p.length+1≤N):
  ∀ (ps:List (List UInt8)) (i:Nat) (done:List (Nat×Tok)) (out:Value) (st:SS),all.drop i=ps→i≤all.length→done.length≤i*N→Ext st1 st→Own st1.next st out (rowsL done) 5 done.length→
  zgU [.slice none 0 0,ptr j 0,.int .i64 4] j st0 st1 done (zdH 5 [ptr j 0,out,v,.int .i64 all.length,.int .i64 i] st) (zfP i ps):=by
 intro ps
 induction ps with
 | nil=>
   intro i done out st hp hi hd he ho
   have:i=all.length:=by
    rw [List.drop_eq_nil_iff] at hp;omega
   subst this
   refine ⟨out,st,zfB _ out v _ _ st ?_,he,by simpa using ho⟩
   simp [zfO]
 | cons p r ih=>
   intro i done out st hp hi hd he ho
   have hgp:all[i]?=some p:=by
    have:=congrArg (·[0]?) hp
    simpa using this
   have hlt:i<all.length:=(List.getElem?_eq_some_iff.1 hgp).1
   have hpm:p∈all:=zmg hgp
   have hpl:=hmem p hpm
   have hr:all.drop (i+1)=r:=by
    have:=drop_cons hgp
    rw [hp] at this
    exact (List.cons.inj this).2.symm
   have hlt':(i:Int)<(all.length:Int):=by omega
   have hw:IntKind.wrap .i64 ((i:Int)+1)=((i+1:Nat):Int):=by rw [wrap64 (by omega) (by omega)];omega
   obtain ⟨q,hq1,hq2,hq3⟩:=(hv.ext he).load (j:=(i:Int)) (by omega) hlt' (strs_get all i p hgp) rfl
   have hld:(st.ld q.1 q.2).bind asS=some (mkS p):=by
    have:=hq3 0 (by omega)
    rw [Nat.add_zero] at this
    rw [this];rfl
   have hl:st.lim≤st.next:=by rw [he.lim];have:=he.next;omega
   have h:=ztZ (hg.ext he) hl (mkS p) (by simp;omega) ((i+1:Nat):Int)
   rw [zbO] at h
   unfold zfP
   cases hx:zb4 p with
   | error c=>
     rw [hx] at h
     obtain ⟨st',a,b⟩:=h
     obtain ⟨r0,hjm1,hjm2⟩:=hjm
     have e0:=he.trans b
     have hst:st'.st j 0 [.int .i64 ((i+1:Nat):Int),.int .i64 c]=some (st'.set j (some (.cells [.int .i64 ((i+1:Nat):Int),.int .i64 c] 0))):=
      SS.st_cells (e0.get hj1 hjm1) (by rw [e0.lim];exact hjl) (by rfl) (by rw [zbs (by simp [hjm2])];simp [hjm2])
     refine ⟨st'.set j (some (.cells [.int .i64 ((i+1:Nat):Int),.int .i64 c] 0)),zfB _ out v _ _ st ?_,by simp,(h01.trans e0).set hj0 _⟩
     simp only [zfO,zdt hlt',zct,hq1,zob,hld,hw,a,zaq,List.getElem?_toArray,zgs,zgz,zaa,zal,znf,zad,hst]
   | ok ts=>
     rw [hx] at h
     obtain ⟨w,st',a,b,c,d⟩:=h
     refine zgU.add hN hl1 (by omega) hd (by simp at d;omega) he ho b c ?_
     intro u st'' g1 g2 g3 g4
     refine (ih (i+1) _ u st'' hr (by omega) g4 g2 g3).to ?_
     intro y hy
     refine zfB _ out v _ _ st ?_
     simp only [zfO,zdt hlt',zct,hq1,zob,hld,hw,a,zaq,List.getElem?_toArray,zgs,zgz,zaa,zal,znt,zcf,g1]
     exact hy
def LexR (okv:Value→Nat×Nat→List Value) (errv:Nat×Nat→List Value) (st:SS) (r:Option (Value×SS)):Except (Nat×Nat) (List (Nat×Tok))→Prop
 | .ok us=>∃ v st',r=some (.tuple (okv v (0,0)).toArray,st')∧Ext st st'∧Own st.next st' v (rowsL us) 5 us.length
 | .error e=>∃ st',r=some (.tuple (errv e).toArray,st')∧Ext st st'
def zbP (e:Nat×Nat):Value:=.agg #[.int .i64 e.1,.int .i64 e.2]
theorem rdN2 {st:SS} {j:Nat} {a b:Value} {z:Nat} (h:st.mem.get j=some (.cells [a,b] z)):st.rdN j 0 2=some (.agg #[a,b]):=by
 rw [SS.rdN_cells h,zdF (n:=2) rfl];rfl
theorem lex_ok [Sym] {st:SS} (hg:Gd st) (hl:st.lim≤st.next) (s:ByteArray) (hs:s.size≤131072):
  LexR (fun v e=>[v,zbP e,.int .i64 0]) (fun e=>[.slice none 0 0,zbP e,.int .i64 4]) st (cc 67 [.string s] st) (lexT (bl s)):=by
 obtain ⟨v,st2,h1,h2,h3⟩:=split_ok s 10 (by omega) (st.new (.cells [.int .i64 0,.int .i64 0] 0)) (by simp;omega)
 have hst1:(st.new (.cells [.int .i64 0,.int .i64 0] 0)).mem.get st.next=some (.cells [.int .i64 0,.int .i64 0] 0):=by simp
 have e01:Ext st st2:=((Ext.refl st).new _).trans h2
 have hm:=h2.get (by simp) hst1
 have hj1:st.next<st2.next:=by have:=h2.next;simp at this;omega
 have hl2:st2.lim≤st2.next:=by rw [e01.lim];have:=e01.next;omega
 have hlen:=pieces_len 10 (bl s)
 rw [zaK] at hlen
 have hmem:=ziM 10 (bl s)
 rw [zaK] at hmem
 have h:=zsJ st st2 (hg.ext e01) e01 hl2 st.next (zlr _) hj1 ⟨_,hm,rfl⟩ (by rw [e01.lim];exact hl) (pieces 10 (bl s)) v h3 (s.size+1) (by omega) hlen (fun p hp=>by have:=hmem p hp;omega) (pieces 10 (bl s)) 0 [] (.slice none 0 0) st2 rfl (by omega) (by simp) (.refl _) (Own.nil _ _ _)
 have hbig:¬ (131072:Int)<(s.size:Int):=by omega
 have hb0:Nat.beq 0 0=true:=rfl
 have hb1:Nat.beq 1 0=false:=rfl
 have hlv:(lenV v).bind (asI .i64)=some ((pieces 10 (bl s)).length:Int):=by rw [h3.len];rfl
 unfold lexT
 cases hx:zfP 0 (pieces 10 (bl s)) with
 | ok us=>
   rw [hx] at h
   obtain ⟨w,st3,a,b,c⟩:=h
   have hm3:=b.get hj1 hm
   have hst:st3.st st.next 0 [.int .i64 0,.int .i64 0]=some (st3.set st.next (some (.cells [.int .i64 0,.int .i64 0] 0))):=
    SS.st_cells hm3 (by rw [b.lim,e01.lim];exact hl) (by rfl) (by rfl)
   have hlast:Ext st (st3.set st.next (some (.cells [.int .i64 0,.int .i64 0] 0))):=(e01.trans b).set (zlr _) _
   refine ⟨w,st3.set st.next (some (.cells [.int .i64 0,.int .i64 0] 0)),zkC s st ?_,hlast,?_⟩
   ·have a':zdH 5 [ptr st.next 0,.slice none 0 0,v,.int .i64 ((pieces 10 (bl s)).length:Int),.int .i64 0] st2=some (0,[ptr st.next 0,w],st3):=a
    have hr:=rdN2 (a:=.int .i64 0) (b:=.int .i64 0) (z:=0) (st:=st3.set st.next (some (.cells [.int .i64 0,.int .i64 0] 0))) (j:=st.next) (by simp)
    simp only [zk0,zdf hbig,zcf,h1,zob,hlv,a',hb0,zct,zgs,zgz,zad,hst,hr]
    rfl
   ·obtain ⟨c1,c2⟩:=c
    refine ⟨c1,c2.imp id ?_⟩
    rintro ⟨i,e,h0,hmi,hbi,hi⟩
    refine ⟨i,e,h0,?_,by omega,hi⟩
    rw [SS.set_old (by omega)]
    exact hmi
 | error e=>
   rw [hx] at h
   obtain ⟨st3,a,b,c⟩:=h
   refine ⟨st3,zkC s st ?_,c⟩
   have a':zdH 5 [ptr st.next 0,.slice none 0 0,v,.int .i64 ((pieces 10 (bl s)).length:Int),.int .i64 0] st2=some (1,[.slice none 0 0,ptr st.next 0,.int .i64 4],st3):=a
   simp only [zk0,zdf hbig,zcf,h1,zob,hlv,a',hb1,zct,zgs,zgz,zad,zaa,rdN2 b]
   rfl
end Go.Proofs.YtifploedaacedaaGreatDoorE
namespace Go.Proofs.YtifploedaacedaaGreatDoorE
open Go Go.E Go.Proofs
theorem TK.newV {st:SS} {r:List Value} {v:Value} {n:Nat} (hl:st.lim≤st.next) (h1:v.cells.toList.all one=true) (hn:v.cells.size=n) (hr:r.length=n):∃ stX,(st.new (.cells r 0)).stV st.next 0 n v=some stX∧TK st stX v.cells.toList:=by
 obtain ⟨stX,h,t⟩:=TK.new (st:=st) (r:=r) (row:=v.cells.toList) hl h1 (by simp [hr,hn])
 refine ⟨stX,?_,t⟩
 unfold SS.stV
 have:Nat.beq v.cells.size n=true:=by rw [zax,hn];simp
 rw [this]
 exact h
theorem TK.pair {st:SS} {r:List Value} (e:Nat×Nat) (hl:st.lim≤st.next) (hr:r.length=2):∃ stX,(st.new (.cells r 0)).stV st.next 0 2 (zbP e)=some stX∧TK st stX [.int .i64 e.1,.int .i64 e.2]:=TK.newV (v:=zbP e) hl (by rfl) rfl hr
theorem zhg (us:List (Nat×Tok)) (i:Nat) (t:Nat×Tok) (h:us[i]?=some t):((rowsL us).drop (i*5)).take 5=zaV t.1 t.2:=by
 induction us generalizing i with
 | nil=>simp at h
 | cons a r ih=>
   cases i with
   | zero=>
     simp at h
     subst h
     show ((zaV a.1 a.2++rowsL r).drop (0*5)).take 5=_
     rfl
   | succ i=>
     have:=ih i (by simpa using h)
     show ((zaV a.1 a.2++rowsL r).drop ((i+1)*5)).take 5=_
     have e:(i+1)*5=(zaV a.1 a.2).length+i*5:=by simp [zaV];omega
     rw [e,← List.drop_drop,List.drop_left]
     exact this
theorem zry (ps:List (List UInt8)) (i N:Nat) (us:List (Nat×Tok)) (h:zfP i ps=.ok us) (hN:∀ p∈ps,∀ ts,zb4 p=.ok ts→ts.length≤N):us.length≤ps.length*N:=by
 induction ps generalizing i us with
 | nil=>cases h;simp
 | cons p r ih=>
   unfold zfP at h
   cases hx:zb4 p with
   | error c=>rw [hx] at h;cases h
   | ok ts=>
     rw [hx] at h
     cases hy:zfP (i+1) r with
     | error e=>rw [hy] at h;cases h
     | ok vs=>
       rw [hy] at h
       cases h
       have h1:=ih (i+1) vs hy (fun q hq=>hN q (List.mem_cons_of_mem _ hq))
       have h2:=hN p (List.mem_cons_self ..) ts hx
       rw [List.length_append,List.length_map,List.length_cons,Nat.add_mul]
       omega
theorem zsK (k col:Nat) (l:List UInt8) (ts:List Tok) (h:zca k col l=.ok ts):ts.length≤k:=by
 induction k generalizing col l ts with
 | zero=>cases h;simp
 | succ k ih=>
   unfold zca at h
   split at h
   ·cases h;simp
   ·have:=ih _ _ _ h;omega
   ·rename_i kd n x _
    cases hx:zca k (col+n) (l.drop n) with
    | error e=>rw [hx] at h;cases h
    | ok us=>rw [hx] at h;cases h;have:=ih _ _ _ hx;simp;omega
   ·cases h
theorem znl (p:List UInt8) (ts:List Tok) (h:zb4 p=.ok ts):ts.length≤p.length+1:=by
 unfold zb4 at h
 split at h
 ·rename_i us hu;cases h;have:=zsK _ _ _ _ hu;simp;omega
 ·cases h
theorem zsL (l:List UInt8) (us:List (Nat×Tok)) (h:lexT l=.ok us):us.length≤(l.length+1)*(l.length+1):=by
 have h1:=zry (pieces 10 l) 0 (l.length+1) us h (fun p hp ts hts=>by have:=ziM 10 l p hp;have:=znl p ts hts;omega)
 exact zlt h1 (Nat.mul_le_mul_right _ (pieces_len 10 l))
theorem zkD {st:SS} {b z n cap:Nat} {c:List Value} {l:List UInt8} (h:st.mem.get b=some (.cells c z)) (hn:c.length=n) (hc:zeo c=some l):st.bytes (.slice (some ⟨b,0,none⟩) n cap)=some (mkS l):=by
 unfold SS.bytes
 simp only [h,zob,zdF hn,hc,Option.map_some]
 rfl
theorem zhW {a b:List UInt8} (h:a.length+b.length≤9223372036854775807):zdU (mkS a) (mkS b)=some (mkS (a++b)):=by
 unfold zdU
 have:Nat.ble ((mkS a).size+(mkS b).size) 9223372036854775807=true:=by rw [Nat.ble_eq];simpa using h
 rw [this,zct]
 congr 1
theorem zd9 (l:List UInt8):eqT (mkS l) ⟨#[]⟩=decide (l=[]):=rfl
theorem zhX {s:ByteArray} {j:Nat} {b:UInt8} (hb:(bl s)[j]?=some b):(zf2 s (j:Int)).bind (asI .u8)=some (b.toNat:Int):=by
 have hj:j<s.size:=by have:=(List.getElem?_eq_some_iff.1 hb).1;rwa [zaK] at this
 obtain ⟨b',hb',hidx⟩:=zrn (s:=s) (i:=(j:Int)) (by omega) (by omega)
 rw [Int.toNat_natCast,hb] at hb'
 cases hb'
 rw [hidx];simp
theorem zfc (c x:UInt8) (l:List UInt8):pieces c (x::l)=if x=c then []::pieces c l else match pieces c l with
  | []=>[[x]]
  | y::z=>(x::y)::z:=rfl
theorem zph {α:Type} {l:List α} {j:Nat} {x:α} (h:l[j]?=some x):l.take (j+1)=l.take j++[x]:=by
 rw [List.take_add_one,h];rfl
end Go.Proofs.YtifploedaacedaaGreatDoorE
namespace Go.Proofs.YtifploedaacedaaGreatDoorE
open Go Go.E Go.Proofs
def blankB (b:UInt8):Prop:=(b.toNat:Int)=32∨(b.toNat:Int)=9∨(b.toNat:Int)=13
theorem zlT (c:UInt8) (r:List UInt8):stepT (c::r)=if (c.toNat:Int)=59 then .stop
  else if (c.toNat:Int)=32∨(c.toNat:Int)=9∨(c.toNat:Int)=13 then .blank
  else if zbD c.toNat=true then (if 24<zaI (c::r) then .bad else .tok 1 (zaI (c::r)) 0)
  else if zcN c.toNat=true then (match numO (zcX ((c::r).take (zaI (c::r)))) with
   | some m=>.tok 2 (zaI (c::r)) m
   | none=>.bad)
  else if zlR c=true then .tok 3 1 0 else .bad:=rfl
theorem zrz {l:List UInt8} {kd n:Nat} {x:Int} (h:stepT l=.tok kd n x):0<n∧n≤l.length∧(kd=1∨kd=2∨kd=3):=by
 cases l with
 | nil=>cases h
 | cons c r=>
   rw [zlT] at h
   split at h
   ·cases h
   ·split at h
    ·cases h
    ·split at h
     ·rename_i hlet
      split at h
      ·cases h
      ·cases h
       exact ⟨ziJ (by unfold nameB;rw [hlet];rfl),zmI _,.inl rfl⟩
     ·split at h
      ·rename_i hdig
       split at h
       ·cases h
        exact ⟨ziJ (by unfold nameB;rw [hdig];simp),zmI _,.inr (.inl rfl)⟩
       ·cases h
      ·split at h
       ·cases h
        exact ⟨by omega,by simp,.inr (.inr rfl)⟩
       ·cases h
def View (c:Nat) (l:List UInt8) (ts:List Tok):Prop:=
 ∃ m,(∀ j b,j<m→l[j]?=some b→blankB b)∧((ts=[]∧m≤l.length∧∀ b,l[m]?=some b→(b.toNat:Int)=59)∨
  ∃ n kd x k' ts',m+n≤l.length∧0<n∧(kd=1∨kd=2∨kd=3)∧ts=⟨kd,(l.drop m).take n,x,c+m+1⟩::ts'∧(l.drop (m+n)).length≤k'∧zca k' (c+m+n) (l.drop (m+n))=.ok ts')
end Go.Proofs.YtifploedaacedaaGreatDoorE
namespace Go.Proofs.YtifploedaacedaaGreatDoorE
open Go Go.E Go.Proofs
structure Val where
 nm:List UInt8
 x:Int
 col:Nat
structure Pr where
 fd:List UInt8
 col:Nat
 v:Val
structure PLine where
 ln:Nat
 lab:List UInt8
 dir:List UInt8
 args:List Val
 prs:List Pr
def zaE (t:Tok) (s:List UInt8):Bool:=decide (t.kd=3)&&decide (t.tx=s)
def zea:List Tok→Except Nat (Val×Nat)
 | []=>.error 0
 | t::r=>if t.kd=2 then .ok (⟨[],t.nm,t.col⟩,1) else if t.kd=1 then (match r with
   | []=>.error 0
   | s::u=>if zaE s [43]=true then (match u with
     | n::_=>if n.kd=2 then .ok (⟨t.tx,n.nm,t.col⟩,3) else .error 2
     | []=>.error 2)
     else if zaE s [45]=true then (match u with
      | n::_=>if n.kd=2 then .ok (⟨t.tx, -n.nm,t.col⟩,3) else .error 2
      | []=>.error 2)
     else .ok (⟨t.tx,0,t.col⟩,1)) else .error 0
def zdq:Nat→List Tok→Except Nat (List Val)
 | 0,_=>.ok []
 | _+1,[]=>.ok []
 | k+1,t::r=>if t.kd=0 then .ok [] else match zea (t::r) with
   | .error o=>.error o
   | .ok (v,n)=>match zdq k ((t::r).drop n) with
     | .error o=>.error (n+o)
     | .ok vs=>.ok (v::vs)
def pairT (seen:List (List UInt8)):List Tok→Except Nat (Pr×Nat)
 | []=>.error 0
 | t::r=>if t.kd=1∧t.tx∉seen then (match r with
   | []=>.error 1
   | e::u=>if zaE e [61]=true then (match zea u with
     | .error o=>.error (2+o)
     | .ok (v,n)=>.ok (⟨t.tx,t.col,v⟩,2+n)) else .error 1)
   else .error 0
def zaZ:Nat→List (List UInt8)→List Tok→Except Nat (List Pr)
 | 0,_,_=>.ok []
 | _+1,_,[]=>.ok []
 | k+1,seen,t::r=>if t.kd=0 then .ok [] else match pairT seen (t::r) with
   | .error o=>.error o
   | .ok (p,n)=>match zaZ k (seen++[p.fd]) ((t::r).drop n) with
     | .error o=>.error (n+o)
     | .ok ps=>.ok (p::ps)
def zc2 (lab:List UInt8):List Tok→Except Nat PLine
 | []=>.error 0
 | t::r=>if zaE t [46]=true then (match r with
   | []=>.error 1
   | d::u=>if d.kd=1 then (match zdq u.length u with
     | .error o=>.error (2+o)
     | .ok vs=>.ok ⟨0,lab,d.tx,vs,[]⟩) else .error 1)
   else match zaZ (t::r).length [] (t::r) with
    | .error o=>.error o
    | .ok ps=>.ok ⟨0,lab,[],[],ps⟩
def readT:List Tok→Except Nat PLine
 | t::s::r=>if t.kd=1∧zaE s [58]=true then (match zc2 t.tx r with
   | .error o=>.error (2+o)
   | .ok x=>.ok x) else zc2 [] (t::s::r)
 | l=>zc2 [] l
def zqp (l:List Tok) (o:Nat):Nat:=((l[o]?).map (·.col)).getD 0
def zcy:Nat→List (List Tok)→Except (Nat×Nat) (List PLine)
 | _,[]=>.ok []
 | i,ts::r=>match readT ts with
   | .error o=>.error (i+1,zqp ts o)
   | .ok x=>match zcy (i+1) r with
     | .error e=>.error e
     | .ok xs=>.ok (if 1<ts.length then { x with ln:=i+1 }::xs else xs)
def zcr:Nat→List (List UInt8)→Except (Nat×Nat) (List (List Tok))
 | _,[]=>.ok []
 | i,p::r=>match zb4 p with
   | .error c=>.error (i+1,c)
   | .ok ts=>match zcr (i+1) r with
     | .error e=>.error e
     | .ok tss=>.ok (ts::tss)
def zgp (l:List UInt8):Except (Nat×Nat) (List PLine):=match zcr 0 (pieces 10 l) with
 | .error e=>.error e
 | .ok tss=>zcy 0 tss
def flat:Nat→List (List Tok)→List (Nat×Tok)
 | _,[]=>[]
 | i,ts::r=>ts.map (fun t=>(i+1,t))++flat (i+1) r
theorem zqq (ps:List (List UInt8)) (i:Nat):zfP i ps=match zcr i ps with
  | .error e=>.error e
  | .ok tss=>.ok (flat i tss):=by
 induction ps generalizing i with
 | nil=>rfl
 | cons p r ih=>
   unfold zfP zcr
   cases hx:zb4 p with
   | error c=>rfl
   | ok ts=>
     simp only
     rw [ih (i+1)]
     cases hy:zcr (i+1) r with
     | error e=>rfl
     | ok tss=>rfl
def Lin:List Tok→Prop
 | []=>False
 | t::r=>(t.kd=0∧r=[])∨(t.kd≠0∧Lin r)
theorem Lin.tail {t:Tok} {r:List Tok} (h:Lin (t::r)) (hk:t.kd≠0):Lin r:=h.elim (fun x=>absurd x.1 hk) (·.2)
theorem Lin.last {t:Tok} {r:List Tok} (h:Lin (t::r)) (hk:t.kd=0):r=[]:=h.elim (·.2) fun x=>absurd hk x.1
theorem Lin.ne {r:List Tok} (h:Lin r):∃ t u,r=t::u:=by
 cases r with
 | nil=>exact h.elim
 | cons t u=>exact ⟨t,u,rfl⟩
structure TokOk (t:Tok):Prop where
 kd:t.kd≤3
 tx:t.kd=1→t.tx≠[]
 nm0:0≤t.nm
 nm1:t.nm≤2147483647
theorem zqr {l:List UInt8} {m:Nat} (h:numO (zcX l)=some m):m≤2147483647:=by
 have key:∀ B q,numO (zaU B q)=some m→m≤2147483647:=by
  intro B q h
  have hr:=zfV (B:=B) (l:=q)
  cases hp:zaU B q with
  | none=>rw [hp] at h;cases h
  | some x=>cases x with
    | none=>rw [hp] at h;cases h
    | some k=>
      rw [hp] at h hr
      have:k=m:=by injection h
      subst this
      simp only [puV] at hr
      omega
 unfold zcX at h
 split at h
 ·exact key _ _ h
 ·exact key _ _ h
theorem zsM {l:List UInt8} {kd n:Nat} {x:Int} {c:Nat} (h:stepT l=.tok kd n x):TokOk ⟨kd,l.take n,x,c⟩∧kd≠0:=by
 obtain ⟨h1,h2,h3⟩:=zrz h
 have hne:l.take n≠[]:=by
  intro e
  have:=congrArg List.length e
  rw [List.length_take] at this
  simp at this
  rcases this with rfl | rfl
  ·omega
  ·simp at h2;omega
 have hx:0≤x∧x≤2147483647:=by
  cases l with
  | nil=>cases h
  | cons c r=>
    rw [zlT] at h
    split at h
    ·cases h
    ·split at h
     ·cases h
     ·split at h
      ·split at h
       ·cases h
       ·cases h;omega
      ·split at h
       ·split at h
        ·rename_i m hm
         cases h
         have:=zqr hm
         omega
        ·cases h
       ·split at h
        ·cases h;omega
        ·cases h
 exact ⟨⟨by show kd≤3;omega,fun _=>hne,hx.1,hx.2⟩,by omega⟩
theorem Lin.snoc {ts:List Tok} {e:Tok} (h:∀ t∈ts,t.kd≠0) (he:e.kd=0):Lin (ts++[e]):=by
 induction ts with
 | nil=>exact .inl ⟨he,rfl⟩
 | cons t r ih=>exact .inr ⟨h t (List.mem_cons_self ..),ih fun u hu=>h u (List.mem_cons_of_mem _ hu)⟩
theorem zt0 (k col:Nat) (l:List UInt8) (ts:List Tok) (h:zca k col l=.ok ts):∀ t∈ts,TokOk t∧t.kd≠0:=by
 induction k generalizing col l ts with
 | zero=>cases h;intro t ht;cases ht
 | succ k ih=>
   unfold zca at h
   split at h
   ·cases h;intro t ht;cases ht
   ·exact ih _ _ _ h
   ·rename_i kd n x hs
    cases hx:zca k (col+n) (l.drop n) with
    | error e=>rw [hx] at h;cases h
    | ok us=>
      rw [hx] at h;cases h
      intro t ht
      rcases List.mem_cons.1 ht with rfl | ht
      ·exact zsM hs
      ·exact ih _ _ _ hx t ht
   ·cases h
theorem zoA {p:List UInt8} {ts:List Tok} (h:zb4 p=.ok ts):Lin ts∧∀ t∈ts,TokOk t:=by
 unfold zb4 at h
 split at h
 ·rename_i us hu
  cases h
  have h1:=zt0 _ _ _ _ hu
  refine ⟨Lin.snoc (fun t ht=>(h1 t ht).2) rfl,fun t ht=>?_⟩
  rcases List.mem_append.1 ht with ht | ht
  ·exact (h1 t ht).1
  ·have:t=zdp p:=by simpa using ht
   subst this
   exact ⟨by simp [zdp],fun h=>by simp [zdp] at h,by simp [zdp],by simp [zdp]⟩
 ·cases h
theorem zsN (ps:List (List UInt8)) (i:Nat) (tss:List (List Tok)) (h:zcr i ps=.ok tss):∀ ts∈tss,Lin ts∧∀ t∈ts,TokOk t:=by
 induction ps generalizing i tss with
 | nil=>cases h;intro ts hts;cases hts
 | cons p r ih=>
   unfold zcr at h
   cases hx:zb4 p with
   | error c=>rw [hx] at h;cases h
   | ok ts=>
     rw [hx] at h
     cases hy:zcr (i+1) r with
     | error e=>rw [hy] at h;cases h
     | ok us=>
       rw [hy] at h;cases h
       intro ts' ht
       rcases List.mem_cons.1 ht with rfl | ht
       ·exact zoA hx
       ·exact ih _ _ hy ts' ht
theorem zcO {t:Tok} {s:List UInt8} (h:zaE t s=true):t.kd=3:=by
 simp [zaE] at h;exact h.1
theorem zfd (t:Tok) (r:List Tok):zea (t::r)=(if t.kd=2 then .ok (⟨[],t.nm,t.col⟩,1) else if t.kd=1 then (match r with
   | []=>.error 0
   | s::u=>if zaE s [43]=true then (match u with
     | n::_=>if n.kd=2 then .ok (⟨t.tx,n.nm,t.col⟩,3) else .error 2
     | []=>.error 2)
     else if zaE s [45]=true then (match u with
      | n::_=>if n.kd=2 then .ok (⟨t.tx, -n.nm,t.col⟩,3) else .error 2
      | []=>.error 2)
     else .ok (⟨t.tx,0,t.col⟩,1)) else .error 0):=rfl
theorem zgq (seen:List (List UInt8)) (t:Tok) (r:List Tok):pairT seen (t::r)=(if t.kd=1∧t.tx∉seen then (match r with
   | []=>.error 1
   | e::u=>if zaE e [61]=true then (match zea u with
     | .error o=>.error (2+o)
     | .ok (v,n)=>.ok (⟨t.tx,t.col,v⟩,2+n)) else .error 1)
  else .error 0):=rfl
theorem zjI {l:List Tok} (hl:Lin l):match zea l with
  | .ok (_,n)=>Lin (l.drop n)∧0<n
  | .error o=>o<l.length:=by
 obtain ⟨t,r,rfl⟩:=hl.ne
 rw [zfd]
 by_cases h2:t.kd=2
 ·rw [if_pos h2]
  exact ⟨hl.tail (by omega),by omega⟩
 ·rw [if_neg h2]
  by_cases h1:t.kd=1
  ·rw [if_pos h1]
   have hr:=hl.tail (by omega)
   obtain ⟨s,u,rfl⟩:=hr.ne
   simp only
   by_cases hp:zaE s [43]=true
   ·rw [if_pos hp]
    have hu:=hr.tail (by have:=zcO hp;omega)
    obtain ⟨n,w,rfl⟩:=hu.ne
    simp only
    by_cases hn:n.kd=2
    ·rw [if_pos hn];exact ⟨hu.tail (by omega),by omega⟩
    ·rw [if_neg hn];simp
   ·rw [if_neg hp]
    by_cases hm:zaE s [45]=true
    ·rw [if_pos hm]
     have hu:=hr.tail (by have:=zcO hm;omega)
     obtain ⟨n,w,rfl⟩:=hu.ne
     simp only
     by_cases hn:n.kd=2
     ·rw [if_pos hn];exact ⟨hu.tail (by omega),by omega⟩
     ·rw [if_neg hn];simp
    ·rw [if_neg hm];exact ⟨hr,by omega⟩
  ·rw [if_neg h1];simp
theorem znm {seen:List (List UInt8)} {l:List Tok} (hl:Lin l):match pairT seen l with
  | .ok (_,n)=>Lin (l.drop n)∧0<n
  | .error o=>o<l.length:=by
 obtain ⟨t,r,rfl⟩:=hl.ne
 rw [zgq]
 by_cases h1:t.kd=1∧t.tx∉seen
 ·rw [if_pos h1]
  have hr:=hl.tail (by omega)
  obtain ⟨e,u,rfl⟩:=hr.ne
  simp only
  by_cases he:zaE e [61]=true
  ·rw [if_pos he]
   have hu:=hr.tail (by have:=zcO he;omega)
   have h:=zjI hu
   cases hx:zea u with
   | error o=>rw [hx] at h;simp only at h ⊢;simp;omega
   | ok y=>
     obtain ⟨v,n⟩:=y
     rw [hx] at h
     simp only at h ⊢
     rw [Nat.add_comm 2 n]
     exact ⟨h.1,by omega⟩
  ·rw [if_neg he];simp
 ·rw [if_neg h1];simp
theorem zrA (k:Nat) (l:List Tok) (hl:Lin l) (o:Nat) (h:zdq k l=.error o):o<l.length:=by
 induction k generalizing l o with
 | zero=>cases h
 | succ k ih=>
   obtain ⟨t,r,rfl⟩:=hl.ne
   unfold zdq at h
   split at h
   ·cases h
   ·have hx:=zjI hl
    cases hy:zea (t::r) with
    | error o'=>rw [hy] at h hx;cases h;exact hx
    | ok y=>
      obtain ⟨v,n⟩:=y
      rw [hy] at h hx
      simp only at h hx
      cases hz:zdq k ((t::r).drop n) with
      | ok vs=>rw [hz] at h;cases h
      | error o'=>
        rw [hz] at h
        have:=ih _ hx.1 o' hz
        rw [List.length_drop] at this
        have h':n+o'=o:=by injection h
        omega
theorem zqs (k:Nat) (seen:List (List UInt8)) (l:List Tok) (hl:Lin l) (o:Nat) (h:zaZ k seen l=.error o):o<l.length:=by
 induction k generalizing seen l o with
 | zero=>cases h
 | succ k ih=>
   obtain ⟨t,r,rfl⟩:=hl.ne
   unfold zaZ at h
   split at h
   ·cases h
   ·have hx:=znm (seen:=seen) hl
    cases hy:pairT seen (t::r) with
    | error o'=>rw [hy] at h hx;cases h;exact hx
    | ok y=>
      obtain ⟨v,n⟩:=y
      rw [hy] at h hx
      simp only at h hx
      cases hz:zaZ k (seen++[v.fd]) ((t::r).drop n) with
      | ok vs=>rw [hz] at h;cases h
      | error o'=>
        rw [hz] at h
        have:=ih _ _ hx.1 o' hz
        rw [List.length_drop] at this
        have h':n+o'=o:=by injection h
        omega
theorem zdr (lab:List UInt8) (t:Tok) (r:List Tok):zc2 lab (t::r)=if zaE t [46]=true then (match r with
   | []=>.error 1
   | d::u=>if d.kd=1 then (match zdq u.length u with
     | .error o=>.error (2+o)
     | .ok vs=>.ok ⟨0,lab,d.tx,vs,[]⟩) else .error 1)
  else match zaZ (t::r).length [] (t::r) with
   | .error o=>.error o
   | .ok ps=>.ok ⟨0,lab,[],[],ps⟩:=rfl
theorem zfW (t s:Tok) (r:List Tok):readT (t::s::r)=if t.kd=1∧zaE s [58]=true then (match zc2 t.tx r with
   | .error o=>.error (2+o)
   | .ok x=>.ok x) else zc2 [] (t::s::r):=rfl
theorem zjJ (lab:List UInt8) (l:List Tok) (hl:Lin l) (o:Nat) (h:zc2 lab l=.error o):o<l.length:=by
 obtain ⟨t,r,rfl⟩:=hl.ne
 rw [zdr] at h
 by_cases hs:zaE t [46]=true
 ·rw [if_pos hs] at h
  have hr:=hl.tail (by have:=zcO hs;omega)
  obtain ⟨d,u,rfl⟩:=hr.ne
  simp only at h
  by_cases hd:d.kd=1
  ·rw [if_pos hd] at h
   have hu:=hr.tail (by omega)
   cases hx:zdq u.length u with
   | ok vs=>rw [hx] at h;cases h
   | error o'=>
     rw [hx] at h
     have:=zrA _ _ hu o' hx
     have h':2+o'=o:=by injection h
     simp;omega
  ·rw [if_neg hd] at h;cases h;simp
 ·rw [if_neg hs] at h
  cases hx:zaZ (t::r).length [] (t::r) with
  | ok vs=>rw [hx] at h;cases h
  | error o'=>
    rw [hx] at h
    have:=zqs _ _ _ hl o' hx
    have h':o'=o:=by injection h
    omega
theorem zrB (l:List Tok) (hl:Lin l) (o:Nat) (h:readT l=.error o):o<l.length:=by
 obtain ⟨t,r,rfl⟩:=hl.ne
 cases r with
 | nil=>exact zjJ [] _ hl o h
 | cons s r=>
   rw [zfW] at h
   split at h
   ·rename_i hc
    have hr:Lin r:=(hl.tail (by omega)).tail (by have:=zcO hc.2;omega)
    cases hx:zc2 t.tx r with
    | ok x=>rw [hx] at h;cases h
    | error o'=>
      rw [hx] at h
      have:=zjJ _ _ hr o' hx
      have h':2+o'=o:=by injection h
      simp;omega
   ·exact zjJ [] _ hl o h
end Go.Proofs.YtifploedaacedaaGreatDoorE
namespace Go.E
open Go
structure Mod (S:List Nat) (a b:SS):Prop where
 next:a.next≤b.next
 lim:b.lim=a.lim
 keep:∀ j,j<a.next→j∉S→b.mem.get j=a.mem.get j
section
variable {S T : List Nat} {a b c : SS} {i n : Nat}
theorem Mod.refl (a:SS):Mod S a a:=⟨zlr _,rfl,fun _ _ _=>rfl⟩
theorem Mod.ofExt (h:Ext a b):Mod S a b:=⟨h.next,h.lim,fun j hj _=>h.keep j hj⟩
theorem Mod.toExt (h:Mod [] a b):Ext a b:=⟨h.next,h.lim,fun j hj=>h.keep j hj (by simp)⟩
theorem Mod.trans (h:Mod S a b) (k:Mod T b c) (hT:∀ j,j∈T→j<a.next→j∈S):Mod S a c:=
 ⟨zlt h.next k.next,k.lim.trans h.lim,fun j hj hS=>(k.keep j (zll hj h.next) (fun hm=>hS (hT j hm hj))).trans (h.keep j hj hS)⟩
theorem Mod.then (h:Mod S a b) (k:Mod S b c):Mod S a c:=h.trans k fun _ hj _=>hj
theorem Mod.thenE (h:Mod S a b) (k:Mod [] b c):Mod S a c:=h.trans k fun _ hj _=>by cases hj
theorem Mod.thenX (h:Mod S a b) (k:Ext b c):Mod S a c:=h.thenE (.ofExt k)
theorem Mod.thenI (h:Mod S a b) (k:Mod [i] b c) (hi:a.next≤i∨i∈S):Mod S a c:=h.trans k fun j hj hlt=>by
 have:j=i:=by simpa using hj
 subst this
 rcases hi with hi | hi
 ·omega
 ·exact hi
theorem Mod.mono (h:Mod S a b) (hS:∀ j,j∈S→j∈T):Mod T a b:=⟨h.next,h.lim,fun j hj hT=>h.keep j hj fun hm=>hT (hS j hm)⟩
theorem Mod.fresh (h:Mod S a b) (hS:∀ j,j∈S→a.next≤j):Ext a b:=⟨h.next,h.lim,fun j hj=>h.keep j hj fun hm=>by have:=hS j hm;omega⟩
theorem Mod.ll (h:Mod S a b) (hl:a.lim≤a.next):b.lim≤b.next:=by rw [h.lim];exact zlt hl h.next
theorem Ext.ll (h:Ext a b) (hl:a.lim≤a.next):b.lim≤b.next:=by rw [h.lim];exact zlt hl h.next
theorem Ext.advR (a:SS) (hn:a.next≤n):Ext a (a.adv n):=(Ext.refl a).adv hn
theorem Mod.get {x:Option AObj} (h:Mod S a b) (hi:i<a.next) (hS:i∉S) (hx:a.mem.get i=x):b.mem.get i=x:=(h.keep i hi hS).trans hx
theorem Rd.mod {v:Value} {c:List Value} {z n:Nat} (h:Rd a v c z n) (m:Mod S a b) (hv:∀ j k l q,v=.slice (some ⟨j,k,none⟩) l q→j∉S):Rd b v c z n:=by
 obtain ⟨h1,h2⟩:=h
 refine ⟨h1,h2.imp id ?_⟩
 rintro ⟨i,cap,e,⟨z',hm⟩,hi⟩
 exact ⟨i,cap,e,⟨z',m.get hi (hv i 0 n cap e) hm⟩,zll hi m.next⟩
theorem Own.mod {B:Nat} {v:Value} {c:List Value} {z n:Nat} (h:Own B a v c z n) (m:Mod S a b) (hv:∀ j k l q,v=.slice (some ⟨j,k,none⟩) l q→j∉S):Own B b v c z n:=by
 obtain ⟨h1,h2⟩:=h
 refine ⟨h1,h2.imp id ?_⟩
 rintro ⟨i,e,h0,hm,hb,hi⟩
 exact ⟨i,e,h0,m.get hi (hv i 0 n n e) hm,hb,zll hi m.next⟩
end
def At (st:SS) (i:Nat) (row:List Value):Prop:=st.mem.get i=some (.cells row 0)∧i<st.next∧st.lim≤i
section
variable {S : List Nat} {st st' : SS} {i k n : Nat} {row row' vs : List Value}
theorem At.mem (h:At st i row):st.mem.get i=some (.cells row 0):=h.1
theorem At.lt (h:At st i row):i<st.next:=h.2.1
theorem At.mod (h:At st i row) (m:Mod S st st') (hi:i∉S):At st' i row:=⟨m.get h.lt hi h.1,zll h.lt m.next,by rw [m.lim];exact h.2.2⟩
theorem At.ext (h:At st i row) (m:Ext st st'):At st' i row:=h.mod (S:=[]) (.ofExt m) (by simp)
theorem At.adv (h:At st i row) (hn:st.next≤n):At (st.adv n) i row:=h.ext (.advR st hn)
theorem At.ld (h:At st i row):st.ld i k=row[k]?:=SS.ld_cells h.1
theorem At.rd (h:At st i row):st.rd i k=row[k]?:=SS.rd_cells h.1
theorem At.ldN (h:At st i row) (hn:row.length=n):st.ldN i 0 n=some (.agg row.toArray):=by rw [SS.ldN_cells h.1,zdF hn];rfl
theorem At.rdN (h:At st i row) (hn:row.length=n):st.rdN i 0 n=some (.agg row.toArray):=by rw [SS.rdN_cells h.1,zdF hn];rfl
theorem At.ldC (h:At st i row) {d:List Value} (hd:cut row k n=some d):st.ldN i k n=some (.agg d.toArray):=by rw [SS.ldN_cells h.1,hd];rfl
theorem At.sto (h:At st i row) (h1:vs.all one=true) (hs:zcx row k vs=some row'):∃ st',st.st i k vs=some st'∧At st' i row'∧Mod [i] st st'∧st'.next=st.next:=
 ⟨_,SS.st_cells h.1 h.2.2 h1 hs,⟨by simp,h.2.1,h.2.2⟩,⟨zlr _,rfl,fun j hj hS=>SS.set_old (by simpa using hS)⟩,rfl⟩
theorem At.stV (h:At st i row) {v:Value} (hv:v.cells.toList=vs) (hn:vs.length=n) (h1:vs.all one=true) (hs:zcx row k vs=some row'):∃ st',st.stV i k n v=some st'∧At st' i row'∧Mod [i] st st'∧st'.next=st.next:=by
 obtain ⟨st',a,b,c,d⟩:=h.sto h1 hs
 refine ⟨st',?_,b,c,d⟩
 unfold SS.stV
 have e:v.cells.size=n:=by rw [← hn,← hv];simp
 rw [e,hv,a]
 simp
theorem At.new (hl:st.lim≤st.next) (row:List Value):At (st.new (.cells row 0)) st.next row:=⟨by simp,by simp,hl⟩
theorem Mod.new (ob:AObj):Mod [] st (st.new ob):=.ofExt ((Ext.refl st).new ob)
theorem zbk (hl:st.lim≤st.next) {r:List Value} {v:Value} (hv:v.cells.toList=row) (hn:row.length=n) (h1:row.all one=true) (hr:r.length=n):∃ st',(st.new (.cells r 0)).stV st.next 0 n v=some st'∧At st' st.next row∧Ext st st'∧st'.next=st.next+1:=by
 obtain ⟨st',a,b,c,d⟩:=(At.new hl r).stV (k:=0) hv hn h1 (row':=row) (by rw [zbs (by omega)];simp [hn,hr])
 refine ⟨st',a,b,?_,d⟩
 exact (((Mod.new (.cells r 0)).mono (T:=[st.next]) (by simp)).then c).fresh (by simp)
theorem zlU (hl:st.lim≤st.next) {r:List Value} (h1:row.all one=true) (hr:r.length=row.length):∃ st',(st.new (.cells r 0)).st st.next 0 row=some st'∧At st' st.next row∧Ext st st'∧st'.next=st.next+1:=by
 obtain ⟨st',a,b,c,d⟩:=(At.new hl r).sto (k:=0) (vs:=row) (row':=row) h1 (by rw [zbs (by omega)];simp [hr])
 exact ⟨st',a,b,(((Mod.new (.cells r 0)).mono (T:=[st.next]) (by simp)).then c).fresh (by simp),d⟩
end
theorem zaF (row:List Value):(Value.agg row.toArray).cells.toList=row:=by simp [Value.cells]
theorem Own.modLt {S:List Nat} {a b:SS} {B:Nat} {v:Value} {c:List Value} {z n:Nat} (h:Own B a v c z n) (m:Mod S a b) (hS:∀ j,j∈S→j<B):Own B b v c z n:=by
 obtain ⟨h1,h2⟩:=h
 refine ⟨h1,h2.imp id ?_⟩
 rintro ⟨i,e,h0,hm,hb,hi⟩
 exact ⟨i,e,h0,m.get hi (fun hx=>by have:=hS i hx;omega) hm,hb,zll hi m.next⟩
theorem Rd.row1 {st:SS} {row:List Value} {z:Nat} (h:row.length=z):Rd (st.new (.cells row z)) (.slice (some ⟨st.next,0,none⟩) 1 1) row z 1:=
 ⟨by rw [h,Nat.one_mul],.inr ⟨st.next,1,rfl,⟨z,SS.new_get⟩,by simp⟩⟩
theorem Own.push {b:Nat} {st:SS} {v:Value} {c row:List Value} {z n bt:Nat} (h:Own b st v c z n) (hb:b≤st.next) (hl:st.lim≤b) (hr:row.length=z) (hz:0<z) (h1:row.all one=true) (hs:(n+2)*bt≤2^44) (hn:n+1≤2^44):
  ∃ v' st',(st.new (.cells row z)).app z bt v (.slice (some ⟨st.next,0,none⟩) 1 1)=some (v',st')∧Own b st' v' (c++row) z (n+1)∧(∀ st0,st0.next≤b→Ext st0 st→Ext st0 st')∧st'.lim=st.lim∧st.next≤st'.next∧
   ∀ j,j<st.next→(∀ q,v≠.slice (some ⟨j,0,none⟩) q q)→st'.mem.get j=st.mem.get j:=by
 obtain ⟨v',st',g1,g2,g3,g4,g5,g6⟩:=(h.ext ((Ext.refl st).new (.cells row z))).app (Rd.row1 (st:=st) hr) (zlt hb (Nat.le_succ _)) hl hz h1 (bt:=bt) (by simpa [Nat.add_assoc] using hs) hn
 exact ⟨v',st',g1,g2,fun st0 h0 he=>g5 st0 h0 (he.new _),g3,zlt (Nat.le_succ _) g4,fun j hj hv=>by rw [g6 j (by simp;omega) hv,SS.new_old (by omega)]⟩
theorem Own.pushM {b:Nat} {st:SS} {v:Value} {c row:List Value} {z n bt:Nat} (h:Own b st v c z n) (hb:b≤st.next) (hl:st.lim≤b) (hr:row.length=z) (hz:0<z) (h1:row.all one=true) (hs:(n+2)*bt≤2^44) (hn:n+1≤2^44):
  ∃ v' st',(st.new (.cells row z)).app z bt v (.slice (some ⟨st.next,0,none⟩) 1 1)=some (v',st')∧Own b st' v' (c++row) z (n+1)∧st'.lim=st.lim∧st.next≤st'.next∧(∀ j,j<b→st'.mem.get j=st.mem.get j):=by
 obtain ⟨v',st',g1,g2,g3,g4,g5,g6⟩:=h.push hb hl hr hz h1 hs hn
 refine ⟨v',st',g1,g2,g4,g5,fun j hj=>g6 j (by omega) fun q e=>?_⟩
 obtain ⟨_,⟨rfl,_⟩ | ⟨i,rfl,_,_,hbi,_⟩⟩:=h
 ·cases e
 ·cases e;omega
structure Keep (B:Nat) (S:List Nat) (a b:SS):Prop where
 next:a.next≤b.next
 lim:b.lim=a.lim
 keep:∀ j,j<B→j∉S→b.mem.get j=a.mem.get j
section
variable {S : List Nat} {a b c : SS} {B i : Nat}
theorem Keep.refl (a:SS):Keep B S a a:=⟨zlr _,rfl,fun _ _ _=>rfl⟩
theorem Keep.then (h:Keep B S a b) (k:Keep B S b c):Keep B S a c:=⟨zlt h.next k.next,k.lim.trans h.lim,fun j hj hS=>(k.keep j hj hS).trans (h.keep j hj hS)⟩
theorem Mod.keepB (h:Mod S a b) (hB:B≤a.next):Keep B S a b:=⟨h.next,h.lim,fun j hj hS=>h.keep j (by omega) hS⟩
theorem Ext.keepB (h:Ext a b) (hB:B≤a.next):Keep B S a b:=⟨h.next,h.lim,fun j hj _=>h.keep j (by omega)⟩
theorem Keep.mod (h:Keep B S a b) (hB:a.next≤B):Mod S a b:=⟨h.next,h.lim,fun j hj hS=>h.keep j (by omega) hS⟩
theorem Keep.mono {B':Nat} {T:List Nat} (h:Keep B S a b) (hB:B'≤B) (hS:∀ j,j∈S→j<B'→j∈T):Keep B' T a b:=⟨h.next,h.lim,fun j hj hT=>h.keep j (by omega) fun hm=>hT (hS j hm hj)⟩
theorem Keep.thenX (h:Keep B S a b) (k:Ext b c) (hB:B≤b.next):Keep B S a c:=h.then (k.keepB hB)
theorem Keep.thenM (h:Keep B S a b) (k:Mod S b c) (hB:B≤b.next):Keep B S a c:=h.then (k.keepB hB)
theorem Keep.thenI (h:Keep B S a b) (k:Mod [i] b c) (hB:B≤b.next) (hi:B≤i∨i∈S):Keep B S a c:=h.then ⟨k.next,k.lim,fun j hj hS=>k.keep j (by omega) fun hm=>by
 have:j=i:=by simpa using hm
 subst this
 rcases hi with hi | hi
 ·omega
 ·exact hS hi⟩
theorem Keep.ll (h:Keep B S a b) (hl:a.lim≤a.next):b.lim≤b.next:=by rw [h.lim];exact zlt hl h.next
theorem At.keepB {row:List Value} (h:At a i row) (k:Keep B S a b) (hB:i<B) (hi:i∉S):At b i row:=⟨(k.keep i hB hi).trans h.1,zll h.2.1 k.next,by rw [k.lim];exact h.2.2⟩
theorem Own.cell {v:Value} {c:List Value} {z n:Nat} (h:Own B a v c z n):v.cells.toList=[v]∧one v=true:=by
 obtain ⟨_,⟨rfl,_⟩ | ⟨i,rfl,_⟩⟩:=h<;>exact ⟨rfl,rfl⟩
theorem Own.pushK {b:Nat} {st:SS} {v:Value} {c row:List Value} {z n bt:Nat} (h:Own b st v c z n) (hb:b≤st.next) (hl:st.lim≤b) (hr:row.length=z) (hz:0<z) (h1:row.all one=true) (hs:(n+2)*bt≤2^44) (hn:n+1≤2^44):
  ∃ v' st',(st.new (.cells row z)).app z bt v (.slice (some ⟨st.next,0,none⟩) 1 1)=some (v',st')∧Own b st' v' (c++row) z (n+1)∧∀ S,Keep b S st st':=by
 obtain ⟨v',st',g1,g2,g3,g4,g5⟩:=h.pushM hb hl hr hz h1 hs hn
 exact ⟨v',st',g1,g2,fun S=>⟨g4,g3,fun j hj _=>g5 j hj⟩⟩
end
theorem Own.pushN {b:Nat} {st:SS} {v:Value} {c row:List Value} {z n bt:Nat} (h:Own b st v c z n) (hb:b≤st.next) (hl:st.lim≤b) (hr:row.length=z) (hz:0<z) (h1:row.all one=true) (hs:(n+2)*bt≤2^44) (hn:n+1≤2^44):
  ∃ k st',(st.new (.cells row z)).app z bt v (.slice (some ⟨st.next,0,none⟩) 1 1)=some (.slice (some ⟨k,0,none⟩) (n+1) (n+1),st')∧st.next≤k∧Own b st' (.slice (some ⟨k,0,none⟩) (n+1) (n+1)) (c++row) z (n+1)∧st'.lim=st.lim∧st.next≤st'.next∧
   ∀ j,j<st.next→(∀ q,v≠.slice (some ⟨j,0,none⟩) q q)→st'.mem.get j=st.mem.get j:=by
 obtain ⟨v',st',g1,g2,g3,g4,g5,g6⟩:=h.push hb hl hr hz h1 hs hn
 have key:∃ k,v'=.slice (some ⟨k,0,none⟩) (n+1) (n+1)∧st.next≤k:=by
  have hx:=Rd.row1 (st:=st) hr
  obtain ⟨e1,e2⟩:=hx.first
  unfold SS.app at g1
  rw [e1] at g1
  simp only [zob] at g1
  have hm0:Nat.beq 1 0=false:=rfl
  obtain ⟨h2,h3⟩:=h
  rcases h3 with ⟨rfl,rfl⟩ | ⟨i,rfl,h0,hmem,hbi,hi⟩
  ·have q:(Nat.ble ((1+1)*bt) (2^44)&&Nat.ble 1 (2^44))=true:=by
    simp only [zae,Nat.ble_eq]
    simp only [Nat.zero_add] at hs
    exact ⟨hs,by omega⟩
   simp only [hm0,zcf,q,zct,e2,zob] at g1
   cases g1
   exact ⟨_,rfl,by simp⟩
  ·have q:(Nat.ble ((n+1+1)*bt) (2^44)&&Nat.ble (n+1) (2^44)&&Nat.ble (st.new (.cells row z)).lim i)=true:=by
    simp only [zae,Nat.ble_eq]
    exact ⟨⟨hs,hn⟩,by simp;omega⟩
   have q2:(Nat.beq z z&&(Nat.blt n (n+1)||Nat.ble (0+n*z) c.length))=true:=by
    have a:Nat.beq z z=true:=by rw [zax];simp
    have b':Nat.blt n (n+1)=true:=by rw [Nat.blt_eq];omega
    rw [a,b'];rfl
   have hmem':(st.new (.cells row z)).mem.get i=some (.cells c z):=by rw [SS.new_old (by omega)];exact hmem
   simp only [hm0,zcf,q,zct,hmem',zob,q2,zdF h2,e2,h1] at g1
   cases g1
   exact ⟨_,rfl,by simp⟩
 obtain ⟨k,rfl,hk⟩:=key
 exact ⟨k,st',g1,hk,g2,g4,g5,g6⟩
theorem zcm {s:SS} {j0 j1 n:Nat} {row0 row1:List Value} (h0:At s j0 row0) (l0:row0.length=n) (h1:At s j1 row1) (l1:row1.length=n) (ho:row1.all one=true):
  ∃ s',s.ldN j1 0 n=some (.agg row1.toArray)∧s.stV j0 0 n (.agg row1.toArray)=some s'∧s'.rdN j0 0 n=some (.agg row1.toArray)∧Mod [j0] s s'∧At s' j0 row1:=by
 obtain ⟨s',e,a,m,_⟩:=h0.stV (k:=0) (zaF row1) l1 ho (row':=row1) (by rw [zbs (by omega)];simp [l0,l1])
 exact ⟨s',h1.ldN l1,e,a.rdN l1,m,a⟩
def rowsF {α:Type} (f:α→List Value) (l:List α):List Value:=l.flatMap f
section
variable {α : Type} {f : α → List Value} {z : Nat}
theorem zbQ (a b:List α):rowsF f (a++b)=rowsF f a++rowsF f b:=by simp [rowsF]
theorem zcP (a:α) (b:List α):rowsF f (a::b)=f a++rowsF f b:=by simp [rowsF]
theorem zdd (a:α):rowsF f [a]=f a:=by simp [rowsF]
theorem zhh (hz:∀ x,(f x).length=z) (l:List α):(rowsF f l).length=l.length*z:=by
 induction l with
 | nil=>simp [rowsF]
 | cons a l ih=>rw [zcP,List.length_append,ih,hz,List.length_cons,Nat.add_mul];omega
theorem zbt (hz:∀ x,(f x).length=z) (l:List α) (i:Nat) (x:α) (h:l[i]?=some x):((rowsF f l).drop (i*z)).take z=f x:=by
 induction l generalizing i with
 | nil=>cases h
 | cons a l ih=>
   rw [zcP]
   cases i with
   | zero=>
     have:a=x:=by simpa using h
     subst this
     rw [Nat.zero_mul,List.drop_zero,List.take_append_of_le_length (by rw [hz];omega),List.take_of_length_le (by rw [hz];omega)]
   | succ i=>
     have e:(i+1)*z=(f a).length+i*z:=by rw [hz,Nat.add_mul];omega
     rw [e,List.drop_append,List.drop_of_length_le (by omega),List.nil_append,Nat.add_sub_cancel_left]
     exact ih i (by simpa using h)
end
theorem wrapI {i k:Nat} (h:i≤1099511627776) (hk:k≤1099511627776):IntKind.wrap .i64 ((i:Int)+(k:Int))=((i+k:Nat):Int):=by rw [wrap64 (by omega) (by omega)];omega
theorem zba {i:Nat} (h:i≤1099511627776):IntKind.wrap .i64 ((i:Int)+1)=((i+1:Nat):Int):=wrapI h (k:=1) (by omega)
end Go.E
namespace Go.Proofs.YtifploedaacedaaGreatDoorE
set_option maxRecDepth 20000
open Go Go.E Go.Proofs
noncomputable def zf7 (cf:zan) (lf:zac) (p':Value) (st:SS):Option (Value×SS):=
 let a:SS:=(st.ro st.next).new (.cells [.int .i64 0,.string ⟨#[]⟩,.int .i64 0,.int .i64 0,.int .i64 0] 0)
 (zau p').bind fun b=>
 (addr? b).bind fun c=>
 (a.ld c.1 c.2).bind fun d=>
 (zau p').bind fun e=>
 (addr? e).bind fun f=>
 ((a.ld f.1 (f.2+1)).bind (asI .i64)).bind fun g=>
 (zaw d g 5).bind fun h=>
 (a.ldN h.1 h.2 5).bind fun i=>
 (a.stV ((st.ro st.next).next) 0 5 i).bind fun j=>
 (j.rdN ((st.ro st.next).next) 0 5).bind fun k=>
 cond (flat3 k) (some (k,st.adv j.next)) none
noncomputable abbrev ziN:zac:=lS Tryz.prog Lk0 Tryz.f69 zaC
theorem ziO:Lk0.func 69=some (69,Tryz.f69):=by kernel_rfl
theorem ziP [Sym] (p':Value) (st:SS) {r:Value×SS} (h:zf7 cc ziN p' st=some r):cc 69 [p'] st=some r:=
 zaf (li:=zaC) zai zar ziO rfl (fun _=>rfl) (.trans (by kernel_rfl) h)
noncomputable def zdW (cf:zan) (lf:zac) (p':Value) (st:SS):Option (Value×SS):=
 let a:SS:=(st.ro st.next).new (.cells [.int .i64 0,.string ⟨#[]⟩,.int .i64 0,.int .i64 0,.int .i64 0] 0)
 (cf 69 [p'] a).bind fun b=>
 ((zdj Lk0 150 0 b.1).bind (asI .i64)).bind fun c=>
 cond (decide (c=0)) (
 (cf 69 [p'] b.2).bind fun d=>
 (d.2.stV ((st.ro st.next).next) 0 5 d.1).bind fun e=>
 (e.rdN ((st.ro st.next).next) 0 5).bind fun f=>
 cond (flat3 f) (some (f,st.adv e.next)) none) (
 (zau p').bind fun g=>
 (addr? g).bind fun h=>
 (b.2.ld h.1 h.2).bind fun i=>
 (zau p').bind fun j=>
 (addr? j).bind fun k=>
 ((b.2.ld k.1 (k.2+1)).bind (asI .i64)).bind fun l=>
 let m:Int:=IntKind.wrap .i64 (l+1)
 (zaw i m 5).bind fun n=>
 (b.2.ldN n.1 n.2 5).bind fun o=>
 (b.2.stV ((st.ro st.next).next) 0 5 o).bind fun p=>
 (p.rdN ((st.ro st.next).next) 0 5).bind fun q=>
 cond (flat3 q) (some (q,st.adv p.next)) none)
noncomputable abbrev zhY:zac:=lS Tryz.prog Lk0 Tryz.f91 zaC
theorem zhZ:Lk0.func 91=some (91,Tryz.f91):=by kernel_rfl
theorem zeX [Sym] (p':Value) (st:SS) {r:Value×SS} (h:zdW cc zhY p' st=some r):cc 91 [p'] st=some r:=
 zaf (li:=zaC) zai zar zhZ rfl (fun _=>rfl) (.trans (by kernel_rfl) h)
noncomputable def zcF (cf:zan) (lf:zac) (p':Value) (sign':ByteArray) (st:SS):Option (Value×SS):=
 (cf 69 [p'] st).bind fun a=>
 let b:SS:=a.2.new (.cells [.int .i64 0,.string ⟨#[]⟩,.int .i64 0,.int .i64 0,.int .i64 0] 0)
 (b.stV a.2.next 0 5 a.1).bind fun c=>
 ((c.ld a.2.next 0).bind (asI .i64)).bind fun d=>
 cond (!(decide (d=3))) (
 some (.bool false,c)) (
 ((c.ld a.2.next 1).bind asS).bind fun e=>
 cond (!(eqT e sign')) (
 some (.bool false,c)) (
 (zau p').bind fun f=>
 (addr? f).bind fun g=>
 ((c.ld g.1 (g.2+1)).bind (asI .i64)).bind fun h=>
 let i:Int:=IntKind.wrap .i64 (h+1)
 (zau p').bind fun j=>
 (addr? j).bind fun k=>
 (c.st k.1 (k.2+1) [.int .i64 i]).bind fun l=>
 some (.bool true,l)))
noncomputable abbrev zhu:zac:=lS Tryz.prog Lk0 Tryz.f92 zaC
theorem zhv:Lk0.func 92=some (92,Tryz.f92):=by kernel_rfl
theorem zcY [Sym] (p':Value) (sign':ByteArray) (st:SS) {r:Value×SS} (h:zcF cc zhu p' sign' st=some r):cc 92 [p',.string sign'] st=some r:=
 zaf (li:=zaC) zai zar zhv rfl (fun _=>rfl) (.trans (by kernel_rfl) h)
noncomputable def zdX (cf:zan) (lf:zac) (p':Value) (st:SS):Option (Value×SS):=
 (cf 69 [p'] st).bind fun a=>
 let b:SS:=a.2.new (.cells [.int .i64 0,.string ⟨#[]⟩,.int .i64 0,.int .i64 0,.int .i64 0] 0)
 (b.stV a.2.next 0 5 a.1).bind fun c=>
 ((c.ld a.2.next 0).bind (asI .i64)).bind fun d=>
 cond (!(decide (d=1))) (
 some (.tuple #[.string ⟨#[]⟩,.bool false],c)) (
 (zau p').bind fun e=>
 (addr? e).bind fun f=>
 ((c.ld f.1 (f.2+1)).bind (asI .i64)).bind fun g=>
 let h:Int:=IntKind.wrap .i64 (g+1)
 (zau p').bind fun i=>
 (addr? i).bind fun j=>
 (c.st j.1 (j.2+1) [.int .i64 h]).bind fun k=>
 ((k.ld a.2.next 1).bind asS).bind fun l=>
 some (.tuple #[.string l,.bool true],k))
noncomputable abbrev zh0:zac:=lS Tryz.prog Lk0 Tryz.f93 zaC
theorem zh1:Lk0.func 93=some (93,Tryz.f93):=by kernel_rfl
theorem zeY [Sym] (p':Value) (st:SS) {r:Value×SS} (h:zdX cc zh0 p' st=some r):cc 93 [p'] st=some r:=
 zaf (li:=zaC) zai zar zh1 rfl (fun _=>rfl) (.trans (by kernel_rfl) h)
noncomputable def zds (cf:zan) (lf:zac) (p':Value) (st:SS):Option (Value×SS):=
 (cf 69 [p'] st).bind fun a=>
 let b:SS:=a.2.new (.cells [.int .i64 0,.string ⟨#[]⟩,.int .i64 0,.int .i64 0,.int .i64 0] 0)
 (b.stV a.2.next 0 5 a.1).bind fun c=>
 ((c.ld a.2.next 0).bind (asI .i64)).bind fun d=>
 cond (!(decide (d=2))) (
 some (.tuple #[.int .i64 0,.bool false],c)) (
 (zau p').bind fun e=>
 (addr? e).bind fun f=>
 ((c.ld f.1 (f.2+1)).bind (asI .i64)).bind fun g=>
 let h:Int:=IntKind.wrap .i64 (g+1)
 (zau p').bind fun i=>
 (addr? i).bind fun j=>
 (c.st j.1 (j.2+1) [.int .i64 h]).bind fun k=>
 ((k.ld a.2.next 2).bind (asI .i64)).bind fun l=>
 some (.tuple #[.int .i64 l,.bool true],k))
noncomputable abbrev zg5:zac:=lS Tryz.prog Lk0 Tryz.f111 zaC
theorem zg6:Lk0.func 111=some (111,Tryz.f111):=by kernel_rfl
theorem zee [Sym] (p':Value) (st:SS) {r:Value×SS} (h:zds cc zg5 p' st=some r):cc 111 [p'] st=some r:=
 zaf (li:=zaC) zai zar zg6 rfl (fun _=>rfl) (.trans (by kernel_rfl) h)
noncomputable def za1 (cf:zan) (lf:zac) (p':Value) (st:SS):Option (Value×SS):=
 let a:SS:=st.new (.cells [.string ⟨#[]⟩,.int .i64 0,.int .i64 0] 0)
 (cf 69 [p'] a).bind fun b=>
 ((zdj Lk0 150 4 b.1).bind (asI .i64)).bind fun c=>
 let d:SS:=b.2.new (.cells [.string ⟨#[]⟩,.int .i64 0,.int .i64 0] 0)
 (d.st b.2.next 0 [.string ⟨#[]⟩,.int .i64 0,.int .i64 c]).bind fun e=>
 (cf 111 [p'] e).bind fun f=>
 ((zaq f.1 0).bind (asI .i64)).bind fun g=>
 ((zaq f.1 1).bind asB).bind fun h=>
 (f.2.st b.2.next 1 [.int .i64 g]).bind fun i=>
 cond h (
 (i.ldN b.2.next 0 3).bind fun j=>
 (i.stV st.next 0 3 j).bind fun k=>
 (k.rdN st.next 0 3).bind fun l=>
 some (.tuple #[l,.bool true],k)) (
 (cf 93 [p'] i).bind fun m=>
 ((zaq m.1 0).bind asS).bind fun n=>
 ((zaq m.1 1).bind asB).bind fun o=>
 (m.2.st b.2.next 0 [.string n]).bind fun p=>
 cond (!o) (
 (p.ldN b.2.next 0 3).bind fun q=>
 (p.stV st.next 0 3 q).bind fun r=>
 (r.rdN st.next 0 3).bind fun s=>
 some (.tuple #[s,.bool false],r)) (
 (cf 92 [p',.string ⟨#[43]⟩] p).bind fun t=>
 ((some t.1).bind asB).bind fun u=>
 cond u (
 (cf 111 [p'] t.2).bind fun v=>
 ((zaq v.1 0).bind (asI .i64)).bind fun w=>
 ((zaq v.1 1).bind asB).bind fun x=>
 (v.2.st b.2.next 1 [.int .i64 w]).bind fun y=>
 (y.ldN b.2.next 0 3).bind fun z=>
 (y.stV st.next 0 3 z).bind fun A=>
 (A.rdN st.next 0 3).bind fun B=>
 some (.tuple #[B,.bool x],A)) (
 (cf 92 [p',.string ⟨#[45]⟩] t.2).bind fun C=>
 ((some C.1).bind asB).bind fun D=>
 cond D (
 (cf 111 [p'] C.2).bind fun E=>
 ((zaq E.1 0).bind (asI .i64)).bind fun F=>
 ((zaq E.1 1).bind asB).bind fun G=>
 (E.2.st b.2.next 1 [.int .i64 F]).bind fun H=>
 ((H.ld b.2.next 1).bind (asI .i64)).bind fun I=>
 let J:Int:=IntKind.wrap .i64 (0-I)
 (H.st b.2.next 1 [.int .i64 J]).bind fun K=>
 (K.ldN b.2.next 0 3).bind fun L=>
 (K.stV st.next 0 3 L).bind fun M=>
 (M.rdN st.next 0 3).bind fun N=>
 some (.tuple #[N,.bool G],M)) (
 (C.2.ldN b.2.next 0 3).bind fun O=>
 (C.2.stV st.next 0 3 O).bind fun P=>
 (P.rdN st.next 0 3).bind fun Q=>
 some (.tuple #[Q,.bool o],P)))))
noncomputable abbrev zhw:zac:=lS Tryz.prog Lk0 Tryz.f94 zaC
theorem zhx:Lk0.func 94=some (94,Tryz.f94):=by kernel_rfl
theorem za0 [Sym] (p':Value) (st:SS) {r:Value×SS} (h:za1 cc zhw p' st=some r):cc 94 [p'] st=some r:=
 zaf (li:=zaC) zai zar zhx rfl (fun _=>rfl) (.trans (by kernel_rfl) h)
noncomputable def zbE (cf:zan) (lf:zac) (p':Value) (l':Value) (st:SS):Option (Value×SS):=
 (cf 69 [p'] st).bind fun a=>
 ((zdj Lk0 150 4 a.1).bind (asI .i64)).bind fun b=>
 let c:SS:=a.2.new (.cells [.string ⟨#[]⟩,.int .i64 0,.string ⟨#[]⟩,.int .i64 0,.int .i64 0] 0)
 (c.st a.2.next 0 [.string ⟨#[]⟩,.int .i64 b,.string ⟨#[]⟩,.int .i64 0,.int .i64 0]).bind fun d=>
 (cf 69 [p'] d).bind fun e=>
 ((zdj Lk0 150 1 e.1).bind asS).bind fun f=>
 let g:SS:=e.2.new (.cells [.string ⟨#[]⟩] 0)
 (g.st e.2.next 0 [.string f]).bind fun h=>
 (cf 69 [p'] h).bind fun i=>
 ((zdj Lk0 150 0 i.1).bind (asI .i64)).bind fun j=>
 cond (!(decide (j=1))) (
 some (.bool false,i.2)) (
 (zau l').bind fun k=>
 (addr? k).bind fun l=>
 (i.2.ld l.1 (l.2+4)).bind fun m=>
 (cf 112 [m,.func (.func 113) #[] #[ptr e.2.next 0]] i.2).bind fun n=>
 ((some n.1).bind asB).bind fun o=>
 cond o (
 some (.bool false,n.2)) (
 ((n.2.ld e.2.next 0).bind asS).bind fun p=>
 (n.2.st a.2.next 0 [.string p]).bind fun q=>
 (zau p').bind fun r=>
 (addr? r).bind fun s=>
 ((q.ld s.1 (s.2+1)).bind (asI .i64)).bind fun t=>
 let u:Int:=IntKind.wrap .i64 (t+1)
 (zau p').bind fun v=>
 (addr? v).bind fun w=>
 (q.st w.1 (w.2+1) [.int .i64 u]).bind fun x=>
 (cf 92 [p',.string ⟨#[61]⟩] x).bind fun y=>
 ((some y.1).bind asB).bind fun z=>
 cond (!z) (
 some (.bool false,y.2)) (
 (cf 94 [p'] y.2).bind fun A=>
 (zaq A.1 0).bind fun B=>
 ((zaq A.1 1).bind asB).bind fun C=>
 (A.2.stV a.2.next 2 3 B).bind fun D=>
 cond (!C) (
 some (.bool false,D)) (
 (zau l').bind fun E=>
 (addr? E).bind fun F=>
 (D.ld F.1 (F.2+4)).bind fun G=>
 (D.ldN a.2.next 0 5).bind fun H=>
 (zaS H 5).bind fun I=>
 let J:SS:=D.new (.cells (I++([])) 5)
 (J.app 5 56 G (.slice (some ⟨D.next,0,none⟩) 1 1)).bind fun K=>
 (zau l').bind fun L=>
 (addr? L).bind fun M=>
 (K.2.stV M.1 (M.2+4) 1 K.1).bind fun N=>
 some (.bool true,N)))))
noncomputable abbrev zh2:zac:=lS Tryz.prog Lk0 Tryz.f95 zaC
theorem zh3:Lk0.func 95=some (95,Tryz.f95):=by kernel_rfl
theorem zbF [Sym] (p':Value) (l':Value) (st:SS) {r:Value×SS} (h:zbE cc zh2 p' l' st=some r):cc 95 [p',l'] st=some r:=
 zaf (li:=zaC) zai zar zh3 rfl (fun _=>rfl) (.trans (by kernel_rfl) h)
def zef:LoopI:=⟨[(0,.any),(2,.any),(4,.any)],[(.exit 2,[(2,.any),(4,.any)]),(.ret,[(2,.any),(3,.bool)])]⟩
def zeg:LoopI:=⟨[(0,.any),(2,.any),(4,.any)],[(.exit 0,[(2,.any),(4,.any)]),(.ret,[(2,.any),(3,.bool)])]⟩
def zeZ (n:Nat):Option LoopI:=cond (Nat.beq n 11) (some zeg) (cond (Nat.beq n 17) (some zef) (none))
noncomputable def zcb (cf:zan) (lf:zac) (p':Value) (st:SS):Option (Value×SS):=
 let a:SS:=st.new (.cells [.int .i64 0,.string ⟨#[]⟩,.string ⟨#[]⟩,.slice none 0 0,.slice none 0 0] 0)
 (cf 69 [p'] a).bind fun b=>
 ((zdj Lk0 150 3 b.1).bind (asI .i64)).bind fun c=>
 let d:SS:=b.2.new (.cells [.int .i64 0,.string ⟨#[]⟩,.string ⟨#[]⟩,.slice none 0 0,.slice none 0 0] 0)
 (d.st b.2.next 0 [.int .i64 c,.string ⟨#[]⟩,.string ⟨#[]⟩,.slice none 0 0,.slice none 0 0]).bind fun e=>
 (cf 91 [p'] e).bind fun f=>
 let g:SS:=f.2.new (.cells [.int .i64 0,.string ⟨#[]⟩,.int .i64 0,.int .i64 0,.int .i64 0] 0)
 (g.stV f.2.next 0 5 f.1).bind fun h=>
 (cf 69 [p'] h).bind fun i=>
 ((zdj Lk0 150 0 i.1).bind (asI .i64)).bind fun j=>
 cond (decide (j=1)) (
 ((i.2.ld f.2.next 0).bind (asI .i64)).bind fun k=>
 cond (decide (k=3)) (
 ((i.2.ld f.2.next 1).bind asS).bind fun l=>
 cond (eqT l ⟨#[58]⟩) (
 (cf 69 [p'] i.2).bind fun m=>
 ((zdj Lk0 150 1 m.1).bind asS).bind fun n=>
 (m.2.st b.2.next 1 [.string n]).bind fun o=>
 (zau p').bind fun p=>
 (addr? p).bind fun q=>
 ((o.ld q.1 (q.2+1)).bind (asI .i64)).bind fun r=>
 let s:Int:=IntKind.wrap .i64 (r+2)
 (zau p').bind fun t=>
 (addr? t).bind fun u=>
 (o.st u.1 (u.2+1) [.int .i64 s]).bind fun v=>
 (cf 92 [p',.string ⟨#[46]⟩] v).bind fun w=>
 ((some w.1).bind asB).bind fun x=>
 cond x (
 (cf 93 [p'] w.2).bind fun y=>
 ((zaq y.1 0).bind asS).bind fun z=>
 ((zaq y.1 1).bind asB).bind fun A=>
 (y.2.st b.2.next 2 [.string z]).bind fun B=>
 cond (!A) (
 (B.ldN b.2.next 0 5).bind fun C=>
 (B.stV st.next 0 5 C).bind fun D=>
 (D.rdN st.next 0 5).bind fun E=>
 some (.tuple #[E,.bool false],D)) (
 (lf 11 [p',ptr st.next 0,ptr b.2.next 0] B).bind fun F=>
 cond (Nat.beq F.1 0) (
 (F.2.1[0]?).bind fun G=>
 (F.2.1[1]?).bind fun H=>
 (addr? H).bind fun I=>
 (F.2.2.ldN I.1 I.2 5).bind fun J=>
 (addr? G).bind fun K=>
 (F.2.2.stV K.1 K.2 5 J).bind fun L=>
 (addr? G).bind fun M=>
 (L.rdN M.1 M.2 5).bind fun N=>
 some (.tuple #[N,.bool true],L)) (
 (F.2.1[0]?).bind fun O=>
 ((F.2.1[1]?).bind asB).bind fun P=>
 (addr? O).bind fun Q=>
 (F.2.2.rdN Q.1 Q.2 5).bind fun R=>
 some (.tuple #[R,.bool P],F.2.2)))) (
 (lf 17 [p',ptr st.next 0,ptr b.2.next 0] w.2).bind fun S=>
 cond (Nat.beq S.1 0) (
 (S.2.1[0]?).bind fun T=>
 (S.2.1[1]?).bind fun U=>
 (addr? U).bind fun V=>
 (S.2.2.ldN V.1 V.2 5).bind fun W=>
 (addr? T).bind fun X=>
 (S.2.2.stV X.1 X.2 5 W).bind fun Y=>
 (addr? T).bind fun Z=>
 (Y.rdN Z.1 Z.2 5).bind fun aA=>
 some (.tuple #[aA,.bool true],Y)) (
 (S.2.1[0]?).bind fun aB=>
 ((S.2.1[1]?).bind asB).bind fun aC=>
 (addr? aB).bind fun aD=>
 (S.2.2.rdN aD.1 aD.2 5).bind fun aE=>
 some (.tuple #[aE,.bool aC],S.2.2)))) (
 (cf 92 [p',.string ⟨#[46]⟩] i.2).bind fun aF=>
 ((some aF.1).bind asB).bind fun aG=>
 cond aG (
 (cf 93 [p'] aF.2).bind fun aH=>
 ((zaq aH.1 0).bind asS).bind fun aI=>
 ((zaq aH.1 1).bind asB).bind fun aJ=>
 (aH.2.st b.2.next 2 [.string aI]).bind fun aK=>
 cond (!aJ) (
 (aK.ldN b.2.next 0 5).bind fun aL=>
 (aK.stV st.next 0 5 aL).bind fun aM=>
 (aM.rdN st.next 0 5).bind fun aN=>
 some (.tuple #[aN,.bool false],aM)) (
 (lf 11 [p',ptr st.next 0,ptr b.2.next 0] aK).bind fun aO=>
 cond (Nat.beq aO.1 0) (
 (aO.2.1[0]?).bind fun aP=>
 (aO.2.1[1]?).bind fun aQ=>
 (addr? aQ).bind fun aR=>
 (aO.2.2.ldN aR.1 aR.2 5).bind fun aS=>
 (addr? aP).bind fun aT=>
 (aO.2.2.stV aT.1 aT.2 5 aS).bind fun aU=>
 (addr? aP).bind fun aV=>
 (aU.rdN aV.1 aV.2 5).bind fun aW=>
 some (.tuple #[aW,.bool true],aU)) (
 (aO.2.1[0]?).bind fun aX=>
 ((aO.2.1[1]?).bind asB).bind fun aY=>
 (addr? aX).bind fun aZ=>
 (aO.2.2.rdN aZ.1 aZ.2 5).bind fun bA=>
 some (.tuple #[bA,.bool aY],aO.2.2)))) (
 (lf 17 [p',ptr st.next 0,ptr b.2.next 0] aF.2).bind fun bB=>
 cond (Nat.beq bB.1 0) (
 (bB.2.1[0]?).bind fun bC=>
 (bB.2.1[1]?).bind fun bD=>
 (addr? bD).bind fun bE=>
 (bB.2.2.ldN bE.1 bE.2 5).bind fun bF=>
 (addr? bC).bind fun bG=>
 (bB.2.2.stV bG.1 bG.2 5 bF).bind fun bH=>
 (addr? bC).bind fun bI=>
 (bH.rdN bI.1 bI.2 5).bind fun bJ=>
 some (.tuple #[bJ,.bool true],bH)) (
 (bB.2.1[0]?).bind fun bK=>
 ((bB.2.1[1]?).bind asB).bind fun bL=>
 (addr? bK).bind fun bM=>
 (bB.2.2.rdN bM.1 bM.2 5).bind fun bN=>
 some (.tuple #[bN,.bool bL],bB.2.2))))) (
 (cf 92 [p',.string ⟨#[46]⟩] i.2).bind fun bO=>
 ((some bO.1).bind asB).bind fun bP=>
 cond bP (
 (cf 93 [p'] bO.2).bind fun bQ=>
 ((zaq bQ.1 0).bind asS).bind fun bR=>
 ((zaq bQ.1 1).bind asB).bind fun bS=>
 (bQ.2.st b.2.next 2 [.string bR]).bind fun bT=>
 cond (!bS) (
 (bT.ldN b.2.next 0 5).bind fun bU=>
 (bT.stV st.next 0 5 bU).bind fun bV=>
 (bV.rdN st.next 0 5).bind fun bW=>
 some (.tuple #[bW,.bool false],bV)) (
 (lf 11 [p',ptr st.next 0,ptr b.2.next 0] bT).bind fun bX=>
 cond (Nat.beq bX.1 0) (
 (bX.2.1[0]?).bind fun bY=>
 (bX.2.1[1]?).bind fun bZ=>
 (addr? bZ).bind fun cA=>
 (bX.2.2.ldN cA.1 cA.2 5).bind fun cB=>
 (addr? bY).bind fun cC=>
 (bX.2.2.stV cC.1 cC.2 5 cB).bind fun cD=>
 (addr? bY).bind fun cE=>
 (cD.rdN cE.1 cE.2 5).bind fun cF=>
 some (.tuple #[cF,.bool true],cD)) (
 (bX.2.1[0]?).bind fun cG=>
 ((bX.2.1[1]?).bind asB).bind fun cH=>
 (addr? cG).bind fun cI=>
 (bX.2.2.rdN cI.1 cI.2 5).bind fun cJ=>
 some (.tuple #[cJ,.bool cH],bX.2.2)))) (
 (lf 17 [p',ptr st.next 0,ptr b.2.next 0] bO.2).bind fun cK=>
 cond (Nat.beq cK.1 0) (
 (cK.2.1[0]?).bind fun cL=>
 (cK.2.1[1]?).bind fun cM=>
 (addr? cM).bind fun cN=>
 (cK.2.2.ldN cN.1 cN.2 5).bind fun cO=>
 (addr? cL).bind fun cP=>
 (cK.2.2.stV cP.1 cP.2 5 cO).bind fun cQ=>
 (addr? cL).bind fun cR=>
 (cQ.rdN cR.1 cR.2 5).bind fun cS=>
 some (.tuple #[cS,.bool true],cQ)) (
 (cK.2.1[0]?).bind fun cT=>
 ((cK.2.1[1]?).bind asB).bind fun cU=>
 (addr? cT).bind fun cV=>
 (cK.2.2.rdN cV.1 cV.2 5).bind fun cW=>
 some (.tuple #[cW,.bool cU],cK.2.2))))) (
 (cf 92 [p',.string ⟨#[46]⟩] i.2).bind fun cX=>
 ((some cX.1).bind asB).bind fun cY=>
 cond cY (
 (cf 93 [p'] cX.2).bind fun cZ=>
 ((zaq cZ.1 0).bind asS).bind fun dA=>
 ((zaq cZ.1 1).bind asB).bind fun dB=>
 (cZ.2.st b.2.next 2 [.string dA]).bind fun dC=>
 cond (!dB) (
 (dC.ldN b.2.next 0 5).bind fun dD=>
 (dC.stV st.next 0 5 dD).bind fun dE=>
 (dE.rdN st.next 0 5).bind fun dF=>
 some (.tuple #[dF,.bool false],dE)) (
 (lf 11 [p',ptr st.next 0,ptr b.2.next 0] dC).bind fun dG=>
 cond (Nat.beq dG.1 0) (
 (dG.2.1[0]?).bind fun dH=>
 (dG.2.1[1]?).bind fun dI=>
 (addr? dI).bind fun dJ=>
 (dG.2.2.ldN dJ.1 dJ.2 5).bind fun dK=>
 (addr? dH).bind fun dL=>
 (dG.2.2.stV dL.1 dL.2 5 dK).bind fun dM=>
 (addr? dH).bind fun dN=>
 (dM.rdN dN.1 dN.2 5).bind fun dO=>
 some (.tuple #[dO,.bool true],dM)) (
 (dG.2.1[0]?).bind fun dP=>
 ((dG.2.1[1]?).bind asB).bind fun dQ=>
 (addr? dP).bind fun dR=>
 (dG.2.2.rdN dR.1 dR.2 5).bind fun dS=>
 some (.tuple #[dS,.bool dQ],dG.2.2)))) (
 (lf 17 [p',ptr st.next 0,ptr b.2.next 0] cX.2).bind fun dT=>
 cond (Nat.beq dT.1 0) (
 (dT.2.1[0]?).bind fun dU=>
 (dT.2.1[1]?).bind fun dV=>
 (addr? dV).bind fun dW=>
 (dT.2.2.ldN dW.1 dW.2 5).bind fun dX=>
 (addr? dU).bind fun dY=>
 (dT.2.2.stV dY.1 dY.2 5 dX).bind fun dZ=>
 (addr? dU).bind fun gA=>
 (dZ.rdN gA.1 gA.2 5).bind fun gB=>
 some (.tuple #[gB,.bool true],dZ)) (
 (dT.2.1[0]?).bind fun gC=>
 ((dT.2.1[1]?).bind asB).bind fun gD=>
 (addr? gC).bind fun gE=>
 (dT.2.2.rdN gE.1 gE.2 5).bind fun gF=>
 some (.tuple #[gF,.bool gD],dT.2.2))))
noncomputable abbrev zaz:zac:=lS Tryz.prog Lk0 Tryz.f68 zeZ
theorem zh4:Lk0.func 68=some (68,Tryz.f68):=by kernel_rfl
theorem ze0 [Sym] (p':Value) (st:SS) {r:Value×SS} (h:zcb cc zaz p' st=some r):cc 68 [p'] st=some r:=
 zaf (li:=zeZ) zai zar zh4 rfl (fun _=>rfl) (.trans (by kernel_rfl) h)
noncomputable def zb5 (cf:zan) (lf:zac) (p':Value) (t2':Value) (l':Value) (st:SS):Option (Nat×List Value×SS):=
 (cf 69 [p'] st).bind fun a=>
 ((zdj Lk0 150 0 a.1).bind (asI .i64)).bind fun b=>
 cond (!(decide (b=0))) (
 (cf 94 [p'] a.2).bind fun c=>
 (zaq c.1 0).bind fun d=>
 ((zaq c.1 1).bind asB).bind fun e=>
 let f:SS:=c.2.new (.cells [.string ⟨#[]⟩,.int .i64 0,.int .i64 0] 0)
 (f.stV c.2.next 0 3 d).bind fun g=>
 cond (!e) (
 (addr? l').bind fun h=>
 (g.ldN h.1 h.2 5).bind fun i=>
 (addr? t2').bind fun j=>
 (g.stV j.1 j.2 5 i).bind fun k=>
 some (1,[t2',.bool false],k)) (
 (addr? l').bind fun l=>
 (g.ld l.1 (l.2+3)).bind fun m=>
 (g.ldN c.2.next 0 3).bind fun n=>
 (zaS n 3).bind fun o=>
 let p:SS:=g.new (.cells (o++([])) 3)
 (p.app 3 32 m (.slice (some ⟨g.next,0,none⟩) 1 1)).bind fun q=>
 (addr? l').bind fun r=>
 (q.2.stV r.1 (r.2+3) 1 q.1).bind fun s=>
 lf 11 [p',t2',l'] s)) (
 some (0,[t2',l'],a.2))
theorem zcs [Sym] (p':Value) (t2':Value) (l':Value) (st:SS) {r:Nat×List Value×SS} (h:zb5 cc zaz p' t2' l' st=some r):zaz 11 [p',t2',l'] st=some r:=
 zaA zai zar (key:=11) (I:=zeg) rfl (by kernel_rfl) (by kernel_rfl) rfl rfl (.trans (by kernel_rfl) h)
noncomputable def zb6 (cf:zan) (lf:zac) (p':Value) (t2':Value) (l':Value) (st:SS):Option (Nat×List Value×SS):=
 (cf 69 [p'] st).bind fun a=>
 ((zdj Lk0 150 0 a.1).bind (asI .i64)).bind fun b=>
 cond (!(decide (b=0))) (
 (cf 95 [p',l'] a.2).bind fun c=>
 ((some c.1).bind asB).bind fun d=>
 cond (!d) (
 (addr? l').bind fun e=>
 (c.2.ldN e.1 e.2 5).bind fun f=>
 (addr? t2').bind fun g=>
 (c.2.stV g.1 g.2 5 f).bind fun h=>
 some (1,[t2',.bool false],h)) (
 lf 17 [p',t2',l'] c.2)) (
 some (0,[t2',l'],a.2))
theorem zcu [Sym] (p':Value) (t2':Value) (l':Value) (st:SS) {r:Nat×List Value×SS} (h:zb6 cc zaz p' t2' l' st=some r):zaz 17 [p',t2',l'] st=some r:=
 zaA zai zar (key:=17) (I:=zef) rfl (by kernel_rfl) (by kernel_rfl) rfl rfl (.trans (by kernel_rfl) h)
def zgV:LoopI:=⟨[(3,.any),(5,.any),(8,.any),(9,.any)],[(.exit 0,[(3,.any),(9,.any)]),(.ret,[(2,.any),(3,.any),(4,.int .i64)])]⟩
def zhi (n:Nat):Option LoopI:=cond (Nat.beq n 6) (some zgV) (none)
noncomputable def zfe (cf:zan) (lf:zac) (text':ByteArray) (st:SS):Option (Value×SS):=
 let a:SS:=st.new (.cells [.int .i64 0,.int .i64 0] 0)
 (cf 67 [.string text'] a).bind fun b=>
 (zaq b.1 0).bind fun c=>
 (zaq b.1 1).bind fun d=>
 ((zaq b.1 2).bind (asI .i64)).bind fun e=>
 let f:SS:=b.2.new (.cells [.int .i64 0,.int .i64 0] 0)
 (f.stV b.2.next 0 2 d).bind fun g=>
 cond (!(decide (e=0))) (
 (g.ldN b.2.next 0 2).bind fun h=>
 (g.stV st.next 0 2 h).bind fun i=>
 (i.rdN st.next 0 2).bind fun j=>
 some (.tuple #[.slice none 0 0,j,.int .i64 e],i)) (
 (zaS c 1).bind fun k=>
 let l:SS:=g.new (.cells (.agg ⟨spl [.slice none 0 0,.int .i64 0] 0 k⟩:Value).cells.toList 0)
 (lf 6 [ptr st.next 0,c,ptr g.next 0,.slice none 0 0] l).bind fun m=>
 cond (Nat.beq m.1 0) (
 (m.2.1[0]?).bind fun n=>
 (m.2.1[1]?).bind fun o=>
 (addr? n).bind fun p=>
 (m.2.2.st p.1 p.2 [.int .i64 0,.int .i64 0]).bind fun q=>
 (addr? n).bind fun r=>
 (q.rdN r.1 r.2 2).bind fun s=>
 some (.tuple #[o,s,.int .i64 0],q)) (
 (m.2.1[0]?).bind fun t=>
 (m.2.1[1]?).bind fun u=>
 ((m.2.1[2]?).bind (asI .i64)).bind fun v=>
 (addr? u).bind fun w=>
 (m.2.2.rdN w.1 w.2 2).bind fun x=>
 some (.tuple #[t,x,.int .i64 v],m.2.2)))
noncomputable abbrev zbu:zac:=lS Tryz.prog Lk0 Tryz.f42 zhi
theorem zlV:Lk0.func 42=some (42,Tryz.f42):=by kernel_rfl
theorem zff [Sym] (text':ByteArray) (st:SS) {r:Value×SS} (h:zfe cc zbu text' st=some r):cc 42 [.string text'] st=some r:=
 zaf (li:=zhi) zai zar zlV rfl (fun _=>rfl) (.trans (by kernel_rfl) h)
noncomputable def zbR (cf:zan) (lf:zac) (t3':Value) (tokens':Value) (p':Value) (out':Value) (st:SS):Option (Nat×List Value×SS):=
 (zau p').bind fun a=>
 (addr? a).bind fun b=>
 ((st.ld b.1 (b.2+1)).bind (asI .i64)).bind fun c=>
 ((lenV tokens').bind (asI .i64)).bind fun d=>
 cond (decide (c<d)) (
 (cf 68 [p'] st).bind fun e=>
 (zaq e.1 0).bind fun f=>
 ((zaq e.1 1).bind asB).bind fun g=>
 let h:SS:=e.2.new (.cells [.int .i64 0,.string ⟨#[]⟩,.string ⟨#[]⟩,.slice none 0 0,.slice none 0 0] 0)
 (h.stV e.2.next 0 5 f).bind fun i=>
 cond (!g) (
 (cf 69 [p'] i).bind fun j=>
 ((zdj Lk0 150 3 j.1).bind (asI .i64)).bind fun k=>
 (cf 69 [p'] j.2).bind fun l=>
 ((zdj Lk0 150 4 l.1).bind (asI .i64)).bind fun m=>
 (addr? t3').bind fun n=>
 (l.2.st n.1 n.2 [.int .i64 k,.int .i64 m]).bind fun o=>
 some (1,[.slice none 0 0,t3',.int .i64 4],o)) (
 (zau p').bind fun p=>
 (addr? p).bind fun q=>
 ((i.ld q.1 (q.2+1)).bind (asI .i64)).bind fun r=>
 let s:Int:=IntKind.wrap .i64 (r+1)
 (zau p').bind fun t=>
 (addr? t).bind fun u=>
 (i.st u.1 (u.2+1) [.int .i64 s]).bind fun v=>
 ((v.ld e.2.next 1).bind asS).bind fun w=>
 cond (!(eqT w ⟨#[]⟩)) (
 (v.ldN e.2.next 0 5).bind fun x=>
 (zaS x 5).bind fun y=>
 let z:SS:=v.new (.cells (y++([])) 5)
 (z.app 5 88 out' (.slice (some ⟨v.next,0,none⟩) 1 1)).bind fun A=>
 lf 6 [t3',tokens',p',A.1] A.2) (
 ((v.ld e.2.next 2).bind asS).bind fun B=>
 cond (!(eqT B ⟨#[]⟩)) (
 (v.ldN e.2.next 0 5).bind fun C=>
 (zaS C 5).bind fun D=>
 let E:SS:=v.new (.cells (D++([])) 5)
 (E.app 5 88 out' (.slice (some ⟨v.next,0,none⟩) 1 1)).bind fun F=>
 lf 6 [t3',tokens',p',F.1] F.2) (
 (v.ld e.2.next 4).bind fun G=>
 ((lenV G).bind (asI .i64)).bind fun H=>
 cond (decide (0<H)) (
 (v.ldN e.2.next 0 5).bind fun I=>
 (zaS I 5).bind fun J=>
 let K:SS:=v.new (.cells (J++([])) 5)
 (K.app 5 88 out' (.slice (some ⟨v.next,0,none⟩) 1 1)).bind fun L=>
 lf 6 [t3',tokens',p',L.1] L.2) (
 lf 6 [t3',tokens',p',out'] v))))) (
 some (0,[t3',out'],st))
theorem zcQ [Sym] (t3':Value) (tokens':Value) (p':Value) (out':Value) (st:SS) {r:Nat×List Value×SS} (h:zbR cc zbu t3' tokens' p' out' st=some r):zbu 6 [t3',tokens',p',out'] st=some r:=
 zaA zai zar (key:=6) (I:=zgV) rfl (by kernel_rfl) (by kernel_rfl) rfl rfl (.trans (by kernel_rfl) h)
end Go.Proofs.YtifploedaacedaaGreatDoorE
namespace Go.Proofs.YtifploedaacedaaGreatDoorE
open Go Go.E Go.Proofs
theorem zbq (b k:Nat):zau (ptr b k)=some (ptr b k):=rfl
structure PHas (st:SS) (b:Nat) (v:Value) (us:List (Nat×Tok)) (i:Nat):Prop where
 mem:st.mem.get b=some (.cells [v,.int .i64 i] 0)
 lt:b<st.next
 rd:Rd st v (rowsL us) 5 us.length
 sz:us.length≤1099511627776
theorem PHas.ext {st st':SS} {b i:Nat} {v:Value} {us:List (Nat×Tok)} (h:PHas st b v us i) (x:Ext st st'):PHas st' b v us i:=
 ⟨x.get h.lt h.mem,zll h.lt x.next,h.rd.ext x,h.sz⟩
theorem PHas.ro {st:SS} {b i n:Nat} {v:Value} {us:List (Nat×Tok)} (h:PHas st b v us i):PHas (st.ro n) b v us i:=⟨h.mem,h.lt,h.rd,h.sz⟩
structure PAt (st:SS) (b:Nat) (v:Value) (us:List (Nat×Tok)) (i:Nat):Prop where
 blk:At st b [v,.int .i64 i]
 rd:Rd st v (rowsL us) 5 us.length
 vb:∀ j k l q,v=.slice (some ⟨j,k,none⟩) l q→j<b
 sz:us.length≤1099511627776
 ll:st.lim≤st.next
section
variable {S : List Nat} {st st' : SS} {b i : Nat} {v : Value} {us : List (Nat × Tok)}
theorem PAt.has (h:PAt st b v us i):PHas st b v us i:=⟨h.blk.mem,h.blk.lt,h.rd,h.sz⟩
theorem PAt.mod (h:PAt st b v us i) (m:Mod S st st') (hS:∀ j,j∈S→b<j):PAt st' b v us i:=
 ⟨h.blk.mod m (fun hm=>by have:=hS b hm;omega),h.rd.mod m (fun j k l q e hm=>by have:=hS j hm;have:=h.vb j k l q e;omega),h.vb,h.sz,m.ll h.ll⟩
theorem PAt.ext (h:PAt st b v us i) (x:Ext st st'):PAt st' b v us i:=h.mod (S:=[]) (.ofExt x) (fun _ hj=>by cases hj)
theorem PAt.modI {j:Nat} (h:PAt st b v us i) (m:Mod [j] st st') (hj:b<j):PAt st' b v us i:=h.mod m fun k hk=>(show k=j by simpa using hk) ▸ hj
theorem PAt.move (h:PAt st b v us i) (i':Nat):∃ st',st.st b 1 [.int .i64 i']=some st'∧PAt st' b v us i'∧Mod [b] st st'∧st'.next=st.next:=by
 obtain ⟨st',e,a,m,n⟩:=h.blk.sto (k:=1) (vs:=[.int .i64 i']) (row':=[v,.int .i64 i']) rfl rfl
 exact ⟨st',e,⟨a,h.rd.mod m (fun j k l q e hm=>by have:j=b:=by simpa using hm
                                                  have:=h.vb j k l q e;omega),h.vb,h.sz,m.ll h.ll⟩,m,n⟩
end
abbrev Z5:List Value:=[.int .i64 0,.string ⟨#[]⟩,.int .i64 0,.int .i64 0,.int .i64 0]
theorem zcn [Sym] {st:SS} {b i:Nat} {v:Value} {us:List (Nat×Tok)} (h:PHas st b v us i) {t:Nat×Tok} (ht:us[i]?=some t):
  ∃ n,st.next≤n∧cc 69 [ptr b 0] st=some (.agg (zaV t.1 t.2).toArray,st.adv n):=by
 obtain ⟨st10,e10,a10,x10,_⟩:=zbk (st:=st.ro st.next) (zlr _) (r:=Z5) (zaF (zaV t.1 t.2)) (n:=5) rfl rfl rfl
 have h1:=(h.ro (n:=st.next)).ext ((Ext.refl (st.ro st.next)).new (.cells Z5 0))
 have hlt:(i:Int)<(us.length:Int):=by have:=(List.getElem?_eq_some_iff.1 ht).1;omega
 obtain ⟨q,b1,b2,_⟩:=h1.rd.load (j:=(i:Int)) (by omega) hlt (zhg us i t ht) rfl
 have l0:((st.ro st.next).new (.cells Z5 0)).ld b 0=some v:=by rw [SS.ld_cells h1.mem];rfl
 have l1:((st.ro st.next).new (.cells Z5 0)).ld b 1=some (.int .i64 i):=by rw [SS.ld_cells h1.mem];rfl
 have hr:st10.rdN (st.ro st.next).next 0 5=some (.agg (zaV t.1 t.2).toArray):=a10.rdN rfl
 refine ⟨st10.next,x10.next,ziP _ st ?_⟩
 have e10':((st.ro st.next).new (.cells Z5 0)).stV st.next 0 5 (.agg (zaV t.1 t.2).toArray)=some st10:=e10
 have hr':st10.rdN st.next 0 5=some (.agg (zaV t.1 t.2).toArray):=hr
 simp only [zf7,SS.ro_next,zbq,zob,zad,l0,Nat.zero_add,l1,zaa,b1,b2,e10',hr']
 rfl
theorem zcz {ln:Nat} {t:Tok}:(zdj Lk0 150 0 (.agg (zaV ln t).toArray)).bind (asI .i64)=some (t.kd:Int)∧(zdj Lk0 150 1 (.agg (zaV ln t).toArray)).bind asS=some (mkS t.tx)∧
  (zdj Lk0 150 3 (.agg (zaV ln t).toArray)).bind (asI .i64)=some (ln:Int)∧(zdj Lk0 150 4 (.agg (zaV ln t).toArray)).bind (asI .i64)=some (t.col:Int):=⟨by kernel_rfl,by kernel_rfl,by kernel_rfl,by kernel_rfl⟩
theorem zt1 [Sym] {st:SS} {b i:Nat} {v:Value} {us:List (Nat×Tok)} (h:PHas st b v us i) {t u:Nat×Tok} (ht:us[i]?=some t) (hu:us[if t.2.kd=0 then i else i+1]?=some u):
  ∃ n,st.next≤n∧cc 91 [ptr b 0] st=some (.agg (zaV u.1 u.2).toArray,st.adv n):=by
 have h1:=(h.ro (n:=st.next)).ext ((Ext.refl (st.ro st.next)).new (.cells Z5 0))
 obtain ⟨n,hn,c1⟩:=zcn h1 ht
 have a0:At ((st.ro st.next).new (.cells Z5 0)) st.next Z5:=At.new (st:=st.ro st.next) (zlr _) Z5
 have h2:=h1.ext (Ext.advR _ hn)
 have a2:=a0.adv hn
 by_cases hk:t.2.kd=0
 ·rw [if_pos hk,ht] at hu
  cases hu
  obtain ⟨m,hm,c2⟩:=zcn h2 ht
  have a3:=a2.adv hm
  obtain ⟨st5,e5,a5,m5,n5⟩:=a3.stV (k:=0) (zaF (zaV t.1 t.2)) (n:=5) rfl rfl (row':=zaV t.1 t.2) rfl
  have hr:st5.rdN st.next 0 5=some (.agg (zaV t.1 t.2).toArray):=a5.rdN rfl
  have hk':(t.2.kd:Int)=0:=by omega
  have hle:st.next≤st5.next:=by rw [n5];simp at hn hm ⊢;omega
  refine ⟨st5.next,hle,zeX _ st ?_⟩
  simp only [zdW,SS.ro_next,c1,c2,zob,zcz.1,zdt hk',zct,e5,hr]
  rfl
 ·rw [if_neg hk] at hu
  have hlt:((i+1:Nat):Int)<(us.length:Int):=by have:=(List.getElem?_eq_some_iff.1 hu).1;omega
  obtain ⟨q,b1,b2,_⟩:=h2.rd.load (j:=((i+1:Nat):Int)) (by omega) hlt (zhg us (i+1) u hu) rfl
  have hk':¬ (t.2.kd:Int)=0:=by omega
  obtain ⟨st5,e5,a5,m5,n5⟩:=a2.stV (k:=0) (zaF (zaV u.1 u.2)) (n:=5) rfl rfl (row':=zaV u.1 u.2) rfl
  have hr:st5.rdN st.next 0 5=some (.agg (zaV u.1 u.2).toArray):=a5.rdN rfl
  have l0:(((st.ro st.next).new (.cells Z5 0)).adv n).ld b 0=some v:=by rw [SS.ld_cells h2.mem];rfl
  have l1:(((st.ro st.next).new (.cells Z5 0)).adv n).ld b 1=some (.int .i64 i):=by rw [SS.ld_cells h2.mem];rfl
  have hw:IntKind.wrap .i64 ((i:Int)+1)=((i+1:Nat):Int):=by have:=h.sz;rw [wrap64 (by omega) (by omega)];omega
  have hle:st.next≤st5.next:=by rw [n5];simp at hn ⊢;omega
  refine ⟨st5.next,hle,zeX _ st ?_⟩
  simp only [zdW,SS.ro_next,c1,zob,zcz.1,zdf hk',zcf,zbq,zad,l0,Nat.zero_add,l1,zaa,hw,b1,b2,e5,hr]
  rfl
theorem zmJ {st:SS} {n:Nat} (hl:st.lim≤n) (t:Nat×Tok):∃ st',((st.adv n).new (.cells Z5 0)).stV n 0 5 (.agg (zaV t.1 t.2).toArray)=some st'∧At st' n (zaV t.1 t.2)∧Ext (st.adv n) st':=by
 obtain ⟨st',a,b,c,_⟩:=zbk (st:=st.adv n) hl (r:=Z5) (zaF (zaV t.1 t.2)) (n:=5) rfl rfl rfl
 exact ⟨st',a,b,c⟩
theorem ze1 (a b:List UInt8):eqT (mkS a) (mkS b)=decide (a=b):=by rw [zeN,zbO,zbO]
theorem ziQ [Sym] {st:SS} {b i:Nat} {v:Value} {us:List (Nat×Tok)} (h:PAt st b v us i) {t:Nat×Tok} (ht:us[i]?=some t) (sg:List UInt8):
  ∃ st',cc 92 [ptr b 0,.string (mkS sg)] st=some (.bool (zaE t.2 sg),st')∧Mod [b] st st'∧PAt st' b v us (if zaE t.2 sg=true then i+1 else i):=by
 obtain ⟨n,hn,h1⟩:=zcn h.has ht
 obtain ⟨st3,e3,a3,x3⟩:=zmJ (st:=st) (n:=n) (zlt h.ll hn) t
 have x:Ext st st3:=(Ext.advR st hn).trans x3
 have hp:=h.ext x
 have k0:st3.ld n 0=some (.int .i64 t.2.kd):=a3.ld
 have k1:st3.ld n 1=some (.string (mkS t.2.tx)):=a3.ld
 have hi:=(List.getElem?_eq_some_iff.1 ht).1
 have hsz:=h.sz
 by_cases hk:t.2.kd=3
 ·have hk':(t.2.kd:Int)=3:=by omega
  by_cases hx:t.2.tx=sg
  ·have hs:zaE t.2 sg=true:=by simp [zaE,hk,hx]
   obtain ⟨st4,e4,p4,m4,_⟩:=hp.move (i+1)
   have hl1:st3.ld b 1=some (.int .i64 i):=hp.blk.ld
   rw [hs]
   refine ⟨st4,zcY _ _ st ?_,(Mod.ofExt x).then m4,p4⟩
   simp only [zcF,h1,zob,SS.adv_next,e3,k0,k1,zaa,zab,zdt hk',znt,zcf,ze1,zdt hx,zbq,zad,Nat.zero_add,hl1,zba (show i≤1099511627776 by omega),e4]
  ·have hs:zaE t.2 sg=false:=by simp [zaE,hk,hx]
   rw [hs]
   refine ⟨st3,zcY _ _ st ?_,.ofExt x,hp⟩
   simp only [zcF,h1,zob,SS.adv_next,e3,k0,k1,zaa,zab,zdt hk',znt,zcf,ze1,zdf hx,znf,zct]
 ·have hk':¬ (t.2.kd:Int)=3:=by omega
  have hs:zaE t.2 sg=false:=by simp [zaE,hk]
  rw [hs]
  refine ⟨st3,zcY _ _ st ?_,.ofExt x,hp⟩
  simp only [zcF,h1,zob,SS.adv_next,e3,k0,zaa,zdf hk',znf,zct]
theorem zpN [Sym] {st:SS} {b i:Nat} {v:Value} {us:List (Nat×Tok)} (h:PAt st b v us i) {t:Nat×Tok} (ht:us[i]?=some t):
  ∃ st',cc 93 [ptr b 0] st=some (.tuple #[.string (mkS (if t.2.kd=1 then t.2.tx else [])),.bool (decide (t.2.kd=1))],st')∧Mod [b] st st'∧PAt st' b v us (if t.2.kd=1 then i+1 else i):=by
 obtain ⟨n,hn,h1⟩:=zcn h.has ht
 obtain ⟨st3,e3,a3,x3⟩:=zmJ (st:=st) (n:=n) (zlt h.ll hn) t
 have x:Ext st st3:=(Ext.advR st hn).trans x3
 have hp:=h.ext x
 have k0:st3.ld n 0=some (.int .i64 t.2.kd):=a3.ld
 have hi:=(List.getElem?_eq_some_iff.1 ht).1
 have hsz:=h.sz
 by_cases hk:t.2.kd=1
 ·have hk':(t.2.kd:Int)=1:=by omega
  obtain ⟨st4,e4,p4,m4,_⟩:=hp.move (i+1)
  have hl1:st3.ld b 1=some (.int .i64 i):=hp.blk.ld
  have hne:n≠b:=by have:=h.blk.lt;omega
  have k1:st4.ld n 1=some (.string (mkS t.2.tx)):=(a3.mod m4 (by simpa using hne)).ld
  rw [if_pos hk,if_pos hk,zdt hk]
  refine ⟨st4,zeY _ st ?_,(Mod.ofExt x).then m4,p4⟩
  simp only [zdX,h1,zob,SS.adv_next,e3,k0,zaa,zdt hk',znt,zcf,zbq,zad,Nat.zero_add,hl1,zba (show i≤1099511627776 by omega),e4,k1,zab]
 ·have hk':¬ (t.2.kd:Int)=1:=by omega
  rw [if_neg hk,if_neg hk,zdf hk]
  refine ⟨st3,zeY _ st ?_,.ofExt x,hp⟩
  simp only [zdX,h1,zob,SS.adv_next,e3,k0,zaa,zdf hk',znf,zct]
  rfl
theorem ziR [Sym] {st:SS} {b i:Nat} {v:Value} {us:List (Nat×Tok)} (h:PAt st b v us i) {t:Nat×Tok} (ht:us[i]?=some t):
  ∃ st',cc 111 [ptr b 0] st=some (.tuple #[.int .i64 (if t.2.kd=2 then t.2.nm else 0),.bool (decide (t.2.kd=2))],st')∧Mod [b] st st'∧PAt st' b v us (if t.2.kd=2 then i+1 else i):=by
 obtain ⟨n,hn,h1⟩:=zcn h.has ht
 obtain ⟨st3,e3,a3,x3⟩:=zmJ (st:=st) (n:=n) (zlt h.ll hn) t
 have x:Ext st st3:=(Ext.advR st hn).trans x3
 have hp:=h.ext x
 have k0:st3.ld n 0=some (.int .i64 t.2.kd):=a3.ld
 have hi:=(List.getElem?_eq_some_iff.1 ht).1
 have hsz:=h.sz
 by_cases hk:t.2.kd=2
 ·have hk':(t.2.kd:Int)=2:=by omega
  obtain ⟨st4,e4,p4,m4,_⟩:=hp.move (i+1)
  have hl1:st3.ld b 1=some (.int .i64 i):=hp.blk.ld
  have hne:n≠b:=by have:=h.blk.lt;omega
  have k1:st4.ld n 2=some (.int .i64 t.2.nm):=(a3.mod m4 (by simpa using hne)).ld
  rw [if_pos hk,if_pos hk,zdt hk]
  refine ⟨st4,zee _ st ?_,(Mod.ofExt x).then m4,p4⟩
  simp only [zds,h1,zob,SS.adv_next,e3,k0,zaa,zdt hk',znt,zcf,zbq,zad,Nat.zero_add,hl1,zba (show i≤1099511627776 by omega),e4,k1]
 ·have hk':¬ (t.2.kd:Int)=2:=by omega
  rw [if_neg hk,if_neg hk,zdf hk]
  refine ⟨st3,zee _ st ?_,.ofExt x,hp⟩
  simp only [zds,h1,zob,SS.adv_next,e3,k0,zaa,zdf hk',znf,zct]
structure LineAt (us:List (Nat×Tok)) (i ln:Nat) (l:List Tok):Prop where
 drop:∃ rest,us.drop i=(l.map fun t=>(ln,t))++rest
 lin:Lin l
 ok:∀ t∈l,TokOk t
theorem LineAt.head {us:List (Nat×Tok)} {i ln:Nat} {t:Tok} {r:List Tok} (h:LineAt us i ln (t::r)):us[i]?=some (ln,t):=by
 obtain ⟨rest,hr⟩:=h.drop
 have:=congrArg (·[0]?) hr
 simpa using this
theorem LineAt.tail {us:List (Nat×Tok)} {i ln:Nat} {t:Tok} {r:List Tok} (h:LineAt us i ln (t::r)) (hk:t.kd≠0):LineAt us (i+1) ln r:=by
 refine ⟨?_,h.lin.tail hk,fun u hu=>h.ok u (List.mem_cons_of_mem _ hu)⟩
 obtain ⟨rest,hr⟩:=h.drop
 refine ⟨rest,?_⟩
 have:=drop_cons h.head
 rw [hr] at this
 exact (List.cons.inj this).2.symm
theorem LineAt.tok {us:List (Nat×Tok)} {i ln:Nat} {t:Tok} {r:List Tok} (h:LineAt us i ln (t::r)):TokOk t:=h.ok t (List.mem_cons_self ..)
end Go.Proofs.YtifploedaacedaaGreatDoorE
namespace Go.Proofs.YtifploedaacedaaGreatDoorE
set_option maxRecDepth 20000
open Go Go.E Go.Proofs
noncomputable def zk1 (cf:zan) (lf:zac) (s':Value) (q':Nat) (st:SS):Option (Value×SS):=
 (cf 133 [s',.func (.func 113) #[] #[ptr q' 0]] (st.ro st.next)).bind fun a=>
 ((some a.1).bind (asI .i64)).bind fun b=>
 some (.bool (decide (0≤b)),st.adv a.2.next)
noncomputable abbrev zpi:zac:=lS Tryz.prog Lk0 Tryz.f112 zaC
theorem zpk:Lk0.func 112=some (112,Tryz.f112):=by kernel_rfl
theorem zpl [Sym] (s':Value) (q':Nat) (st:SS) {r:Value×SS} (h:zk1 cc zpi s' q' st=some r):cc 112 [s',.func (.func 113) #[] #[ptr q' 0]] st=some r:=
 zaf (li:=zaC) zai zar zpk rfl (fun _=>rfl) (.trans (by kernel_rfl) h)
def zkE:LoopI:=⟨[(0,.any),(1,.any),(7,.int .i64),(8,.int .i64)],[(.exit 0,[]),(.ret,[(4,.int .i64)])]⟩
def zlW (n:Nat):Option LoopI:=cond (Nat.beq n 2) (some zkE) (none)
noncomputable def zmK (cf:zan) (lf:zac) (s':Value) (q':Nat) (st:SS):Option (Value×SS):=
 ((lenV s').bind (asI .i64)).bind fun a=>
 (lf 2 [s',.func (.func 113) #[] #[ptr q' 0],.int .i64 a,.int .i64 0] (st.ro st.next)).bind fun b=>
 cond (Nat.beq b.1 0) (
 some (.int .i64 (-1),st.adv b.2.2.next)) (
 ((b.2.1[0]?).bind (asI .i64)).bind fun c=>
 some (.int .i64 c,st.adv b.2.2.next))
noncomputable abbrev zfg:zac:=lS Tryz.prog Lk0 Tryz.f133 zlW
theorem zqu:Lk0.func 133=some (133,Tryz.f133):=by kernel_rfl
theorem zlX [Sym] (s':Value) (q':Nat) (st:SS) {r:Value×SS} (h:zmK cc zfg s' q' st=some r):cc 133 [s',.func (.func 113) #[] #[ptr q' 0]] st=some r:=
 zaf (li:=zlW) zai zar zqu rfl (fun _=>rfl) (.trans (by kernel_rfl) h)
noncomputable def zgr (cf:zan) (lf:zac) (s':Value) (q':Nat) (t7':Int) (t8':Int) (st:SS):Option (Nat×List Value×SS):=
 cond (decide (t8'<t7')) (
 (zaw s' t8' 5).bind fun a=>
 (st.ldN a.1 a.2 5).bind fun b=>
 (cf 113 [b,ptr q' 0] st).bind fun c=>
 ((some c.1).bind asB).bind fun d=>
 cond d (
 some (1,[.int .i64 t8'],c.2)) (
 let e:Int:=IntKind.wrap .i64 (t8'+1)
 lf 2 [s',.func (.func 113) #[] #[ptr q' 0],.int .i64 t7',.int .i64 e] c.2)) (
 some (0,[],st))
theorem zf3 [Sym] (s':Value) (q':Nat) (t7':Int) (t8':Int) (st:SS) {r:Nat×List Value×SS} (h:zgr cc zfg s' q' t7' t8' st=some r):zfg 2 [s',.func (.func 113) #[] #[ptr q' 0],.int .i64 t7',.int .i64 t8'] st=some r:=
 zaA zai zar (key:=2) (I:=zkE) rfl (by kernel_rfl) (by kernel_rfl) rfl rfl (.trans (by kernel_rfl) h)
noncomputable def zrC (cf:zan) (lf:zac) (y':Value) (x1':Value) (st:SS):Option (Value×SS):=
 let a:SS:=(st.ro st.next).new (.cells (y':Value).cells.toList 0)
 ((a.ld ((st.ro st.next).next) 0).bind asS).bind fun b=>
 (addr? x1').bind fun c=>
 ((a.ld c.1 c.2).bind asS).bind fun d=>
 some (.bool (eqT b d),st.adv a.next)
noncomputable abbrev zrD:zac:=lS Tryz.prog Lk0 Tryz.f113 zaC
theorem zrE:Lk0.func 113=some (113,Tryz.f113):=by kernel_rfl
theorem zrF [Sym] (y':Value) (x1':Value) (st:SS) {r:Value×SS} (h:zrC cc zrD y' x1' st=some r):cc 113 [y',x1'] st=some r:=
 zaf (li:=zaC) zai zar zrE rfl (fun _=>rfl) (.trans (by kernel_rfl) h)
end Go.Proofs.YtifploedaacedaaGreatDoorE
namespace Go.Proofs.YtifploedaacedaaGreatDoorE
open Go Go.E Go.Proofs
def valRow (x:Val):List Value:=[.string (mkS x.nm),.int .i64 x.x,.int .i64 x.col]
def prRow (p:Pr):List Value:=[.string (mkS p.fd),.int .i64 p.col,.string (mkS p.v.nm),.int .i64 p.v.x,.int .i64 p.v.col]
abbrev Z3:List Value:=[.string ⟨#[]⟩,.int .i64 0,.int .i64 0]
theorem LineAt.sz {st:SS} {b i ln:Nat} {v:Value} {us:List (Nat×Tok)} {l:List Tok} (h:PAt st b v us i) (hl:LineAt us i ln l):i≤1099511627776:=by
 obtain ⟨t,r,rfl⟩:=hl.lin.ne
 have:=(List.getElem?_eq_some_iff.1 hl.head).1
 have:=h.sz
 omega
theorem zt2 {n:Int} (h0:0≤n) (h1:n≤2147483647):IntKind.wrap .i64 (0-n)= -n:=by rw [wrap64 (by omega) (by omega)];omega
def ValR (b:Nat) (v:Value) (us:List (Nat×Tok)) (i:Nat) (st:SS) (r:Option (Value×SS)):Except Nat (Val×Nat)→Prop
 | .ok (x,n)=>∃ st',r=some (.tuple #[.agg (valRow x).toArray,.bool true],st')∧Mod [b] st st'∧PAt st' b v us (i+n)
 | .error o=>∃ w st',r=some (.tuple #[.agg (valRow w).toArray,.bool false],st')∧Mod [b] st st'∧PAt st' b v us (i+o)
theorem zoB [Sym] {st:SS} {b i ln:Nat} {v:Value} {us:List (Nat×Tok)} {l:List Tok} (h:PAt st b v us i) (hl:LineAt us i ln l):
  ValR b v us i st (cc 94 [ptr b 0] st) (zea l):=by
 obtain ⟨t,r,rfl⟩:=hl.lin.ne
 have hb:=h.blk.lt
 have a1:At (st.new (.cells Z3 0)) st.next Z3:=At.new h.ll Z3
 have x1:Ext st (st.new (.cells Z3 0)):=(Ext.refl st).new _
 obtain ⟨n,hn,c1⟩:=zcn (h.ext x1).has hl.head
 have hn':st.next+1≤n:=hn
 obtain ⟨s5,e5,a5,x5,_⟩:=zlU (st:=(st.new (.cells Z3 0)).adv n) (zlt h.ll (by simp;omega)) (r:=Z3) (row:=[.string ⟨#[]⟩,.int .i64 0,.int .i64 t.col]) rfl rfl
 have x05:Ext st s5:=x1.trans ((Ext.advR _ hn).trans x5)
 have b5:At s5 st.next Z3:=(a1.adv hn).ext x5
 obtain ⟨s6,c6,m6,p6⟩:=ziR (h.ext x05) hl.head
 have a6:=a5.mod m6 (by simp;omega)
 have b6:=b5.mod m6 (by simp;omega)
 have M6:Mod [b] st s6:=(Mod.ofExt x05).then m6
 have k4:=(zcz (ln:=ln) (t:=t)).2.2.2
 have cN:∀ row:List Value,row.length=3→∀ d:List Value,d=row→True:=fun _ _ _ _=>trivial
 by_cases h2:t.kd=2
 ·rw [if_pos h2,zdt h2] at c6
  rw [if_pos h2] at p6
  obtain ⟨s9,e9,a9,m9,_⟩:=a6.sto (k:=1) (vs:=[.int .i64 t.nm]) (row':=valRow ⟨[],t.nm,t.col⟩) rfl rfl
  have b9:=b6.mod m9 (by simp;omega)
  obtain ⟨s11,f1,f2,f3,f4,_⟩:=zcm (n:=3) b9 rfl a9 rfl rfl
  rw [zfd,if_pos h2]
  refine ⟨s11,za0 _ st ?_,(M6.thenI m9 (.inl (by simp;omega))).thenI f4 (.inl (zlr _)),(p6.modI m9 (by simp;omega)).modI f4 hb⟩
  simp only [za1,c1,zob,k4,e5,c6,zaq,List.getElem?_toArray,zgs,zgz,zaa,zal,e9,zct,f1,f2,f3]
 ·rw [if_neg h2,zdf h2] at c6
  rw [if_neg h2] at p6
  obtain ⟨s9,e9,a9,m9,_⟩:=a6.sto (k:=1) (vs:=[.int .i64 0]) (row':=valRow ⟨[],0,t.col⟩) rfl rfl
  have b9:=b6.mod m9 (by simp;omega)
  have p9:=p6.modI m9 (by simp;omega)
  have M9:=M6.thenI m9 (.inl (by simp;omega))
  obtain ⟨s13,c13,m13,p13⟩:=zpN p9 hl.head
  have a13:=a9.mod m13 (by simp;omega)
  have b13:=b9.mod m13 (by simp;omega)
  have M13:=M9.then m13
  rw [zfd,if_neg h2]
  by_cases h1:t.kd=1
  ·rw [if_pos h1,zdt h1] at c13
   rw [if_pos h1] at p13
   rw [if_pos h1]
   have hl1:=hl.tail (by omega)
   obtain ⟨s,u,rfl⟩:=hl1.lin.ne
   obtain ⟨s16,e16,a16,m16,_⟩:=a13.sto (k:=0) (vs:=[.string (mkS t.tx)]) (row':=valRow ⟨t.tx,0,t.col⟩) rfl rfl
   have b16:=b13.mod m16 (by simp;omega)
   have p16:=p13.modI m16 (by simp;omega)
   have M16:=M13.thenI m16 (.inl (by simp;omega))
   obtain ⟨s20,c20,m20,p20⟩:=ziQ p16 hl1.head [43]
   have c20':cc 92 [ptr b 0,.string ⟨#[43]⟩] s16=some (.bool (zaE s [43]),s20):=c20
   have a20:=a16.mod m20 (by simp;omega)
   have b20:=b16.mod m20 (by simp;omega)
   have M20:=M16.then m20
   simp only
   by_cases hp:zaE s [43]=true
   ·rw [hp] at c20'
    rw [if_pos hp] at p20
    rw [if_pos hp]
    have hl2:=hl1.tail (by have:=zcO hp;omega)
    obtain ⟨w,z,rfl⟩:=hl2.lin.ne
    obtain ⟨s22,c22,m22,p22⟩:=ziR p20 hl2.head
    have a22:=a20.mod m22 (by simp;omega)
    have b22:=b20.mod m22 (by simp;omega)
    have M22:=M20.then m22
    simp only
    by_cases hw:w.kd=2
    ·rw [if_pos hw,zdt hw] at c22
     rw [if_pos hw] at p22
     rw [if_pos hw]
     obtain ⟨s25,e25,a25,m25,_⟩:=a22.sto (k:=1) (vs:=[.int .i64 w.nm]) (row':=valRow ⟨t.tx,w.nm,t.col⟩) rfl rfl
     have b25:=b22.mod m25 (by simp;omega)
     obtain ⟨s27,f1,f2,f3,f4,_⟩:=zcm (n:=3) b25 rfl a25 rfl rfl
     refine ⟨s27,za0 _ st ?_,(M22.thenI m25 (.inl (by simp;omega))).thenI f4 (.inl (zlr _)),(p22.modI m25 (by simp;omega)).modI f4 hb⟩
     simp only [za1,c1,zob,k4,e5,c6,zaq,List.getElem?_toArray,zgs,zgz,zaa,zal,e9,zcf,c13,zab,e16,znt,c20',zct,c22,e25,f1,f2,f3]
    ·rw [if_neg hw,zdf hw] at c22
     rw [if_neg hw] at p22
     rw [if_neg hw]
     obtain ⟨s25,e25,a25,m25,_⟩:=a22.sto (k:=1) (vs:=[.int .i64 0]) (row':=valRow ⟨t.tx,0,t.col⟩) rfl rfl
     have b25:=b22.mod m25 (by simp;omega)
     obtain ⟨s27,f1,f2,f3,f4,_⟩:=zcm (n:=3) b25 rfl a25 rfl rfl
     refine ⟨⟨t.tx,0,t.col⟩,s27,za0 _ st ?_,(M22.thenI m25 (.inl (by simp;omega))).thenI f4 (.inl (zlr _)),(p22.modI m25 (by simp;omega)).modI f4 hb⟩
     simp only [za1,c1,zob,k4,e5,c6,zaq,List.getElem?_toArray,zgs,zgz,zaa,zal,e9,zcf,c13,zab,e16,znt,c20',zct,c22,e25,f1,f2,f3]
   ·rw [if_neg hp] at p20
    have hp':zaE s [43]=false:=Bool.eq_false_iff.2 hp
    rw [hp'] at c20'
    rw [if_neg hp]
    obtain ⟨s29,c29,m29,p29⟩:=ziQ p20 hl1.head [45]
    have c29':cc 92 [ptr b 0,.string ⟨#[45]⟩] s20=some (.bool (zaE s [45]),s29):=c29
    have a29:=a20.mod m29 (by simp;omega)
    have b29:=b20.mod m29 (by simp;omega)
    have M29:=M20.then m29
    by_cases hm:zaE s [45]=true
    ·rw [hm] at c29'
     rw [if_pos hm] at p29
     rw [if_pos hm]
     have hl2:=hl1.tail (by have:=zcO hm;omega)
     obtain ⟨w,z,rfl⟩:=hl2.lin.ne
     obtain ⟨s31,c31,m31,p31⟩:=ziR p29 hl2.head
     have a31:=a29.mod m31 (by simp;omega)
     have b31:=b29.mod m31 (by simp;omega)
     have M31:=M29.then m31
     simp only
     by_cases hw:w.kd=2
     ·rw [if_pos hw,zdt hw] at c31
      rw [if_pos hw] at p31
      rw [if_pos hw]
      obtain ⟨s34,e34,a34,m34,_⟩:=a31.sto (k:=1) (vs:=[.int .i64 w.nm]) (row':=valRow ⟨t.tx,w.nm,t.col⟩) rfl rfl
      have b34:=b31.mod m34 (by simp;omega)
      have l34:s34.ld ((st.new (.cells Z3 0)).adv n).next 1=some (.int .i64 w.nm):=a34.ld
      obtain ⟨s37,e37,a37,m37,_⟩:=a34.sto (k:=1) (vs:=[.int .i64 (-w.nm)]) (row':=valRow ⟨t.tx, -w.nm,t.col⟩) rfl rfl
      have b37:=b34.mod m37 (by simp;omega)
      obtain ⟨s39,f1,f2,f3,f4,_⟩:=zcm (n:=3) b37 rfl a37 rfl rfl
      have hneg:=zt2 hl2.tok.nm0 hl2.tok.nm1
      refine ⟨s39,za0 _ st ?_,((M31.thenI m34 (.inl (by simp;omega))).thenI m37 (.inl (by simp;omega))).thenI f4 (.inl (zlr _)),((p31.modI m34 (by simp;omega)).modI m37 (by simp;omega)).modI f4 hb⟩
      simp only [za1,c1,zob,k4,e5,c6,zaq,List.getElem?_toArray,zgs,zgz,zaa,zal,e9,zcf,c13,zab,e16,znt,c20',c29',zct,c31,e34,l34,hneg,e37,f1,f2,f3]
     ·rw [if_neg hw,zdf hw] at c31
      rw [if_neg hw] at p31
      rw [if_neg hw]
      obtain ⟨s34,e34,a34,m34,_⟩:=a31.sto (k:=1) (vs:=[.int .i64 0]) (row':=valRow ⟨t.tx,0,t.col⟩) rfl rfl
      have b34:=b31.mod m34 (by simp;omega)
      have l34:s34.ld ((st.new (.cells Z3 0)).adv n).next 1=some (.int .i64 0):=a34.ld
      obtain ⟨s37,e37,a37,m37,_⟩:=a34.sto (k:=1) (vs:=[.int .i64 0]) (row':=valRow ⟨t.tx,0,t.col⟩) rfl rfl
      have b37:=b34.mod m37 (by simp;omega)
      obtain ⟨s39,f1,f2,f3,f4,_⟩:=zcm (n:=3) b37 rfl a37 rfl rfl
      have hneg:IntKind.wrap .i64 (0-0)=0:=by decide
      refine ⟨⟨t.tx,0,t.col⟩,s39,za0 _ st ?_,((M31.thenI m34 (.inl (by simp;omega))).thenI m37 (.inl (by simp;omega))).thenI f4 (.inl (zlr _)),((p31.modI m34 (by simp;omega)).modI m37 (by simp;omega)).modI f4 hb⟩
      simp only [za1,c1,zob,k4,e5,c6,zaq,List.getElem?_toArray,zgs,zgz,zaa,zal,e9,zcf,c13,zab,e16,znt,c20',c29',zct,c31,e34,l34,hneg,e37,f1,f2,f3]
    ·rw [if_neg hm] at p29
     have hm':zaE s [45]=false:=Bool.eq_false_iff.2 hm
     rw [hm'] at c29'
     rw [if_neg hm]
     obtain ⟨s42,f1,f2,f3,f4,_⟩:=zcm (n:=3) b29 rfl a29 rfl rfl
     refine ⟨s42,za0 _ st ?_,M29.thenI f4 (.inl (zlr _)),p29.modI f4 hb⟩
     simp only [za1,c1,zob,k4,e5,c6,zaq,List.getElem?_toArray,zgs,zgz,zaa,zal,e9,zcf,c13,zab,e16,znt,c20',c29',f1,f2,f3]
  ·rw [if_neg h1,zdf h1] at c13
   rw [if_neg h1] at p13
   rw [if_neg h1]
   obtain ⟨s16,e16,a16,m16,_⟩:=a13.sto (k:=0) (vs:=[.string (mkS [])]) (row':=valRow ⟨[],0,t.col⟩) rfl rfl
   have b16:=b13.mod m16 (by simp;omega)
   obtain ⟨s18,f1,f2,f3,f4,_⟩:=zcm (n:=3) b16 rfl a16 rfl rfl
   refine ⟨⟨[],0,t.col⟩,s18,za0 _ st ?_,(M13.thenI m16 (.inl (by simp;omega))).thenI f4 (.inl (zlr _)),(p13.modI m16 (by simp;omega)).modI f4 hb⟩
   simp only [za1,c1,zob,k4,e5,c6,zaq,List.getElem?_toArray,zgs,zgz,zaa,zal,e9,zcf,c13,zab,e16,znf,zct,f1,f2,f3]
theorem znn (p:Pr):(prRow p).length=5:=rfl
theorem zqv (p:Val):(valRow p).length=3:=rfl
theorem zrG [Sym] (p:Pr) (f:List UInt8) (q:Nat) (st:SS) (hq:st.mem.get q=some (.cells [.string (mkS f)] 0)) (hlt:q<st.next):∃ n,st.next≤n∧cc 113 [.agg (prRow p).toArray,ptr q 0] st=some (.bool (decide (p.fd=f)),st.adv n):=by
 refine ⟨st.next+1,by omega,zrF _ _ st ?_⟩
 have l0:((st.ro st.next).new (.cells (prRow p) 0)).ld st.next 0=some (.string (mkS p.fd)):=by
  have hm:((st.ro st.next).new (.cells (prRow p) 0)).mem.get st.next=some (.cells (prRow p) 0):=SS.new_get (st:=st.ro st.next)
  rw [SS.ld_cells hm];rfl
 have l1:((st.ro st.next).new (.cells (prRow p) 0)).ld q 0=some (.string (mkS f)):=by
  rw [SS.ld_cells (c:=[.string (mkS f)]) (z:=0) (by rw [SS.new_old (by simp;omega)];exact hq)];rfl
 simp only [zrC,zaF,SS.ro_next,l0,zob,zab,zad,l1,ze1]
 rfl
theorem zrH [Sym] (ps:List Pr) (hsz:ps.length≤1099511627776) (f:List UInt8) (q:Nat) (v:Value) (st0:SS) (hv:Rd st0 v (rowsF prRow ps) 5 ps.length) (hq:st0.mem.get q=some (.cells [.string (mkS f)] 0)) (hlt:q<st0.next):
  ∀ (k j:Nat) (st:SS),ps.length=k+j→Ext st0 st→∃ e vs st',zfg 2 [v,.func (.func 113) #[] #[ptr q 0],.int .i64 ps.length,.int .i64 j] st=some (e,vs,st')∧Ext st0 st'∧
   ((e=0∧vs=[]∧f∉(ps.drop j).map (·.fd))∨(e=1∧f∈(ps.drop j).map (·.fd)∧∃ m:Nat,vs=[.int .i64 m])):=by
 intro k
 induction k with
 | zero=>
   intro j st hk he
   refine ⟨0,[],st,zf3 v q _ _ st ?_,he,.inl ⟨rfl,rfl,?_⟩⟩
   ·have:¬ (j:Int)<(ps.length:Int):=by omega
    simp only [zgr,zdf this,zcf]
   ·rw [List.drop_of_length_le (by omega)];simp
 | succ k ih=>
   intro j st hk he
   obtain ⟨p,hp⟩:∃ p,ps[j]?=some p:=⟨_,zge (by omega)⟩
   have hjl:(j:Int)<(ps.length:Int):=by omega
   obtain ⟨x,b1,b2,_⟩:=(hv.ext he).load (j:=(j:Int)) (by omega) hjl (zbt znn ps j p hp) rfl
   obtain ⟨n,hn,c1⟩:=zrG p f q st (he.get hlt hq) (zll hlt he.next)
   have b2':st.ldN x.1 x.2 5=some (.agg (prRow p).toArray):=b2
   have hd:=drop_cons hp
   have hw:=zba (i:=j) (by omega)
   by_cases hf:p.fd=f
   ·refine ⟨1,[.int .i64 j],st.adv n,zf3 v q _ _ st ?_,he.adv (by have:=he.next;omega),.inr ⟨rfl,?_,j,rfl⟩⟩
    ·rw [zdt hf] at c1
     simp only [zgr,zdt hjl,zct,b1,zob,b2',c1,zal]
    ·rw [hd];simp [hf]
   ·obtain ⟨e,vs,st',d1,d2,d3⟩:=ih (j+1) (st.adv n) (by omega) (he.adv (by have:=he.next;omega))
    rw [zdf hf] at c1
    refine ⟨e,vs,st',zf3 v q _ _ st ?_,d2,?_⟩
    ·simp only [zgr,zdt hjl,zct,b1,zob,b2',c1,zal,zcf,hw]
     exact d1
    ·rw [hd]
     rcases d3 with ⟨e1,e2,e3⟩ | ⟨e1,e2,e3⟩
     ·exact .inl ⟨e1,e2,by simp only [List.map_cons,List.mem_cons,not_or];exact ⟨fun x=>hf x.symm,e3⟩⟩
     ·exact .inr ⟨e1,by simp only [List.map_cons,List.mem_cons];exact .inr e2,e3⟩
theorem zt3 [Sym] (ps:List Pr) (hsz:ps.length≤1099511627776) (f:List UInt8) (q:Nat) (v:Value) (st:SS) (hv:Rd st v (rowsF prRow ps) 5 ps.length) (hq:st.mem.get q=some (.cells [.string (mkS f)] 0)) (hlt:q<st.next):
  ∃ n,st.next≤n∧cc 112 [v,.func (.func 113) #[] #[ptr q 0]] st=some (.bool (decide (f∈ps.map (·.fd))),st.adv n):=by
 obtain ⟨e,vs,st',d1,d2,d3⟩:=zrH ps hsz f q v ((st.ro st.next).ro (st.ro st.next).next) hv hq hlt ps.length 0 ((st.ro st.next).ro (st.ro st.next).next) (by omega) (.refl _)
 have d1':zfg 2 [v,.func (.func 113) #[] #[ptr q 0],.int .i64 ps.length,.int .i64 0] ((st.ro st.next).ro (st.ro st.next).next)=some (e,vs,st'):=d1
 have hlen:(lenV v).bind (asI .i64)=some (ps.length:Int):=by rw [hv.len];rfl
 rw [List.drop_zero] at d3
 have hnx:=d2.next
 simp at hnx
 refine ⟨st'.next,hnx,zpl _ _ st ?_⟩
 rcases d3 with ⟨rfl,rfl,e3⟩ | ⟨rfl,e2,m,rfl⟩
 ·have c:cc 133 [v,.func (.func 113) #[] #[ptr q 0]] (st.ro st.next)=some (.int .i64 (-1),(st.ro st.next).adv st'.next):=by
   refine zlX _ _ _ ?_
   have hb0:Nat.beq 0 0=true:=rfl
   simp only [zmK,hlen,zob,d1',hb0,zct]
  have h0:¬ (0:Int)≤ -1:=by omega
  rw [zdf e3]
  simp only [zk1,c,zob,zaa,zdf h0]
  rfl
 ·have c:cc 133 [v,.func (.func 113) #[] #[ptr q 0]] (st.ro st.next)=some (.int .i64 m,(st.ro st.next).adv st'.next):=by
   refine zlX _ _ _ ?_
   have hb0:Nat.beq 1 0=false:=rfl
   simp only [zmK,hlen,zob,d1',hb0,zcf,zgz,zaa]
  have h0:(0:Int)≤(m:Int):=by omega
  rw [zdt e2]
  simp only [zk1,c,zob,zaa,zdt h0]
  rfl
end Go.Proofs.YtifploedaacedaaGreatDoorE
namespace Go.Proofs.YtifploedaacedaaGreatDoorE
open Go Go.E Go.Proofs
theorem PAt.keepB {S:List Nat} {st st':SS} {b i B:Nat} {v:Value} {us:List (Nat×Tok)} (h:PAt st b v us i) (k:Keep B S st st') (hB:b<B) (hS:∀ j,j∈S→b<j):PAt st' b v us i:=by
 refine ⟨h.blk.keepB k hB (fun hm=>by have:=hS b hm;omega),?_,h.vb,h.sz,k.ll h.ll⟩
 obtain ⟨h1,h2⟩:=h.rd
 refine ⟨h1,h2.imp id ?_⟩
 rintro ⟨j,cap,e,⟨z',hm⟩,hj⟩
 have hjb:=h.vb j 0 _ cap e
 exact ⟨j,cap,e,⟨z',(k.keep j (by omega) (fun hx=>by have:=hS j hx;omega)).trans hm⟩,zll hj k.next⟩
def PairR (B b lb:Nat) (w0 w1 w2 w3 pv v:Value) (us:List (Nat×Tok)) (i:Nat) (ps:List Pr) (st:SS) (r:Option (Value×SS)):Except Nat (Pr×Nat)→Prop
 | .ok (p,n)=>∃ st' pv',r=some (.bool true,st')∧Keep B [b,lb] st st'∧PAt st' b v us (i+n)∧At st' lb [w0,w1,w2,w3,pv']∧Own B st' pv' (rowsF prRow (ps++[p])) 5 (ps++[p]).length
 | .error o=>∃ st',r=some (.bool false,st')∧Keep B [b,lb] st st'∧PAt st' b v us (i+o)∧At st' lb [w0,w1,w2,w3,pv]∧Own B st' pv (rowsF prRow ps) 5 ps.length
theorem zt4 [Sym] {st:SS} {b i ln lb B:Nat} {v w0 w1 w2 w3 pv:Value} {us:List (Nat×Tok)} {l:List Tok} {ps:List Pr} (h:PAt st b v us i) (hl:LineAt us i ln l)
  (ha:At st lb [w0,w1,w2,w3,pv]) (hbl:b<lb) (hlB:lb<B) (hB:B≤st.next) (hps:ps.length≤1099511627776/8) (ho:Own B st pv (rowsF prRow ps) 5 ps.length):
  PairR B b lb w0 w1 w2 w3 pv v us i ps st (cc 95 [ptr b 0,ptr lb 0] st) (pairT (ps.map (·.fd)) l):=by
 obtain ⟨t,r,rfl⟩:=hl.lin.ne
 have hisz:=LineAt.sz h hl
 have hb:=h.blk.lt
 have hlim:st.lim≤B:=by have:=ha.2.2;omega
 obtain ⟨n1,hn1,c1⟩:=zcn h.has hl.head
 obtain ⟨s4,e4,a4,x4,_⟩:=zlU (st:=st.adv n1) (zlt h.ll hn1) (r:=[.string ⟨#[]⟩,.int .i64 0,.string ⟨#[]⟩,.int .i64 0,.int .i64 0]) (row:=prRow ⟨[],t.col,⟨[],0,0⟩⟩) rfl rfl
 have x04:Ext st s4:=(Ext.advR st hn1).trans x4
 obtain ⟨n2,hn2,c2⟩:=zcn (h.ext x04).has hl.head
 obtain ⟨s8,e8,a8,x8,_⟩:=zlU (st:=s4.adv n2) (zlt (x04.ll h.ll) hn2) (r:=[.string ⟨#[]⟩]) (row:=[.string (mkS t.tx)]) rfl rfl
 have x08:Ext st s8:=x04.trans ((Ext.advR s4 hn2).trans x8)
 have a48:=(a4.adv hn2).ext x8
 obtain ⟨n3,hn3,c3⟩:=zcn (h.ext x08).has hl.head
 have x03:Ext st (s8.adv n3):=x08.trans (.advR s8 hn3)
 have p3:=h.ext x03
 have la:=ha.ext x03
 have l4:(s8.adv n3).ld lb 4=some pv:=la.ld
 have k0:=(zcz (ln:=ln) (t:=t)).1
 have k1:=(zcz (ln:=ln) (t:=t)).2.1
 have k4:=(zcz (ln:=ln) (t:=t)).2.2.2
 have e4':((st.adv n1).new (.cells [.string ⟨#[]⟩,.int .i64 0,.string ⟨#[]⟩,.int .i64 0,.int .i64 0] 0)).st (st.adv n1).next 0 [.string ⟨#[]⟩,.int .i64 t.col,.string ⟨#[]⟩,.int .i64 0,.int .i64 0]=some s4:=e4
 rw [zgq]
 by_cases h1:t.kd=1
 case neg=>
  have h1':¬ (t.kd:Int)=1:=by omega
  rw [if_neg (fun x=>h1 x.1)]
  refine ⟨s8.adv n3,zbF _ _ st ?_,x03.keepB hB,p3,la,ho.ext x03⟩
  simp only [zbE,c1,zob,k4,e4',c2,k1,e8,c3,k0,zdf h1',znf,zct]
 have h1':(t.kd:Int)=1:=by omega
 obtain ⟨m,hm,c5⟩:=zt3 ps (by omega) t.tx (s4.adv n2).next pv (s8.adv n3) (ho.ext x03).rd (a8.adv hn3).mem (a8.adv hn3).lt
 have x05:Ext st ((s8.adv n3).adv m):=x03.trans (.advR _ hm)
 by_cases hk:t.tx∈ps.map (·.fd)
 ·rw [if_neg (fun x=>x.2 hk)]
  rw [zdt hk] at c5
  refine ⟨(s8.adv n3).adv m,zbF _ _ st ?_,x05.keepB hB,h.ext x05,ha.ext x05,ho.ext x05⟩
  simp only [zbE,c1,zob,k4,e4',c2,k1,e8,c3,k0,zdt h1',znt,zcf,zbq,zad,Nat.zero_add,l4,c5,zal,zct]
 rw [if_pos ⟨h1,hk⟩]
 rw [zdf hk] at c5
 have hl1:=hl.tail (by omega)
 obtain ⟨e,u,rfl⟩:=hl1.lin.ne
 have q8:=(a8.adv hn3).adv hm
 have l16:((s8.adv n3).adv m).ld (s4.adv n2).next 0=some (.string (mkS t.tx)):=q8.ld
 obtain ⟨s17,e17,a17,m17,_⟩:=((a48.adv hn3).adv hm).sto (k:=0) (vs:=[.string (mkS t.tx)]) (row':=prRow ⟨t.tx,t.col,⟨[],0,0⟩⟩) rfl rfl
 have hj1:B≤(st.adv n1).next:=zlt hB hn1
 have p17:=(h.ext x05).modI m17 (by omega)
 have la17:=(ha.ext x05).mod m17 (by simp;omega)
 have o17:=(ho.ext x05)
 have K17:Keep B [b,lb] st s17:=(x05.keepB hB).thenI m17 (zlt hB x05.next) (.inl hj1)
 have o17:Own B s17 pv (rowsF prRow ps) 5 ps.length:=by
  refine (ho.ext x05).mod m17 (fun j k l' q hv hm'=>?_)
  have hj:j=(st.adv n1).next:=by simpa using hm'
  obtain ⟨_,⟨ev,_⟩ | ⟨i',ev,_,_,_,hi'⟩⟩:=ho
  ·rw [ev] at hv;cases hv
  ·rw [ev] at hv;cases hv
   have:st.next≤(st.adv n1).next:=hn1
   omega
 have l17:s17.ld b 1=some (.int .i64 i):=p17.blk.ld
 obtain ⟨s24,e24,p24,m24,_⟩:=p17.move (i+1)
 have la24:=la17.mod m24 (by simp;omega)
 have a24:=a17.mod m24 (by simp;omega)
 have nx17:B≤s17.next:=zlt hB K17.next
 have K24:=K17.thenI m24 nx17 (.inr (by simp))
 have o24:=o17.modLt m24 (by simp;omega)
 have hw:=zba hisz
 obtain ⟨s25,c25,m25,p25⟩:=ziQ p24 hl1.head [61]
 have c25':cc 92 [ptr b 0,.string ⟨#[61]⟩] s24=some (.bool (zaE e [61]),s25):=c25
 have la25:=la24.mod m25 (by simp;omega)
 have a25:=a24.mod m25 (by simp;omega)
 have nx24:B≤s24.next:=zlt hB K24.next
 have K25:=K24.thenI m25 nx24 (.inr (by simp))
 have o25:=o24.modLt m25 (by simp;omega)
 simp only
 by_cases he:zaE e [61]=true
 case neg=>
  have he':zaE e [61]=false:=Bool.eq_false_iff.2 he
  rw [he'] at c25'
  rw [if_neg he] at p25
  rw [if_neg he]
  refine ⟨s25,zbF _ _ st ?_,K25,p25,la25,o25⟩
  simp only [zbE,c1,zob,k4,e4',c2,k1,e8,c3,k0,zdt h1',znt,zcf,zbq,zad,Nat.zero_add,l4,c5,zal,l16,zab,e17,l17,zaa,hw,e24,c25',znf,zct]
 rw [he] at c25'
 rw [if_pos he] at p25
 rw [if_pos he]
 have hl2:=hl1.tail (by have:=zcO he;omega)
 have nx25:B≤s25.next:=zlt hB K25.next
 have hval:=zoB p25 hl2
 cases hx:zea u with
 | error o=>
   rw [hx] at hval
   obtain ⟨w,s27,c27,m27,p27⟩:=hval
   have la27:=la25.mod m27 (by simp;omega)
   have a27:=a25.mod m27 (by simp;omega)
   have K27:=K25.thenI m27 nx25 (.inr (by simp))
   have o27:=o25.modLt m27 (by simp;omega)
   obtain ⟨s30,e30,a30,m30,_⟩:=a27.stV (k:=2) (n:=3) (zaF (valRow w)) rfl rfl (row':=prRow ⟨t.tx,t.col,w⟩) rfl
   have la30:=la27.mod m30 (by simp;omega)
   have nx27:B≤s27.next:=zlt hB K27.next
   have K30:=K27.thenI m30 nx27 (.inl hj1)
   have p30:=p27.modI m30 (by omega)
   have o30:Own B s30 pv (rowsF prRow ps) 5 ps.length:=by
    refine o27.mod m30 (fun j k l' q hv hm'=>?_)
    have hj:j=(st.adv n1).next:=by simpa using hm'
    obtain ⟨_,⟨ev,_⟩ | ⟨i',ev,_,_,_,hi'⟩⟩:=ho
    ·rw [ev] at hv;cases hv
    ·rw [ev] at hv;cases hv
     have:st.next≤(st.adv n1).next:=hn1
     omega
   refine ⟨s30,zbF _ _ st ?_,K30,by have e':i+1+1+o=i+(2+o):=by omega
                                    rw [← e'];exact p30,la30,o30⟩
   simp only [zbE,c1,zob,k4,e4',c2,k1,e8,c3,k0,zdt h1',znt,zcf,zbq,zad,Nat.zero_add,l4,c5,zal,l16,zab,e17,l17,zaa,hw,e24,c25',c27,zaq,List.getElem?_toArray,zgs,zgz,e30,znf,zct]
 | ok y=>
   obtain ⟨x,n⟩:=y
   rw [hx] at hval
   obtain ⟨s27,c27,m27,p27⟩:=hval
   have la27:=la25.mod m27 (by simp;omega)
   have a27:=a25.mod m27 (by simp;omega)
   have K27:=K25.thenI m27 nx25 (.inr (by simp))
   have o27:=o25.modLt m27 (by simp;omega)
   obtain ⟨s30,e30,a30,m30,_⟩:=a27.stV (k:=2) (n:=3) (zaF (valRow x)) rfl rfl (row':=prRow ⟨t.tx,t.col,x⟩) rfl
   have la30:=la27.mod m30 (by simp;omega)
   have nx27:B≤s27.next:=zlt hB K27.next
   have K30:=K27.thenI m30 nx27 (.inl hj1)
   have p30:=p27.modI m30 (by omega)
   have o30:Own B s30 pv (rowsF prRow ps) 5 ps.length:=by
    refine o27.mod m30 (fun j k l' q hv hm'=>?_)
    have hj:j=(st.adv n1).next:=by simpa using hm'
    obtain ⟨_,⟨ev,_⟩ | ⟨i',ev,_,_,_,hi'⟩⟩:=ho
    ·rw [ev] at hv;cases hv
    ·rw [ev] at hv;cases hv
     have:st.next≤(st.adv n1).next:=hn1
     omega
   have l33:s30.ld lb 4=some pv:=la30.ld
   have l34:s30.ldN (st.adv n1).next 0 5=some (.agg (prRow ⟨t.tx,t.col,x⟩).toArray):=a30.ldN rfl
   have hc35:zaS (.agg (prRow ⟨t.tx,t.col,x⟩).toArray) 5=some (prRow ⟨t.tx,t.col,x⟩):=zlS rfl
   have nx30:B≤s30.next:=zlt hB K30.next
   obtain ⟨pv',s37,g1,g2,g3⟩:=o30.pushK nx30 (by rw [K30.lim];exact hlim) (row:=prRow ⟨t.tx,t.col,x⟩) rfl (by omega) rfl (bt:=56) (by omega) (by omega)
   have la37:=la30.keepB (g3 []) hlB (by simp)
   have p37:=p30.keepB (g3 []) (by omega) (by simp)
   have K37:=K30.then (g3 _)
   obtain ⟨s40,e40,a40,m40,_⟩:=la37.stV (k:=4) (n:=1) g2.cell.1 rfl (by simp [g2.cell.2]) (row':=[w0,w1,w2,w3,pv']) rfl
   have nx37:B≤s37.next:=zlt hB K37.next
   have K40:=K37.thenI m40 nx37 (.inr (by simp))
   have p40:=p37.modI m40 hbl
   have o40:=g2.modLt m40 (by simp;omega)
   refine ⟨s40,pv',zbF _ _ st ?_,K40,by have e':i+1+1+n=i+(2+n):=by omega
                                        rw [← e'];exact p40,a40,?_⟩
   ·simp only [zbE,c1,zob,k4,e4',c2,k1,e8,c3,k0,zdt h1',znt,zcf,zbq,zad,Nat.zero_add,l4,c5,zal,l16,zab,e17,l17,zaa,hw,e24,c25',c27,zaq,List.getElem?_toArray,zgs,zgz,e30,l33,l34,hc35,List.append_nil,g1,e40]
   ·rw [zbQ,zdd,List.length_append];exact o40
end Go.Proofs.YtifploedaacedaaGreatDoorE
namespace Go.Proofs.YtifploedaacedaaGreatDoorE
open Go Go.E Go.Proofs
theorem LineAt.go {us:List (Nat×Tok)} {i ln n:Nat} {l:List Tok} (h:LineAt us i ln l) (hn:Lin (l.drop n)):LineAt us (i+n) ln (l.drop n):=by
 have hlt:n<l.length:=by
  obtain ⟨t,r,e⟩:=hn.ne
  have:=congrArg List.length e
  simp at this
  omega
 refine ⟨?_,hn,fun t ht=>h.ok t (List.mem_of_mem_drop ht)⟩
 obtain ⟨rest,hr⟩:=h.drop
 refine ⟨rest,?_⟩
 rw [← List.drop_drop,hr,List.drop_append_of_le_length (by simp;omega),List.map_drop]
theorem zmL {S:List Nat} {B:Nat} {st st':SS} {pv:Value} {c:List Value} {z n j:Nat} (ho:Own B st pv c z n) (m:Mod [j] st st') (hj:j<B∨st.next≤j):Own B st' pv c z n:=by
 refine ho.mod m (fun k k' l' q hv hm'=>?_)
 have hk:k=j:=by simpa using hm'
 obtain ⟨_,⟨ev,_⟩ | ⟨i',ev,_,_,hbi,hi'⟩⟩:=ho
 ·rw [ev] at hv;cases hv
 ·rw [ev] at hv;cases hv;omega
def zoC (B b lb j2:Nat) (w0 w1 w2 w3 v:Value) (us:List (Nat×Tok)) (i e:Nat) (ps:List Pr) (st:SS) (r:Option (Nat×List Value×SS)):Except Nat (List Pr)→Prop
 | .ok qs=>∃ st' pv',r=some (0,[ptr j2 0,ptr lb 0],st')∧Keep B [b,lb] st st'∧PAt st' b v us e∧At st' lb [w0,w1,w2,w3,pv']∧Own B st' pv' (rowsF prRow (ps++qs)) 5 (ps++qs).length
 | .error o=>∃ st' row,r=some (1,[ptr j2 0,.bool false],st')∧Keep B [b,lb,j2] st st'∧PAt st' b v us (i+o)∧At st' j2 row∧row.length=5∧row.all one=true
theorem zqw [Sym] {ln lb B b j2:Nat} {v w0 w1 w2 w3:Value} {us:List (Nat×Tok)} (hbj:b<j2) (hjl:j2<lb) (hlB:lb<B) (hw:one w0=true∧one w1=true∧one w2=true∧one w3=true):∀ (k i:Nat) (l:List Tok) (ps:List Pr) (pv:Value) (st:SS),l.length≤k→ps.length+k≤1099511627776/8→PAt st b v us i→LineAt us i ln l→
  At st lb [w0,w1,w2,w3,pv]→(∃ r2,At st j2 r2∧r2.length=5)→B≤st.next→Own B st pv (rowsF prRow ps) 5 ps.length→
  zoC B b lb j2 w0 w1 w2 w3 v us i (i+(l.length-1)) ps st (zaz 17 [ptr b 0,ptr j2 0,ptr lb 0] st) (zaZ k (ps.map (·.fd)) l):=by
 intro k
 induction k with
 | zero=>
   intro i l ps pv st hk _ h hl
   obtain ⟨t,r,rfl⟩:=hl.lin.ne
   simp at hk
 | succ k ih=>
   intro i l ps pv st hk hps h hl ha hj2 hB ho
   obtain ⟨t,r,rfl⟩:=hl.lin.ne
   obtain ⟨n1,hn1,c1⟩:=zcn h.has hl.head
   have k0:=(zcz (ln:=ln) (t:=t)).1
   have x1:Ext st (st.adv n1):=.advR st hn1
   unfold zaZ
   by_cases h0:t.kd=0
   ·rw [if_pos h0]
    have hr:=hl.lin.last h0
    subst hr
    have h0':(t.kd:Int)=0:=by omega
    refine ⟨st.adv n1,pv,zcu _ _ _ st ?_,x1.keepB hB,by simpa using h.ext x1,ha.ext x1,by simpa using ho.ext x1⟩
    simp only [zb6,c1,zob,k0,zdt h0',znt,zcf]
   ·rw [if_neg h0]
    have h0':¬ (t.kd:Int)=0:=by omega
    have hp:=zt4 (h.ext x1) hl (ha.ext x1) (by omega) hlB (zlt hB hn1) (by omega) (ho.ext x1)
    have hlin:=znm (seen:=ps.map (·.fd)) hl.lin
    cases hx:pairT (ps.map (·.fd)) (t::r) with
    | error o=>
      rw [hx] at hp
      obtain ⟨s3,c3,K3,p3,a3,o3⟩:=hp
      have K3':Keep B [b,lb] st s3:=(x1.keepB hB).then K3
      obtain ⟨r2,a2,l2⟩:=hj2
      have a23:=a2.keepB K3' (by omega) (by simp;omega)
      obtain ⟨s8,f1,f2,f3,f4,f5⟩:=zcm (n:=5) a23 l2 a3 rfl (by simp [hw,o3.cell.2])
      have nx3:B≤s3.next:=zlt hB K3'.next
      refine ⟨s8,[w0,w1,w2,w3,pv],zcu _ _ _ st ?_,(K3'.mono (zlr _) (fun j hj _=>by simp at hj ⊢;omega)).thenI f4 nx3 (.inr (by simp)),p3.modI f4 hbj,f5,rfl,by simp [hw,o3.cell.2]⟩
      simp only [zb6,c1,zob,k0,zdf h0',znf,zct,c3,zal,zad,f1,f2]
    | ok y=>
      obtain ⟨p,n⟩:=y
      rw [hx] at hp hlin
      obtain ⟨s3,pv',c3,K3,p3,a3,o3⟩:=hp
      simp only at hlin
      have K3':Keep B [b,lb] st s3:=(x1.keepB hB).then K3
      have hnl:n<(t::r).length:=by
       obtain ⟨t',r',e⟩:=hlin.1.ne
       have:=congrArg List.length e
       simp at this ⊢
       omega
      have hj23:∃ r2,At s3 j2 r2∧r2.length=5:=by
       obtain ⟨r2,a2,l2⟩:=hj2
       exact ⟨r2,a2.keepB K3' (by omega) (by simp;omega),l2⟩
      have next:=ih (i+n) ((t::r).drop n) (ps++[p]) pv' s3 (by rw [List.length_drop];omega) (by simp;omega) p3 (hl.go hlin.1) a3 hj23 (zlt hB K3'.next) o3
      have hend:i+n+(((t::r).drop n).length-1)=i+((t::r).length-1):=by rw [List.length_drop];omega
      rw [hend,List.map_append] at next
      have step:∀ y,zaz 17 [ptr b 0,ptr j2 0,ptr lb 0] s3=some y→zaz 17 [ptr b 0,ptr j2 0,ptr lb 0] st=some y:=fun y hy=>by
       refine zcu _ _ _ st ?_
       simp only [zb6,c1,zob,k0,zdf h0',znf,zct,c3,zal,znt,zcf]
       exact hy
      simp only
      have next':zoC B b lb j2 w0 w1 w2 w3 v us (i+n) (i+((t::r).length-1)) (ps++[p]) s3 (zaz 17 [ptr b 0,ptr j2 0,ptr lb 0] s3) (zaZ k (ps.map (·.fd)++[p.fd]) ((t::r).drop n)):=next
      cases hz:zaZ k (ps.map (·.fd)++[p.fd]) ((t::r).drop n) with
      | error o=>
        rw [hz] at next'
        obtain ⟨st',row,d1,d2,d3,d4,d5,d6⟩:=next'
        exact ⟨st',row,step _ d1,(K3'.mono (zlr _) (fun j hj _=>by simp at hj ⊢;omega)).then d2,by rw [Nat.add_assoc] at d3;exact d3,d4,d5,d6⟩
      | ok qs=>
        rw [hz] at next'
        obtain ⟨st',pv2,d1,d2,d3,d4,d5⟩:=next'
        exact ⟨st',pv2,step _ d1,K3'.then d2,d3,d4,by simpa using d5⟩
def ArgsR (B b lb j2:Nat) (w0 w1 w2 w4 v:Value) (us:List (Nat×Tok)) (i e:Nat) (vs:List Val) (st:SS) (r:Option (Nat×List Value×SS)):Except Nat (List Val)→Prop
 | .ok qs=>∃ st' av',r=some (0,[ptr j2 0,ptr lb 0],st')∧Keep B [b,lb] st st'∧PAt st' b v us e∧At st' lb [w0,w1,w2,av',w4]∧Own B st' av' (rowsF valRow (vs++qs)) 3 (vs++qs).length
 | .error o=>∃ st' row,r=some (1,[ptr j2 0,.bool false],st')∧Keep B [b,lb,j2] st st'∧PAt st' b v us (i+o)∧At st' j2 row∧row.length=5∧row.all one=true
theorem zrI [Sym] {ln lb B b j2:Nat} {v w0 w1 w2 w4:Value} {us:List (Nat×Tok)} (hbj:b<j2) (hjl:j2<lb) (hlB:lb<B) (hw:one w0=true∧one w1=true∧one w2=true∧one w4=true):∀ (k i:Nat) (l:List Tok) (vs:List Val) (av:Value) (st:SS),l.length≤k→vs.length+k≤1099511627776/8→PAt st b v us i→LineAt us i ln l→
  At st lb [w0,w1,w2,av,w4]→(∃ r2,At st j2 r2∧r2.length=5)→B≤st.next→Own B st av (rowsF valRow vs) 3 vs.length→
  ArgsR B b lb j2 w0 w1 w2 w4 v us i (i+(l.length-1)) vs st (zaz 11 [ptr b 0,ptr j2 0,ptr lb 0] st) (zdq k l):=by
 intro k
 induction k with
 | zero=>
   intro i l vs av st hk _ h hl
   obtain ⟨t,r,rfl⟩:=hl.lin.ne
   simp at hk
 | succ k ih=>
   intro i l vs av st hk hvs h hl ha hj2 hB ho
   obtain ⟨t,r,rfl⟩:=hl.lin.ne
   obtain ⟨n1,hn1,c1⟩:=zcn h.has hl.head
   have k0:=(zcz (ln:=ln) (t:=t)).1
   have x1:Ext st (st.adv n1):=.advR st hn1
   have hlim:st.lim≤B:=by have:=ha.2.2;omega
   unfold zdq
   by_cases h0:t.kd=0
   ·rw [if_pos h0]
    have hr:=hl.lin.last h0
    subst hr
    have h0':(t.kd:Int)=0:=by omega
    refine ⟨st.adv n1,av,zcs _ _ _ st ?_,x1.keepB hB,by simpa using h.ext x1,ha.ext x1,by simpa using ho.ext x1⟩
    simp only [zb5,c1,zob,k0,zdt h0',znt,zcf]
   ·rw [if_neg h0]
    have h0':¬ (t.kd:Int)=0:=by omega
    have hp:=zoB (h.ext x1) hl
    have hlin:=zjI hl.lin
    have nx1:B≤(st.adv n1).next:=zlt hB hn1
    cases hx:zea (t::r) with
    | error o=>
      rw [hx] at hp
      obtain ⟨w,s3,c3,m3,p3⟩:=hp
      have K3:Keep B [b,lb] st s3:=(x1.keepB hB).thenI m3 nx1 (.inr (by simp))
      have nx3:B≤s3.next:=zlt hB K3.next
      obtain ⟨s7,e7,a7,x7,_⟩:=zbk (st:=s3) p3.ll (r:=Z3) (zaF (valRow w)) (n:=3) rfl rfl rfl
      have K7:=K3.thenX x7 nx3
      have nx7:B≤s7.next:=zlt hB K7.next
      obtain ⟨r2,a2,l2⟩:=hj2
      have a27:=a2.keepB K7 (by omega) (by simp;omega)
      have la7:At s7 lb [w0,w1,w2,av,w4]:=(((ha.ext x1).mod m3 (by simp;omega))).ext x7
      have o7:=((ho.ext x1).modLt m3 (by simp;omega)).ext x7
      obtain ⟨s8,f1,f2,f3,f4,f5⟩:=zcm (n:=5) a27 l2 la7 rfl (by simp [hw,o7.cell.2])
      refine ⟨s8,[w0,w1,w2,av,w4],zcs _ _ _ st ?_,(K7.mono (zlr _) (fun j hj _=>by simp at hj ⊢;omega)).thenI f4 nx7 (.inr (by simp)),(p3.ext x7).modI f4 hbj,f5,rfl,by simp [hw,o7.cell.2]⟩
      simp only [zb5,c1,zob,k0,zdf h0',znf,zct,c3,zaq,List.getElem?_toArray,zgs,zgz,zal,e7,zad,f1,f2]
    | ok y=>
      obtain ⟨x,n⟩:=y
      rw [hx] at hp hlin
      obtain ⟨s3,c3,m3,p3⟩:=hp
      simp only at hlin
      have K3:Keep B [b,lb] st s3:=(x1.keepB hB).thenI m3 nx1 (.inr (by simp))
      have nx3:B≤s3.next:=zlt hB K3.next
      obtain ⟨s7,e7,a7,x7,_⟩:=zbk (st:=s3) p3.ll (r:=Z3) (zaF (valRow x)) (n:=3) rfl rfl rfl
      have K7:=K3.thenX x7 nx3
      have nx7:B≤s7.next:=zlt hB K7.next
      have la7:At s7 lb [w0,w1,w2,av,w4]:=(((ha.ext x1).mod m3 (by simp;omega))).ext x7
      have o7:=((ho.ext x1).modLt m3 (by simp;omega)).ext x7
      have l13:s7.ld lb 3=some av:=la7.ld
      have l14:s7.ldN s3.next 0 3=some (.agg (valRow x).toArray):=a7.ldN rfl
      have hc15:zaS (.agg (valRow x).toArray) 3=some (valRow x):=zlS rfl
      obtain ⟨av',s17,g1,g2,g3⟩:=o7.pushK nx7 (by rw [K7.lim];exact hlim) (row:=valRow x) rfl (by omega) rfl (bt:=32) (by omega) (by omega)
      have la17:=la7.keepB (g3 []) hlB (by simp)
      have p17:=(p3.ext x7).keepB (g3 []) (by omega) (by simp)
      have K17:=K7.then (g3 _)
      obtain ⟨s19,e19,a19,m19,_⟩:=la17.stV (k:=3) (n:=1) g2.cell.1 rfl (by simp [g2.cell.2]) (row':=[w0,w1,w2,av',w4]) rfl
      have nx17:B≤s17.next:=zlt hB K17.next
      have K19:=K17.thenI m19 nx17 (.inr (by simp))
      have p19:=p17.modI m19 (by omega)
      have o19:=g2.modLt m19 (by simp;omega)
      have o19':Own B s19 av' (rowsF valRow (vs++[x])) 3 (vs++[x]).length:=by rw [zbQ,zdd,List.length_append];exact o19
      have hnl:n<(t::r).length:=by
       obtain ⟨t',r',e⟩:=hlin.1.ne
       have:=congrArg List.length e
       simp at this ⊢
       omega
      have hj23:∃ r2,At s19 j2 r2∧r2.length=5:=by
       obtain ⟨r2,a2,l2⟩:=hj2
       exact ⟨r2,a2.keepB K19 (by omega) (by simp;omega),l2⟩
      have next:=ih (i+n) ((t::r).drop n) (vs++[x]) av' s19 (by rw [List.length_drop];omega) (by simp;omega) p19 (hl.go hlin.1) a19 hj23 (zlt hB K19.next) o19'
      have hend:i+n+(((t::r).drop n).length-1)=i+((t::r).length-1):=by rw [List.length_drop];omega
      rw [hend] at next
      have step:∀ y,zaz 11 [ptr b 0,ptr j2 0,ptr lb 0] s19=some y→zaz 11 [ptr b 0,ptr j2 0,ptr lb 0] st=some y:=fun y hy=>by
       refine zcs _ _ _ st ?_
       simp only [zb5,c1,zob,k0,zdf h0',znf,zct,c3,zaq,List.getElem?_toArray,zgs,zgz,zal,znt,zcf,e7,zad,l13,l14,hc15,List.append_nil,g1,e19]
       exact hy
      simp only
      cases hz:zdq k ((t::r).drop n) with
      | error o=>
        rw [hz] at next
        obtain ⟨st',row,d1,d2,d3,d4,d5,d6⟩:=next
        exact ⟨st',row,step _ d1,(K19.mono (zlr _) (fun j hj _=>by simp at hj ⊢;omega)).then d2,by rw [Nat.add_assoc] at d3;exact d3,d4,d5,d6⟩
      | ok qs=>
        rw [hz] at next
        obtain ⟨st',pv2,d1,d2,d3,d4,d5⟩:=next
        exact ⟨st',pv2,step _ d1,K19.then d2,d3,d4,by simpa using d5⟩
noncomputable def zfD (cf:zan) (lf:zac) (p':Value) (j2 lb:Nat) (s:SS):Option (Value×SS):=
 (cf 92 [p',.string ⟨#[46]⟩] s).bind fun a=>
  ((some a.1).bind asB).bind fun b=>
  cond b (
   (cf 93 [p'] a.2).bind fun c=>
   ((zaq c.1 0).bind asS).bind fun d=>
   ((zaq c.1 1).bind asB).bind fun e=>
   (c.2.st lb 2 [.string d]).bind fun f=>
   cond (!e) (
    (f.ldN lb 0 5).bind fun g=>
    (f.stV j2 0 5 g).bind fun h=>
    (h.rdN j2 0 5).bind fun i=>
    some (.tuple #[i,.bool false],h)) (
    (lf 11 [p',ptr j2 0,ptr lb 0] f).bind fun j=>
    cond (Nat.beq j.1 0) (
     (j.2.1[0]?).bind fun k=>
     (j.2.1[1]?).bind fun l=>
     (addr? l).bind fun m=>
     (j.2.2.ldN m.1 m.2 5).bind fun n=>
     (addr? k).bind fun o=>
     (j.2.2.stV o.1 o.2 5 n).bind fun p=>
     (addr? k).bind fun q=>
     (p.rdN q.1 q.2 5).bind fun r=>
     some (.tuple #[r,.bool true],p)) (
     (j.2.1[0]?).bind fun t=>
     ((j.2.1[1]?).bind asB).bind fun u=>
     (addr? t).bind fun v=>
     (j.2.2.rdN v.1 v.2 5).bind fun w=>
     some (.tuple #[w,.bool u],j.2.2)))) (
   (lf 17 [p',ptr j2 0,ptr lb 0] a.2).bind fun x=>
   cond (Nat.beq x.1 0) (
    (x.2.1[0]?).bind fun y=>
    (x.2.1[1]?).bind fun z=>
    (addr? z).bind fun A=>
    (x.2.2.ldN A.1 A.2 5).bind fun B=>
    (addr? y).bind fun C=>
    (x.2.2.stV C.1 C.2 5 B).bind fun D=>
    (addr? y).bind fun E=>
    (D.rdN E.1 E.2 5).bind fun F=>
    some (.tuple #[F,.bool true],D)) (
    (x.2.1[0]?).bind fun G=>
    ((x.2.1[1]?).bind asB).bind fun H=>
    (addr? G).bind fun I=>
    (x.2.2.rdN I.1 I.2 5).bind fun J=>
    some (.tuple #[J,.bool H],x.2.2)))
def zmM (ln:Nat) (x:PLine) (av pv:Value):Value:=.agg #[.int .i64 ln,.string (mkS x.lab),.string (mkS x.dir),av,pv]
def zgW (B b:Nat) (v:Value) (us:List (Nat×Tok)) (i e ln:Nat) (st:SS) (r:Option (Value×SS)):Except Nat PLine→Prop
 | .ok x=>∃ st' av pv,r=some (.tuple #[zmM ln x av pv,.bool true],st')∧Keep B [b] st st'∧PAt st' b v us e∧Own B st' av (rowsF valRow x.args) 3 x.args.length∧Own B st' pv (rowsF prRow x.prs) 5 x.prs.length
 | .error o=>∃ (st':SS) (row:List Value),r=some (.tuple #[.agg row.toArray,.bool false],st')∧Keep B [b] st st'∧PAt st' b v us (i+o)∧row.length=5∧row.all one=true
theorem zpO [Sym] {ln lb b j2 i B:Nat} {v:Value} {us:List (Nat×Tok)} {l:List Tok} {lab:List UInt8} {s:SS} (hBj:B≤j2) (hbB:b<B) (hjl:j2<lb) (hls:lb<s.next) (hsz:l.length≤1099511627776/8) (h:PAt s b v us i) (hl:LineAt us i ln l)
  (ha:At s lb [.int .i64 ln,.string (mkS lab),.string ⟨#[]⟩,.slice none 0 0,.slice none 0 0]) (hj2:∃ r2,At s j2 r2∧r2.length=5):
  zgW B b v us i (i+(l.length-1)) ln s (zfD cc zaz (ptr b 0) j2 lb s) (zc2 lab l):=by
 obtain ⟨t,r,rfl⟩:=hl.lin.ne
 have hb0:Nat.beq 0 0=true:=rfl
 have hb1:Nat.beq 1 0=false:=rfl
 have hBs:B≤s.next:=by omega
 have hbj:b<j2:=by omega
 obtain ⟨s23,c23,m23,p23⟩:=ziQ h hl.head [46]
 have c23':cc 92 [ptr b 0,.string ⟨#[46]⟩] s=some (.bool (zaE t [46]),s23):=c23
 have a23:=ha.mod m23 (by simp;omega)
 have hj23:∃ r2,At s23 j2 r2∧r2.length=5:=by obtain ⟨r2,a,l2⟩:=hj2;exact ⟨r2,a.mod m23 (by simp;omega),l2⟩
 have K23:Keep B [b] s s23:=m23.keepB hBs
 have nx23:=m23.next
 rw [zdr]
 by_cases hs:zaE t [46]=true
 ·rw [hs] at c23'
  rw [if_pos hs] at p23
  rw [if_pos hs]
  have hl1:=hl.tail (by have:=zcO hs;omega)
  obtain ⟨d,u,rfl⟩:=hl1.lin.ne
  obtain ⟨s25,c25,m25,p25⟩:=zpN p23 hl1.head
  have a25:=a23.mod m25 (by simp;omega)
  have hj25:∃ r2,At s25 j2 r2∧r2.length=5:=by obtain ⟨r2,a,l2⟩:=hj23;exact ⟨r2,a.mod m25 (by simp;omega),l2⟩
  have K25:=K23.thenM m25 (by omega)
  have nx25:=m25.next
  simp only
  by_cases hd:d.kd=1
  ·rw [if_pos hd,zdt hd] at c25
   rw [if_pos hd] at p25
   rw [if_pos hd]
   have hl2:=hl1.tail (by omega)
   obtain ⟨s28,e28,a28,m28,n28⟩:=a25.sto (k:=2) (vs:=[.string (mkS d.tx)]) (row':=[.int .i64 ln,.string (mkS lab),.string (mkS d.tx),.slice none 0 0,.slice none 0 0]) rfl rfl
   have hj28:∃ r2,At s28 j2 r2∧r2.length=5:=by obtain ⟨r2,a,l2⟩:=hj25;exact ⟨r2,a.mod m28 (by simp;omega),l2⟩
   have p28:=p25.modI m28 (by omega)
   have K28:=K25.thenI m28 (by omega) (.inl (by omega))
   have hloop:=zrI (B:=s28.next) hbj hjl (by omega) ⟨rfl,rfl,rfl,rfl⟩ u.length (i+1+1) u [] (.slice none 0 0) s28 (zlr _) (by simp at hsz ⊢;omega) p28 hl2 a28 hj28 (zlr _) (Own.nil _ _ _)
   cases hx:zdq u.length u with
   | error o=>
     rw [hx] at hloop
     obtain ⟨s32,row,d1,d2,d3,d4,d5,d6⟩:=hloop
     have hr:=d4.rdN d5
     refine ⟨s32,row,?_,(K28.then (d2.mono (by omega) (fun j hj hlt=>by simp at hj ⊢;omega))),(by rw [show i+(2+o)=i+1+1+o by omega];exact d3),d5,d6⟩
     simp only [zfD,c23',zob,zal,zct,c25,zaq,List.getElem?_toArray,zgs,zgz,zab,e28,znt,zcf,d1,hb1,zad,hr]
   | ok vs=>
     rw [hx] at hloop
     obtain ⟨s32,av',d1,d2,d3,d4,d5⟩:=hloop
     obtain ⟨r2,a2,l2⟩:=hj28
     have a232:=a2.keepB d2 (by have:=a28.lt;omega) (by simp;omega)
     obtain ⟨s38,f1,f2,f3,f4,f5⟩:=zcm (n:=5) a232 l2 d4 rfl (by simp only [List.all_cons,List.all_nil,d5.cell.2];rfl)
     have K32:Keep B [b] s s32:=K28.then (d2.mono (by omega) (fun j hj hlt=>by simp at hj ⊢;omega))
     have nx32:=d2.next
     refine ⟨s38,av',.slice none 0 0,?_,K32.thenI f4 (by omega) (.inl hBj),?_,((zmL (S:=[]) d5 f4 (.inl (by have:=a28.lt;omega))).low (by omega)),Own.nil _ _ _⟩
     ·simp only [zfD,c23',zob,zal,zct,c25,zaq,List.getElem?_toArray,zgs,zgz,zab,e28,znt,zcf,d1,hb0,zad,f1,f2,f3]
      rfl
     ·have e':i+1+1+(u.length-1)=i+((t::d::u).length-1):=by
       obtain ⟨z1,z2,rfl⟩:=hl2.lin.ne
       simp;omega
      rw [← e'];exact d3.modI f4 hbj
  ·rw [if_neg hd,zdf hd] at c25
   rw [if_neg hd] at p25
   rw [if_neg hd]
   obtain ⟨s28,e28,a28,m28,n28⟩:=a25.sto (k:=2) (vs:=[.string (mkS [])]) (row':=[.int .i64 ln,.string (mkS lab),.string (mkS []),.slice none 0 0,.slice none 0 0]) rfl rfl
   obtain ⟨r2,a2,l2⟩:=hj25
   have a228:=a2.mod m28 (by simp;omega)
   obtain ⟨s30,f1,f2,f3,f4,f5⟩:=zcm (n:=5) a228 l2 a28 rfl rfl
   have K28:=K25.thenI m28 (by omega) (.inl (by omega))
   refine ⟨s30,[.int .i64 ln,.string (mkS lab),.string (mkS []),.slice none 0 0,.slice none 0 0],?_,K28.thenI f4 (by omega) (.inl hBj),(p25.modI m28 (by omega)).modI f4 hbj,rfl,rfl⟩
   simp only [zfD,c23',zob,zal,zct,c25,zaq,List.getElem?_toArray,zgs,zgz,zab,e28,znf,f1,f2,f3]
 ·have hs':zaE t [46]=false:=Bool.eq_false_iff.2 hs
  rw [hs'] at c23'
  rw [if_neg hs] at p23
  rw [if_neg hs]
  have hloop:=zqw (B:=s23.next) hbj hjl (by omega) ⟨rfl,rfl,rfl,rfl⟩ (t::r).length i (t::r) [] (.slice none 0 0) s23 (zlr _) (by simp at hsz ⊢;omega) p23 hl a23 hj23 (zlr _) (Own.nil _ _ _)
  have hloop':zoC s23.next b lb j2 (.int .i64 ln) (.string (mkS lab)) (.string ⟨#[]⟩) (.slice none 0 0) v us i (i+((t::r).length-1)) [] s23 (zaz 17 [ptr b 0,ptr j2 0,ptr lb 0] s23) (zaZ (t::r).length [] (t::r)):=hloop
  cases hx:zaZ (t::r).length [] (t::r) with
  | error o=>
    rw [hx] at hloop'
    obtain ⟨s32,row,d1,d2,d3,d4,d5,d6⟩:=hloop'
    have hr:=d4.rdN d5
    refine ⟨s32,row,?_,(K23.then (d2.mono (by omega) (fun j hj hlt=>by simp at hj ⊢;omega))),d3,d5,d6⟩
    simp only [zfD,c23',zob,zal,zcf,d1,hb1,zad,hr,zgs,zgz]
  | ok ps=>
    rw [hx] at hloop'
    obtain ⟨s32,pv',d1,d2,d3,d4,d5⟩:=hloop'
    obtain ⟨r2,a2,l2⟩:=hj23
    have a232:=a2.keepB d2 (by have:=a23.lt;omega) (by simp;omega)
    obtain ⟨s38,f1,f2,f3,f4,f5⟩:=zcm (n:=5) a232 l2 d4 rfl (by simp only [List.all_cons,List.all_nil,d5.cell.2];rfl)
    have K32:Keep B [b] s s32:=K23.then (d2.mono (by omega) (fun j hj hlt=>by simp at hj ⊢;omega))
    have nx32:=d2.next
    refine ⟨s38,.slice none 0 0,pv',?_,K32.thenI f4 (by omega) (.inl hBj),d3.modI f4 hbj,Own.nil _ _ _,((zmL (S:=[]) d5 f4 (.inl (by have:=a23.lt;omega))).low (by omega))⟩
    simp only [zfD,c23',zob,zal,zcf,d1,hb0,zct,zad,f1,f2,f3,zgs,zgz]
    rfl
end Go.Proofs.YtifploedaacedaaGreatDoorE
namespace Go.Proofs.YtifploedaacedaaGreatDoorE
open Go Go.E Go.Proofs
theorem zgW.to {B b i e ln:Nat} {v:Value} {us:List (Nat×Tok)} {st s:SS} {r r':Option (Value×SS)} {x:Except Nat PLine} (h:zgW B b v us i e ln s r x) (K:Keep B [b] st s) (hr:∀ y,r=some y→r'=some y):zgW B b v us i e ln st r' x:=by
 cases x with
 | ok x=>obtain ⟨st',av,pv,a,k,c⟩:=h;exact ⟨st',av,pv,hr _ a,K.then k,c⟩
 | error o=>obtain ⟨st',row,a,k,c⟩:=h;exact ⟨st',row,hr _ a,K.then k,c⟩
def offE (d:Nat):Except Nat PLine→Except Nat PLine
 | .error o=>.error (d+o)
 | .ok x=>.ok x
theorem zgW.off {B b i d e ln:Nat} {v:Value} {us:List (Nat×Tok)} {s:SS} {r:Option (Value×SS)} {x:Except Nat PLine} (h:zgW B b v us (i+d) e ln s r x):zgW B b v us i e ln s r (offE d x):=by
 cases x with
 | ok x=>exact h
 | error o=>obtain ⟨st',row,a,k,c,dd⟩:=h;exact ⟨st',row,a,k,by rw [← Nat.add_assoc];exact c,dd⟩
abbrev L5:List Value:=[.int .i64 0,.string ⟨#[]⟩,.string ⟨#[]⟩,.slice none 0 0,.slice none 0 0]
theorem zjK (t:Tok):zaE t [58]=(decide ((t.kd:Int)=3)&&decide (t.tx=[58])):=by
 unfold zaE
 congr 1
 by_cases h:t.kd=3
 ·have:(t.kd:Int)=3:=by omega
  rw [zdt h,zdt this]
 ·have:¬ (t.kd:Int)=3:=by omega
  rw [zdf h,zdf this]
theorem zsO [Sym] {st:SS} {ln b i:Nat} {v:Value} {us:List (Nat×Tok)} {l:List Tok} (hsz:l.length≤1099511627776/8) (h:PAt st b v us i) (hl:LineAt us i ln l):
  zgW st.next b v us i (i+(l.length-1)) ln st (cc 68 [ptr b 0] st) (readT l):=by
 obtain ⟨t,r,rfl⟩:=hl.lin.ne
 have hisz:=LineAt.sz h hl
 have hb:=h.blk.lt
 have a1:At (st.new (.cells L5 0)) st.next L5:=At.new h.ll L5
 have x1:Ext st (st.new (.cells L5 0)):=(Ext.refl st).new _
 obtain ⟨n1,hn1,c1⟩:=zcn (h.ext x1).has hl.head
 have hn1':st.next+1≤n1:=hn1
 obtain ⟨s5,e5,a5,x5,_⟩:=zlU (st:=(st.new (.cells L5 0)).adv n1) (zlt h.ll (by simp;omega)) (r:=L5) (row:=[.int .i64 ln,.string (mkS []),.string ⟨#[]⟩,.slice none 0 0,.slice none 0 0]) rfl rfl
 have e5':(((st.new (.cells L5 0)).adv n1).new (.cells L5 0)).st ((st.new (.cells L5 0)).adv n1).next 0 [.int .i64 ln,.string ⟨#[]⟩,.string ⟨#[]⟩,.slice none 0 0,.slice none 0 0]=some s5:=e5
 have x05:Ext st s5:=x1.trans ((Ext.advR _ hn1).trans x5)
 have b5:=(a1.adv hn1).ext x5
 have p5:=h.ext x05
 have k3:=(zcz (ln:=ln) (t:=t)).2.2.1
 have k0:=(zcz (ln:=ln) (t:=t)).1
 have k1:=(zcz (ln:=ln) (t:=t)).2.1
 obtain ⟨u,hu,hread⟩:∃ u,us[if t.kd=0 then i else i+1]?=some (ln,u)∧((t.kd=1∧zaE u [58]=true∧∃ r',r=u::r')∨(¬ (t.kd=1∧zaE u [58]=true)∧readT (t::r)=zc2 [] (t::r))):=by
  by_cases h0:t.kd=0
  ·have hr:=hl.lin.last h0
   subst hr
   exact ⟨t,by rw [if_pos h0];exact hl.head,.inr ⟨fun x=>by omega,rfl⟩⟩
  ·have hl1:=hl.tail h0
   obtain ⟨u,r',rfl⟩:=hl1.lin.ne
   refine ⟨u,by rw [if_neg h0];exact hl1.head,?_⟩
   by_cases hc:t.kd=1∧zaE u [58]=true
   ·exact .inl ⟨hc.1,hc.2,r',rfl⟩
   ·exact .inr ⟨hc,by rw [zfW,if_neg hc]⟩
 obtain ⟨n2,hn2,c2⟩:=zt1 p5.has hl.head hu
 obtain ⟨s8,e8,a8,x8,_⟩:=zbk (st:=s5.adv n2) (zlt (x05.ll h.ll) hn2) (r:=Z5) (zaF (zaV ln u)) (n:=5) rfl rfl rfl
 have x08:Ext st s8:=x05.trans ((Ext.advR _ hn2).trans x8)
 obtain ⟨n3,hn3,c3⟩:=zcn (h.ext x08).has hl.head
 have x58:Ext s5 (s8.adv n3):=((Ext.advR _ hn2).trans x8).trans (.advR _ hn3)
 have x09:Ext st (s8.adv n3):=x05.trans x58
 have p9:=h.ext x09
 have a9:=a5.ext x58
 have b9:=b5.ext x58
 have q9:=a8.ext (Ext.advR _ hn3)
 have l0:(s8.adv n3).ld (s5.adv n2).next 0=some (.int .i64 u.kd):=q9.ld
 have l1:(s8.adv n3).ld (s5.adv n2).next 1=some (.string (mkS u.tx)):=q9.ld
 have hlb:st.next<((st.new (.cells L5 0)).adv n1).next:=by simp;omega
 rcases hread with ⟨hk,hc,r',rfl⟩ | ⟨hc,hread⟩
 ·
  have hoff:readT (t::u::r')=offE 2 (zc2 t.tx r'):=by
   rw [zfW,if_pos ⟨hk,hc⟩]
   cases zc2 t.tx r'<;>rfl
  rw [hoff]
  rw [zjK,zae,decide_eq_true_eq,decide_eq_true_eq] at hc
  have hk':(t.kd:Int)=1:=by omega
  have hl2:=(hl.tail (by omega)).tail (by omega)
  obtain ⟨n4,hn4,c4⟩:=zcn p9.has hl.head
  have x010:Ext st ((s8.adv n3).adv n4):=x09.trans (.advR _ hn4)
  obtain ⟨s15,e15,a15,m15,_⟩:=(a9.adv hn4).sto (k:=1) (vs:=[.string (mkS t.tx)]) (row':=[.int .i64 ln,.string (mkS t.tx),.string ⟨#[]⟩,.slice none 0 0,.slice none 0 0]) rfl rfl
  have p15:=(h.ext x010).modI m15 (by omega)
  have b15:=(b9.adv hn4).mod m15 (by simp;omega)
  have M15:Mod [b] st s15:=(Mod.ofExt x010).thenI m15 (.inl (by omega))
  have l18:s15.ld b 1=some (.int .i64 i):=p15.blk.ld
  have hw:IntKind.wrap .i64 ((i:Int)+2)=((i+2:Nat):Int):=wrapI hisz (k:=2) (by omega)
  obtain ⟨s22,e22,p22,m22,n22⟩:=p15.move (i+2)
  have a22:=a15.mod m22 (by simp;omega)
  have b22:=b15.mod m22 (by simp;omega)
  have M22:=M15.then m22
  have ht:=zpO (B:=st.next) (zlr _) hb hlb a22.lt (by simp at hsz ⊢;omega) p22 hl2 a22 ⟨_,b22,rfl⟩
  have hend:i+2+(r'.length-1)=i+((t::u::r').length-1):=by
   obtain ⟨z1,z2,rfl⟩:=hl2.lin.ne
   simp;omega
  rw [hend] at ht
  refine zgW.to (zgW.off (d:=2) ht) (M22.keepB (zlr _)) fun y hy=>?_
  refine ze0 _ st ?_
  have hq:eqT (mkS u.tx) ⟨#[58]⟩=true:=by
   have:eqT (mkS u.tx) (mkS [58])=decide (u.tx=[58]):=ze1 _ _
   rw [zdt hc.2] at this;exact this
  simp only [zcb,c1,zob,k3,e5',c2,e8,c3,k0,zdt hk',zct,l0,l1,zaa,zab,zdt hc.1,hq,c4,k1,e15,zbq,zad,Nat.zero_add,l18,hw,e22]
  exact hy
 ·rw [hread]
  have ht:=zpO (B:=st.next) (s:=s8.adv n3) (zlr _) hb hlb a9.lt hsz p9 hl a9 ⟨_,b9,rfl⟩
  refine zgW.to ht (x09.keepB (zlr _)) fun y hy=>?_
  refine ze0 _ st ?_
  by_cases hk:t.kd=1
  ·have hk':(t.kd:Int)=1:=by omega
   by_cases h3:(u.kd:Int)=3
   ·have hx:¬ u.tx=[58]:=fun e=>hc ⟨hk,by rw [zjK,zdt h3,zdt e];rfl⟩
    have hq:eqT (mkS u.tx) ⟨#[58]⟩=false:=by
     have:eqT (mkS u.tx) (mkS [58])=decide (u.tx=[58]):=ze1 _ _
     rw [zdf hx] at this;exact this
    simp only [zcb,c1,zob,k3,e5',c2,e8,c3,k0,zdt hk',zct,l0,l1,zaa,zab,zdt h3,hq,zcf]
    exact hy
   ·simp only [zcb,c1,zob,k3,e5',c2,e8,c3,k0,zdt hk',zct,l0,zaa,zdf h3,zcf]
    exact hy
  ·have hk':¬ (t.kd:Int)=1:=by omega
   simp only [zcb,c1,zob,k3,e5',c2,e8,c3,k0,zdf hk',zcf]
   exact hy
theorem zrJ {lab:List UInt8} {l:List Tok} {x:PLine} (h:zc2 lab l=.ok x):x.lab=lab:=by
 cases l with
 | nil=>cases h
 | cons t r=>
   rw [zdr] at h
   repeat' (split at h)
   all_goals first
    | (cases h;done)
    | (cases h;rfl)
theorem zsP {k:Nat} {seen:List (List UInt8)} {t:Tok} {r:List Tok} {ps:List Pr} (hk:t.kd≠0) (h:zaZ (k+1) seen (t::r)=.ok ps):ps≠[]:=by
 unfold zaZ at h
 rw [if_neg hk] at h
 cases hx:pairT seen (t::r) with
 | error o=>rw [hx] at h;cases h
 | ok y=>
   obtain ⟨p,n⟩:=y
   rw [hx] at h
   simp only at h
   cases hz:zaZ k (seen++[p.fd]) ((t::r).drop n) with
   | error o=>rw [hz] at h;cases h
   | ok qs=>rw [hz] at h;cases h;simp
theorem zrK {l:List Tok} {x:PLine} (hl:Lin l) (hok:∀ t∈l,TokOk t) (h:readT l=.ok x):(x.lab≠[]∨x.dir≠[]∨x.prs≠[])↔1<l.length:=by
 obtain ⟨t,r,rfl⟩:=hl.ne
 cases r with
 | nil=>
   have h0:t.kd=0:=by
    rcases hl with h | h
    ·exact h.1
    ·exact h.2.elim
   have hs:zaE t [46]=false:=by simp [zaE,h0]
   have h':zc2 [] [t]=.ok x:=h
   rw [zdr,hs] at h'
   have e:zaZ [t].length [] [t]=.ok []:=by
    show zaZ 1 [] [t]=_
    unfold zaZ
    rw [if_pos h0]
   rw [e] at h'
   cases h'
   simp
 | cons s r=>
   have hk:t.kd≠0:=by
    rcases hl with h | h
    ·exact absurd h.2 (by simp)
    ·exact h.1
   refine ⟨fun _=>by simp,fun _=>?_⟩
   rw [zfW] at h
   split at h
   ·rename_i hc
    cases hx:zc2 t.tx r with
    | error o=>rw [hx] at h;cases h
    | ok y=>
      rw [hx] at h;cases h
      left
      rw [zrJ hx]
      exact (hok t (List.mem_cons_self ..)).tx hc.1
   ·rw [zdr] at h
    split at h
    ·rename_i hs
     have hl1:=hl.tail hk
     simp only at h
     split at h
     ·rename_i hd
      split at h
      ·cases h
      ·cases h
       exact .inr (.inl ((hok s (by simp)).tx hd))
     ·cases h
    ·split at h
     ·cases h
     ·rename_i ps hp
      cases h
      exact .inr (.inr (zsP hk hp))
end Go.Proofs.YtifploedaacedaaGreatDoorE
namespace Go.Proofs.YtifploedaacedaaGreatDoorE
open Go Go.E Go.Proofs
def RdB (st:SS) (lo hi:Nat) (v:Value) (c:List Value) (z n:Nat):Prop:=Rd st v c z n∧∀ j k l q,v=.slice (some ⟨j,k,none⟩) l q→lo<j∧j<hi
theorem Own.rdB {B lo hi:Nat} {st:SS} {v:Value} {c:List Value} {z n:Nat} (h:Own B st v c z n) (hlo:lo<B) (hhi:st.next≤hi):RdB st lo hi v c z n:=by
 refine ⟨h.rd,fun j k l q hv=>?_⟩
 obtain ⟨_,⟨ev,_⟩ | ⟨i',ev,_,_,hbi,hi'⟩⟩:=h
 ·rw [ev] at hv;cases hv
 ·rw [ev] at hv;cases hv;omega
theorem RdB.go {st st':SS} {lo hi hi':Nat} {v:Value} {c:List Value} {z n:Nat} (h:RdB st lo hi v c z n) (hh:hi≤hi') (hn:st.next≤st'.next) (hk:∀ j,j<st.next→lo<j→j<hi→st'.mem.get j=st.mem.get j):RdB st' lo hi' v c z n:=by
 obtain ⟨⟨h1,h2⟩,h3⟩:=h
 refine ⟨⟨h1,h2.imp id ?_⟩,fun j k l q hv=>by have:=h3 j k l q hv;omega⟩
 rintro ⟨i,cap,e,⟨z',hm⟩,hi⟩
 have:=h3 i 0 n cap e
 exact ⟨i,cap,e,⟨z',(hk i hi this.1 this.2).trans hm⟩,zll hi hn⟩
abbrev Item:=PLine×Value×Value
def lnRow (x:Item):List Value:=[.int .i64 x.1.ln,.string (mkS x.1.lab),.string (mkS x.1.dir),x.2.1,x.2.2]
theorem zrL (x:Item):(lnRow x).length=5:=rfl
def ItB (st:SS) (lo hi:Nat) (x:Item):Prop:=RdB st lo hi x.2.1 (rowsF valRow x.1.args) 3 x.1.args.length∧RdB st lo hi x.2.2 (rowsF prRow x.1.prs) 5 x.1.prs.length
structure Coll (st:SS) (lo m B:Nat) (v:Value) (its:List Item):Prop where
 own:Own B st v (rowsF lnRow its) 5 its.length
 blk:∀ j k l q,v=.slice (some ⟨j,k,none⟩) l q→m≤j
 it:∀ x∈its,ItB st lo m x
 lo:lo<B
 le:m≤st.next
def zjL (st:SS) (v:Value) (xs:List PLine):Prop:=∃ its:List Item,its.map (·.1)=xs∧Rd st v (rowsF lnRow its) 5 its.length∧
 ∀ x∈its,Rd st x.2.1 (rowsF valRow x.1.args) 3 x.1.args.length∧Rd st x.2.2 (rowsF prRow x.1.prs) 5 x.1.prs.length
theorem zjL.ext {st st':SS} {v:Value} {xs:List PLine} (h:zjL st v xs) (x:Ext st st'):zjL st' v xs:=by
 obtain ⟨its,a,b,c⟩:=h
 exact ⟨its,a,b.ext x,fun y hy=>⟨(c y hy).1.ext x,(c y hy).2.ext x⟩⟩
theorem Coll.lines {st:SS} {lo m B:Nat} {v:Value} {its:List Item} (h:Coll st lo m B v its):zjL st v (its.map (·.1)):=⟨its,rfl,h.own.rd,fun x hx=>⟨(h.it x hx).1.1,(h.it x hx).2.1⟩⟩
theorem Coll.keep {st st':SS} {lo m B:Nat} {v:Value} {its:List Item} (h:Coll st lo m B v its) (k:Keep st.next [lo] st st'):Coll st' lo m B v its:=by
 refine ⟨?_,h.blk,fun x hx=>?_,h.lo,zlt h.le k.next⟩
 ·obtain ⟨h1,h2⟩:=h.own
  refine ⟨h1,h2.imp id ?_⟩
  rintro ⟨i,e,h0,hm,hb,hi⟩
  exact ⟨i,e,h0,(k.keep i hi (by have:=h.lo;simp;omega)).trans hm,hb,zll hi k.next⟩
 ·obtain ⟨h1,h2⟩:=h.it x hx
  exact ⟨h1.go (zlr _) k.next fun j hj h1 h2=>k.keep j hj (by simp;omega),h2.go (zlr _) k.next fun j hj h1 h2=>k.keep j hj (by simp;omega)⟩
theorem Coll.ext {st st':SS} {lo m B:Nat} {v:Value} {its:List Item} (h:Coll st lo m B v its) (x:Ext st st'):Coll st' lo m B v its:=h.keep (x.keepB (zlr _))
theorem Coll.push {st:SS} {lo m B:Nat} {v:Value} {its:List Item} (h:Coll st lo m B v its) (x:Item) (hB:B≤st.next) (hl:st.lim≤B) (hn:its.length≤1099511627776/8)
  (ho1:one x.2.1=true) (ho2:one x.2.2=true) (h1:RdB st lo st.next x.2.1 (rowsF valRow x.1.args) 3 x.1.args.length) (h2:RdB st lo st.next x.2.2 (rowsF prRow x.1.prs) 5 x.1.prs.length)
  (hne1:∀ j k l q k' l' q',v=.slice (some ⟨j,k,none⟩) l q→x.2.1≠.slice (some ⟨j,k',none⟩) l' q') (hne2:∀ j k l q k' l' q',v=.slice (some ⟨j,k,none⟩) l q→x.2.2≠.slice (some ⟨j,k',none⟩) l' q'):
  ∃ v' st',(st.new (.cells (lnRow x) 5)).app 5 88 v (.slice (some ⟨st.next,0,none⟩) 1 1)=some (v',st')∧Coll st' lo st.next B v' (its++[x])∧∀ S,Keep B S st st':=by
 obtain ⟨k,st',g1,gk,g2,g3,g4,g5⟩:=h.own.pushN hB hl (zrL x) (by omega) (by simp only [lnRow,List.all_cons,List.all_nil,ho1,ho2];rfl) (bt:=88) (by omega) (by omega)
 have kept:∀ j,j<st.next→(∀ k l q,v≠.slice (some ⟨j,k,none⟩) l q)→st'.mem.get j=st.mem.get j:=fun j hj hv=>g5 j hj fun q=>hv 0 q q
 refine ⟨_,st',g1,⟨?_,?_,?_,h.lo,g4⟩,fun S=>⟨g4,g3,fun j hj _=>kept j (by omega) fun k l q hv=>?_⟩⟩
 ·rw [zbQ,zdd,List.length_append];exact g2
 ·intro j k' l q hv;cases hv;exact gk
 ·intro y hy
  rcases List.mem_append.1 hy with hy | hy
  ·obtain ⟨i1,i2⟩:=h.it y hy
   exact ⟨i1.go h.le g4 fun j hj _ hjm=>kept j hj fun k l q hv=>by have:=h.blk j k l q hv;omega,i2.go h.le g4 fun j hj _ hjm=>kept j hj fun k l q hv=>by have:=h.blk j k l q hv;omega⟩
  ·have:y=x:=by simpa using hy
   subst this
   refine ⟨?_,?_⟩
   ·obtain ⟨⟨c1,c2⟩,c3⟩:=h1
    refine ⟨⟨c1,c2.imp id ?_⟩,c3⟩
    rintro ⟨i,cap,e,⟨z',hm⟩,hi⟩
    exact ⟨i,cap,e,⟨z',(kept i hi fun k l q hv=>hne1 i k l q 0 _ cap hv e).trans hm⟩,zll hi g4⟩
   ·obtain ⟨⟨c1,c2⟩,c3⟩:=h2
    refine ⟨⟨c1,c2.imp id ?_⟩,c3⟩
    rintro ⟨i,cap,e,⟨z',hm⟩,hi⟩
    exact ⟨i,cap,e,⟨z',(kept i hi fun k l q hv=>hne2 i k l q 0 _ cap hv e).trans hm⟩,zll hi g4⟩
 ·obtain ⟨_,⟨ev,_⟩ | ⟨i',ev,_,_,hbi,hi'⟩⟩:=h.own
  ·rw [ev] at hv;cases hv
  ·rw [ev] at hv;cases hv;omega
theorem zrM (k:Nat) (ts:List Tok) (r:List (List Tok)):flat k (ts::r)=ts.map (fun t=>(k+1,t))++flat (k+1) r:=rfl
theorem zrN {us:List (Nat×Tok)} {i k:Nat} {ts:List Tok} {r:List (List Tok)} (h:us.drop i=flat k (ts::r)):us.drop (i+ts.length)=flat (k+1) r:=by
 rw [← List.drop_drop,h,zrM]
 rw [List.drop_append_of_le_length (by simp),List.drop_of_length_le (by simp),List.nil_append]
def zlY (B lo b0:Nat) (st:SS) (its:List Item) (r:Option (Nat×List Value×SS)):Except (Nat×Nat) (List PLine)→Prop
 | .ok xs=>∃ v st' m its',r=some (0,[ptr b0 0,v],st')∧Keep B [lo] st st'∧its'.map (·.1)=its.map (·.1)++xs∧Coll st' lo m B v its'
 | .error e=>∃ st',r=some (1,[.slice none 0 0,ptr b0 0,.int .i64 4],st')∧Keep B [lo,b0] st st'∧At st' b0 [.int .i64 e.1,.int .i64 e.2]
theorem zlY.to {B lo b0:Nat} {st s:SS} {its its':List Item} {x:PLine} {c:Bool} {r r':Option (Nat×List Value×SS)} {y:Except (Nat×Nat) (List PLine)} (h:zlY B lo b0 s its' r y) (K:Keep B [lo] st s) (hr:∀ z,r=some z→r'=some z) (hi:its'.map (·.1)=its.map (·.1)++(if c=true then [x] else [])):
  zlY B lo b0 st its r' (match y with
   | .error e=>.error e
   | .ok xs=>.ok (if c=true then x::xs else xs)):=by
 cases y with
 | error e=>
   obtain ⟨st',a,k,d⟩:=h
   exact ⟨st',hr _ a,(K.mono (zlr _) (fun j hj _=>by simp at hj ⊢;omega)).then k,d⟩
 | ok xs=>
   obtain ⟨v,st',m,its2,a,k,d,e⟩:=h
   refine ⟨v,st',m,its2,hr _ a,K.then k,?_,e⟩
   rw [d,hi]
   cases c<;>simp
theorem zqx [Sym] {lo b0 B:Nat} {v:Value} {us:List (Nat×Tok)} (hb0:b0<lo) (hloB:lo<B) (hus:us.length≤1099511627776/64):∀ (tss:List (List Tok)) (i k m:Nat) (out:Value) (its:List Item) (st:SS),us.drop i=flat k tss→i≤us.length→(∀ ts∈tss,Lin ts∧∀ t∈ts,TokOk t)→
  PAt st lo v us i→Coll st lo m B out its→(∃ r,At st b0 r∧r.length=2)→B≤st.next→its.length≤i→
  zlY B lo b0 st its (zbu 6 [ptr b0 0,v,ptr lo 0,out] st) (zcy k tss):=by
 intro tss
 induction tss with
 | nil=>
   intro i k m out its st hd hi hok h hc ha hB hn
   have hil:i=us.length:=by
    have:us.drop i=[]:=hd
    rw [List.drop_eq_nil_iff] at this;omega
   have hlv:(lenV v).bind (asI .i64)=some (us.length:Int):=by rw [h.rd.len];rfl
   have l1:st.ld lo 1=some (.int .i64 i):=h.blk.ld
   have hlt:¬ (i:Int)<(us.length:Int):=by omega
   refine ⟨out,st,m,its,zcQ _ v _ out st ?_,.refl _,by simp,hc⟩
   simp only [zbR,zbq,zad,zob,Nat.zero_add,l1,zaa,hlv,zdf hlt,zcf]
 | cons ts r ih=>
   intro i k m out its st hd hi hok h hc ha hB hn
   obtain ⟨hlin,htok⟩:=hok ts (List.mem_cons_self ..)
   have hl:LineAt us i (k+1) ts:=⟨⟨flat (k+1) r,hd⟩,hlin,htok⟩
   have hlen:i+ts.length≤us.length:=by
    have:=congrArg List.length hd
    unfold flat at this
    simp at this
    omega
   have hpos:0<ts.length:=by obtain ⟨t,u,rfl⟩:=hlin.ne;simp
   have hlt:(i:Int)<(us.length:Int):=by omega
   have hlv:(lenV v).bind (asI .i64)=some (us.length:Int):=by rw [h.rd.len];rfl
   have l1:st.ld lo 1=some (.int .i64 i):=h.blk.ld
   have hline:=zsO (by omega) h hl
   have hlim:st.lim≤B:=by have:=h.blk.2.2;omega
   unfold zcy
   cases hx:readT ts with
   | error o=>
     rw [hx] at hline
     obtain ⟨s5,row,c5,K5,p5,hrow,hrow1⟩:=hline
     have hoff:=zrB ts hlin o hx
     obtain ⟨t,ht⟩:∃ t,ts[o]?=some t:=⟨_,zge hoff⟩
     have hu:us[i+o]?=some (k+1,t):=by
      obtain ⟨rest,hr⟩:=hl.drop
      have:=congrArg (·[o]?) hr
      simp only [List.getElem?_drop] at this
      rw [this,List.getElem?_append_left (by simp;omega),List.getElem?_map,ht]
      rfl
     obtain ⟨s9,e9,a9,x9,_⟩:=zbk (st:=s5) p5.ll (r:=L5) (zaF row) (n:=5) hrow hrow1 rfl
     have p9:=p5.ext x9
     obtain ⟨n1,hn1,c1⟩:=zcn p9.has hu
     have x1:Ext s9 (s9.adv n1):=.advR _ hn1
     obtain ⟨n2,hn2,c2⟩:=zcn (p9.ext x1).has hu
     have x2:Ext s9 ((s9.adv n1).adv n2):=x1.trans (.advR _ hn2)
     obtain ⟨ra,aa,hra⟩:=ha
     have aa2:=((aa.keepB K5 aa.lt (by simp;omega)).ext x9).ext x2
     obtain ⟨s15,e15,a15,m15,_⟩:=aa2.sto (k:=0) (vs:=[.int .i64 ((k+1:Nat):Int),.int .i64 t.col]) (row':=[.int .i64 ((k+1:Nat):Int),.int .i64 t.col]) rfl (by rw [zbs (by simp;omega)];simp [hra])
     have k3:=(zcz (ln:=k+1) (t:=t)).2.2.1
     have k4:=(zcz (ln:=k+1) (t:=t)).2.2.2
     have hcol:zqp ts o=t.col:=by unfold zqp;rw [ht];rfl
     have K5':Keep B [lo,b0] st s5:=K5.mono hB (fun j hj _=>by simp at hj ⊢;omega)
     have nx5:B≤s5.next:=zlt hB K5'.next
     have nx9:B≤s9.next:=zlt nx5 x9.next
     refine ⟨s15,zcQ _ v _ out st ?_,((K5'.thenX x9 nx5).thenX x2 nx9).thenI m15 (zlt nx9 x2.next) (.inr (by simp)),by rw [hcol];exact a15⟩
     simp only [zbR,zbq,zad,zob,Nat.zero_add,l1,zaa,hlv,zdt hlt,zct,c5,zaq,List.getElem?_toArray,zgs,zgz,zal,e9,znf,c1,k3,c2,k4,e15]
   | ok x=>
     rw [hx] at hline
     obtain ⟨s5,av,pv,c5,K5,p5,o1,o2⟩:=hline
     have hkept:=zrK hlin htok hx
     obtain ⟨s9,e9,a9,x9,_⟩:=zbk (st:=s5) p5.ll (r:=L5) (zaF [.int .i64 ((k+1:Nat):Int),.string (mkS x.lab),.string (mkS x.dir),av,pv]) (n:=5) rfl (by simp only [List.all_cons,List.all_nil,o1.cell.2,o2.cell.2];rfl) rfl
     have e9':(s5.new (.cells L5 0)).stV s5.next 0 5 (zmM (k+1) x av pv)=some s9:=e9
     have p9:=p5.ext x9
     have hend:i+(ts.length-1)+1=i+ts.length:=by omega
     have l18:s9.ld lo 1=some (.int .i64 ((i+(ts.length-1):Nat):Int)):=p9.blk.ld
     have hw:IntKind.wrap .i64 (((i+(ts.length-1):Nat):Int)+1)=((i+ts.length:Nat):Int):=by rw [zba (by omega),hend]
     obtain ⟨s22,e22,p22,m22,n22⟩:=p9.move (i+ts.length)
     have hlo5:lo<s5.next:=p5.blk.lt
     have a22:=a9.mod m22 (by simp;omega)
     have K9:Keep st.next [lo] st s9:=K5.thenX x9 K5.next
     have K22:Keep st.next [lo] st s22:=K9.thenI m22 (zlt K5.next x9.next) (.inr (by simp))
     have hc22:=hc.keep K22
     have nx22:B≤s22.next:=zlt hB K22.next
     have ha22:∃ r,At s22 b0 r∧r.length=2:=by
      obtain ⟨ra,aa,hra⟩:=ha
      exact ⟨ra,aa.keepB K22 aa.lt (by simp;omega),hra⟩
     have hd':=zrN hd
     have hok':∀ ts∈r,Lin ts∧∀ t∈ts,TokOk t:=fun q hq=>hok q (List.mem_cons_of_mem _ hq)
     have l23:s22.ld s5.next 1=some (.string (mkS x.lab)):=a22.ld
     have l28:s22.ld s5.next 2=some (.string (mkS x.dir)):=a22.ld
     have l33:s22.ld s5.next 4=some pv:=a22.ld
     have hq1:eqT (mkS x.lab) ⟨#[]⟩=decide (x.lab=[]):=zd9 _
     have hq2:eqT (mkS x.dir) ⟨#[]⟩=decide (x.dir=[]):=zd9 _
     have hlp:(lenV pv).bind (asI .i64)=some (x.prs.length:Int):=by rw [o2.len];rfl
     by_cases hkp:1<ts.length
     ·
      have w1:RdB s22 lo s22.next av (rowsF valRow x.args) 3 x.args.length:=by
       refine (Own.rdB o1 (lo:=lo) (hi:=s5.next) h.blk.lt (zlr _)).go (by have:=x9.next;omega) (by have:=x9.next;omega) fun j hj h1 _=>?_
       rw [m22.keep j (by have:=x9.next;omega) (by simp;omega),x9.keep j hj]
      have w2:RdB s22 lo s22.next pv (rowsF prRow x.prs) 5 x.prs.length:=by
       refine (Own.rdB o2 (lo:=lo) (hi:=s5.next) h.blk.lt (zlr _)).go (by have:=x9.next;omega) (by have:=x9.next;omega) fun j hj h1 _=>?_
       rw [m22.keep j (by have:=x9.next;omega) (by simp;omega),x9.keep j hj]
      have hnew:∀ w:Value,(∀ j k l q,w=.slice (some ⟨j,k,none⟩) l q→st.next≤j)→∀ j k l q k' l' q',out=.slice (some ⟨j,k,none⟩) l q→w≠.slice (some ⟨j,k',none⟩) l' q':=by
       intro w hw j k l q k' l' q' ho he
       have h1:=hw j k' l' q' he
       obtain ⟨_,⟨ev,_⟩ | ⟨i',ev,_,_,hbi,hi'⟩⟩:=hc.own
       ·rw [ev] at ho;cases ho
       ·rw [ev] at ho;cases ho;omega
      have hown:∀ {w:Value} {c:List Value} {z n:Nat},Own st.next s5 w c z n→∀ j k l q,w=.slice (some ⟨j,k,none⟩) l q→st.next≤j:=by
       intro w c z n ho j k l q hv
       obtain ⟨_,⟨ev,_⟩ | ⟨i',ev,_,_,hbi,hi'⟩⟩:=ho
       ·rw [ev] at hv;cases hv
       ·rw [ev] at hv;cases hv;exact hbi
      obtain ⟨out',s27,g1,g2,g3⟩:=hc22.push ({ x with ln:=k+1 },av,pv) nx22 (by rw [K22.lim];exact hlim) (by omega) o1.cell.2 o2.cell.2 w1 w2 (hnew av (hown o1)) (hnew pv (hown o2))
      have g1':(s22.new (.cells ([.int .i64 ((k+1:Nat):Int),.string (mkS x.lab),.string (mkS x.dir),av,pv]++[]) 5)).app 5 88 out (.slice (some ⟨s22.next,0,none⟩) 1 1)=some (out',s27):=g1
      have K27:Keep B [lo] st s27:=(K22.mono hB (fun _ hj _=>hj)).then (g3 _)
      have ha27:∃ r,At s27 b0 r∧r.length=2:=by
       obtain ⟨ra,aa,hra⟩:=ha22
       exact ⟨ra,aa.keepB (g3 []) (by omega) (by simp),hra⟩
      have next:=ih (i+ts.length) (k+1) s22.next out' (its++[({ x with ln:=k+1 },av,pv)]) s27 hd' (by omega) hok' (p22.keepB (g3 []) hloB (by simp)) g2 ha27 (zlt hB K27.next) (by simp;omega)
      have l24:s22.ldN s5.next 0 5=some (.agg [.int .i64 ((k+1:Nat):Int),.string (mkS x.lab),.string (mkS x.dir),av,pv].toArray):=a22.ldN rfl
      have hc25:zaS (.agg [.int .i64 ((k+1:Nat):Int),.string (mkS x.lab),.string (mkS x.dir),av,pv].toArray) 5=some [.int .i64 ((k+1:Nat):Int),.string (mkS x.lab),.string (mkS x.dir),av,pv]:=cells5 _ _ _ _ _
      have step:∀ z,zbu 6 [ptr b0 0,v,ptr lo 0,out'] s27=some z→zbu 6 [ptr b0 0,v,ptr lo 0,out] st=some z:=fun z hz=>by
       refine zcQ _ v _ out st ?_
       by_cases h1:x.lab=[]
       ·by_cases h2:x.dir=[]
        ·have h3:x.prs≠[]:=by
          rcases hkept.2 hkp with h | h | h
          ·exact absurd h1 h
          ·exact absurd h2 h
          ·exact h
         have h4:(0:Int)<(x.prs.length:Int):=by
          have:=List.length_pos_iff.2 h3
          omega
         simp only [zbR,zbq,zad,zob,Nat.zero_add,l1,zaa,hlv,zdt hlt,zct,c5,zaq,List.getElem?_toArray,zgs,zgz,zal,e9',znt,zcf,l18,hw,e22,l23,zab,hq1,zdt h1,l28,hq2,zdt h2,l33,hlp,zdt h4,l24,hc25,g1']
         exact hz
        ·simp only [zbR,zbq,zad,zob,Nat.zero_add,l1,zaa,hlv,zdt hlt,zct,c5,zaq,List.getElem?_toArray,zgs,zgz,zal,e9',znt,zcf,l18,hw,e22,l23,zab,hq1,zdt h1,l28,hq2,zdf h2,znf,l24,hc25,g1']
         exact hz
       ·simp only [zbR,zbq,zad,zob,Nat.zero_add,l1,zaa,hlv,zdt hlt,zct,c5,zaq,List.getElem?_toArray,zgs,zgz,zal,e9',znt,zcf,l18,hw,e22,l23,zab,hq1,zdf h1,znf,l24,hc25,g1']
        exact hz
      simp only
      cases hy:zcy (k+1) r with
      | error e=>
        rw [hy] at next
        obtain ⟨st',a,k',d⟩:=next
        exact ⟨st',step _ a,(K27.mono (zlr _) (fun j hj _=>by simp at hj ⊢;omega)).then k',d⟩
      | ok xs=>
        rw [hy] at next
        obtain ⟨v2,st',m',its2,a,k',d,e⟩:=next
        refine ⟨v2,st',m',its2,step _ a,K27.then k',?_,e⟩
        rw [d];simp [hkp]
     ·have hnone:¬ (x.lab≠[]∨x.dir≠[]∨x.prs≠[]):=fun hh=>hkp (hkept.1 hh)
      have h1:x.lab=[]:=Classical.byContradiction fun hh=>hnone (.inl hh)
      have h2:x.dir=[]:=Classical.byContradiction fun hh=>hnone (.inr (.inl hh))
      have h3:x.prs=[]:=Classical.byContradiction fun hh=>hnone (.inr (.inr hh))
      have h4:¬ (0:Int)<(x.prs.length:Int):=by rw [h3];simp
      have K22':Keep B [lo] st s22:=K22.mono hB (fun _ hj _=>hj)
      have next:=ih (i+ts.length) (k+1) m out its s22 hd' (by omega) hok' p22 hc22 ha22 nx22 (by omega)
      have step:∀ z,zbu 6 [ptr b0 0,v,ptr lo 0,out] s22=some z→zbu 6 [ptr b0 0,v,ptr lo 0,out] st=some z:=fun z hz=>by
       refine zcQ _ v _ out st ?_
       simp only [zbR,zbq,zad,zob,Nat.zero_add,l1,zaa,hlv,zdt hlt,zct,c5,zaq,List.getElem?_toArray,zgs,zgz,zal,e9',znt,zcf,l18,hw,e22,l23,zab,hq1,zdt h1,l28,hq2,zdt h2,l33,hlp,zdf h4]
       exact hz
      simp only
      cases hy:zcy (k+1) r with
      | error e=>
        rw [hy] at next
        obtain ⟨st',a,k',d⟩:=next
        exact ⟨st',step _ a,(K22'.mono (zlr _) (fun j hj _=>by simp at hj ⊢;omega)).then k',d⟩
      | ok xs=>
        rw [hy] at next
        obtain ⟨v2,st',m',its2,a,k',d,e⟩:=next
        refine ⟨v2,st',m',its2,step _ a,K22'.then k',?_,e⟩
        rw [d];simp [hkp]
theorem zrO (ps:List (List UInt8)) (i:Nat) (tss:List (List Tok)) (h:zcr i ps=.ok tss):tss.length=ps.length:=by
 induction ps generalizing i tss with
 | nil=>cases h;rfl
 | cons p r ih=>
   unfold zcr at h
   cases hx:zb4 p with
   | error c=>rw [hx] at h;cases h
   | ok ts=>
     rw [hx] at h
     cases hy:zcr (i+1) r with
     | error e=>rw [hy] at h;cases h
     | ok us=>rw [hy] at h;cases h;simp [ih _ _ hy]
def ParR (st:SS) (r:Option (Value×SS)):Except (Nat×Nat) (List PLine)→Prop
 | .ok xs=>∃ v st',r=some (.tuple #[v,zbP (0,0),.int .i64 0],st')∧Ext st st'∧zjL st' v xs
 | .error e=>∃ st',r=some (.tuple #[.slice none 0 0,zbP e,.int .i64 4],st')∧Ext st st'
theorem zsQ [Sym] {st:SS} (hg:Gd st) (hl:st.lim≤st.next) (s:ByteArray) (hs:s.size≤65536):ParR st (cc 42 [.string s] st) (zgp (bl s)):=by
 have a1:At (st.new (.cells [.int .i64 0,.int .i64 0] 0)) st.next [.int .i64 0,.int .i64 0]:=At.new hl _
 have x1:Ext st (st.new (.cells [.int .i64 0,.int .i64 0] 0)):=(Ext.refl st).new _
 have hlex:=lex_ok (hg.ext x1) (x1.ll hl) s (by omega)
 have hlx:lexT (bl s)=match zcr 0 (pieces 10 (bl s)) with
  | .error e=>.error e
  | .ok tss=>.ok (flat 0 tss):=zqq _ _
 unfold zgp
 have hb0:Nat.beq 0 0=true:=rfl
 have hb1:Nat.beq 1 0=false:=rfl
 cases hy:zcr 0 (pieces 10 (bl s)) with
 | error e=>
   rw [hy] at hlx
   rw [hlx] at hlex
   obtain ⟨s2,c2,x2⟩:=hlex
   have c2':cc 67 [.string s] (st.new (.cells [.int .i64 0,.int .i64 0] 0))=some (.tuple #[.slice none 0 0,zbP e,.int .i64 4],s2):=c2
   obtain ⟨s7,e7,a7,x7,_⟩:=zbk (st:=s2) ((x1.trans x2).ll hl) (r:=[.int .i64 0,.int .i64 0]) (v:=zbP e) (row:=[.int .i64 e.1,.int .i64 e.2]) (n:=2) rfl rfl rfl rfl
   have a17:=(a1.ext x2).ext x7
   obtain ⟨s9,f1,f2,f3,f4,f5⟩:=zcm (n:=2) a17 rfl a7 rfl rfl
   have h40:decide ((4:Int)=0)=false:=rfl
   refine ⟨s9,zff s st ?_,((Mod.ofExt (S:=[st.next]) ((x1.trans x2).trans x7)).then f4).fresh (by simp)⟩
   simp only [zfe,c2',zob,zaq,List.getElem?_toArray,zgs,zgz,zaa,e7,h40,znf,zct,f1,f2,f3]
   rfl
 | ok tss=>
   rw [hy] at hlx
   have hlen:=zsL _ _ hlx
   rw [zaK] at hlen
   have hlen2:(s.size+1)*(s.size+1)≤65537*65537:=Nat.mul_le_mul (by omega) (by omega)
   rw [hlx] at hlex
   obtain ⟨v,s2,c2,x2,o2⟩:=hlex
   have c2':cc 67 [.string s] (st.new (.cells [.int .i64 0,.int .i64 0] 0))=some (.tuple #[v,zbP (0,0),.int .i64 0],s2):=c2
   obtain ⟨s7,e7,a7,x7,_⟩:=zbk (st:=s2) ((x1.trans x2).ll hl) (r:=[.int .i64 0,.int .i64 0]) (v:=zbP (0,0)) (row:=[.int .i64 0,.int .i64 0]) (n:=2) rfl rfl rfl rfl
   have x07:=(x1.trans x2).trans x7
   have hc11:zaS v 1=some [v]:=by unfold zaS;obtain ⟨_,⟨rfl,_⟩ | ⟨i,rfl,_⟩⟩:=o2<;>rfl
   have hrow:(Value.agg ⟨spl [.slice none 0 0,.int .i64 0] 0 [v]⟩:Value).cells.toList=[v,.int .i64 0]:=by simp [spl,Value.cells]
   have ab:At (s7.new (.cells [v,.int .i64 0] 0)) s7.next [v,.int .i64 0]:=At.new (x07.ll hl) _
   have x12:Ext s7 (s7.new (.cells [v,.int .i64 0] 0)):=(Ext.refl s7).new _
   have hsn:st.next<s7.next:=by have:=x2.next;have:=x7.next;simp at*;omega
   have hp:PAt (s7.new (.cells [v,.int .i64 0] 0)) s7.next v (flat 0 tss) 0:=by
    refine ⟨ab,((o2.rd.ext x7).ext x12),fun j k l q hv=>?_,by omega,(x07.trans x12).ll hl⟩
    obtain ⟨_,⟨ev,_⟩ | ⟨i',ev,_,_,hbi,hi'⟩⟩:=o2
    ·rw [ev] at hv;cases hv
    ·rw [ev] at hv;cases hv
     have:=x7.next
     omega
   have hloop:=zqx (lo:=s7.next) (b0:=st.next) (B:=s7.next+1) hsn (by omega) (by omega) tss 0 0 s7.next (.slice none 0 0) [] (s7.new (.cells [v,.int .i64 0] 0)) (by simp) (by omega) (zsN _ _ _ hy) hp
    ⟨Own.nil _ _ _,fun j k l q hv=>(by cases hv),fun x hx=>(by cases hx),by omega,by simp⟩ ⟨_,(((a1.ext x2).ext x7).ext x12),rfl⟩ (by simp) (by simp)
   show ParR st _ (zcy 0 tss)
   cases hz:zcy 0 tss with
   | error e=>
     rw [hz] at hloop
     obtain ⟨s13,d1,d2,d3⟩:=hloop
     have hr:=d3.rdN (n:=2) rfl
     have x13:Ext st s13:=((Mod.ofExt (S:=[s7.next,st.next]) (x07.trans x12)).then (d2.mod (by simp))).fresh (by simp;omega)
     refine ⟨s13,zff s st ?_,x13⟩
     simp only [zfe,c2',zob,zaq,List.getElem?_toArray,zgs,zgz,zaa,e7,decide_true,znt,zcf,hc11,hrow,d1,hb1,zad,hr]
     rfl
   | ok xs=>
     rw [hz] at hloop
     obtain ⟨w,s13,m,its,d1,d2,d3,d4⟩:=hloop
     have a13:=(((a1.ext x2).ext x7).ext x12).keepB d2 (by omega) (by simp;omega)
     obtain ⟨s17,e17,a17,m17,n17⟩:=a13.sto (k:=0) (vs:=[.int .i64 0,.int .i64 0]) (row':=[.int .i64 0,.int .i64 0]) rfl rfl
     have hr:=a17.rdN (n:=2) rfl
     have d4':Coll s17 s7.next m (s7.next+1) w its:=by
      refine ⟨zmL (S:=[]) d4.own m17 (.inl (by omega)),d4.blk,fun x hx=>?_,d4.lo,by rw [n17];exact d4.le⟩
      obtain ⟨i1,i2⟩:=d4.it x hx
      exact ⟨i1.go (zlr _) m17.next fun j hj h1 h2=>m17.keep j hj (by simp;omega),i2.go (zlr _) m17.next fun j hj h1 h2=>m17.keep j hj (by simp;omega)⟩
     have x17:Ext st s17:=(((Mod.ofExt (S:=[s7.next,st.next]) (x07.trans x12)).then ((d2.mod (by simp)).mono (by simp))).thenI m17 (.inr (by simp))).fresh (by simp;omega)
     refine ⟨w,s17,zff s st ?_,x17,?_⟩
     ·simp only [zfe,c2',zob,zaq,List.getElem?_toArray,zgs,zgz,zaa,e7,decide_true,znt,zcf,hc11,hrow,d1,hb0,zct,zad,e17,hr]
      rfl
     ·have:=d4'.lines
      rw [d3] at this
      simpa using this
end Go.Proofs.YtifploedaacedaaGreatDoorE
namespace Go.Proofs.YtifploedaacedaaGreatDoorE
open Go Go.E Go.Proofs
def zcZ (B:Nat) (C:Nat→UInt8):Nat→Nat→List UInt8→List UInt8
 | 0,_,acc=>acc
 | f+1,k,acc=>if k=0∧acc≠[] then acc else zcZ B C f (k/B) (C (k%B)::acc)
theorem zqy (B:Nat) (C:Nat→UInt8) (hB:2≤B) (hC:∀ d,d<B→zfb (C d)=some d):∀ (f k:Nat) (acc:List UInt8),k<f→k≠0→(∀ n,n≤2147483647→∀ x,x∈acc→True)→
  za6 B 0 (zcZ B C f k acc)=if k≤2147483647 then za6 B k acc else some none:=by
 intro f
 induction f with
 | zero=>intro k acc hk;omega
 | succ f ih=>
   intro k acc hk h0 _
   have hd:k%B<B:=Nat.mod_lt _ (by omega)
   have hkB:k/B*B+k%B=k:=by rw [Nat.mul_comm];exact Nat.div_add_mod k B
   have hlt:k/B<k:=Nat.div_lt_self (by omega) hB
   have step:∀ n,za6 B n (C (k%B)::acc)=if 2147483647<n*B+k%B then some none else za6 B (n*B+k%B) acc:=by
    intro n
    show (match zfb (C (k%B)) with
     | none=>none
     | some d=>if B≤d then none else if 2147483647<n*B+d then some none else za6 B (n*B+d) acc)=_
    rw [hC _ hd]
    simp only [if_neg (Nat.not_le.2 hd)]
   unfold zcZ
   rw [if_neg (fun h=>h0 h.1)]
   by_cases hz:k/B=0
   ·rw [hz]
    have e:zcZ B C f 0 (C (k%B)::acc)=C (k%B)::acc:=by
     cases f with
     | zero=>rfl
     | succ f=>unfold zcZ;rw [if_pos ⟨rfl,by simp⟩]
    rw [e,step 0]
    have:0*B+k%B=k:=by rw [← hz];exact hkB
    rw [this]
    by_cases hk2:k≤2147483647
    ·rw [if_neg (by omega),if_pos hk2]
    ·rw [if_pos (by omega),if_neg hk2]
   ·rw [ih (k/B) _ (by omega) hz (fun _ _ _ _=>trivial),step,hkB]
    by_cases hk2:k≤2147483647
    ·rw [if_pos (by omega),if_neg (by omega),if_pos hk2]
    ·rw [if_neg hk2]
     split
     ·rw [if_pos (by omega)]
     ·rfl
theorem zsR (B:Nat) (C:Nat→UInt8) (p:UInt8→Prop) (hB:0<B) (hC:∀ d,d<B→p (C d)):∀ (f k:Nat) (acc:List UInt8),(∀ x∈acc,p x)→∀ x∈zcZ B C f k acc,p x:=by
 intro f
 induction f with
 | zero=>intro k acc h;exact h
 | succ f ih=>
   intro k acc h
   unfold zcZ
   split
   ·exact h
   ·refine ih _ _ ?_
    intro x hx
    rcases List.mem_cons.1 hx with rfl | hx
    ·exact hC _ (Nat.mod_lt _ hB)
    ·exact h x hx
theorem zt5 (B:Nat) (C:Nat→UInt8):∀ (f k:Nat) (acc:List UInt8),acc≠[]→zcZ B C f k acc≠[]:=by
 intro f
 induction f with
 | zero=>intro k acc h;exact h
 | succ f ih=>
   intro k acc h
   unfold zcZ
   split
   ·exact h
   ·exact ih _ _ (by simp)
def zbl (B:Nat) (C:Nat→UInt8) (k:Nat):List UInt8:=zcZ B C (k+2) k []
theorem zmN (B:Nat) (C:Nat→UInt8) (k:Nat):zbl B C k≠[]:=by
 unfold zbl zcZ
 rw [if_neg (fun h=>h.2 rfl)]
 exact zt5 _ _ _ _ _ (by simp)
theorem zqz (B:Nat) (C:Nat→UInt8) (hB:2≤B) (hC:∀ d,d<B→zfb (C d)=some d) (k:Nat):zaU B (zbl B C k)=if k≤2147483647 then some (some k) else some none:=by
 unfold zaU
 rw [if_neg (zmN B C k)]
 by_cases h0:k=0
 ·subst h0
  have:zbl B C 0=[C 0]:=by
   unfold zbl zcZ
   rw [if_neg (fun h=>h.2 rfl)]
   simp [zcZ]
  rw [this,if_pos (by omega)]
  show (match zfb (C 0) with
    | none=>none
    | some d=>if B≤d then none else if 2147483647<0*B+d then some none else za6 B (0*B+d) [])=_
  rw [hC 0 (by omega)]
  simp only [if_neg (show ¬ B≤0 by omega)]
  simp [za6]
 ·unfold zbl
  rw [zqy B C hB hC (k+2) k [] (by omega) h0 (fun _ _ _ _=>trivial)]
  rfl
def zbg (d:Nat):UInt8:=UInt8.ofNat (48+d)
theorem zsS:∀ d,d<10→zfb (zbg d)=some d:=by decide
theorem zrP:∀ d,d<10→zcN (zbg d).toNat=true∧zbD (zbg d).toNat=false:=by decide
theorem zk2 (k:Nat):∀ x∈zbl 10 zbg k,zcN x.toNat=true∧zbD x.toNat=false:=
 zsR 10 zbg (fun x=>zcN x.toNat=true∧zbD x.toNat=false) (by omega) zrP (k+2) k [] (by simp)
theorem zsU (k:Nat) (hk:k≤2147483647):numO (zcX (zbl 10 zbg k))=some k:=by
 have hall:=zk2 k
 have hhex:zmH (zbl 10 zbg k)=false:=by
  unfold zmH
  rw [Bool.eq_false_iff]
  intro hp
  rw [List.isPrefixOf_iff_prefix] at hp
  have:(120:UInt8)∈zbl 10 zbg k:=hp.subset (by simp)
  exact absurd (hall _ this).1 (by decide)
 unfold zcX
 rw [hhex,if_neg (by simp),zqz 10 zbg (by omega) zsS k,if_pos hk]
 rfl
theorem zoD:∀ (f k j:Nat) (acc:List UInt8),k<10^j→acc≠[]∨0<j→(zcZ 10 zbg f k acc).length≤acc.length+j
 | 0,k,j,acc,_,_=>by simp [zcZ]
 | f+1,k,j,acc,h,hj=>by
   unfold zcZ
   split
   ·omega
   ·rename_i hn
    cases j with
    | zero=>
      exfalso
      rcases hj with hj | hj
      ·exact hn ⟨by simpa using h,hj⟩
      ·omega
    | succ j=>
      have:=zoD f (k/10) j (zbg (k%10)::acc) (by rw [Nat.pow_succ] at h;omega) (.inl (by simp))
      simp only [List.length_cons] at this
      omega
theorem zoE {k:Nat} (h:k≤2147483647):(zbl 10 zbg k).length≤10:=by
 have:=zoD (k+2) k 10 [] (by omega) (.inr (by omega))
 simpa [zbl] using this
inductive Pc where
 | blank
 | word (w:List UInt8)
 | num (k:Nat)
 | sign (c:UInt8)
def pcB:Pc→List UInt8
 | .blank=>[32]
 | .word w=>w
 | .num k=>zbl 10 zbg k
 | .sign c=>[c]
def zcG (ps:List Pc):List UInt8:=ps.flatMap pcB
theorem zgt (p:Pc) (ps:List Pc):zcG (p::ps)=pcB p++zcG ps:=rfl
def isW (l:List UInt8):Bool:=l.all (fun x=>decide (97≤x.toNat)&&decide (x.toNat≤122))&&decide (0<l.length)&&decide (l.length≤24)
def nameP:Pc→Bool
 | .word _=>true
 | .num _=>true
 | _=>false
def pcOk:Pc→Prop
 | .blank=>True
 | .word w=>isW w=true
 | .num k=>k≤2147483647
 | .sign c=>c∈([58,61,46,43,45]:List UInt8)
def zlZ:List Pc→Bool
 | []=>true
 | p::_=>!(nameP p)
def zmO:List Pc→Prop
 | []=>True
 | p::r=>pcOk p∧(nameP p=true→zlZ r=true)∧zmO r
def zdu:Nat→List Pc→List Tok
 | _,[]=>[]
 | col,.blank::r=>zdu (col+1) r
 | col,.word w::r=>⟨1,w,0,col+1⟩::zdu (col+w.length) r
 | col,.num k::r=>⟨2,zbl 10 zbg k,k,col+1⟩::zdu (col+(zbl 10 zbg k).length) r
 | col,.sign c::r=>⟨3,[c],0,col+1⟩::zdu (col+1) r
theorem zj7 {w:List UInt8}:isW w=true↔(∀ x∈w,97≤x.toNat∧x.toNat≤122)∧w≠[]∧w.length≤24:=by
 unfold isW
 simp only [zae,List.all_eq_true,decide_eq_true_eq,List.length_pos_iff,and_assoc]
theorem zsV {w:List UInt8} (h:isW w=true):∀ x∈w,nameB x=true∧zbD x.toNat=true:=fun x hx=>by
 have:=(zj7.1 h).1 x hx
 have hl:zbD x.toNat=true:=by
  unfold zbD
  rw [zdt (by omega),zdt (by omega)]
  rfl
 exact ⟨by unfold nameB;rw [hl];rfl,hl⟩
theorem zoF {a b:List UInt8} (h:∀ x∈a,nameB x=true) (hb:∀ x,b.head?=some x→nameB x=false):zaI (a++b)=a.length:=by
 induction a with
 | nil=>
   cases b with
   | nil=>rfl
   | cons x b=>
     rw [List.nil_append,zeV,if_neg (by rw [hb x rfl];simp)];rfl
 | cons x a ih=>
   rw [List.cons_append,zeV,if_pos (h x (by simp)),ih fun y hy=>h y (by simp [hy]),List.length_cons]
   omega
theorem zkF {ps:List Pc} (hs:zmO ps) (h:zlZ ps=true):∀ x,(zcG ps).head?=some x→nameB x=false:=by
 intro x hx
 cases ps with
 | nil=>cases hx
 | cons p r=>
   obtain ⟨h1,_⟩:=hs
   rw [zgt] at hx
   cases p with
   | word w=>simp [zlZ,nameP] at h
   | num k=>simp [zlZ,nameP] at h
   | blank=>
     have:x=32:=by simpa [pcB] using hx.symm
     subst this;decide
   | sign c=>
     have:x=c:=by simpa [pcB] using hx.symm
     subst this
     have h1':x∈([58,61,46,43,45]:List UInt8):=h1
     simp only [List.mem_cons,List.not_mem_nil,or_false] at h1'
     rcases h1' with rfl | rfl | rfl | rfl | rfl<;>decide
theorem zrQ {w b:List UInt8} (h:isW w=true) (hb:∀ x,b.head?=some x→nameB x=false):stepT (w++b)=.tok 1 w.length 0:=by
 have hw:=zsV h
 obtain ⟨h1,h2,h3⟩:=zj7.1 h
 have hr:=zoF (fun x hx=>(hw x hx).1) hb
 cases w with
 | nil=>exact absurd rfl h2
 | cons c w=>
   have hc:=h1 c (by simp)
   rw [List.cons_append] at hr ⊢
   rw [ziL rfl,if_neg (by omega),if_neg (by omega),if_pos (hw c (by simp)).2,hr,if_neg (by omega)]
theorem zsW {k:Nat} {b:List UInt8} (hk:k≤2147483647) (hb:∀ x,b.head?=some x→nameB x=false):stepT (zbl 10 zbg k++b)=.tok 2 (zbl 10 zbg k).length k:=by
 have hw:=zk2 k
 have hr:=zoF (a:=zbl 10 zbg k) (b:=b) (fun x hx=>by unfold nameB;rw [(hw x hx).1];simp) hb
 have hn:=zsU k hk
 cases hc:zbl 10 zbg k with
 | nil=>exact absurd hc (zmN _ _ _)
 | cons c w=>
   rw [hc] at hw hr hn
   have h1:=hw c (by simp)
   have hd:=h1.1
   unfold zcN at hd
   simp only [zae,decide_eq_true_eq] at hd
   rw [List.cons_append] at hr ⊢
   have ht:(c::(w++b)).take (c::w).length=c::w:=by
    rw [← List.cons_append];exact List.take_left
   rw [ziL rfl,if_neg (by omega),if_neg (by omega),h1.2,if_neg (by simp),if_pos h1.1,hr,ht,hn]
theorem zrR {c:UInt8} {b:List UInt8} (h:c∈([58,61,46,43,45]:List UInt8)):stepT (c::b)=.tok 3 1 0:=by
 have key:¬ (c.toNat:Int)=59∧¬ ((c.toNat:Int)=32∨(c.toNat:Int)=9∨(c.toNat:Int)=13)∧zbD c.toNat=false∧zcN c.toNat=false∧zlR c=true:=by
  simp only [List.mem_cons,List.not_mem_nil,or_false] at h
  rcases h with rfl | rfl | rfl | rfl | rfl<;>decide
 obtain ⟨h1,h2,h3,h4,h5⟩:=key
 rw [ziL rfl,if_neg h1,if_neg h2,h3,if_neg (by simp),h4,if_neg (by simp),if_pos h5]
theorem zsX (k col:Nat):zca k col []=.ok []:=by
 cases k with
 | zero=>rfl
 | succ k=>rfl
theorem zrS (k col:Nat) (l:List UInt8):zca (k+1) col l=match stepT l with
  | .stop=>.ok []
  | .blank=>zca k (col+1) (l.drop 1)
  | .tok kd n x=>zj6 ⟨kd,l.take n,x,col+1⟩ (zca k (col+n) (l.drop n))
  | .bad=>.error (col+1):=rfl
theorem zk3 {k col kd n:Nat} {x:Int} {a b:List UInt8} (h:stepT (a++b)=.tok kd n x) (hn:n=a.length):zca (k+1) col (a++b)=zj6 ⟨kd,a,x,col+1⟩ (zca k (col+a.length) b):=by
 subst hn
 rw [zrS,h]
 show zj6 ⟨kd,(a++b).take a.length,x,col+1⟩ (zca k (col+a.length) ((a++b).drop a.length))=_
 rw [List.take_left,List.drop_left]
theorem zt6 {p:Pc} (h:pcOk p):0<(pcB p).length:=by
 cases p with
 | blank=>show 0<1;omega
 | word w=>exact List.length_pos_iff.2 (zj7.1 h).2.1
 | num k=>exact List.length_pos_iff.2 (zmN _ _ _)
 | sign c=>show 0<1;omega
theorem zoG:∀ (ps:List Pc) (k col:Nat),zmO ps→(zcG ps).length≤k→zca k col (zcG ps)=.ok (zdu col ps)
 | [],k,col,_,_=>zsX k col
 | p::r,k,col,hs,hk=>by
   obtain ⟨h1,h2,h3⟩:=hs
   have hp:=zt6 h1
   rw [zgt,List.length_append] at hk
   obtain ⟨k,rfl⟩:∃ j,k=j+1:=⟨k-1,by omega⟩
   have ih:=fun c=>zoG r k c h3 (by omega)
   rw [zgt]
   cases p with
   | blank=>exact ih (col+1)
   | word w=>
     rw [show pcB (.word w)=w from rfl,zk3 (zrQ h1 (zkF h3 (h2 rfl))) rfl,ih];rfl
   | num n=>
     rw [show pcB (.num n)=zbl 10 zbg n from rfl,zk3 (zsW h1 (zkF h3 (h2 rfl))) rfl,ih];rfl
   | sign c=>
     rw [show pcB (.sign c)=[c] from rfl,zk3 (kd:=3) (x:=0) (n:=1) (zrR h1) rfl,ih];rfl
theorem zrT {ps:List Pc} (hs:zmO ps):zb4 (zcG ps)=.ok (zdu 0 ps++[zdp (zcG ps)]):=by
 unfold zb4
 rw [zoG ps _ 0 hs (zlr _)]
theorem zoH:∀ {ps:List Pc},zmO ps→(10:UInt8)∉zcG ps
 | [],_=>by simp [zcG]
 | p::r,⟨h1,_,h3⟩=>by
   rw [zgt,List.mem_append,not_or]
   refine ⟨?_,zoH h3⟩
   cases p with
   | blank=>decide
   | word w=>
     intro hm
     have:=(zj7.1 h1).1 10 hm
     exact absurd this.1 (by decide)
   | num k=>
     intro hm
     have:=(zk2 k 10 hm).1
     exact absurd this (by decide)
   | sign c=>
     have h1':c∈([58,61,46,43,45]:List UInt8):=h1
     simp only [List.mem_cons,List.not_mem_nil,or_false] at h1'
     rcases h1' with rfl | rfl | rfl | rfl | rfl<;>decide
def prV (p:Pr):List UInt8×List UInt8×Int:=(p.fd,p.v.nm,p.v.x)
end Go.Proofs.YtifploedaacedaaGreatDoorE
