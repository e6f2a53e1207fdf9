/- Parts of the proof of ArchLevels, packed by a program: an evaluator over the given code, functions as plain texts, their laws. -/
import Derived.KernelRfl
import Derived.Test.YtccjlfagglbnhaaGreatDoorPVB
set_option linter.unusedVariables false
set_option linter.unusedSimpArgs false
namespace Go.E
open Go
def PT.vals {α:Type}:PT α→(Nat→Nat)→List (Nat×α)
 | .nil,_=>[]
 | .node l v r,f=>(match v with | some x=>[(f 0,x)] | none=>[])++(l.vals (fun k=>f (2*k+1))++r.vals (fun k=>f (2*k+2)))
theorem PT.all_vals {α:Type} {p:Nat→α→Prop}:∀ (t:PT α) (f:Nat→Nat),(∀ x∈t.vals f,p x.1 x.2)→t.All p f
 | .nil,_,_=>trivial
 | .node l v r,f,h=>⟨fun x hx=>by
   subst hx
   exact h (f 0,x) (by simp [PT.vals]),PT.all_vals l _ fun x hx=>h x (by simp [PT.vals,hx]),PT.all_vals r _ fun x hx=>h x (by simp [PT.vals,hx])⟩
theorem PT.all_map {α β:Type} {p:Nat→α→Prop} {g h:Nat×α→β} {t:PT α} (hp:∀ x:Nat×α,g x=h x→p x.1 x.2) (e:(t.vals fun k=>k).map g=(t.vals fun k=>k).map h):t.All p fun k=>k:=
 PT.all_vals t _ fun x hx=>hp x (List.map_inj_left.1 e x hx)
noncomputable def zL {α:Type} (x:α):PT α:=.node .nil (some x) .nil
noncomputable def zN {α:Type} (l:PT α) (x:α) (r:PT α):PT α:=.node l (some x) r
end Go.E
namespace Go.Proofs.YtccjlfagglbnhaaGreatDoorE
open Go Go.E Go.Proofs
set_option maxRecDepth 100000
open Tryz in
noncomputable def tyT:PT TypeInfo:=zN (zN (zN (zN (zN (zN (zN (zN (zL t255) t127 .nil) t63 (zL t191)) t31 (zN (zL t159) t95 (zL t223))) t15 (zN (zN (zN (zL t271) t143 .nil) t79 (zL t207)) t47 (zN (zL t175) t111 (zL t239))))
 t7 (zN (zN (zN (zN (zL t263) t135 .nil) t71 (zL t199)) t39 (zN (zL t167) t103 (zL t231))) t23 (zN (zN (zN (zL t279) t151 .nil) t87 (zL t215)) t55 (zN (zL t183) t119 (zL t247))))) t3 (zN (zN (zN (zN (zN (zL t259) t131 .nil) t67 (zL t195))
 t35 (zN (zL t163) t99 (zL t227))) t19 (zN (zN (zN (zL t275) t147 .nil) t83 (zL t211)) t51 (zN (zL t179) t115 (zL t243)))) t11 (zN (zN (zN (zN (zL t267) t139 .nil) t75 (zL t203)) t43 (zN (zL t171) t107 (zL t235))) t27 (zN (zN (zN (zL t283)
 t155 .nil) t91 (zL t219)) t59 (zN (zL t187) t123 (zL t251)))))) t1 (zN (zN (zN (zN (zN (zN (zL t257) t129 .nil) t65 (zL t193)) t33 (zN (zL t161) t97 (zL t225))) t17 (zN (zN (zN (zL t273) t145 .nil) t81 (zL t209)) t49 (zN (zL t177) t113 (zL
 t241)))) t9 (zN (zN (zN (zN (zL t265) t137 .nil) t73 (zL t201)) t41 (zN (zL t169) t105 (zL t233))) t25 (zN (zN (zN (zL t281) t153 .nil) t89 (zL t217)) t57 (zN (zL t185) t121 (zL t249))))) t5 (zN (zN (zN (zN (zN (zL t261) t133 .nil) t69 (zL
 t197)) t37 (zN (zL t165) t101 (zL t229))) t21 (zN (zN (zN (zL t277) t149 .nil) t85 (zL t213)) t53 (zN (zL t181) t117 (zL t245)))) t13 (zN (zN (zN (zN (zL t269) t141 .nil) t77 (zL t205)) t45 (zN (zL t173) t109 (zL t237))) t29 (zN (zN (zN
 (zL t285) t157 .nil) t93 (zL t221)) t61 (zN (zL t189) t125 (zL t253))))))) t0 (zN (zN (zN (zN (zN (zN (zN (zL t256) t128 .nil) t64 (zL t192)) t32 (zN (zL t160) t96 (zL t224))) t16 (zN (zN (zN (zL t272) t144 .nil) t80 (zL t208)) t48 (zN (zL
 t176) t112 (zL t240)))) t8 (zN (zN (zN (zN (zL t264) t136 .nil) t72 (zL t200)) t40 (zN (zL t168) t104 (zL t232))) t24 (zN (zN (zN (zL t280) t152 .nil) t88 (zL t216)) t56 (zN (zL t184) t120 (zL t248))))) t4 (zN (zN (zN (zN (zN (zL t260)
 t132 .nil) t68 (zL t196)) t36 (zN (zL t164) t100 (zL t228))) t20 (zN (zN (zN (zL t276) t148 .nil) t84 (zL t212)) t52 (zN (zL t180) t116 (zL t244)))) t12 (zN (zN (zN (zN (zL t268) t140 .nil) t76 (zL t204)) t44 (zN (zL t172) t108 (zL t236)))
 t28 (zN (zN (zN (zL t284) t156 .nil) t92 (zL t220)) t60 (zN (zL t188) t124 (zL t252)))))) t2 (zN (zN (zN (zN (zN (zN (zL t258) t130 .nil) t66 (zL t194)) t34 (zN (zL t162) t98 (zL t226))) t18 (zN (zN (zN (zL t274) t146 .nil) t82 (zL t210))
 t50 (zN (zL t178) t114 (zL t242)))) t10 (zN (zN (zN (zN (zL t266) t138 .nil) t74 (zL t202)) t42 (zN (zL t170) t106 (zL t234))) t26 (zN (zN (zN (zL t282) t154 .nil) t90 (zL t218)) t58 (zN (zL t186) t122 (zL t250))))) t6 (zN (zN (zN (zN (zN
 (zL t262) t134 .nil) t70 (zL t198)) t38 (zN (zL t166) t102 (zL t230))) t22 (zN (zN (zN (zL t278) t150 .nil) t86 (zL t214)) t54 (zN (zL t182) t118 (zL t246)))) t14 (zN (zN (zN (zN (zL t270) t142 .nil) t78 (zL t206)) t46 (zN (zL t174) t110
 (zL t238))) t30 (zN (zN (zN (zL t286) t158 .nil) t94 (zL t222)) t62 (zN (zL t190) t126 (zL t254)))))))
open Tryz in
noncomputable def unT:PT TypeDesc:=zN (zN (zN (zN (zN (zN (zN (zN (zL t255.desc) t127.desc .nil) t63.desc (zL t191.desc)) t31.desc (zN (zL t159.desc) t94.desc (zL t223.desc))) t15.desc (zN (zN (zN (zL t271.desc) t143.desc
 .nil) t79.desc (zL t207.desc)) t47.desc (zN (zL t175.desc) t111.desc (zL t239.desc)))) t7.desc (zN (zN (zN (zN (zL t263.desc) t135.desc .nil) t71.desc (zL t199.desc)) t39.desc (zN (zL t166.desc) t102.desc (zL t231.desc))) t23.desc (zN (zN
 (zN (zL t278.desc) t151.desc .nil) t86.desc (zL t215.desc)) t54.desc (zN (zL t183.desc) t119.desc (zL t247.desc))))) t3.desc (zN (zN (zN (zN (zN (zL t258.desc) t131.desc .nil) t66.desc (zL t195.desc)) t34.desc (zN (zL t163.desc) t99.desc
 (zL t227.desc))) t18.desc (zN (zN (zN (zL t275.desc) t147.desc .nil) t83.desc (zL t211.desc)) t51.desc (zN (zL t179.desc) t114.desc (zL t243.desc)))) t9.desc (zN (zN (zN (zN (zL t267.desc) t139.desc .nil) t75.desc (zL t203.desc)) t43.desc
 (zN (zL t171.desc) t106.desc (zL t235.desc))) t27.desc (zN (zN (zN (zL t21.desc) t155.desc .nil) t91.desc (zL t219.desc)) t59.desc (zN (zL t187.desc) t123.desc (zL t251.desc)))))) t1.desc (zN (zN (zN (zN (zN (zN (zL t257.desc) t129.desc
 .nil) t65.desc (zL t193.desc)) t32.desc (zN (zL t161.desc) t96.desc (zL t225.desc))) t17.desc (zN (zN (zN (zL t273.desc) t145.desc .nil) t81.desc (zL t209.desc)) t49.desc (zN (zL t177.desc) t113.desc (zL t241.desc)))) t9.desc (zN (zN (zN
 (zN (zL t265.desc) t136.desc .nil) t72.desc (zL t201.desc)) t41.desc (zN (zL t169.desc) t105.desc (zL t233.desc))) t25.desc (zN (zN (zN (zL t5.desc) t152.desc .nil) t89.desc (zL t217.desc)) t57.desc (zN (zL t185.desc) t121.desc (zL
 t249.desc))))) t5.desc (zN (zN (zN (zN (zN (zL t261.desc) t133.desc .nil) t69.desc (zL t197.desc)) t37.desc (zN (zL t165.desc) t101.desc (zL t229.desc))) t21.desc (zN (zN (zN (zL t277.desc) t149.desc .nil) t85.desc (zL t213.desc)) t53.desc
 (zN (zL t181.desc) t116.desc (zL t245.desc)))) t13.desc (zN (zN (zN (zN (zL t269.desc) t141.desc .nil) t77.desc (zL t204.desc)) t45.desc (zN (zL t173.desc) t109.desc (zL t236.desc))) t29.desc (zN (zN (zN (zL t285.desc) t157.desc .nil)
 t93.desc (zL t221.desc)) t60.desc (zN (zL t189.desc) t125.desc (zL t252.desc))))))) t0.desc (zN (zN (zN (zN (zN (zN (zN (zL t255.desc) t128.desc .nil) t64.desc (zL t192.desc)) t32.desc (zN (zL t160.desc) t96.desc (zL t224.desc))) t16.desc
 (zN (zN (zN (zL t271.desc) t144.desc .nil) t80.desc (zL t207.desc)) t48.desc (zN (zL t176.desc) t112.desc (zL t240.desc)))) t7.desc (zN (zN (zN (zN (zL t263.desc) t136.desc .nil) t72.desc (zL t199.desc)) t40.desc (zN (zL t168.desc)
 t104.desc (zL t232.desc))) t24.desc (zN (zN (zN (zL t5.desc) t152.desc .nil) t88.desc (zL t216.desc)) t56.desc (zN (zL t184.desc) t120.desc (zL t248.desc))))) t4.desc (zN (zN (zN (zN (zN (zL t260.desc) t132.desc .nil) t68.desc (zL
 t196.desc)) t3.desc (zN (zL t164.desc) t100.desc (zL t228.desc))) t20.desc (zN (zN (zN (zL t275.desc) t148.desc .nil) t84.desc (zL t212.desc)) t52.desc (zN (zL t180.desc) t116.desc (zL t244.desc)))) t12.desc (zN (zN (zN (zN (zL t268.desc)
 t140.desc .nil) t76.desc (zL t204.desc)) t43.desc (zN (zL t172.desc) t108.desc (zL t236.desc))) t28.desc (zN (zN (zN (zL t21.desc) t156.desc .nil) t92.desc (zL t220.desc)) t60.desc (zN (zL t188.desc) t123.desc (zL t252.desc)))))) t2.desc
 (zN (zN (zN (zN (zN (zN (zL t258.desc) t130.desc .nil) t66.desc (zL t194.desc)) t34.desc (zN (zL t162.desc) t98.desc (zL t226.desc))) t18.desc (zN (zN (zN (zL t273.desc) t146.desc .nil) t82.desc (zL t210.desc)) t50.desc (zN (zL t178.desc)
 t114.desc (zL t242.desc)))) t9.desc (zN (zN (zN (zN (zL t266.desc) t138.desc .nil) t74.desc (zL t202.desc)) t41.desc (zN (zL t170.desc) t106.desc (zL t234.desc))) t26.desc (zN (zN (zN (zL t282.desc) t154.desc .nil) t90.desc (zL t218.desc))
 t58.desc (zN (zL t186.desc) t122.desc (zL t250.desc))))) t5.desc (zN (zN (zN (zN (zN (zL t262.desc) t134.desc .nil) t70.desc (zL t198.desc)) t38.desc (zN (zL t166.desc) t102.desc (zL t230.desc))) t22.desc (zN (zN (zN (zL t278.desc)
 t150.desc .nil) t86.desc (zL t214.desc)) t54.desc (zN (zL t182.desc) t118.desc (zL t246.desc)))) t13.desc (zN (zN (zN (zN (zL t270.desc) t142.desc .nil) t77.desc (zL t206.desc)) t46.desc (zN (zL t174.desc) t110.desc (zL t238.desc)))
 t30.desc (zN (zN (zN (zL t285.desc) t158.desc .nil) t94.desc (zL t222.desc)) t62.desc (zN (zL t190.desc) t126.desc (zL t254.desc)))))))
open Tryz in
noncomputable def fnT:PT (FuncId×Func):=(.node (.node (zN (zN (zN (zN (zN (zL (127,f127)) (63,f63) .nil) (31,f31) (zN (zL (159,f159)) (95,f95) .nil)) (15,f15) (zN (zN (zL (143,f143)) (79,f79) .nil) (47,f47) (zN
 (zL (175,f175)) (111,f111) .nil))) (7,f7) (zN (zN (zN (zL (135,f135)) (71,f71) .nil) (39,f39) (zN (zL (167,f167)) (103,f103) .nil)) (23,f23) (zN (zN (zL (151,f151)) (87,f87) .nil) (55,f55) (zN (zL (183,f183)) (119,f119)
 .nil)))) (3,f3) (zN (zN (zN (zN (zL (131,f131)) (67,f67) .nil) (35,f35) (zN (zL (163,f163)) (99,f99) .nil)) (19,f19) (zN (zN (zL (147,f147)) (83,f83) .nil) (51,f51) (zN (zL (179,f179)) (115,f115) .nil))) (11,f11) (zN (zN (zN
 (zL (139,f139)) (75,f75) .nil) (43,f43) (zN (zL (171,f171)) (107,f107) .nil)) (27,f27) (zN (zN (zL (155,f155)) (91,f91) .nil) (59,f59) (zL (123,f123)))))) none (zN (zN (zN (zN (zN (zL (129,f129)) (65,f65) .nil) (33,f33) (zN
 (zL (161,f161)) (97,f97) .nil)) (17,f17) (zN (zN (zL (145,f145)) (81,f81) .nil) (49,f49) (zL (113,f113)))) (9,f9) (zN (zN (zN (zL (137,f137)) (73,f73) .nil) (41,f41) (zN (zL (169,f169)) (105,f105) .nil)) (25,f25) (zN (zN (zL
 (153,f153)) (89,f89) .nil) (57,f57) (zN (zL (185,f185)) (121,f121) .nil)))) (5,f5) (zN (zN (zN (zN (zL (133,f133)) (69,f69) .nil) (37,f37) (zN (zL (165,f165)) (101,f101) .nil)) (21,f21) (zN (zN (zL (149,f149)) (85,f85) .nil)
 (53,f53) (zN (zL (181,f181)) (117,f117) .nil))) (13,f13) (zN (zN (zN (zL (141,f141)) (77,f77) .nil) (45,f45) (zN (zL (173,f173)) (109,f109) .nil)) (29,f29) (zN (zN (zL (157,f157)) (93,f93) .nil) (61,f61) (zL (125,f125)))))))
 none (zN (zN (zN (zN (zN (zN (zL (128,f128)) (64,f64) .nil) (32,f32) (zN (zL (160,f160)) (96,f96) .nil)) (16,f16) (zN (zN (zL (144,f144)) (80,f80) .nil) (48,f48) (zL (112,f112)))) (8,f8) (zN (zN (zN (zL (136,f136)) (72,f72)
 .nil) (40,f40) (zN (zL (168,f168)) (104,f104) .nil)) (24,f24) (zN (zN (zL (152,f152)) (88,f88) .nil) (56,f56) (zN (zL (184,f184)) (120,f120) .nil)))) (4,f4) (zN (zN (zN (zN (zL (132,f132)) (68,f68) .nil) (36,f36) (zN (zL (164,
 f164)) (100,f100) .nil)) (20,f20) (zN (zN (zL (148,f148)) (84,f84) .nil) (52,f52) (zN (zL (180,f180)) (116,f116) .nil))) (12,f12) (zN (zN (zN (zL (140,f140)) (76,f76) .nil) (44,f44) (zN (zL (172,f172)) (108,f108) .nil)) (28,
 f28) (zN (zN (zL (156,f156)) (92,f92) .nil) (60,f60) (zL (124,f124)))))) (2,f2) (zN (zN (zN (zN (zN (zL (130,f130)) (66,f66) .nil) (34,f34) (zN (zL (162,f162)) (98,f98) .nil)) (18,f18) (zN (zN (zL (146,f146)) (82,f82) .nil)
 (50,f50) (zN (zL (178,f178)) (114,f114) .nil))) (10,f10) (zN (zN (zN (zL (138,f138)) (74,f74) .nil) (42,f42) (zN (zL (170,f170)) (106,f106) .nil)) (26,f26) (zN (zN (zL (154,f154)) (90,f90) .nil) (58,f58) (zN (zL (186,f186))
 (122,f122) .nil)))) (6,f6) (zN (zN (zN (zN (zL (134,f134)) (70,f70) .nil) (38,f38) (zN (zL (166,f166)) (102,f102) .nil)) (22,f22) (zN (zN (zL (150,f150)) (86,f86) (zL (214,f214))) (54,f54) (zN (zL (182,f182)) (118,f118)
 .nil))) (14,f14) (zN (zN (zN (zL (142,f142)) (78,f78) .nil) (46,f46) (zN (zL (174,f174)) (110,f110) .nil)) (30,f30) (zN (zN (zL (158,f158)) (94,f94) .nil) (62,f62) (zL (126,f126))))))))
theorem tyT_ok:tyT.All (InfP Tryz.prog) (fun k=>k):=PT.all_map (g:=fun x=>Tryz.prog.info? x.1) (h:=fun x=>some x.2) (fun _ e=>e) (by kernel_rfl)
theorem unT_ok:unT.All (UndP Tryz.prog) (fun k=>k):=PT.all_map (g:=fun x=>Tryz.prog.underlying x.1) (h:=fun x=>some x.2) (fun _ e=>e) (by kernel_rfl)
theorem fnT_ok:fnT.All (FnP Tryz.prog) (fun k=>k):=PT.all_map (g:=fun x=>(fun args w=>(callFunc x.1 args).run Tryz.prog w,Tryz.prog.funcs[x.2.1]?)) (h:=fun x=>(fun args w=>.ok (.enter x.2.1 args) w,some x.2.2)) (fun _ e=>⟨fun args w=>congrFun (congrFun (congrArg Prod.fst e) args) w,congrArg Prod.snd e⟩) (by kernel_rfl)
def pureL:List Nat:=[5,6,10,11,12,4]
def asciiC:List Value:=Lib.asciiSpaceTab.map fun z=>.int .u8 z
def isSize (s:ByteArray):Option ByteArray:=
 match s.data.toList with
 | [66]=>some ⟨#[98]⟩
 | [87]=>some ⟨#[119]⟩
 | [76]=>some ⟨#[108]⟩
 | _=>none
def extF (f:Nat) (vs:List Value):Option Value:=
 cond (Nat.beq f 106) (match vs with
  | [.string s]=>(isSize s).map .string
  | _=>none) none
noncomputable def Lk0:Lk where
 info t:=tyT.get t
 und t:=unT.get t
 func f:=fnT.get f
 glob g:=Nat.beq g 0
 ext:=extF
 con _ _ _:=none
 pureF f:=pureL.any (Nat.beq f)
 barF _:=false
theorem zii {s r:ByteArray} (h:isSize s=some r):(Lib.toLowerA s.data.toList).toArray=r.data∧s.size=1∧∀ (j:Nat) (b:UInt8),s.data.toList[j]?=some b→b.toNat<128:=by
 unfold isSize at h
 have hsz:∀ x,s.data.toList=[x]→s.size=1:=fun x hx=>by
  show s.data.size=1
  rw [← Array.length_toList,hx];rfl
 have hall:∀ x:UInt8,x.toNat<128→s.data.toList=[x]→∀ (j:Nat) (b:UInt8),s.data.toList[j]?=some b→b.toNat<128:=fun x hx hs j b hb=>by
  rw [hs] at hb
  cases j with
  | zero=>simp at hb;subst hb;exact hx
  | succ j=>simp at hb
 split at h
 ·rename_i hs;cases h;exact ⟨by rw [hs];rfl,hsz _ hs,hall _ (by decide) hs⟩
 ·rename_i hs;cases h;exact ⟨by rw [hs];rfl,hsz _ hs,hall _ (by decide) hs⟩
 ·rename_i hs;cases h;exact ⟨by rw [hs];rfl,hsz _ hs,hall _ (by decide) hs⟩
 ·cases h
theorem za9 [Sym]:Lk0.Ok Tryz.prog where
 symOp _ _ _ _ _ h:=by cases h
 symLen _ _ h:=by cases h
 info t i h:=PT.all_get tyT _ tyT_ok t i h
 und t d h:=PT.all_get unT _ unT_ok t d h
 func f j fn h:=PT.all_get fnT _ fnT_ok f (j,fn) h
 mixed:=by kernel_rfl
 ext f vs v h:=by
  have h':extF f vs=some v:=h
  unfold extF at h'
  cases hb:Nat.beq f 106 with
  | false=>rw [hb] at h';cases h'
  | true=>
    rw [hb] at h'
    rw [zac] at hb
    have hf:=of_decide_eq_true hb
    subst hf
    simp only [zct] at h'
    split at h'
    ·rename_i s
     simp only [zmi] at h'
     obtain ⟨r,hr,rfl⟩:=h'
     obtain ⟨h1,h2,h3⟩:=zii hr
     refine ⟨fun x hx=>by simp at hx;subst hx;rfl,rfl,fun w=>.inl ⟨106,Tryz.call106,?_⟩⟩
     refine (Tryz.strings_ToLower_ascii s w (by omega) h3).mono fun e w' ⟨he,hb⟩=>⟨?_,hb⟩
     rw [he,h1]
    ·cases h'
theorem zbW:LkS Lk0:=⟨fun _ _ _ _=>rfl⟩
theorem con0 [Sym]:zdV Tryz.prog Lk0:=fun f vs nx c h=>by cases h
noncomputable abbrev cc:zaW:=cS Tryz.prog Lk0
end Go.Proofs.YtccjlfagglbnhaaGreatDoorE
namespace Go.Proofs.YtccjlfagglbnhaaGreatDoorE
set_option maxRecDepth 20000
open Go Go.E Go.Proofs
def zc9:LoopI:=⟨[(0,.int .u32),(1,.int .u32),(5,.int .i64)],[(.exit 0,[]),(.ret,[(4,.int .i64)])]⟩
def zdA (n:Nat):Option LoopI:=cond (Nat.beq n 2) (some zc9) (none)
noncomputable def zfe (cf:zaW) (lf:zaJ) (status':Int) (lines':Int) (st:SS):Option (Value×SS):=
 (lf 2 [.int .u32 status',.int .u32 lines',.int .i64 31] (st.ro st.next)).bind fun a=>
 cond (Nat.beq a.1 0) (
 some (.int .i64 0,st.adv a.2.2.next)) (
 ((a.2.1[0]?).bind (asI .i64)).bind fun b=>
 some (.int .i64 b,st.adv a.2.2.next))
noncomputable abbrev zbH:zaJ:=lS Tryz.prog Lk0 Tryz.f5 zdA
theorem zfO:Lk0.func 5=some (5,Tryz.f5):=by kernel_rfl
theorem zfP [Sym] (status':Int) (lines':Int) (st:SS) {r:Value×SS} (h:zfe cc zbH status' lines' st=some r):cc 5 [.int .u32 status',.int .u32 lines'] st=some r:=
 zbw (li:=zdA) za9 zbW zfO rfl (fun _=>rfl) (.trans (by kernel_rfl) h)
noncomputable def zbj (cf:zaW) (lf:zaJ) (status':Int) (lines':Int) (i':Int) (st:SS):Option (Nat×List Value×SS):=
 (cf 10 [.int .u32 status'] st).bind fun a=>
 ((some a.1).bind (asI .i64)).bind fun b=>
 cond (decide (b<i')) (
 ((aI .shr .u32 lines' i').bind (asI .u32)).bind fun c=>
 let d:Int:=zeu .u32 c 1
 cond (decide (d=1)) (
 some (1,[.int .i64 i'],a.2)) (
 let e:Int:=IntKind.wrap .i64 (i'-1)
 lf 2 [.int .u32 status',.int .u32 lines',.int .i64 e] a.2)) (
 some (0,[],a.2))
theorem zbg [Sym] (status':Int) (lines':Int) (i':Int) (st:SS) {r:Nat×List Value×SS} (h:zbj cc zbH status' lines' i' st=some r):zbH 2 [.int .u32 status',.int .u32 lines',.int .i64 i'] st=some r:=
 zbV za9 zbW (key:=2) (I:=zc9) rfl (by kernel_rfl) (by kernel_rfl) rfl rfl (.trans (by kernel_rfl) h)
def zbx:LoopI:=⟨[(0,.int .u32),(1,.int .u32),(5,.int .i64)],[(.exit 0,[]),(.ret,[(4,.int .i64)])]⟩
def zbC (n:Nat):Option LoopI:=cond (Nat.beq n 2) (some zbx) (none)
noncomputable def zbZ (cf:zaW) (lf:zaJ) (psl':Int) (lines':Int) (st:SS):Option (Value×SS):=
 (lf 2 [.int .u32 psl',.int .u32 lines',.int .i64 31] (st.ro st.next)).bind fun a=>
 cond (Nat.beq a.1 0) (
 some (.int .i64 0,st.adv a.2.2.next)) (
 ((a.2.1[0]?).bind (asI .i64)).bind fun b=>
 some (.int .i64 b,st.adv a.2.2.next))
noncomputable abbrev zaM:zaJ:=lS Tryz.prog Lk0 Tryz.f6 zbC
theorem zcW:Lk0.func 6=some (6,Tryz.f6):=by kernel_rfl
theorem zcX [Sym] (psl':Int) (lines':Int) (st:SS) {r:Value×SS} (h:zbZ cc zaM psl' lines' st=some r):cc 6 [.int .u32 psl',.int .u32 lines'] st=some r:=
 zbw (li:=zbC) za9 zbW zcW rfl (fun _=>rfl) (.trans (by kernel_rfl) h)
noncomputable def zaF (cf:zaW) (lf:zaJ) (psl':Int) (lines':Int) (i':Int) (st:SS):Option (Nat×List Value×SS):=
 (cf 11 [.int .u32 psl'] st).bind fun a=>
 ((zfo Lk0 44 1 a.1).bind (asI .i64)).bind fun b=>
 cond (decide (b<i')) (
 (cf 12 [.int .u32 lines',.int .i64 i'] a.2).bind fun c=>
 ((some c.1).bind asB).bind fun d=>
 cond d (
 some (1,[.int .i64 i'],c.2)) (
 let e:Int:=IntKind.wrap .i64 (i'-1)
 lf 2 [.int .u32 psl',.int .u32 lines',.int .i64 e] c.2)) (
 some (0,[],a.2))
theorem zaH [Sym] (psl':Int) (lines':Int) (i':Int) (st:SS) {r:Nat×List Value×SS} (h:zaF cc zaM psl' lines' i' st=some r):zaM 2 [.int .u32 psl',.int .u32 lines',.int .i64 i'] st=some r:=
 zbV za9 zbW (key:=2) (I:=zbx) rfl (by kernel_rfl) (by kernel_rfl) rfl rfl (.trans (by kernel_rfl) h)
noncomputable def zgO (cf:zaW) (lf:zaJ) (x':Int) (st:SS):Option (Value×SS):=
 let n1:Int:=zdQ .u32 x' 16
 let n2:Int:=zeu .u32 n1 31
 let n3:Int:=IntKind.wrap .i64 n2
 some (.int .i64 n3,st.adv (st.ro st.next).next)
noncomputable abbrev zhf:zaJ:=lS Tryz.prog Lk0 Tryz.f10 noLi
theorem zhg:Lk0.func 10=some (10,Tryz.f10):=by kernel_rfl
theorem zhh [Sym] (x':Int) (st:SS) {r:Value×SS} (h:zgO cc zhf x' st=some r):cc 10 [.int .u32 x'] st=some r:=
 zbw (li:=noLi) za9 zbW zhg rfl (fun _=>rfl) (.trans (by kernel_rfl) h)
def zbP:LoopI:=⟨[(0,.int .u32),(2,.any),(3,.any),(6,.int .i64)],[(.exit 2,[(2,.any),(3,.any)])]⟩
def zbX:LoopI:=⟨[(0,.int .u32),(2,.any),(3,.any),(4,.int .i64),(5,.int .i64)],[(.exit 0,[(0,.int .u32),(2,.any),(3,.any)])]⟩
def zb0 (n:Nat):Option LoopI:=cond (Nat.beq n 4) (some zbX) (cond (Nat.beq n 10) (some zbP) (none))
noncomputable def zcK (cf:zaW) (lf:zaJ) (x':Int) (st:SS):Option (Value×SS):=
 let a:SS:=(st.ro st.next).new (.cells [.bool false,.bool false,.bool false,.bool false,.int .i64 0,.bool false,.bool false,.bool false,.bool false] 0)
 (cf 12 [.int .u32 x',.int .i64 0] a).bind fun b=>
 ((some b.1).bind asB).bind fun c=>
 (cf 12 [.int .u32 x',.int .i64 1] b.2).bind fun d=>
 ((some d.1).bind asB).bind fun e=>
 (cf 12 [.int .u32 x',.int .i64 2] d.2).bind fun f=>
 ((some f.1).bind asB).bind fun g=>
 (cf 12 [.int .u32 x',.int .i64 3] f.2).bind fun h=>
 ((some h.1).bind asB).bind fun i=>
 (cf 12 [.int .u32 x',.int .i64 22] h.2).bind fun j=>
 ((some j.1).bind asB).bind fun k=>
 (cf 12 [.int .u32 x',.int .i64 24] j.2).bind fun l=>
 ((some l.1).bind asB).bind fun m=>
 (cf 12 [.int .u32 x',.int .i64 27] l.2).bind fun n=>
 ((some n.1).bind asB).bind fun o=>
 let p:SS:=n.2.new (.cells [.bool false,.bool false,.bool false,.bool false,.int .i64 0,.bool false,.bool false,.bool false,.bool false] 0)
 (p.st n.2.next 0 [.bool i,.bool g,.bool e,.bool c,.int .i64 0,.bool k,.bool m,.bool o,.bool false]).bind fun q=>
 (lf 4 [.int .u32 x',ptr ((st.ro st.next).next) 0,ptr n.2.next 0,.int .i64 1,.int .i64 16] q).bind fun r=>
 ((r.2.1[0]?).bind (asI .u32)).bind fun s=>
 (r.2.1[1]?).bind fun t=>
 (r.2.1[2]?).bind fun u=>
 (lf 10 [.int .u32 s,t,u,.int .i64 0] r.2.2).bind fun v=>
 (v.2.1[0]?).bind fun w=>
 (v.2.1[1]?).bind fun x=>
 (addr? x).bind fun y=>
 (v.2.2.ldN y.1 y.2 9).bind fun z=>
 (addr? w).bind fun A=>
 (v.2.2.stV A.1 A.2 9 z).bind fun B=>
 (addr? w).bind fun C=>
 (B.rdN C.1 C.2 9).bind fun D=>
 cond (flat3 D) (some (D,st.adv B.next)) none
noncomputable abbrev zar:zaJ:=lS Tryz.prog Lk0 Tryz.f11 zb0
theorem zdB:Lk0.func 11=some (11,Tryz.f11):=by kernel_rfl
theorem zdC [Sym] (x':Int) (st:SS) {r:Value×SS} (h:zcK cc zar x' st=some r):cc 11 [.int .u32 x'] st=some r:=
 zbw (li:=zb0) za9 zbW zdB rfl (fun _=>rfl) (.trans (by kernel_rfl) h)
noncomputable def zaX (cf:zaW) (lf:zaJ) (x':Int) (t2':Value) (s':Value) (worth':Int) (i':Int) (st:SS):Option (Nat×List Value×SS):=
 cond (decide (i'<21)) (
 (cf 12 [.int .u32 x',.int .i64 i'] st).bind fun a=>
 ((some a.1).bind asB).bind fun b=>
 cond b (
 (addr? s').bind fun c=>
 ((a.2.ld c.1 (c.2+4)).bind (asI .i64)).bind fun d=>
 let e:Int:=IntKind.wrap .i64 (d+worth')
 (addr? s').bind fun f=>
 (a.2.st f.1 (f.2+4) [.int .i64 e]).bind fun g=>
 let h:Int:=IntKind.wrap .i64 (2*worth')
 let i:Int:=IntKind.wrap .i64 (i'+1)
 lf 4 [.int .u32 x',t2',s',.int .i64 h,.int .i64 i] g) (
 let j:Int:=IntKind.wrap .i64 (2*worth')
 let k:Int:=IntKind.wrap .i64 (i'+1)
 lf 4 [.int .u32 x',t2',s',.int .i64 j,.int .i64 k] a.2)) (
 some (0,[.int .u32 x',t2',s'],st))
theorem za2 [Sym] (x':Int) (t2':Value) (s':Value) (worth':Int) (i':Int) (st:SS) {r:Nat×List Value×SS} (h:zaX cc zar x' t2' s' worth' i' st=some r):zar 4 [.int .u32 x',t2',s',.int .i64 worth',.int .i64 i'] st=some r:=
 zbV za9 zbW (key:=4) (I:=zbX) rfl (by kernel_rfl) (by kernel_rfl) rfl rfl (.trans (by kernel_rfl) h)
noncomputable def zaI (cf:zaW) (lf:zaJ) (x':Int) (t2':Value) (s':Value) (i':Int) (st:SS):Option (Nat×List Value×SS):=
 cond (decide (i'<32)) (
 cond (decide (i'<4)) (
 (addr? s').bind fun a=>
 ((st.ld a.1 (a.2+8)).bind asB).bind fun b=>
 cond b (
 (addr? s').bind fun c=>
 (st.st c.1 (c.2+8) [.bool true]).bind fun d=>
 let e:Int:=IntKind.wrap .i64 (i'+1)
 lf 10 [.int .u32 x',t2',s',.int .i64 e] d) (
 (addr? s').bind fun f=>
 (st.st f.1 (f.2+8) [.bool false]).bind fun g=>
 let h:Int:=IntKind.wrap .i64 (i'+1)
 lf 10 [.int .u32 x',t2',s',.int .i64 h] g)) (
 cond (decide (16≤i')) (
 cond (decide (i'≤20)) (
 (addr? s').bind fun i=>
 ((st.ld i.1 (i.2+8)).bind asB).bind fun j=>
 cond j (
 (addr? s').bind fun k=>
 (st.st k.1 (k.2+8) [.bool true]).bind fun l=>
 let m:Int:=IntKind.wrap .i64 (i'+1)
 lf 10 [.int .u32 x',t2',s',.int .i64 m] l) (
 (addr? s').bind fun n=>
 (st.st n.1 (n.2+8) [.bool false]).bind fun o=>
 let p:Int:=IntKind.wrap .i64 (i'+1)
 lf 10 [.int .u32 x',t2',s',.int .i64 p] o)) (
 cond (decide (i'=22)) (
 (addr? s').bind fun q=>
 ((st.ld q.1 (q.2+8)).bind asB).bind fun r=>
 cond r (
 (addr? s').bind fun s=>
 (st.st s.1 (s.2+8) [.bool true]).bind fun t=>
 let u:Int:=IntKind.wrap .i64 (i'+1)
 lf 10 [.int .u32 x',t2',s',.int .i64 u] t) (
 (addr? s').bind fun v=>
 (st.st v.1 (v.2+8) [.bool false]).bind fun w=>
 let x:Int:=IntKind.wrap .i64 (i'+1)
 lf 10 [.int .u32 x',t2',s',.int .i64 x] w)) (
 cond (decide (i'=24)) (
 (addr? s').bind fun y=>
 ((st.ld y.1 (y.2+8)).bind asB).bind fun z=>
 cond z (
 (addr? s').bind fun A=>
 (st.st A.1 (A.2+8) [.bool true]).bind fun B=>
 let C:Int:=IntKind.wrap .i64 (i'+1)
 lf 10 [.int .u32 x',t2',s',.int .i64 C] B) (
 (addr? s').bind fun D=>
 (st.st D.1 (D.2+8) [.bool false]).bind fun E=>
 let F:Int:=IntKind.wrap .i64 (i'+1)
 lf 10 [.int .u32 x',t2',s',.int .i64 F] E)) (
 (addr? s').bind fun G=>
 ((st.ld G.1 (G.2+8)).bind asB).bind fun H=>
 cond H (
 (addr? s').bind fun I=>
 (st.st I.1 (I.2+8) [.bool true]).bind fun J=>
 let K:Int:=IntKind.wrap .i64 (i'+1)
 lf 10 [.int .u32 x',t2',s',.int .i64 K] J) (
 cond (!(decide (i'=27))) (
 (cf 12 [.int .u32 x',.int .i64 i'] st).bind fun L=>
 ((some L.1).bind asB).bind fun M=>
 (addr? s').bind fun N=>
 (L.2.st N.1 (N.2+8) [.bool M]).bind fun O=>
 let P:Int:=IntKind.wrap .i64 (i'+1)
 lf 10 [.int .u32 x',t2',s',.int .i64 P] O) (
 (addr? s').bind fun Q=>
 (st.st Q.1 (Q.2+8) [.bool false]).bind fun R=>
 let S:Int:=IntKind.wrap .i64 (i'+1)
 lf 10 [.int .u32 x',t2',s',.int .i64 S] R)))))) (
 cond (decide (i'=22)) (
 (addr? s').bind fun T=>
 ((st.ld T.1 (T.2+8)).bind asB).bind fun U=>
 cond U (
 (addr? s').bind fun V=>
 (st.st V.1 (V.2+8) [.bool true]).bind fun W=>
 let X:Int:=IntKind.wrap .i64 (i'+1)
 lf 10 [.int .u32 x',t2',s',.int .i64 X] W) (
 (addr? s').bind fun Y=>
 (st.st Y.1 (Y.2+8) [.bool false]).bind fun Z=>
 let aA:Int:=IntKind.wrap .i64 (i'+1)
 lf 10 [.int .u32 x',t2',s',.int .i64 aA] Z)) (
 cond (decide (i'=24)) (
 (addr? s').bind fun aB=>
 ((st.ld aB.1 (aB.2+8)).bind asB).bind fun aC=>
 cond aC (
 (addr? s').bind fun aD=>
 (st.st aD.1 (aD.2+8) [.bool true]).bind fun aE=>
 let aF:Int:=IntKind.wrap .i64 (i'+1)
 lf 10 [.int .u32 x',t2',s',.int .i64 aF] aE) (
 (addr? s').bind fun aG=>
 (st.st aG.1 (aG.2+8) [.bool false]).bind fun aH=>
 let aI:Int:=IntKind.wrap .i64 (i'+1)
 lf 10 [.int .u32 x',t2',s',.int .i64 aI] aH)) (
 (addr? s').bind fun aJ=>
 ((st.ld aJ.1 (aJ.2+8)).bind asB).bind fun aK=>
 cond aK (
 (addr? s').bind fun aL=>
 (st.st aL.1 (aL.2+8) [.bool true]).bind fun aM=>
 let aN:Int:=IntKind.wrap .i64 (i'+1)
 lf 10 [.int .u32 x',t2',s',.int .i64 aN] aM) (
 cond (!(decide (i'=27))) (
 (cf 12 [.int .u32 x',.int .i64 i'] st).bind fun aO=>
 ((some aO.1).bind asB).bind fun aP=>
 (addr? s').bind fun aQ=>
 (aO.2.st aQ.1 (aQ.2+8) [.bool aP]).bind fun aR=>
 let aS:Int:=IntKind.wrap .i64 (i'+1)
 lf 10 [.int .u32 x',t2',s',.int .i64 aS] aR) (
 (addr? s').bind fun aT=>
 (st.st aT.1 (aT.2+8) [.bool false]).bind fun aU=>
 let aV:Int:=IntKind.wrap .i64 (i'+1)
 lf 10 [.int .u32 x',t2',s',.int .i64 aV] aU))))))) (
 some (0,[t2',s'],st))
theorem zaK [Sym] (x':Int) (t2':Value) (s':Value) (i':Int) (st:SS) {r:Nat×List Value×SS} (h:zaI cc zar x' t2' s' i' st=some r):zar 10 [.int .u32 x',t2',s',.int .i64 i'] st=some r:=
 zbV za9 zbW (key:=10) (I:=zbP) rfl (by kernel_rfl) (by kernel_rfl) rfl rfl (.trans (by kernel_rfl) h)
def zbQ:LoopI:=⟨[(0,.int .u32),(1,.int .i64),(5,.int .i64)],[(.exit 0,[(0,.int .u32)])]⟩
def zbY (n:Nat):Option LoopI:=cond (Nat.beq n 2) (some zbQ) (none)
noncomputable def zcg (cf:zaW) (lf:zaJ) (x':Int) (n':Int) (st:SS):Option (Value×SS):=
 (lf 2 [.int .u32 x',.int .i64 n',.int .i64 0] (st.ro st.next)).bind fun a=>
 ((a.2.1[0]?).bind (asI .u32)).bind fun b=>
 let c:Int:=Int.tmod b 2
 some (.bool (decide (c=1)),st.adv a.2.2.next)
noncomputable abbrev zaR:zaJ:=lS Tryz.prog Lk0 Tryz.f12 zbY
theorem zdy:Lk0.func 12=some (12,Tryz.f12):=by kernel_rfl
theorem zdz [Sym] (x':Int) (n':Int) (st:SS) {r:Value×SS} (h:zcg cc zaR x' n' st=some r):cc 12 [.int .u32 x',.int .i64 n'] st=some r:=
 zbw (li:=zbY) za9 zbW zdy rfl (fun _=>rfl) (.trans (by kernel_rfl) h)
noncomputable def zbh (cf:zaW) (lf:zaJ) (x':Int) (n':Int) (i':Int) (st:SS):Option (Nat×List Value×SS):=
 cond (decide (i'<n')) (
 let n1:Int:=IntKind.wrap .u32 (Int.tdiv x' 2)
 let n2:Int:=IntKind.wrap .i64 (i'+1)
 lf 2 [.int .u32 n1,.int .i64 n',.int .i64 n2] st) (
 some (0,[.int .u32 x'],st))
theorem zby [Sym] (x':Int) (n':Int) (i':Int) (st:SS) {r:Nat×List Value×SS} (h:zbh cc zaR x' n' i' st=some r):zaR 2 [.int .u32 x',.int .i64 n',.int .i64 i'] st=some r:=
 zbV za9 zbW (key:=2) (I:=zbQ) rfl (by kernel_rfl) (by kernel_rfl) rfl rfl (.trans (by kernel_rfl) h)
noncomputable def zbr (cf:zaW) (lf:zaJ) (status':Int) (lines':Int) (st:SS):Option (Value×SS):=
 (cf 4 [] st).bind fun a=>
 ((some a.1).bind asB).bind fun b=>
 cond (!b) (
 some (.bool false,a.2)) (
 (cf 5 [.int .u32 status',.int .u32 lines'] a.2).bind fun c=>
 ((some c.1).bind (asI .i64)).bind fun d=>
 (cf 6 [.int .u32 status',.int .u32 lines'] c.2).bind fun e=>
 ((some e.1).bind (asI .i64)).bind fun f=>
 some (.bool (decide (d=f)),e.2))
noncomputable abbrev zcc:zaJ:=lS Tryz.prog Lk0 Tryz.f3 noLi
theorem zcd:Lk0.func 3=some (3,Tryz.f3):=by kernel_rfl
theorem zce [Sym] (status':Int) (lines':Int) (st:SS) {r:Value×SS} (h:zbr cc zcc status' lines' st=some r):cc 3 [.int .u32 status',.int .u32 lines'] st=some r:=
 zbw (li:=noLi) za9 zbW zcd rfl (fun _=>rfl) (.trans (by kernel_rfl) h)
end Go.Proofs.YtccjlfagglbnhaaGreatDoorE
namespace Go.E
open Go
structure Mod (S:List Nat) (a b:SS):Prop where
 next:a.next≤b.next
 lim:b.lim=a.lim
 keep:∀ j,j<a.next→j∉S→b.mem.get j=a.mem.get j
section
variable {S T : List Nat} {a b c : SS} {i n : Nat}
theorem Mod.refl (a:SS):Mod S a a:=⟨zlr _,rfl,fun _ _ _=>rfl⟩
theorem Mod.ofExt (h:Ext a b):Mod S a b:=⟨h.next,h.lim,fun j hj _=>h.keep j hj⟩
theorem Mod.trans (h:Mod S a b) (k:Mod T b c) (hT:∀ j,j∈T→j<a.next→j∈S):Mod S a c:=
 ⟨zlt h.next k.next,k.lim.trans h.lim,fun j hj hS=>(k.keep j (zll hj h.next) (fun hm=>hS (hT j hm hj))).trans (h.keep j hj hS)⟩
theorem Mod.then (h:Mod S a b) (k:Mod S b c):Mod S a c:=h.trans k fun _ hj _=>hj
theorem Mod.mono (h:Mod S a b) (hS:∀ j,j∈S→j∈T):Mod T a b:=⟨h.next,h.lim,fun j hj hT=>h.keep j hj fun hm=>hT (hS j hm)⟩
theorem Mod.fresh (h:Mod S a b) (hS:∀ j,j∈S→a.next≤j):Ext a b:=⟨h.next,h.lim,fun j hj=>h.keep j hj fun hm=>by have:=hS j hm;omega⟩
theorem Mod.ll (h:Mod S a b) (hl:a.lim≤a.next):b.lim≤b.next:=by rw [h.lim];exact zlt hl h.next
theorem Ext.ll (h:Ext a b) (hl:a.lim≤a.next):b.lim≤b.next:=by rw [h.lim];exact zlt hl h.next
theorem Ext.advR (a:SS) (hn:a.next≤n):Ext a (a.adv n):=(Ext.refl a).adv hn
theorem Mod.get {x:Option AObj} (h:Mod S a b) (hi:i<a.next) (hS:i∉S) (hx:a.mem.get i=x):b.mem.get i=x:=(h.keep i hi hS).trans hx
theorem Rd.mod {v:Value} {c:List Value} {z n:Nat} (h:Rd a v c z n) (m:Mod S a b) (hv:∀ j k l q,v=.slice (some ⟨j,k,none⟩) l q→j∉S):Rd b v c z n:=by
 obtain ⟨h1,h2⟩:=h
 refine ⟨h1,h2.imp id ?_⟩
 rintro ⟨i,cap,e,⟨z',hm⟩,hi⟩
 exact ⟨i,cap,e,⟨z',m.get hi (hv i 0 n cap e) hm⟩,zll hi m.next⟩
theorem Own.mod {B:Nat} {v:Value} {c:List Value} {z n:Nat} (h:Own B a v c z n) (m:Mod S a b) (hv:∀ j k l q,v=.slice (some ⟨j,k,none⟩) l q→j∉S):Own B b v c z n:=by
 obtain ⟨h1,h2⟩:=h
 refine ⟨h1,h2.imp id ?_⟩
 rintro ⟨i,e,h0,hm,hb,hi⟩
 exact ⟨i,e,h0,m.get hi (hv i 0 n n e) hm,hb,zll hi m.next⟩
end
def At (st:SS) (i:Nat) (row:List Value):Prop:=st.mem.get i=some (.cells row 0)∧i<st.next∧st.lim≤i
section
variable {S : List Nat} {st st' : SS} {i k n : Nat} {row row' vs : List Value}
theorem At.mem (h:At st i row):st.mem.get i=some (.cells row 0):=h.1
theorem At.lt (h:At st i row):i<st.next:=h.2.1
theorem At.mod (h:At st i row) (m:Mod S st st') (hi:i∉S):At st' i row:=⟨m.get h.lt hi h.1,zll h.lt m.next,by rw [m.lim];exact h.2.2⟩
theorem At.ext (h:At st i row) (m:Ext st st'):At st' i row:=h.mod (S:=[]) (.ofExt m) (by simp)
theorem At.adv (h:At st i row) (hn:st.next≤n):At (st.adv n) i row:=h.ext (.advR st hn)
theorem At.ld (h:At st i row):st.ld i k=row[k]?:=SS.ld_cells h.1
theorem At.rd (h:At st i row):st.rd i k=row[k]?:=SS.rd_cells h.1
theorem At.ldN (h:At st i row) (hn:row.length=n):st.ldN i 0 n=some (.agg row.toArray):=by rw [SS.ldN_cells h.1,zc8 hn];rfl
theorem At.rdN (h:At st i row) (hn:row.length=n):st.rdN i 0 n=some (.agg row.toArray):=by rw [SS.rdN_cells h.1,zc8 hn];rfl
theorem At.sto (h:At st i row) (h1:vs.all one=true) (hs:zbk row k vs=some row'):∃ st',st.st i k vs=some st'∧At st' i row'∧Mod [i] st st'∧st'.next=st.next:=
 ⟨_,SS.st_cells h.1 h.2.2 h1 hs,⟨by simp,h.2.1,h.2.2⟩,⟨zlr _,rfl,fun j hj hS=>SS.set_old (by simpa using hS)⟩,rfl⟩
theorem At.stV (h:At st i row) {v:Value} (hv:v.cells.toList=vs) (hn:vs.length=n) (h1:vs.all one=true) (hs:zbk row k vs=some row'):∃ st',st.stV i k n v=some st'∧At st' i row'∧Mod [i] st st'∧st'.next=st.next:=by
 obtain ⟨st',a,b,c,d⟩:=h.sto h1 hs
 refine ⟨st',?_,b,c,d⟩
 unfold SS.stV
 have e:v.cells.size=n:=by rw [← hn,← hv];simp
 rw [e,hv,a]
 simp
theorem At.new (hl:st.lim≤st.next) (row:List Value):At (st.new (.cells row 0)) st.next row:=⟨by simp,by simp,hl⟩
theorem Mod.new (ob:AObj):Mod [] st (st.new ob):=.ofExt ((Ext.refl st).new ob)
theorem new_ok (hl:st.lim≤st.next) {r:List Value} (h1:row.all one=true) (hr:r.length=row.length):∃ st',(st.new (.cells r 0)).st st.next 0 row=some st'∧At st' st.next row∧Ext st st'∧st'.next=st.next+1:=by
 obtain ⟨st',a,b,c,d⟩:=(At.new hl r).sto (k:=0) (vs:=row) (row':=row) h1 (by rw [zfL (by omega)];simp [hr])
 exact ⟨st',a,b,(((Mod.new (.cells r 0)).mono (T:=[st.next]) (by simp)).then c).fresh (by simp),d⟩
end
theorem aggC (row:List Value):(Value.agg row.toArray).cells.toList=row:=by simp [Value.cells]
theorem Rd.row1 {st:SS} {row:List Value} {z:Nat} (h:row.length=z):Rd (st.new (.cells row z)) (.slice (some ⟨st.next,0,none⟩) 1 1) row z 1:=
 ⟨by rw [h,Nat.one_mul],.inr ⟨st.next,1,rfl,⟨z,SS.new_get⟩,by simp⟩⟩
theorem Own.push {b:Nat} {st:SS} {v:Value} {c row:List Value} {z n bt:Nat} (h:Own b st v c z n) (hb:b≤st.next) (hl:st.lim≤b) (hr:row.length=z) (hz:0<z) (h1:row.all one=true) (hs:(n+2)*bt≤2^44) (hn:n+1≤2^44):
  ∃ v' st',(st.new (.cells row z)).app z bt v (.slice (some ⟨st.next,0,none⟩) 1 1)=some (v',st')∧Own b st' v' (c++row) z (n+1)∧(∀ st0,st0.next≤b→Ext st0 st→Ext st0 st')∧st'.lim=st.lim∧st.next≤st'.next∧
   ∀ j,j<st.next→(∀ q,v≠.slice (some ⟨j,0,none⟩) q q)→st'.mem.get j=st.mem.get j:=by
 obtain ⟨v',st',g1,g2,g3,g4,g5,g6⟩:=(h.ext ((Ext.refl st).new (.cells row z))).app (Rd.row1 (st:=st) hr) (zlt hb (Nat.le_succ _)) hl hz h1 (bt:=bt) (by simpa [Nat.add_assoc] using hs) hn
 exact ⟨v',st',g1,g2,fun st0 h0 he=>g5 st0 h0 (he.new _),g3,zlt (Nat.le_succ _) g4,fun j hj hv=>by rw [g6 j (by simp;omega) hv,SS.new_old (by omega)]⟩
structure Keep (B:Nat) (S:List Nat) (a b:SS):Prop where
 next:a.next≤b.next
 lim:b.lim=a.lim
 keep:∀ j,j<B→j∉S→b.mem.get j=a.mem.get j
section
variable {S : List Nat} {a b c : SS} {B i : Nat}
theorem Keep.refl (a:SS):Keep B S a a:=⟨zlr _,rfl,fun _ _ _=>rfl⟩
theorem Keep.then (h:Keep B S a b) (k:Keep B S b c):Keep B S a c:=⟨zlt h.next k.next,k.lim.trans h.lim,fun j hj hS=>(k.keep j hj hS).trans (h.keep j hj hS)⟩
theorem Keep.mod (h:Keep B S a b) (hB:a.next≤B):Mod S a b:=⟨h.next,h.lim,fun j hj hS=>h.keep j (by omega) hS⟩
theorem Keep.mono {B':Nat} {T:List Nat} (h:Keep B S a b) (hB:B'≤B) (hS:∀ j,j∈S→j<B'→j∈T):Keep B' T a b:=⟨h.next,h.lim,fun j hj hT=>h.keep j (by omega) fun hm=>hT (hS j hm hj)⟩
theorem Keep.ll (h:Keep B S a b) (hl:a.lim≤a.next):b.lim≤b.next:=by rw [h.lim];exact zlt hl h.next
theorem Own.cell {v:Value} {c:List Value} {z n:Nat} (h:Own B a v c z n):v.cells.toList=[v]∧one v=true:=by
 obtain ⟨_,⟨rfl,_⟩ | ⟨i,rfl,_⟩⟩:=h<;>exact ⟨rfl,rfl⟩
end
section
variable {α : Type} {f : α → List Value} {z : Nat}
end
end Go.E
namespace Go.E
open Go
def Rg (st:SS) (v:Value) (c:List Value) (z n:Nat):Prop:=
 c.length=n*z∧((v=.slice none 0 0∧n=0)∨∃ i cap C,v=.slice (some ⟨i,0,none⟩) n cap∧n≤cap∧i<st.next∧C.take (n*z)=c∧((∃ z',(z'=z∨z'=0)∧st.mem.get i=some (.cells C z'))∨st.mem.get i=some (.table C)))
section
variable {S : List Nat} {st st' : SS} {v : Value} {c : List Value} {z n B : Nat}
theorem Rg.len (h:Rg st v c z n):lenV v=some (.int .i64 (n:Int)):=by
 obtain ⟨_,⟨rfl,rfl⟩ | ⟨i,cap,C,rfl,_⟩⟩:=h<;>rfl
theorem Rg.sl (h:Rg st v c z n):sliceLen v=some (n:Int):=by
 obtain ⟨_,⟨rfl,rfl⟩ | ⟨i,cap,C,rfl,_⟩⟩:=h<;>rfl
theorem Rg.cell (h:Rg st v c z n):v.cells.toList=[v]∧one v=true:=by
 obtain ⟨_,⟨rfl,rfl⟩ | ⟨i,cap,C,rfl,_⟩⟩:=h<;>exact ⟨rfl,rfl⟩
theorem Rg.keep (h:Rg st v c z n) (hn:st.next≤st'.next) (hk:∀ i l cap,v=.slice (some ⟨i,0,none⟩) l cap→i<st.next→st'.mem.get i=st.mem.get i):Rg st' v c z n:=by
 obtain ⟨h1,h2⟩:=h
 refine ⟨h1,h2.imp id ?_⟩
 rintro ⟨i,cap,C,e,hc,hi,ht,hm⟩
 rw [← hk i _ _ e hi] at hm
 exact ⟨i,cap,C,e,hc,zll hi hn,ht,hm⟩
theorem Rg.ext (h:Rg st v c z n) (he:Ext st st'):Rg st' v c z n:=h.keep he.next fun i l cap e hi=>he.keep i hi
theorem Rg.mod (h:Rg st v c z n) (m:Mod S st st') (hv:∀ i l cap,v=.slice (some ⟨i,0,none⟩) l cap→i∉S):Rg st' v c z n:=h.keep m.next fun i l cap e hi=>m.keep i hi (hv i l cap e)
theorem zij {C c:List Value} {n k z:Nat} (h:C.take n=c) (hk:k+z≤c.length):cut C k z=some ((c.drop k).take z):=by
 subst h
 rw [List.length_take] at hk
 refine zfd ?_ ?_
 ·rw [List.drop_take,List.take_take,Nat.min_eq_left (by omega)]
 ·simp;omega
theorem Rg.load (h:Rg st v c z n) {j:Int} (h0:0≤j) (h1:j<n) {row:List Value} (hr:(c.drop (j.toNat*z)).take z=row) (hz:row.length=z):
  ∃ p,zbG v j z=some p∧st.ldN p.1 p.2 z=some (.agg row.toArray)∧∀ k x,row[k]?=some x→st.ld p.1 (p.2+k)=some x:=by
 obtain ⟨hc,⟨rfl,rfl⟩ | ⟨i,cap,C,rfl,hcap,hi,ht,hm⟩⟩:=h
 ·omega
 have hb:j.toNat*z+z≤c.length:=by
  have h2:j.toNat+1≤n:=by omega
  have h3:=Nat.mul_le_mul_right z h2
  rw [Nat.add_mul,Nat.one_mul] at h3
  omega
 have e0:zbG (.slice (some ⟨i,0,none⟩) n cap) j z=some (i,0+j.toNat*z):=by
  unfold zbG
  simp only [zdt h0,zdt h1,Bool.and_self,zct]
 have hcut:=zij (k:=j.toNat*z) (z:=z) ht hb
 rw [hr] at hcut
 have hget:∀ k x,row[k]?=some x→C[j.toNat*z+k]?=some x:=fun k x hx=>by
  rw [← hr,List.getElem?_take] at hx
  split at hx
  ·rw [List.getElem?_drop,← ht,List.getElem?_take] at hx
   split at hx
   ·exact hx
   ·cases hx
  ·cases hx
 refine ⟨_,e0,?_,fun k x hx=>?_⟩
 ·simp only [Nat.zero_add]
  rcases hm with ⟨z',_,hm⟩ | hm
  ·rw [SS.ldN_cells hm,hcut];rfl
  ·rw [SS.ldN_table hm,hcut];rfl
 ·simp only [Nat.zero_add]
  rcases hm with ⟨z',_,hm⟩ | hm
  ·rw [SS.ld_cells hm];exact hget k x hx
  ·rw [SS.ld_table hm];exact hget k x hx
theorem Rg.resl (h:Rg st v c z n) {m:Nat} (hm:m≤n):∃ v',st.resl v z 0 (m:Int)=some v'∧Rg st v' (c.take (m*z)) z m:=by
 obtain ⟨hc,⟨rfl,rfl⟩ | ⟨i,cap,C,rfl,hcap,hi,ht,hmm⟩⟩:=h
 ·have:m=0:=by omega
  subst this
  exact ⟨.slice none 0 0,rfl,by simp,.inl ⟨rfl,rfl⟩⟩
 have h1:decide ((m:Int)≤(cap:Int))=true:=zdt (by omega)
 have h2:decide ((0:Int)≤(m:Int))=true:=zdt (by omega)
 have h4:cond (Nat.beq cap 0) 0 (0+0*z)=0:=by cases Nat.beq cap 0<;>simp
 have hle:m*z≤n*z:=Nat.mul_le_mul_right z hm
 have hres:st.resl (.slice (some ⟨i,0,none⟩) n cap) z 0 (m:Int)=some (.slice (some ⟨i,0,none⟩) m cap):=by
  unfold SS.resl
  rcases hmm with ⟨z',hz',hmm⟩ | hmm
  ·have hq:(Nat.beq z' z||Nat.beq z' 0)=true:=by
    simp only [Bool.or_eq_true,zac,decide_eq_true_eq];exact hz'
   simp only [hmm,zob,hq,h1,h2,zct,Int.toNat_zero,h4,Int.toNat_natCast,Nat.sub_zero,Int.le_refl,decide_true,Bool.and_self]
  ·simp only [hmm,zob,h1,h2,zct,Int.toNat_zero,h4,Int.toNat_natCast,Nat.sub_zero,Int.le_refl,decide_true,Bool.and_self]
 exact ⟨_,hres,by rw [List.length_take];omega,.inr ⟨i,cap,C,rfl,by omega,hi,by rw [← ht,List.take_take,Nat.min_eq_left hle],hmm⟩⟩
end
theorem ziG {row:List Value} {k:Nat} (x:Value) (h:k<row.length):zbk row k [x]=some (row.set k x):=by
 rw [zfL (by simp;omega),List.set_eq_take_append_cons_drop]
 rw [if_pos h];rfl
theorem At.set1 {st:SS} {i k:Nat} {row:List Value} (h:At st i row) {x:Value} (hk:k<row.length) (h1:one x=true):∃ st',st.st i k [x]=some st'∧At st' i (row.set k x)∧Mod [i] st st'∧st'.next=st.next:=
 h.sto (by simp [h1]) (ziG x hk)
end Go.E
namespace Go.E
open Go
noncomputable def two (st:SS) (b c:Nat) (p f:List Value):SS:=(st.set b (some (.cells p 0))).set c (some (.cells f 0))
structure Ok2 (st:SS) (b c:Nat):Prop where
 ne:b≠c
 hb:b<st.next
 hc:c<st.next
 lb:st.lim≤b
 lc:st.lim≤c
 ll:st.lim≤st.next
section
variable {st : SS} {b c i k n : Nat} {p f p' f' vs : List Value} {ob : AObj}
end
section
variable {st : SS} {b c i k n : Nat} {p f p' f' vs : List Value} {ob : AObj}
theorem Ok2.new (h:Ok2 st b c):Ok2 (st.new ob) b c:=⟨h.ne,Nat.lt_succ_of_lt h.hb,Nat.lt_succ_of_lt h.hc,h.lb,h.lc,Nat.le_succ_of_le h.ll⟩
theorem Ok2.ext {st':SS} (h:Ok2 st b c) (x:Ext st st'):Ok2 st' b c:=⟨h.ne,zll h.hb x.next,zll h.hc x.next,by rw [x.lim];exact h.lb,by rw [x.lim];exact h.lc,x.ll h.ll⟩
end
end Go.E
namespace Go.E
open Go
def SL (B:Nat) (s:SS) (z:Nat) (v:Value) (c:List Value) (n:Nat):Prop:=
 c.length=n*z∧((v=.slice none 0 0∧n=0)∨∃ j o cap C,v=.slice (some ⟨j,o,none⟩) n cap∧n≤cap∧s.mem.get j=some (.cells C z)∧o+cap*z≤C.length∧(C.drop o).take (n*z)=c∧B≤j∧j<s.next)
section
variable {B : Nat} {s s' : SS} {z n m : Nat} {v : Value} {c row : List Value}
theorem SL.nil:SL B s z (.slice none 0 0) [] 0:=⟨by simp,.inl ⟨rfl,rfl⟩⟩
theorem SL.cell (h:SL B s z v c n):v.cells.toList=[v]∧one v=true:=by
 obtain ⟨_,⟨rfl,_⟩ | ⟨j,o,cap,C,rfl,_⟩⟩:=h<;>exact ⟨rfl,rfl⟩
theorem SL.len (h:SL B s z v c n):lenV v=some (.int .i64 (n:Int)):=by
 obtain ⟨_,⟨rfl,rfl⟩ | ⟨j,o,cap,C,rfl,_⟩⟩:=h<;>rfl
theorem SL.sl (h:SL B s z v c n):sliceLen v=some (n:Int):=by
 obtain ⟨_,⟨rfl,rfl⟩ | ⟨j,o,cap,C,rfl,_⟩⟩:=h<;>rfl
theorem SL.blk (h:SL B s z v c n):∀ i o l q,v=.slice (some ⟨i,o,none⟩) l q→B≤i∧i<s.next:=fun i o l q e=>by
 obtain ⟨_,⟨rfl,_⟩ | ⟨j,o',cap,C,rfl,_,_,_,_,h5,h6⟩⟩:=h
 ·cases e
 ·cases e;exact ⟨h5,h6⟩
theorem SL.keep (h:SL B s z v c n) (hn:s.next≤s'.next) (hk:∀ i o l q,v=.slice (some ⟨i,o,none⟩) l q→s'.mem.get i=s.mem.get i):SL B s' z v c n:=by
 refine ⟨h.1,h.2.imp (fun h=>h) ?_⟩
 rintro ⟨j,o,cap,C,e,h1,h2,h3,h4,h5,h6⟩
 exact ⟨j,o,cap,C,e,h1,(hk j o _ _ e).trans h2,h3,h4,h5,by omega⟩
theorem SL.ext (h:SL B s z v c n) (x:Ext s s'):SL B s' z v c n:=h.keep x.next fun i o l q e=>x.keep i (h.blk i o l q e).2
theorem SL.mod {S:List Nat} (h:SL B s z v c n) (m:Mod S s s') (hS:∀ j,j∈S→j<B):SL B s' z v c n:=h.keep m.next fun i o l q e=>m.keep i (h.blk i o l q e).2 fun hm=>by have:=hS i hm;have:=(h.blk i o l q e).1;omega
theorem SL.up {B':Nat} (h:SL B s z v c n) (hb:∀ i o l q,v=.slice (some ⟨i,o,none⟩) l q→B'≤i):SL B' s z v c n:=by
 refine ⟨h.1,h.2.imp (fun h=>h) ?_⟩
 rintro ⟨j,o,cap,C,e,h1,h2,h3,h4,h5,h6⟩
 exact ⟨j,o,cap,C,e,h1,h2,h3,h4,hb j o _ _ e,h6⟩
theorem SL.push {by':Nat} (h:SL B s z v c n) (hb:B≤s.next) (hl:s.lim≤B) (hr:row.length=z) (hz:0<z) (h1:row.all one=true) (hs:(n+2)*by'≤2^44) (hn:n+1≤2^44):
  ∃ s',(s.new (.cells row z)).app z by' v (.slice (some ⟨s.next,0,none⟩) 1 1)=some (.slice (some ⟨s.next+1,0,none⟩) (n+1) (n+1),s')∧s'.next=s.next+2∧s'.lim=s.lim∧SL B s' z (.slice (some ⟨s.next+1,0,none⟩) (n+1) (n+1)) (c++row) (n+1)∧
   ∀ i,i<s.next→(∀ o l q,v≠.slice (some ⟨i,o,none⟩) l q)→s'.mem.get i=s.mem.get i:=by
 have hx:(s.new (.cells row z)).first z 1 (.slice (some ⟨s.next,0,none⟩) 1 1)=some row:=by
  unfold SS.first
  simp only [SS.new_get,zob]
  exact zc8 (by omega)
 have e1:zbI (.slice (some ⟨s.next,0,none⟩) 1 1)=some 1:=rfl
 have m0:Nat.beq 1 0=false:=rfl
 have hlen:(c++row).length=(n+1)*z:=by rw [List.length_append,h.1,hr,Nat.add_mul];omega
 obtain ⟨hc,⟨rfl,rfl⟩ | ⟨j,o,cap,C,rfl,h1',h2,h3,h4,h5,h6⟩⟩:=h
 ·have:c=[]:=by simpa using hc
  subst this
  refine ⟨(s.new (.cells row z)).new (.cells row z),?_,rfl,rfl,⟨hlen,.inr ⟨s.next+1,0,1,row,rfl,zlr _,SS.new_get (st:=s.new (.cells row z)),by omega,?_,by omega,by show s.next+1<s.next+1+1;omega⟩⟩,fun i hi _=>?_⟩
  ·unfold SS.app
   rw [e1]
   simp only [zob,m0,zcf]
   have q:(Nat.ble ((1+1)*by') (2^44)&&Nat.ble 1 (2^44))=true:=by
    simp only [zae,Nat.ble_eq];exact ⟨by simpa using hs,by omega⟩
   rw [q,hx]
   rfl
  ·rw [List.drop_zero,Nat.zero_add,Nat.one_mul,List.take_of_length_le (by omega)];rfl
  ·rw [SS.new_old (by simp;omega),SS.new_old (by omega)]
 ·have hj:(s.new (.cells row z)).mem.get j=some (.cells C z):=by rw [SS.new_old (by omega)];exact h2
  have hcut:cut C o (n*z)=some c:=zfd h4 hc
  refine ⟨((s.new (.cells row z)).set j none).new (.cells (c++row) z),?_,rfl,rfl,⟨hlen,.inr ⟨s.next+1,0,n+1,c++row,rfl,zlr _,SS.new_get (st:=(s.new (.cells row z)).set j none),by omega,?_,by omega,by show s.next+1<s.next+1+1;omega⟩⟩,fun i hi hne=>?_⟩
  ·unfold SS.app
   rw [e1]
   simp only [zob,m0,zcf]
   have q:(Nat.ble ((n+1+1)*by') (2^44)&&Nat.ble (n+1) (2^44)&&Nat.ble (s.new (.cells row z)).lim j)=true:=by
    simp only [zae,Nat.ble_eq]
    exact ⟨⟨hs,hn⟩,by show s.lim≤j;omega⟩
   have q2:(Nat.beq z z&&(Nat.blt cap (n+1)||Nat.ble (o+cap*z) C.length))=true:=by
    have a1:Nat.ble (o+cap*z) C.length=true:=by rw [Nat.ble_eq];omega
    have a2:Nat.beq z z=true:=by rw [zac];simp
    rw [a1,a2,Bool.or_true];rfl
   rw [q]
   simp only [zct,hj,zob,q2,hcut,hx,h1]
   rfl
  ·rw [List.drop_zero,List.take_of_length_le (by omega)]
  ·rw [SS.new_old (by simp;omega),SS.set_old (fun e=>hne o _ _ (by rw [e])),SS.new_old (by omega)]
theorem SL.resl (h:SL B s z v c n) {l k:Nat} (hl:l≤k) (hk:k≤n):∃ v',s.resl v z (l:Int) (k:Int)=some v'∧SL B s z v' ((c.drop (l*z)).take ((k-l)*z)) (k-l)∧∀ i o q r,v'=.slice (some ⟨i,o,none⟩) q r→∃ o' q' r',v=.slice (some ⟨i,o',none⟩) q' r':=by
 have hle:=Nat.mul_le_mul_right z hk
 have hle2:=Nat.mul_le_mul_right z hl
 have hlen:((c.drop (l*z)).take ((k-l)*z)).length=(k-l)*z:=by
  rw [List.length_take,List.length_drop,h.1,Nat.sub_mul];omega
 obtain ⟨hc,⟨rfl,rfl⟩ | ⟨j,o,cap,C,rfl,h1,h2,h3,h4,h5,h6⟩⟩:=h
 ·have e0:k=0:=by omega
  have e1:l=0:=by omega
  subst e0;subst e1
  exact ⟨.slice none 0 0,rfl,⟨hlen,.inl ⟨rfl,rfl⟩⟩,fun i o q r e=>by cases e⟩
 ·have hcap:=Nat.mul_le_mul_right z h1
  have e1:decide ((l:Int)≤(k:Int))=true:=zdt (by omega)
  have e2:decide ((k:Int)≤(cap:Int))=true:=zdt (by omega)
  have e0:decide ((0:Int)≤(l:Int))=true:=zdt (by omega)
  have q:(Nat.beq z z||Nat.beq z 0)=true:=by
   have:Nat.beq z z=true:=by rw [zac];simp
   rw [this];rfl
  have hsub:(cap-l)*z=cap*z-l*z:=Nat.sub_mul _ _ _
  have hsub2:(k-l)*z=k*z-l*z:=Nat.sub_mul _ _ _
  by_cases hcl:cap=l
  ·have e3:Nat.beq cap l=true:=by rw [zac];exact zdt hcl
   have hk0:k-l=0:=by omega
   refine ⟨.slice (some ⟨j,o,none⟩) (k-l) (cap-l),?_,⟨hlen,.inr ⟨j,o,cap-l,C,rfl,by omega,h2,by omega,?_,h5,h6⟩⟩,fun i o' q' r e=>by cases e;exact ⟨_,_,_,rfl⟩⟩
   ·unfold SS.resl
    simp only [e0,e1,e2,Bool.and_self,zct,h2,zob,q,Int.toNat_natCast,e3]
   ·rw [hk0];simp
  ·have e3:Nat.beq cap l=false:=by rw [zac];exact zdf hcl
   refine ⟨.slice (some ⟨j,o+l*z,none⟩) (k-l) (cap-l),?_,⟨hlen,.inr ⟨j,o+l*z,cap-l,C,rfl,by omega,h2,by omega,?_,h5,h6⟩⟩,fun i o' q' r e=>by cases e;exact ⟨_,_,_,rfl⟩⟩
   ·unfold SS.resl
    simp only [e0,e1,e2,Bool.and_self,zct,h2,zob,q,Int.toNat_natCast,e3,zcf]
   ·rw [← h4,← List.drop_drop,List.drop_take,List.take_take,Nat.min_eq_left (by omega)]
theorem SL.load (h:SL B s z v c n) {j:Nat} (hj:j<n):∃ p,zbG v (j:Int) z=some p∧s.ldN p.1 p.2 z=some (.agg ((c.drop (j*z)).take z).toArray)∧∀ k x,((c.drop (j*z)).take z)[k]?=some x→s.ld p.1 (p.2+k)=some x:=by
 have hle:(j+1)*z≤n*z:=Nat.mul_le_mul_right z hj
 rw [Nat.add_mul,Nat.one_mul] at hle
 obtain ⟨hc,⟨rfl,rfl⟩ | ⟨i,o,cap,C,rfl,h1,h2,h3,h4,h5,h6⟩⟩:=h
 ·omega
 have e0:zbG (.slice (some ⟨i,o,none⟩) n cap) (j:Int) z=some (i,o+j*z):=by
  unfold zbG
  simp only [zdt (show (0:Int)≤(j:Int) by omega),zdt (show (j:Int)<(n:Int) by omega),Bool.and_self,zct,Int.toNat_natCast]
 have hd:(C.drop (o+j*z)).take z=(c.drop (j*z)).take z:=by
  rw [← h4,← List.drop_drop,List.drop_take,List.take_take,Nat.min_eq_left (by omega)]
 have hlen:((c.drop (j*z)).take z).length=z:=by rw [List.length_take,List.length_drop,hc];omega
 refine ⟨_,e0,?_,fun k x hx=>?_⟩
 ·rw [SS.ldN_cells h2,zfd hd hlen];rfl
 ·rw [SS.ld_cells h2]
  rw [← hd,List.getElem?_take] at hx
  split at hx
  ·rw [List.getElem?_drop] at hx;exact hx
  ·cases hx
end
theorem At.w {st:SS} {c k:Nat} {row row':List Value} {x:Value} (h:At st c row) (hk:k<row.length) (h1:one x=true) (e:row.set k x=row'):∃ st',st.st c k [x]=some st'∧At st' c row'∧Mod [c] st st'∧st'.next=st.next:=by
 subst e;exact h.set1 hk h1
end Go.E
namespace Go.E
open Go
section
variable {P : Program} {L : Lk} {c1 c2 : CallF}
theorem zfv (hc:zcb c1 c2) {ops:List Oper}:∀ (l:List Oper) (τ:Tm) (st:St) (r:Tm×St),opsE P L c1 ops l τ st=some r→opsE P L c2 ops l τ st=some r
 | [],τ,st,r,h=>h
 | o::l,τ,st,r,h=>by
   simp only [opsE] at h ⊢
   cases hw:wantedE ops τ o with
   | true=>
     rw [hw] at h
     simp only [zct,zbi] at h ⊢
     obtain ⟨x,hx,h⟩:=h
     exact ⟨x,zf3 hc hx,zfv hc l _ _ _ h⟩
   | false=>
     rw [hw] at h
     simp only [zcf] at h ⊢
     exact zfv hc l _ _ _ h
theorem zgj:∀ n,zeU (zai P L n) (zai P L (n+1))
 | 0,c,τ,st,r,h=>by cases h
 | n+1,c,τ,st,r,h=>by
   have ih:=zgj n
   have hc:zcb (zam L (zai P L n)) (zam L (zai P L (n+1))):=zfn ih
   unfold zai at h ⊢
   cases c<;>simp only at h ⊢<;>try exact h
   case region id ops d=>
    cases d<;>simp only [zmi] at h ⊢
    ·obtain ⟨x,hx,h⟩:=h
     exact ⟨x,zfv hc _ _ _ _ hx,h⟩
    ·obtain ⟨x,hx,h⟩:=h
     exact ⟨x,zfm hc _ _ _ _ _ hx,h⟩
   case seq a b=>
    simp only [zbi] at h ⊢
    obtain ⟨⟨e,τ1,st1⟩,hx,h⟩:=h
    refine ⟨(e,τ1,st1),ih _ _ _ _ hx,?_⟩
    cases e<;>simp only at h ⊢<;>first | exact ih _ _ _ _ h | exact h
   case cond x a b=>
    cases hv:rho L τ x with
    | none=>rw [hv] at h;cases h
    | some v=>
      rw [hv] at h
      try simp only [zob]
      cases v<;>(try simp only [zob] at h)<;>(try simp only)<;>try (cases h;done)
      rename_i bb
      cases bb<;>exact ih _ _ _ _ h
   case block id body=>
    simp only [zbi] at h ⊢
    obtain ⟨⟨e,τ1,st1⟩,hx,h⟩:=h
    refine ⟨(e,τ1,st1),ih _ _ _ _ hx,?_⟩
    cases e<;>exact h
   case loop body=>
    simp only [zbi] at h ⊢
    obtain ⟨⟨e,τ1,st1⟩,hx,h⟩:=h
    refine ⟨(e,τ1,st1),ih _ _ _ _ hx,?_⟩
    cases e<;>simp only at h ⊢<;>first | exact ih _ _ _ _ h | exact h
theorem zik {n m:Nat} (h:n≤m):zeU (zai P L n) (zai P L m):=by
 obtain ⟨k,rfl⟩:=Nat.le.dest h
 clear h
 induction k with
 | zero=>exact fun _ _ _ _ h=>h
 | succ k ih=>exact fun c τ st r h=>zgj _ _ _ _ _ (ih _ _ _ _ h)
def okP (nx:Nat) (r:Option (Value×St)):Bool:=match r with
 | some (.bool b,s)=>b&&Nat.ble nx s.next
 | _=>false
theorem zgw [Sym] (hL:L.Ok P) {f:FuncId} {args:List Value} {st:SS} {n:Nat} (hx:L.ext f args=none) (hcn:L.con f args st.next=none) (hp:L.pureF f=true)
  (h:okP st.next (runF P L n f args ⟨st.mem,st.next,st.next,[]⟩)=true):∃ N,st.next≤N∧cS P L f args st=some (.bool true,st.adv N):=by
 cases hr:runF P L n f args ⟨st.mem,st.next,st.next,[]⟩ with
 | none=>rw [hr] at h;cases h
 | some r=>
   have hrun:=zir hL hr
   rw [hr] at h
   obtain ⟨v,s'⟩:=r
   have hv:v=.bool true∧st.next≤s'.next:=by
    unfold okP at h
    cases v<;>simp only at h<;>try (cases h;done)
    rename_i b
    rw [zae] at h
    exact ⟨by rw [h.1],Nat.le_of_ble_eq_true h.2⟩
   obtain ⟨rfl,hN⟩:=hv
   refine ⟨s'.next,hN,?_⟩
   rw [ze2]
   refine ⟨rfl,n,fun m hm base log=>⟨log,?_,.refl _ _ _⟩⟩
   unfold runE zam at hrun
   unfold zam
   have hcn':L.con f args (st.toE base log).next=none:=hcn
   rw [hx] at hrun ⊢
   simp only at hrun ⊢
   rw [hcn] at hrun
   rw [hcn']
   simp only [hp,zct,zbi] at hrun ⊢
   obtain ⟨a,ha,c,hc,h1⟩:=hrun
   refine ⟨a,ha,c,hc,?_⟩
   cases hb:Nat.ble args.length a.2.ntmps with
   | false=>rw [hb] at h1;cases h1
   | true=>
     rw [hb] at h1
     simp only [zct,zbi] at h1 ⊢
     obtain ⟨⟨e,τ,s1⟩,h2,h3⟩:=h1
     refine ⟨(e,τ,s1),zik hm _ _ _ _ h2,?_⟩
     cases e<;>simp only [zbi] at h3 ⊢<;>first
      | (cases h3;done)
      | (obtain ⟨vs,h4,h5⟩:=h3
         refine ⟨vs,h4,?_⟩
         cases hq:(s1.log.isEmpty&&flat3 (zas vs)) with
         | false=>rw [hq] at h5;cases h5
         | true=>
           rw [hq] at h5
           simp only [zct,zsj,zpj] at h5 ⊢
           obtain ⟨h6,h7⟩:=h5
           exact ⟨h6,by rw [← h7];rfl⟩)
end
end Go.E
namespace Go.Proofs.YtccjlfagglbnhaaGreatDoorE
set_option maxRecDepth 100000
open Go Go.E Go.Proofs
def Pf [Sym] (f:Nat) (args:List Value) (v:Value):Prop:=∀ st:SS,∃ n,st.next≤n∧cc f args st=some (v,st.adv n)
theorem bs {α β:Type} {x:Option α} {a:α} {f:α→Option β} {r:β} (h:x=some a) (k:f a=some r):x.bind f=some r:=by rw [h];exact k
theorem aI_shr {k:IntKind} {a b:Int} (h:0≤b):aI .shr k a b=some (.int k (zdQ k a b)):=by unfold aI;simp only;rw [zdf (by omega)];rfl
theorem bv32 {a:Nat} (ha:a<4294967296):(BitVec.ofInt 32 (a:Int)).toNat=a:=by
 rw [BitVec.ofInt_natCast,BitVec.toNat_ofNat];exact Nat.mod_eq_of_lt (by omega)
theorem and32 {a b:Nat} (ha:a<4294967296) (hb:b<4294967296):zeu .u32 (a:Int) (b:Int)=((a&&& b:Nat):Int):=by
 have hx:a&&& b<2^32:=Nat.and_lt_two_pow _ (by omega)
 show IntKind.wrap .u32 ((BitVec.ofInt 32 (a:Int)&&& BitVec.ofInt 32 (b:Int)).toNat:Int)=_
 rw [BitVec.toNat_and,bv32 ha,bv32 hb]
 exact zgN (by omega) (by omega)
theorem shr32 (a s:Nat) (hs:s≤32):zdQ .u32 (a:Int) (s:Int)=((a/2^s:Nat):Int):=by
 unfold zdQ
 rw [Int.toNat_natCast,show IntKind.u32.bits=32 from rfl,Nat.min_eq_left (by omega),show (2:Int)^s=((2^s:Nat):Int) by rw [Int.natCast_pow];rfl,Int.fdiv_eq_ediv_of_nonneg _ (Int.natCast_nonneg _),Int.natCast_ediv]
def zaq (x n:Nat):Bool:=decide (x/2^n%2=1)
def zaT (x:Nat):Nat:=x/65536%32
section
variable {st st' : SS} {d e : Nat} {x l : Nat}
theorem zgk [Sym] (n:Nat) (hn:n≤100):∀ (k i x:Nat) (s:SS),i+k=n→x<4294967296→zaR 2 [.int .u32 (x:Int),.int .i64 (n:Int),.int .i64 (i:Int)] s=some (0,[.int .u32 ((x/2^k:Nat):Int)],s)
 | 0,i,x,s,hi,hx=>by
   refine zby _ _ _ s ?_
   unfold zbh
   rw [zdf (by omega)]
   simp
 | k+1,i,x,s,hi,hx=>by
   have ih:=zgk n hn k (i+1) (x/2) s (by omega) (by omega)
   refine zby _ _ _ s ?_
   unfold zbh
   rw [zdt (by omega),zct]
   simp only
   rw [show Int.tdiv (x:Int) 2=((x/2:Nat):Int) from rfl,zgN (n:=((x/2:Nat):Int)) (by omega) (by omega),show IntKind.wrap .i64 ((i:Int)+1)=((i+1:Nat):Int) by rw [wrap64 (by omega) (by omega)];omega,ih]
   rw [Nat.div_div_eq_div_mul,← Nat.pow_succ']
theorem zbD [Sym] (hx:x<4294967296) {n:Nat} (hn:n≤100):Pf 12 [.int .u32 (x:Int),.int .i64 (n:Int)] (.bool (zaq x n)):=fun st=>by
 refine ⟨st.next,zlr _,zdz _ _ st ?_⟩
 unfold zcg
 refine bs (zgk n hn n 0 x (st.ro st.next) (by omega) hx) ?_
 refine bs (a:=((x/2^n:Nat):Int)) rfl ?_
 have h1:Int.tmod ((x/2^n:Nat):Int) 2=((x/2^n%2:Nat):Int):=rfl
 show some (Value.bool (decide (Int.tmod ((x/2^n:Nat):Int) 2=1)),_)=_
 rw [h1]
 have h2:decide (((x/2^n%2:Nat):Int)=1)=zaq x n:=by
  unfold zaq
  by_cases h:x/2^n%2=1
  ·rw [zdt h,zdt (by omega)]
  ·rw [zdf h,zdf (by omega)]
 rw [h2];rfl
theorem zhU [Sym] (hx:x<4294967296):Pf 10 [.int .u32 (x:Int)] (.int .i64 (zaT x:Int)):=fun st=>by
 refine ⟨st.next,zlr _,zhh _ st ?_⟩
 unfold zgO
 have h1:zdQ .u32 (x:Int) 16=((x/65536:Nat):Int):=shr32 x 16 (by omega)
 have h2:zeu .u32 ((x/65536:Nat):Int) 31=((x/65536%32:Nat):Int):=by
  rw [show (31:Int)=((31:Nat):Int) from rfl,and32 (by omega) (by omega)]
  have:=Nat.and_two_pow_sub_one_eq_mod (x/65536) 5
  rw [show (2:Nat)^5-1=31 from rfl,show (2:Nat)^5=32 from rfl] at this
  rw [this]
 simp only
 rw [h1,h2,wrap64 (by omega) (by omega)];rfl
def stR (a b c e:Bool) (n:Int) (f g h k:Bool):List Value:=[.bool a,.bool b,.bool c,.bool e,.int .i64 n,.bool f,.bool g,.bool h,.bool k]
variable {b1 b2 b3 b4 b5 b6 b7 : Bool}
theorem of4 [Sym] (hx:x<4294967296):∀ (k j:Nat) (s:SS) (kb:Bool),j+k=5→At s d (stR b1 b2 b3 b4 ((x/65536%2^j:Nat):Int) b5 b6 b7 kb)→
  ∃ s',zar 4 [.int .u32 (x:Int),ptr e 0,ptr d 0,.int .i64 ((2^j:Nat):Int),.int .i64 ((16+j:Nat):Int)] s=some (0,[.int .u32 (x:Int),ptr e 0,ptr d 0],s')∧At s' d (stR b1 b2 b3 b4 (zaT x:Int) b5 b6 b7 kb)∧Mod [d] s s'
 | 0,j,s,kb,hj,h=>by
   have:j=5:=by omega
   subst this
   refine ⟨s,za2 _ _ _ _ _ s ?_,h,.refl _⟩
   unfold zaX
   rw [zdf (by omega)];rfl
 | k+1,j,s,kb,hj,h=>by
   have hp:2^j≤2^4:=Nat.pow_le_pow_right (by omega) (by omega)
   have hps:2^(j+1)=2*2^j:=by rw [Nat.pow_succ];omega
   have hlt:x/65536%2^j<2^j:=Nat.mod_lt _ (Nat.two_pow_pos _)
   obtain ⟨n,hn,eb⟩:=zbD hx (n:=16+j) (by omega) s
   have hb:zaq x (16+j)=decide (x/65536/2^j%2=1):=by
    unfold zaq
    rw [Nat.pow_add,← Nat.div_div_eq_div_mul]
   have hm:x/65536%2^(j+1)=x/65536%2^j+2^j*(x/65536/2^j%2):=by rw [Nat.pow_succ,Nat.mod_mul]
   have w2:IntKind.wrap .i64 (2*((2^j:Nat):Int))=((2^(j+1):Nat):Int):=by rw [hps,wrap64 (by omega) (by omega)];omega
   have w1:IntKind.wrap .i64 (((16+j:Nat):Int)+1)=((16+(j+1):Nat):Int):=by rw [wrap64 (by omega) (by omega)];omega
   have h1:=h.adv hn
   rw [hb] at eb
   by_cases hbit:x/65536/2^j%2=1
   ·obtain ⟨s7,e7,a7,m7,_⟩:=h1.w (k:=0+4) (x:=.int .i64 ((x/65536%2^(j+1):Nat):Int)) (row':=stR b1 b2 b3 b4 ((x/65536%2^(j+1):Nat):Int) b5 b6 b7 kb) (by show 4<9;omega) rfl rfl
    obtain ⟨s8,e8,a8,m8⟩:=of4 hx k (j+1) s7 kb (by omega) a7
    refine ⟨s8,za2 _ _ _ _ _ s ?_,a8,((Mod.ofExt (Ext.advR s hn)).then m7).then m8⟩
    unfold zaX
    rw [zdt (by omega),zct]
    refine bs eb ?_
    simp only [zob,zb7]
    rw [zdt hbit,zct]
    simp only [zcJ,zob]
    refine bs (a:=((x/65536%2^j:Nat):Int)) (by rw [h1.ld];rfl) ?_
    rw [show IntKind.wrap .i64 (((x/65536%2^j:Nat):Int)+((2^j:Nat):Int))=((x/65536%2^(j+1):Nat):Int) by rw [wrap64 (by omega) (by omega),hm,hbit];omega]
    refine bs e7 ?_
    rw [w2,w1]
    exact e8
   ·have hsame:x/65536%2^(j+1)=x/65536%2^j:=by
     have:x/65536/2^j%2=0:=by omega
     rw [hm,this];omega
    obtain ⟨s8,e8,a8,m8⟩:=of4 hx k (j+1) ((s.adv n)) kb (by omega) (by rw [hsame];exact h1)
    refine ⟨s8,za2 _ _ _ _ _ s ?_,a8,(Mod.ofExt (Ext.advR s hn)).then m8⟩
    unfold zaX
    rw [zdt (by omega),zct]
    refine bs eb ?_
    simp only [zob,zb7]
    rw [zdf hbit,zcf,w2,w1]
    exact e8
theorem of10 [Sym] (hx:x<4294967296) (ip:Int):∀ (k i:Nat) (s:SS) (kb:Bool),i+k=32→At s d (stR b1 b2 b3 b4 ip b5 b6 b7 kb)→
  ∃ s' kb',zar 10 [.int .u32 (x:Int),ptr e 0,ptr d 0,.int .i64 (i:Int)] s=some (0,[ptr e 0,ptr d 0],s')∧At s' d (stR b1 b2 b3 b4 ip b5 b6 b7 kb')∧Mod [d] s s'
 | 0,i,s,kb,hi,h=>by
   refine ⟨s,kb,zaK _ _ _ _ s ?_,h,.refl _⟩
   unfold zaI
   rw [zdf (by omega)];rfl
 | k+1,i,s,kb,hi,h=>by
   have w1:IntKind.wrap .i64 ((i:Int)+1)=((i+1:Nat):Int):=by rw [wrap64 (by omega) (by omega)];omega
   have l8:(s.ld d (0+8)).bind asB=some kb:=by rw [h.ld];rfl
   have fin:∀ (v:Bool) (s1:SS),At s1 d (stR b1 b2 b3 b4 ip b5 b6 b7 kb)→∃ s' kb',((s1.st d (0+8) [.bool v]).bind fun s2=>zar 10 [.int .u32 (x:Int),ptr e 0,ptr d 0,.int .i64 (IntKind.wrap .i64 ((i:Int)+1))] s2)=some (0,[ptr e 0,ptr d 0],s')∧At s' d (stR b1 b2 b3 b4 ip b5 b6 b7 kb')∧Mod [d] s1 s':=fun v s1 h1=>by
    obtain ⟨s2,e2,a2,m2,_⟩:=h1.w (k:=0+8) (x:=.bool v) (row':=stR b1 b2 b3 b4 ip b5 b6 b7 v) (by show 8<9;omega) rfl rfl
    obtain ⟨s3,k3,e3,a3,m3⟩:=of10 hx ip k (i+1) s2 v (by omega) a2
    exact ⟨s3,k3,bs e2 (by rw [w1];exact e3),a3,m2.then m3⟩
   have h32:decide ((i:Int)<32)=true:=zdt (by omega)
   cases kb with
   | true=>
     obtain ⟨s3,k3,e3,a3,m3⟩:=fin true s h
     refine ⟨s3,k3,zaK _ _ _ _ s ?_,a3,m3⟩
     unfold zaI
     by_cases c1:(i:Int)<4<;>by_cases c2:16≤(i:Int)<;>by_cases c3:(i:Int)≤20<;>by_cases c4:(i:Int)=22<;>by_cases c5:(i:Int)=24<;>
      simp only [h32,c1,c2,c3,c4,c5,decide_true,decide_false,zct,zcf,zcJ,zob,l8] at e3 ⊢<;>exact e3
   | false=>
     obtain ⟨s3,k3,e3,a3,m3⟩:=fin false s h
     obtain ⟨n,hn,eb⟩:=zbD hx (n:=i) (by omega) s
     obtain ⟨s4,k4,e4,a4,m4⟩:=fin (zaq x i) (s.adv n) (h.adv hn)
     by_cases known:(i:Int)<4∨(16≤(i:Int)∧(i:Int)≤20)∨(i:Int)=22∨(i:Int)=24∨(i:Int)=27
     ·refine ⟨s3,k3,zaK _ _ _ _ s ?_,a3,m3⟩
      unfold zaI
      by_cases c1:(i:Int)<4<;>by_cases c2:16≤(i:Int)<;>by_cases c3:(i:Int)≤20<;>by_cases c4:(i:Int)=22<;>by_cases c5:(i:Int)=24<;>by_cases c6:(i:Int)=27<;>
       first
       | omega
       | (simp only [h32,c1,c2,c3,c4,c5,c6,decide_true,decide_false,zct,zcf,znt,znf,zcJ,zob,l8] at e3 ⊢;exact e3)
     ·refine ⟨s4,k4,zaK _ _ _ _ s ?_,a4,(Mod.ofExt (Ext.advR s hn)).then m4⟩
      unfold zaI
      have c1:¬ (i:Int)<4:=by omega
      have c4:¬ (i:Int)=22:=by omega
      have c5:¬ (i:Int)=24:=by omega
      have c6:¬ (i:Int)=27:=by omega
      by_cases c2:16≤(i:Int)<;>by_cases c3:(i:Int)≤20<;>
       first
       | omega
       | (simp only [h32,c1,c2,c3,c4,c5,c6,decide_true,decide_false,zct,zcf,znt,znf,zcJ,zob,l8,eb,zb7] at e4 ⊢;exact e4)
end
end Go.Proofs.YtccjlfagglbnhaaGreatDoorE
namespace Go.Proofs.YtccjlfagglbnhaaGreatDoorE
set_option maxRecDepth 100000
open Go Go.E Go.Proofs
section
variable {st st' : SS} {d e : Nat} {x l : Nat}
theorem ziH (a b c f:Bool) (n:Int) (g h k r:Bool):(zfo Lk0 44 1 (.agg (stR a b c f n g h k r).toArray)).bind (asI .i64)=some n:=by kernel_rfl
theorem of_ok [Sym] (hx:x<4294967296) (st:SS):∃ n v,st.next≤n∧cc 11 [.int .u32 (x:Int)] st=some (v,st.adv n)∧(zfo Lk0 44 1 v).bind (asI .i64)=some (zaT x:Int):=by
 obtain ⟨s1,hs1⟩:∃ s,s=(st.ro st.next).new (.cells (stR false false false false 0 false false false false) 0):=⟨_,rfl⟩
 have a1:At s1 st.next (stR false false false false 0 false false false false):=by rw [hs1];exact At.new (st:=st.ro st.next) (zlr _) _
 have hl1:s1.lim≤s1.next:=by rw [hs1];exact Nat.le_succ _
 have n1:st.next<s1.next:=a1.lt
 obtain ⟨k1,h1,e1⟩:=zbD hx (n:=0) (by omega) s1
 obtain ⟨k2,h2,e2⟩:=zbD hx (n:=1) (by omega) (s1.adv k1)
 obtain ⟨k3,h3,e3⟩:=zbD hx (n:=2) (by omega) ((s1.adv k1).adv k2)
 obtain ⟨k4,h4,e4⟩:=zbD hx (n:=3) (by omega) (((s1.adv k1).adv k2).adv k3)
 obtain ⟨k5,h5,e5⟩:=zbD hx (n:=22) (by omega) ((((s1.adv k1).adv k2).adv k3).adv k4)
 obtain ⟨k6,h6,e6⟩:=zbD hx (n:=24) (by omega) (((((s1.adv k1).adv k2).adv k3).adv k4).adv k5)
 obtain ⟨k7,h7,e7⟩:=zbD hx (n:=27) (by omega) ((((((s1.adv k1).adv k2).adv k3).adv k4).adv k5).adv k6)
 obtain ⟨s7,hs7⟩:∃ s,s=((((((s1.adv k1).adv k2).adv k3).adv k4).adv k5).adv k6).adv k7:=⟨_,rfl⟩
 have x7:Ext s1 s7:=by rw [hs7];exact ((((((Ext.advR s1 h1).trans (Ext.advR _ h2)).trans (Ext.advR _ h3)).trans (Ext.advR _ h4)).trans (Ext.advR _ h5)).trans (Ext.advR _ h6)).trans (Ext.advR _ h7)
 rw [← hs7] at e7
 have a7:=a1.ext x7
 have hl7:=x7.ll hl1
 obtain ⟨s8,e8,a8,x8,n8⟩:=new_ok (st:=s7) hl7 (row:=stR (zaq x 3) (zaq x 2) (zaq x 1) (zaq x 0) 0 (zaq x 22) (zaq x 24) (zaq x 27) false) (r:=stR false false false false 0 false false false false) rfl rfl
 have z0:((x/65536%2^0:Nat):Int)=0:=by simp [Nat.mod_one]
 obtain ⟨s9,e9,a9,m9⟩:=of4 (e:=st.next) hx 5 0 s8 false rfl (by rw [z0];exact a8)
 have e9':zar 4 [.int .u32 (x:Int),ptr st.next 0,ptr s7.next 0,.int .i64 1,.int .i64 16] s8=some (0,[.int .u32 (x:Int),ptr st.next 0,ptr s7.next 0],s9):=e9
 obtain ⟨s10,kb,e10,a10,m10⟩:=of10 (e:=st.next) hx (zaT x:Int) 32 0 s9 false rfl a9
 have e10':zar 10 [.int .u32 (x:Int),ptr st.next 0,ptr s7.next 0,.int .i64 0] s9=some (0,[ptr st.next 0,ptr s7.next 0],s10):=e10
 have hne:st.next≠s7.next:=by have:=x7.next;omega
 have a10':At s10 st.next (stR false false false false 0 false false false false):=((a7.ext x8).mod m9 (by simp [hne])).mod m10 (by simp [hne])
 obtain ⟨s11,e11,a11,m11,_⟩:=a10'.stV (k:=0) (v:=.agg (stR (zaq x 3) (zaq x 2) (zaq x 1) (zaq x 0) (zaT x:Int) (zaq x 22) (zaq x 24) (zaq x 27) kb).toArray) (aggC _) (n:=9) rfl rfl (row':=stR (zaq x 3) (zaq x 2) (zaq x 1) (zaq x 0) (zaT x:Int) (zaq x 22) (zaq x 24) (zaq x 27) kb) rfl
 have hn:st.next≤s11.next:=by
  have:=x7.next;have:=x8.next;have:=m9.next;have:=m10.next;have:=m11.next;omega
 refine ⟨s11.next,.agg (stR (zaq x 3) (zaq x 2) (zaq x 1) (zaq x 0) (zaT x:Int) (zaq x 22) (zaq x 24) (zaq x 27) kb).toArray,hn,zdC _ st ?_,ziH _ _ _ _ _ _ _ _ _⟩
 unfold zcK
 rw [show [Value.bool false,.bool false,.bool false,.bool false,.int .i64 0,.bool false,.bool false,.bool false,.bool false]=stR false false false false 0 false false false false from rfl]
 simp only
 rw [← hs1]
 refine bs e1 (bs (a:=zaq x 0) rfl (bs e2 (bs (a:=zaq x 1) rfl (bs e3 (bs (a:=zaq x 2) rfl (bs e4 (bs (a:=zaq x 3) rfl (bs e5 (bs (a:=zaq x 22) rfl (bs e6 (bs (a:=zaq x 24) rfl (bs e7 (bs (a:=zaq x 27) rfl ?_)))))))))))))
 refine bs (show (s7.new (.cells (stR false false false false 0 false false false false) 0)).st s7.next 0 [.bool (zaq x 3),.bool (zaq x 2),.bool (zaq x 1),.bool (zaq x 0),.int .i64 0,.bool (zaq x 22),.bool (zaq x 24),.bool (zaq x 27),.bool false]=some s8 from e8) ?_
 refine bs e9' ?_
 refine bs (x:=([Value.int .u32 (x:Int),ptr st.next 0,ptr s7.next 0][0]?).bind (asI .u32)) (a:=(x:Int)) rfl ?_
 refine bs (x:=[Value.int .u32 (x:Int),ptr st.next 0,ptr s7.next 0][1]?) (a:=ptr st.next 0) rfl ?_
 refine bs (x:=[Value.int .u32 (x:Int),ptr st.next 0,ptr s7.next 0][2]?) (a:=ptr s7.next 0) rfl ?_
 refine bs e10' ?_
 refine bs (x:=[ptr st.next 0,ptr s7.next 0][0]?) (a:=ptr st.next 0) rfl ?_
 refine bs (x:=[ptr st.next 0,ptr s7.next 0][1]?) (a:=ptr s7.next 0) rfl ?_
 simp only [zcJ,zob]
 refine bs (a10.ldN rfl) (bs e11 (bs (a11.rdN rfl) ?_))
 rfl
def za3 (ip l:Nat):Nat→Nat
 | 0=>0
 | i+1=>if ip<i+1 then (if l/2^(i+1)%2=1 then i+1 else za3 ip l i) else 0
def outL (v:Nat) (s:SS):Nat×List Value×SS:=if v=0 then (0,[],s) else (1,[.int .i64 (v:Int)],s)
theorem zfM [Sym] (hx:x<4294967296) (hl:l<4294967296):∀ (i:Nat) (s:SS),i≤31→∃ n,s.next≤n∧zbH 2 [.int .u32 (x:Int),.int .u32 (l:Int),.int .i64 (i:Int)] s=some (outL (za3 (zaT x) l i) (s.adv n))
 | 0,s,hi=>by
   obtain ⟨n,hn,e⟩:=zhU hx s
   refine ⟨n,hn,zbg _ _ _ s ?_⟩
   unfold zbj
   refine bs e ?_
   simp only [zob,zcr]
   rw [zdf (by omega)];rfl
 | i+1,s,hi=>by
   obtain ⟨n,hn,e⟩:=zhU hx s
   obtain ⟨n2,hn2,e2⟩:=zfM hx hl i (s.adv n) (by omega)
   by_cases hc:zaT x<i+1
   ·have hsh:(aI .shr .u32 (l:Int) ((i+1:Nat):Int)).bind (asI .u32)=some ((l/2^(i+1):Nat):Int):=by rw [aI_shr (by omega)];show some (zdQ .u32 (l:Int) ((i+1:Nat):Int))=_;rw [shr32 l (i+1) (by omega)]
    have hlt:l/2^(i+1)≤l:=Nat.div_le_self _ _
    have han:zeu .u32 ((l/2^(i+1):Nat):Int) 1=((l/2^(i+1)%2:Nat):Int):=by
     generalize l/2^(i+1)=q at hlt
     rw [show (1:Int)=((1:Nat):Int) from rfl,and32 (by omega) (by omega),Nat.and_one_is_mod]
    by_cases hb:l/2^(i+1)%2=1
    ·refine ⟨n,hn,zbg _ _ _ s ?_⟩
     have hv:za3 (zaT x) l (i+1)=i+1:=by unfold za3;rw [if_pos hc,if_pos hb]
     unfold zbj
     refine bs e ?_
     simp only [zob,zcr]
     rw [zdt (by omega),zct]
     refine bs hsh ?_
     rw [han,hb,hv]
     rfl
    ·refine ⟨n2,zlt hn hn2,zbg _ _ _ s ?_⟩
     have hv:za3 (zaT x) l (i+1)=za3 (zaT x) l i:=by rw [za3];rw [if_pos hc,if_neg hb]
     unfold zbj
     refine bs e ?_
     simp only [zob,zcr]
     rw [zdt (by omega),zct]
     refine bs hsh ?_
     rw [han,zdf (by omega),zcf,hv,show IntKind.wrap .i64 (((i+1:Nat):Int)-1)=(i:Int) by rw [wrap64 (by omega) (by omega)];omega]
     exact e2
   ·refine ⟨n,hn,zbg _ _ _ s ?_⟩
    have hv:za3 (zaT x) l (i+1)=0:=by unfold za3;rw [if_neg hc]
    unfold zbj
    refine bs e ?_
    simp only [zob,zcr]
    rw [zdf (by omega),hv];rfl
theorem zgl [Sym] (hx:x<4294967296) (hl:l<4294967296):∀ (i:Nat) (s:SS),i≤31→∃ n,s.next≤n∧zaM 2 [.int .u32 (x:Int),.int .u32 (l:Int),.int .i64 (i:Int)] s=some (outL (za3 (zaT x) l i) (s.adv n))
 | 0,s,hi=>by
   obtain ⟨n,v,hn,e,hv⟩:=of_ok hx s
   refine ⟨n,hn,zaH _ _ _ s ?_⟩
   unfold zaF
   refine bs e (bs hv ?_)
   rw [zdf (by omega)];rfl
 | i+1,s,hi=>by
   obtain ⟨n,v,hn,e,hv⟩:=of_ok hx s
   obtain ⟨n1,hn1,e1⟩:=zbD hl (n:=i+1) (by omega) (s.adv n)
   obtain ⟨n2,hn2,e2⟩:=zgl hx hl i ((s.adv n).adv n1) (by omega)
   by_cases hc:zaT x<i+1
   ·by_cases hb:l/2^(i+1)%2=1
    ·refine ⟨n1,zlt hn hn1,zaH _ _ _ s ?_⟩
     have hv':za3 (zaT x) l (i+1)=i+1:=by unfold za3;rw [if_pos hc,if_pos hb]
     have hbb:zaq l (i+1)=true:=by unfold zaq;exact zdt hb
     unfold zaF
     refine bs e (bs hv ?_)
     rw [zdt (by omega),zct]
     refine bs e1 ?_
     simp only [zob,zb7]
     rw [hbb,hv']
     rfl
    ·refine ⟨n2,zlt hn (zlt hn1 hn2),zaH _ _ _ s ?_⟩
     have hv':za3 (zaT x) l (i+1)=za3 (zaT x) l i:=by rw [za3];rw [if_pos hc,if_neg hb]
     have hbb:zaq l (i+1)=false:=by unfold zaq;exact zdf hb
     unfold zaF
     refine bs e (bs hv ?_)
     rw [zdt (by omega),zct]
     refine bs e1 ?_
     simp only [zob,zb7]
     rw [hbb,zcf,hv',show IntKind.wrap .i64 (((i+1:Nat):Int)-1)=(i:Int) by rw [wrap64 (by omega) (by omega)];omega]
     exact e2
   ·refine ⟨n,hn,zaH _ _ _ s ?_⟩
    have hv':za3 (zaT x) l (i+1)=0:=by unfold za3;rw [if_neg hc]
    unfold zaF
    refine bs e (bs hv ?_)
    rw [zdf (by omega),hv'];rfl
theorem ziI [Sym] (hx:x<4294967296) (hl:l<4294967296):Pf 5 [.int .u32 (x:Int),.int .u32 (l:Int)] (.int .i64 (za3 (zaT x) l 31:Int)):=fun st=>by
 obtain ⟨n,hn,e⟩:=zfM hx hl 31 (st.ro st.next) (zlr _)
 refine ⟨n,hn,zfP _ _ st ?_⟩
 unfold zfe
 refine bs e ?_
 unfold outL
 by_cases h0:za3 (zaT x) l 31=0
 ·rw [if_pos h0,h0];rfl
 ·rw [if_neg h0];rfl
theorem ref_ok [Sym] (hx:x<4294967296) (hl:l<4294967296):Pf 6 [.int .u32 (x:Int),.int .u32 (l:Int)] (.int .i64 (za3 (zaT x) l 31:Int)):=fun st=>by
 obtain ⟨n,hn,e⟩:=zgl hx hl 31 (st.ro st.next) (zlr _)
 refine ⟨n,hn,zcX _ _ st ?_⟩
 unfold zbZ
 refine bs e ?_
 unfold outL
 by_cases h0:za3 (zaT x) l 31=0
 ·rw [if_pos h0,h0];rfl
 ·rw [if_neg h0];rfl
theorem zhV [Sym] (hal:∃ n,st.next≤n∧cc 4 [] st=some (.bool true,st.adv n)) (hx:x<4294967296) (hl:l<4294967296):∃ s',cc 3 [.int .u32 (x:Int),.int .u32 (l:Int)] st=some (.bool true,s'):=by
 obtain ⟨n1,h1,e1⟩:=hal
 obtain ⟨n2,h2,e2⟩:=ziI hx hl (st.adv n1)
 obtain ⟨n3,h3,e3⟩:=ref_ok hx hl ((st.adv n1).adv n2)
 refine ⟨((st.adv n1).adv n2).adv n3,zce _ _ st ?_⟩
 unfold zbr
 refine bs e1 ?_
 simp only [zob,zb7,znt,zcf]
 refine bs e2 ?_
 simp only [zob,zcr]
 refine bs e3 ?_
 simp only [zob,zcr]
 rfl
end
end Go.Proofs.YtccjlfagglbnhaaGreatDoorE
namespace Go.Proofs.YtccjlfagglbnhaaGreatDoorE
set_option maxRecDepth 1000000
open Go Go.E Go.Proofs
noncomputable def zfw:List (Nat×AObj):=[(0,.table asciiC)]
noncomputable def st0:SS:=⟨zcD zfw,7,7⟩
theorem zhi:okP st0.next (runF Tryz.prog Lk0 3000 4 [] ⟨st0.mem,st0.next,st0.next,[]⟩)=true:=by kernel_rfl
theorem alive0 [Sym]:∃ N,st0.next≤N∧cc 4 [] st0=some (.bool true,st0.adv N):=
 zgw (st:=st0) (f:=4) (args:=[]) (n:=3000) za9 (by kernel_rfl) (by kernel_rfl) (by kernel_rfl) zhi
end Go.Proofs.YtccjlfagglbnhaaGreatDoorE
namespace Go.Proofs.YtccjlfagglbnhaaGreatDoorE
set_option maxRecDepth 1000000
open Go Go.E Go.Proofs
def laidS:DataW Unit:=.agg (Lib.asciiSpaceTab.map fun z=>.lit (.int .u8 z))
theorem globIn:∀ g,Lk0.glob g=true→g∈zfw.map (·.1):=fun g h=>by
 have h':Nat.beq g 0=true:=h
 rw [zac,decide_eq_true_eq] at h'
 subst h';simp [zfw]
theorem law_at0 {f:Nat} {fn:Func} (hf:Lk0.func f=some (f,fn)) {W:World} {laid:List (String×DataW Unit)} (h:laidMet Tryz.prog laid W) (hS:("strings.asciiSpace",laidS)∈laid)
  {args args':List Value} (ha:args=args') (hargs:∀ x∈args,flat3 x=true) (hlaw:∀ [Sym],∃ st',cc f args st0=some (.bool true,st')):
  Calls Tryz.prog f args'.toArray W fun e W'=>e=.returned (.bool true)∧RowKit.Below W.heap.size W W':=by
 subst ha
 letI:Sym:=⟨fun _=>.int .i64 0,fun _=>.inl ⟨_,_,rfl⟩⟩
 obtain ⟨oB,b1,b2⟩:=zhA h hS (g:=0) (kk:=.u8) (by kernel_rfl) (by kernel_rfl) Tryz.underlying215 Tryz.underlying5 (by kernel_rfl) _ rfl
 obtain ⟨st',hl⟩:=hlaw
 refine law_cS za9 con0 hf (l:=zfw) (nx:=7) hl rfl hargs (fun x hx=>?_) globIn (fun x hx=>?_)
 ·simp only [zfw,List.mem_cons,List.not_mem_nil,or_false] at hx
  subst hx
  exact ⟨oB,b1,b2 _⟩
 ·simp only [zfw,List.mem_cons,List.not_mem_nil,or_false] at hx
  subst hx
  show 0<7;omega
theorem zhW {n:Int} (w:(Lit.int .u32 n).wf=true):∃ k:Nat,n=(k:Int)∧k<4294967296:=by
 have h4:IntKind.min .u32≤n∧n≤IntKind.max .u32:=by simpa [Lit.wf] using w
 have e1:IntKind.min .u32=0:=by rfl
 have e2:IntKind.max .u32=4294967295:=by rfl
 rw [e1,e2] at h4
 exact ⟨n.toNat,by omega,by omega⟩
theorem archLevels_ok [Sym] (s:Int) (w:(Lit.int .u32 s).wf=true) (t:Int) (v:(Lit.int .u32 t).wf=true):∃ st',cc 3 [.int .u32 s,.int .u32 t] st0=some (.bool true,st'):=by
 obtain ⟨a,rfl,ha⟩:=zhW w
 obtain ⟨b,rfl,hb⟩:=zhW v
 exact zhV alive0 ha hb
end Go.Proofs.YtccjlfagglbnhaaGreatDoorE
