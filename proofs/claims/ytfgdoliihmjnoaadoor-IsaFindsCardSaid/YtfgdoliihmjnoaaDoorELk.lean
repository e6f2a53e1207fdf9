/- The tables of this seat for the evaluator, and that they are the program's. Written by mkseat.py. -/
import Derived.Test.YtfgdoliihmjnoaaDoorProg
import Derived.Test.YtfgdoliihmjnoaaDoorXG1
import Derived.KernelRfl
import Derived.Test.YtfgdoliihmjnoaaDoorShelf
set_option linter.unusedSimpArgs false
set_option linter.unusedVariables false
namespace Go.Proofs.YtfgdoliihmjnoaaDoorE
open Go Go.E Go.Proofs
set_option maxRecDepth 100000
noncomputable def tyT : PT TypeInfo := (.node (.node (.node (.node (.node (.node (.node (.node .nil (some Tryd.t127) .nil) (some Tryd.t63) .nil) (some Tryd.t31) (.node (.node .nil (some Tryd.t159) .nil) (some Tryd.t95) .nil)) (some Tryd.t15)
  (.node (.node (.node .nil (some Tryd.t143) .nil) (some Tryd.t79) .nil) (some Tryd.t47) (.node (.node .nil (some Tryd.t175) .nil) (some Tryd.t111) .nil))) (some Tryd.t7) (.node (.node (.node (.node .nil (some Tryd.t135) .nil) (some
  Tryd.t71) .nil) (some Tryd.t39) (.node (.node .nil (some Tryd.t167) .nil) (some Tryd.t103) .nil)) (some Tryd.t23) (.node (.node (.node .nil (some Tryd.t151) .nil) (some Tryd.t87) .nil) (some Tryd.t55) (.node (.node .nil (some Tryd.t183)
  .nil) (some Tryd.t119) .nil)))) (some Tryd.t3) (.node (.node (.node (.node (.node .nil (some Tryd.t131) .nil) (some Tryd.t67) .nil) (some Tryd.t35) (.node (.node .nil (some Tryd.t163) .nil) (some Tryd.t99) .nil)) (some Tryd.t19) (.node
  (.node (.node .nil (some Tryd.t147) .nil) (some Tryd.t83) .nil) (some Tryd.t51) (.node (.node .nil (some Tryd.t179) .nil) (some Tryd.t115) .nil))) (some Tryd.t11) (.node (.node (.node (.node .nil (some Tryd.t139) .nil) (some Tryd.t75)
  .nil) (some Tryd.t43) (.node (.node .nil (some Tryd.t171) .nil) (some Tryd.t107) .nil)) (some Tryd.t27) (.node (.node (.node .nil (some Tryd.t155) .nil) (some Tryd.t91) .nil) (some Tryd.t59) (.node .nil (some Tryd.t123) .nil))))) (some
  Tryd.t1) (.node (.node (.node (.node (.node (.node .nil (some Tryd.t129) .nil) (some Tryd.t65) .nil) (some Tryd.t33) (.node (.node .nil (some Tryd.t161) .nil) (some Tryd.t97) .nil)) (some Tryd.t17) (.node (.node (.node .nil (some
  Tryd.t145) .nil) (some Tryd.t81) .nil) (some Tryd.t49) (.node (.node .nil (some Tryd.t177) .nil) (some Tryd.t113) .nil))) (some Tryd.t9) (.node (.node (.node (.node .nil (some Tryd.t137) .nil) (some Tryd.t73) .nil) (some Tryd.t41) (.node
  (.node .nil (some Tryd.t169) .nil) (some Tryd.t105) .nil)) (some Tryd.t25) (.node (.node (.node .nil (some Tryd.t153) .nil) (some Tryd.t89) .nil) (some Tryd.t57) (.node (.node .nil (some Tryd.t185) .nil) (some Tryd.t121) .nil)))) (some
  Tryd.t5) (.node (.node (.node (.node (.node .nil (some Tryd.t133) .nil) (some Tryd.t69) .nil) (some Tryd.t37) (.node (.node .nil (some Tryd.t165) .nil) (some Tryd.t101) .nil)) (some Tryd.t21) (.node (.node (.node .nil (some Tryd.t149)
  .nil) (some Tryd.t85) .nil) (some Tryd.t53) (.node (.node .nil (some Tryd.t181) .nil) (some Tryd.t117) .nil))) (some Tryd.t13) (.node (.node (.node (.node .nil (some Tryd.t141) .nil) (some Tryd.t77) .nil) (some Tryd.t45) (.node (.node .nil
  (some Tryd.t173) .nil) (some Tryd.t109) .nil)) (some Tryd.t29) (.node (.node (.node .nil (some Tryd.t157) .nil) (some Tryd.t93) .nil) (some Tryd.t61) (.node .nil (some Tryd.t125) .nil)))))) (some Tryd.t0) (.node (.node (.node (.node (.node
  (.node (.node .nil (some Tryd.t128) .nil) (some Tryd.t64) .nil) (some Tryd.t32) (.node (.node .nil (some Tryd.t160) .nil) (some Tryd.t96) .nil)) (some Tryd.t16) (.node (.node (.node .nil (some Tryd.t144) .nil) (some Tryd.t80) .nil) (some
  Tryd.t48) (.node (.node .nil (some Tryd.t176) .nil) (some Tryd.t112) .nil))) (some Tryd.t8) (.node (.node (.node (.node .nil (some Tryd.t136) .nil) (some Tryd.t72) .nil) (some Tryd.t40) (.node (.node .nil (some Tryd.t168) .nil) (some
  Tryd.t104) .nil)) (some Tryd.t24) (.node (.node (.node .nil (some Tryd.t152) .nil) (some Tryd.t88) .nil) (some Tryd.t56) (.node (.node .nil (some Tryd.t184) .nil) (some Tryd.t120) .nil)))) (some Tryd.t4) (.node (.node (.node (.node (.node
  .nil (some Tryd.t132) .nil) (some Tryd.t68) .nil) (some Tryd.t36) (.node (.node .nil (some Tryd.t164) .nil) (some Tryd.t100) .nil)) (some Tryd.t20) (.node (.node (.node .nil (some Tryd.t148) .nil) (some Tryd.t84) .nil) (some Tryd.t52)
  (.node (.node .nil (some Tryd.t180) .nil) (some Tryd.t116) .nil))) (some Tryd.t12) (.node (.node (.node (.node .nil (some Tryd.t140) .nil) (some Tryd.t76) .nil) (some Tryd.t44) (.node (.node .nil (some Tryd.t172) .nil) (some Tryd.t108)
  .nil)) (some Tryd.t28) (.node (.node (.node .nil (some Tryd.t156) .nil) (some Tryd.t92) .nil) (some Tryd.t60) (.node .nil (some Tryd.t124) .nil))))) (some Tryd.t2) (.node (.node (.node (.node (.node (.node .nil (some Tryd.t130) .nil) (some
  Tryd.t66) .nil) (some Tryd.t34) (.node (.node .nil (some Tryd.t162) .nil) (some Tryd.t98) .nil)) (some Tryd.t18) (.node (.node (.node .nil (some Tryd.t146) .nil) (some Tryd.t82) .nil) (some Tryd.t50) (.node (.node .nil (some Tryd.t178)
  .nil) (some Tryd.t114) .nil))) (some Tryd.t10) (.node (.node (.node (.node .nil (some Tryd.t138) .nil) (some Tryd.t74) .nil) (some Tryd.t42) (.node (.node .nil (some Tryd.t170) .nil) (some Tryd.t106) .nil)) (some Tryd.t26) (.node (.node
  (.node .nil (some Tryd.t154) .nil) (some Tryd.t90) .nil) (some Tryd.t58) (.node (.node .nil (some Tryd.t186) .nil) (some Tryd.t122) .nil)))) (some Tryd.t6) (.node (.node (.node (.node (.node .nil (some Tryd.t134) .nil) (some Tryd.t70)
  .nil) (some Tryd.t38) (.node (.node .nil (some Tryd.t166) .nil) (some Tryd.t102) .nil)) (some Tryd.t22) (.node (.node (.node .nil (some Tryd.t150) .nil) (some Tryd.t86) .nil) (some Tryd.t54) (.node (.node .nil (some Tryd.t182) .nil) (some
  Tryd.t118) .nil))) (some Tryd.t14) (.node (.node (.node (.node .nil (some Tryd.t142) .nil) (some Tryd.t78) .nil) (some Tryd.t46) (.node (.node .nil (some Tryd.t174) .nil) (some Tryd.t110) .nil)) (some Tryd.t30) (.node (.node (.node .nil
  (some Tryd.t158) .nil) (some Tryd.t94) .nil) (some Tryd.t62) (.node .nil (some Tryd.t126) .nil)))))))
noncomputable def unT : PT TypeDesc := (.node (.node (.node (.node (.node (.node (.node (.node .nil (some Tryd.t126.desc) .nil) (some Tryd.t45.desc) .nil) (some Tryd.t31.desc) (.node (.node .nil (some Tryd.t159.desc) .nil) (some
  Tryd.t95.desc) .nil)) (some Tryd.t15.desc) (.node (.node (.node .nil (some Tryd.t142.desc) .nil) (some Tryd.t79.desc) .nil) (some Tryd.t47.desc) (.node (.node .nil (some Tryd.t175.desc) .nil) (some Tryd.t111.desc) .nil))) (some
  Tryd.t7.desc) (.node (.node (.node (.node .nil (some Tryd.t135.desc) .nil) (some Tryd.t71.desc) .nil) (some Tryd.t39.desc) (.node (.node .nil (some Tryd.t167.desc) .nil) (some Tryd.t103.desc) .nil)) (some Tryd.t23.desc) (.node (.node
  (.node .nil (some Tryd.t151.desc) .nil) (some Tryd.t87.desc) .nil) (some Tryd.t55.desc) (.node (.node .nil (some Tryd.t21.desc) .nil) (some Tryd.t119.desc) .nil)))) (some Tryd.t3.desc) (.node (.node (.node (.node (.node .nil (some
  Tryd.t131.desc) .nil) (some Tryd.t67.desc) .nil) (some Tryd.t3.desc) (.node (.node .nil (some Tryd.t163.desc) .nil) (some Tryd.t99.desc) .nil)) (some Tryd.t18.desc) (.node (.node (.node .nil (some Tryd.t147.desc) .nil) (some Tryd.t83.desc)
  .nil) (some Tryd.t51.desc) (.node (.node .nil (some Tryd.t178.desc) .nil) (some Tryd.t115.desc) .nil))) (some Tryd.t9.desc) (.node (.node (.node (.node .nil (some Tryd.t139.desc) .nil) (some Tryd.t75.desc) .nil) (some Tryd.t43.desc) (.node
  (.node .nil (some Tryd.t171.desc) .nil) (some Tryd.t107.desc) .nil)) (some Tryd.t27.desc) (.node (.node (.node .nil (some Tryd.t155.desc) .nil) (some Tryd.t91.desc) .nil) (some Tryd.t59.desc) (.node .nil (some Tryd.t123.desc) .nil)))))
  (some Tryd.t1.desc) (.node (.node (.node (.node (.node (.node .nil (some Tryd.t129.desc) .nil) (some Tryd.t65.desc) .nil) (some Tryd.t33.desc) (.node (.node .nil (some Tryd.t160.desc) .nil) (some Tryd.t97.desc) .nil)) (some Tryd.t17.desc)
  (.node (.node (.node .nil (some Tryd.t145.desc) .nil) (some Tryd.t81.desc) .nil) (some Tryd.t49.desc) (.node (.node .nil (some Tryd.t177.desc) .nil) (some Tryd.t113.desc) .nil))) (some Tryd.t9.desc) (.node (.node (.node (.node .nil (some
  Tryd.t3.desc) .nil) (some Tryd.t73.desc) .nil) (some Tryd.t41.desc) (.node (.node .nil (some Tryd.t169.desc) .nil) (some Tryd.t105.desc) .nil)) (some Tryd.t24.desc) (.node (.node (.node .nil (some Tryd.t152.desc) .nil) (some Tryd.t89.desc)
  .nil) (some Tryd.t57.desc) (.node (.node .nil (some Tryd.t185.desc) .nil) (some Tryd.t121.desc) .nil)))) (some Tryd.t5.desc) (.node (.node (.node (.node (.node .nil (some Tryd.t132.desc) .nil) (some Tryd.t69.desc) .nil) (some
  Tryd.t37.desc) (.node (.node .nil (some Tryd.t165.desc) .nil) (some Tryd.t101.desc) .nil)) (some Tryd.t21.desc) (.node (.node (.node .nil (some Tryd.t149.desc) .nil) (some Tryd.t84.desc) .nil) (some Tryd.t53.desc) (.node (.node .nil (some
  Tryd.t5.desc) .nil) (some Tryd.t117.desc) .nil))) (some Tryd.t13.desc) (.node (.node (.node (.node .nil (some Tryd.t141.desc) .nil) (some Tryd.t77.desc) .nil) (some Tryd.t45.desc) (.node (.node .nil (some Tryd.t173.desc) .nil) (some
  Tryd.t109.desc) .nil)) (some Tryd.t28.desc) (.node (.node (.node .nil (some Tryd.t157.desc) .nil) (some Tryd.t93.desc) .nil) (some Tryd.t61.desc) (.node .nil (some Tryd.t125.desc) .nil)))))) (some Tryd.t0.desc) (.node (.node (.node (.node
  (.node (.node (.node .nil (some Tryd.t128.desc) .nil) (some Tryd.t64.desc) .nil) (some Tryd.t32.desc) (.node (.node .nil (some Tryd.t160.desc) .nil) (some Tryd.t96.desc) .nil)) (some Tryd.t16.desc) (.node (.node (.node .nil (some
  Tryd.t144.desc) .nil) (some Tryd.t80.desc) .nil) (some Tryd.t48.desc) (.node (.node .nil (some Tryd.t175.desc) .nil) (some Tryd.t111.desc) .nil))) (some Tryd.t7.desc) (.node (.node (.node (.node .nil (some Tryd.t136.desc) .nil) (some
  Tryd.t72.desc) .nil) (some Tryd.t40.desc) (.node (.node .nil (some Tryd.t168.desc) .nil) (some Tryd.t104.desc) .nil)) (some Tryd.t24.desc) (.node (.node (.node .nil (some Tryd.t152.desc) .nil) (some Tryd.t88.desc) .nil) (some
  Tryd.t56.desc) (.node (.node .nil (some Tryd.t21.desc) .nil) (some Tryd.t120.desc) .nil)))) (some Tryd.t4.desc) (.node (.node (.node (.node (.node .nil (some Tryd.t132.desc) .nil) (some Tryd.t68.desc) .nil) (some Tryd.t36.desc) (.node
  (.node .nil (some Tryd.t164.desc) .nil) (some Tryd.t100.desc) .nil)) (some Tryd.t20.desc) (.node (.node (.node .nil (some Tryd.t148.desc) .nil) (some Tryd.t84.desc) .nil) (some Tryd.t52.desc) (.node (.node .nil (some Tryd.t5.desc) .nil)
  (some Tryd.t116.desc) .nil))) (some Tryd.t12.desc) (.node (.node (.node (.node .nil (some Tryd.t140.desc) .nil) (some Tryd.t76.desc) .nil) (some Tryd.t44.desc) (.node (.node .nil (some Tryd.t172.desc) .nil) (some Tryd.t108.desc) .nil))
  (some Tryd.t28.desc) (.node (.node (.node .nil (some Tryd.t155.desc) .nil) (some Tryd.t92.desc) .nil) (some Tryd.t60.desc) (.node .nil (some Tryd.t124.desc) .nil))))) (some Tryd.t2.desc) (.node (.node (.node (.node (.node (.node .nil (some
  Tryd.t129.desc) .nil) (some Tryd.t66.desc) .nil) (some Tryd.t34.desc) (.node (.node .nil (some Tryd.t162.desc) .nil) (some Tryd.t98.desc) .nil)) (some Tryd.t18.desc) (.node (.node (.node .nil (some Tryd.t146.desc) .nil) (some
  Tryd.t81.desc) .nil) (some Tryd.t49.desc) (.node (.node .nil (some Tryd.t178.desc) .nil) (some Tryd.t114.desc) .nil))) (some Tryd.t9.desc) (.node (.node (.node (.node .nil (some Tryd.t138.desc) .nil) (some Tryd.t74.desc) .nil) (some
  Tryd.t42.desc) (.node (.node .nil (some Tryd.t170.desc) .nil) (some Tryd.t106.desc) .nil)) (some Tryd.t26.desc) (.node (.node (.node .nil (some Tryd.t154.desc) .nil) (some Tryd.t90.desc) .nil) (some Tryd.t58.desc) (.node (.node .nil (some
  Tryd.t185.desc) .nil) (some Tryd.t122.desc) .nil)))) (some Tryd.t5.desc) (.node (.node (.node (.node (.node .nil (some Tryd.t134.desc) .nil) (some Tryd.t70.desc) .nil) (some Tryd.t38.desc) (.node (.node .nil (some Tryd.t166.desc) .nil)
  (some Tryd.t102.desc) .nil)) (some Tryd.t22.desc) (.node (.node (.node .nil (some Tryd.t150.desc) .nil) (some Tryd.t86.desc) .nil) (some Tryd.t54.desc) (.node (.node .nil (some Tryd.t182.desc) .nil) (some Tryd.t118.desc) .nil))) (some
  Tryd.t13.desc) (.node (.node (.node (.node .nil (some Tryd.t142.desc) .nil) (some Tryd.t78.desc) .nil) (some Tryd.t45.desc) (.node (.node .nil (some Tryd.t174.desc) .nil) (some Tryd.t110.desc) .nil)) (some Tryd.t30.desc) (.node (.node
  (.node .nil (some Tryd.t157.desc) .nil) (some Tryd.t94.desc) .nil) (some Tryd.t62.desc) (.node .nil (some Tryd.t126.desc) .nil)))))))
noncomputable def fnT : PT (FuncId × Func) := (.node (.node (.node (.node (.node (.node (.node .nil (some (63, Tryd.f63)) .nil) (some (31, Tryd.f31)) (.node .nil (some (95, Tryd.f95)) .nil)) (some (15, Tryd.f15)) (.node (.node .nil (some
  (79, Tryd.f79)) .nil) (some (47, Tryd.f47)) (.node .nil (some (111, Tryd.f111)) .nil))) (some (7, Tryd.f7)) (.node (.node (.node .nil (some (71, Tryd.f71)) .nil) (some (39, Tryd.f39)) (.node .nil (some (103, Tryd.f103)) .nil)) (some (23,
  Tryd.f23)) (.node (.node .nil (some (87, Tryd.f87)) .nil) (some (55, Tryd.f55)) .nil))) (some (3, Tryd.f3)) (.node (.node (.node (.node .nil (some (67, Tryd.f67)) .nil) (some (35, Tryd.f35)) (.node .nil (some (99, Tryd.f99)) .nil)) (some
  (19, Tryd.f19)) (.node (.node .nil (some (83, Tryd.f83)) .nil) (some (51, Tryd.f51)) (.node .nil (some (115, Tryd.f115)) .nil))) (some (11, Tryd.f11)) (.node (.node .nil (some (43, Tryd.f43)) (.node .nil (some (107, Tryd.f107)) .nil))
  (some (27, Tryd.f27)) (.node (.node .nil (some (91, Tryd.f91)) .nil) (some (59, Tryd.f59)) .nil)))) none (.node (.node (.node (.node (.node .nil (some (65, Tryd.f65)) .nil) (some (33, Tryd.f33)) (.node .nil (some (97, Tryd.f97)) .nil))
  (some (17, Tryd.f17)) (.node .nil (some (49, Tryd.f49)) (.node .nil (some (113, Tryd.f113)) .nil))) (some (9, Tryd.f9)) (.node (.node (.node .nil (some (73, Tryd.f73)) .nil) (some (41, Tryd.f41)) (.node .nil (some (105, Tryd.f105)) .nil))
  (some (25, Tryd.f25)) (.node (.node (.node .nil (some (153, Tryd.f153)) .nil) (some (89, Tryd.f89)) .nil) (some (57, Tryd.f57)) .nil))) (some (5, Tryd.f5)) (.node (.node (.node (.node .nil (some (69, Tryd.f69)) .nil) (some (37, Tryd.f37))
  (.node .nil (some (101, Tryd.f101)) .nil)) (some (21, Tryd.f21)) (.node (.node .nil (some (85, Tryd.f85)) .nil) (some (53, Tryd.f53)) (.node .nil (some (117, Tryd.f117)) .nil))) (some (13, Tryd.f13)) (.node (.node (.node .nil (some (77,
  Tryd.f77)) .nil) (some (45, Tryd.f45)) (.node .nil (some (109, Tryd.f109)) .nil)) (some (29, Tryd.f29)) (.node (.node .nil (some (93, Tryd.f93)) .nil) (some (61, Tryd.f61)) .nil))))) none (.node (.node (.node (.node (.node (.node .nil
  (some (64, Tryd.f64)) .nil) (some (32, Tryd.f32)) (.node .nil (some (96, Tryd.f96)) .nil)) (some (16, Tryd.f16)) (.node .nil (some (48, Tryd.f48)) (.node .nil (some (112, Tryd.f112)) .nil))) (some (8, Tryd.f8)) (.node (.node (.node .nil
  (some (72, Tryd.f72)) .nil) (some (40, Tryd.f40)) (.node .nil (some (104, Tryd.f104)) .nil)) (some (24, Tryd.f24)) (.node .nil (some (56, Tryd.f56)) .nil))) (some (4, Tryd.f4)) (.node (.node (.node (.node .nil (some (68, Tryd.f68)) .nil)
  (some (36, Tryd.f36)) (.node .nil (some (100, Tryd.f100)) .nil)) (some (20, Tryd.f20)) (.node (.node .nil (some (84, Tryd.f84)) .nil) (some (52, Tryd.f52)) (.node .nil (some (116, Tryd.f116)) .nil))) (some (12, Tryd.f12)) (.node (.node
  (.node .nil (some (76, Tryd.f76)) .nil) (some (44, Tryd.f44)) (.node .nil (some (108, Tryd.f108)) .nil)) (some (28, Tryd.f28)) (.node (.node .nil (some (92, Tryd.f92)) .nil) (some (60, Tryd.f60)) .nil)))) (some (2, Tryd.f2)) (.node (.node
  (.node (.node (.node .nil (some (66, Tryd.f66)) .nil) (some (34, Tryd.f34)) (.node .nil (some (98, Tryd.f98)) .nil)) (some (18, Tryd.f18)) (.node .nil (some (50, Tryd.f50)) (.node .nil (some (114, Tryd.f114)) .nil))) (some (10, Tryd.f10))
  (.node (.node (.node .nil (some (74, Tryd.f74)) .nil) (some (42, Tryd.f42)) (.node .nil (some (106, Tryd.f106)) .nil)) (some (26, Tryd.f26)) (.node (.node .nil (some (90, Tryd.f90)) .nil) (some (58, Tryd.f58)) .nil))) (some (6, Tryd.f6))
  (.node (.node (.node (.node .nil (some (70, Tryd.f70)) .nil) (some (38, Tryd.f38)) (.node .nil (some (102, Tryd.f102)) .nil)) (some (22, Tryd.f22)) (.node (.node .nil (some (86, Tryd.f86)) .nil) (some (54, Tryd.f54)) .nil)) (some (14,
  Tryd.f14)) (.node (.node (.node .nil (some (78, Tryd.f78)) .nil) (some (46, Tryd.f46)) (.node .nil (some (110, Tryd.f110)) .nil)) (some (30, Tryd.f30)) (.node (.node .nil (some (94, Tryd.f94)) .nil) (some (62, Tryd.f62)) .nil))))))
theorem tyT_ok : tyT.All (InfP Tryd.prog) (fun k => k) := (PT.all_node (infAt (by kernel_rfl)) (PT.all_node (infAt (by kernel_rfl)) (PT.all_node (infAt (by kernel_rfl)) (PT.all_node (infAt (by kernel_rfl)) (PT.all_node (infAt (by
  kernel_rfl)) (PT.all_node (infAt (by kernel_rfl)) (PT.all_node (infAt (by kernel_rfl)) (PT.all_node (infAt (by kernel_rfl)) PT.all_nil PT.all_nil) PT.all_nil) (PT.all_node (infAt (by kernel_rfl)) (PT.all_node (infAt (by kernel_rfl))
  PT.all_nil PT.all_nil) PT.all_nil)) (PT.all_node (infAt (by kernel_rfl)) (PT.all_node (infAt (by kernel_rfl)) (PT.all_node (infAt (by kernel_rfl)) PT.all_nil PT.all_nil) PT.all_nil) (PT.all_node (infAt (by kernel_rfl)) (PT.all_node (infAt
  (by kernel_rfl)) PT.all_nil PT.all_nil) PT.all_nil))) (PT.all_node (infAt (by kernel_rfl)) (PT.all_node (infAt (by kernel_rfl)) (PT.all_node (infAt (by kernel_rfl)) (PT.all_node (infAt (by kernel_rfl)) PT.all_nil PT.all_nil) PT.all_nil)
  (PT.all_node (infAt (by kernel_rfl)) (PT.all_node (infAt (by kernel_rfl)) PT.all_nil PT.all_nil) PT.all_nil)) (PT.all_node (infAt (by kernel_rfl)) (PT.all_node (infAt (by kernel_rfl)) (PT.all_node (infAt (by kernel_rfl)) PT.all_nil
  PT.all_nil) PT.all_nil) (PT.all_node (infAt (by kernel_rfl)) (PT.all_node (infAt (by kernel_rfl)) PT.all_nil PT.all_nil) PT.all_nil)))) (PT.all_node (infAt (by kernel_rfl)) (PT.all_node (infAt (by kernel_rfl)) (PT.all_node (infAt (by
  kernel_rfl)) (PT.all_node (infAt (by kernel_rfl)) (PT.all_node (infAt (by kernel_rfl)) PT.all_nil PT.all_nil) PT.all_nil) (PT.all_node (infAt (by kernel_rfl)) (PT.all_node (infAt (by kernel_rfl)) PT.all_nil PT.all_nil) PT.all_nil))
  (PT.all_node (infAt (by kernel_rfl)) (PT.all_node (infAt (by kernel_rfl)) (PT.all_node (infAt (by kernel_rfl)) PT.all_nil PT.all_nil) PT.all_nil) (PT.all_node (infAt (by kernel_rfl)) (PT.all_node (infAt (by kernel_rfl)) PT.all_nil
  PT.all_nil) PT.all_nil))) (PT.all_node (infAt (by kernel_rfl)) (PT.all_node (infAt (by kernel_rfl)) (PT.all_node (infAt (by kernel_rfl)) (PT.all_node (infAt (by kernel_rfl)) PT.all_nil PT.all_nil) PT.all_nil) (PT.all_node (infAt (by
  kernel_rfl)) (PT.all_node (infAt (by kernel_rfl)) PT.all_nil PT.all_nil) PT.all_nil)) (PT.all_node (infAt (by kernel_rfl)) (PT.all_node (infAt (by kernel_rfl)) (PT.all_node (infAt (by kernel_rfl)) PT.all_nil PT.all_nil) PT.all_nil)
  (PT.all_node (infAt (by kernel_rfl)) PT.all_nil PT.all_nil))))) (PT.all_node (infAt (by kernel_rfl)) (PT.all_node (infAt (by kernel_rfl)) (PT.all_node (infAt (by kernel_rfl)) (PT.all_node (infAt (by kernel_rfl)) (PT.all_node (infAt (by
  kernel_rfl)) (PT.all_node (infAt (by kernel_rfl)) PT.all_nil PT.all_nil) PT.all_nil) (PT.all_node (infAt (by kernel_rfl)) (PT.all_node (infAt (by kernel_rfl)) PT.all_nil PT.all_nil) PT.all_nil)) (PT.all_node (infAt (by kernel_rfl))
  (PT.all_node (infAt (by kernel_rfl)) (PT.all_node (infAt (by kernel_rfl)) PT.all_nil PT.all_nil) PT.all_nil) (PT.all_node (infAt (by kernel_rfl)) (PT.all_node (infAt (by kernel_rfl)) PT.all_nil PT.all_nil) PT.all_nil))) (PT.all_node (infAt
  (by kernel_rfl)) (PT.all_node (infAt (by kernel_rfl)) (PT.all_node (infAt (by kernel_rfl)) (PT.all_node (infAt (by kernel_rfl)) PT.all_nil PT.all_nil) PT.all_nil) (PT.all_node (infAt (by kernel_rfl)) (PT.all_node (infAt (by kernel_rfl))
  PT.all_nil PT.all_nil) PT.all_nil)) (PT.all_node (infAt (by kernel_rfl)) (PT.all_node (infAt (by kernel_rfl)) (PT.all_node (infAt (by kernel_rfl)) PT.all_nil PT.all_nil) PT.all_nil) (PT.all_node (infAt (by kernel_rfl)) (PT.all_node (infAt
  (by kernel_rfl)) PT.all_nil PT.all_nil) PT.all_nil)))) (PT.all_node (infAt (by kernel_rfl)) (PT.all_node (infAt (by kernel_rfl)) (PT.all_node (infAt (by kernel_rfl)) (PT.all_node (infAt (by kernel_rfl)) (PT.all_node (infAt (by kernel_rfl))
  PT.all_nil PT.all_nil) PT.all_nil) (PT.all_node (infAt (by kernel_rfl)) (PT.all_node (infAt (by kernel_rfl)) PT.all_nil PT.all_nil) PT.all_nil)) (PT.all_node (infAt (by kernel_rfl)) (PT.all_node (infAt (by kernel_rfl)) (PT.all_node (infAt
  (by kernel_rfl)) PT.all_nil PT.all_nil) PT.all_nil) (PT.all_node (infAt (by kernel_rfl)) (PT.all_node (infAt (by kernel_rfl)) PT.all_nil PT.all_nil) PT.all_nil))) (PT.all_node (infAt (by kernel_rfl)) (PT.all_node (infAt (by kernel_rfl))
  (PT.all_node (infAt (by kernel_rfl)) (PT.all_node (infAt (by kernel_rfl)) PT.all_nil PT.all_nil) PT.all_nil) (PT.all_node (infAt (by kernel_rfl)) (PT.all_node (infAt (by kernel_rfl)) PT.all_nil PT.all_nil) PT.all_nil)) (PT.all_node (infAt
  (by kernel_rfl)) (PT.all_node (infAt (by kernel_rfl)) (PT.all_node (infAt (by kernel_rfl)) PT.all_nil PT.all_nil) PT.all_nil) (PT.all_node (infAt (by kernel_rfl)) PT.all_nil PT.all_nil)))))) (PT.all_node (infAt (by kernel_rfl))
  (PT.all_node (infAt (by kernel_rfl)) (PT.all_node (infAt (by kernel_rfl)) (PT.all_node (infAt (by kernel_rfl)) (PT.all_node (infAt (by kernel_rfl)) (PT.all_node (infAt (by kernel_rfl)) (PT.all_node (infAt (by kernel_rfl)) PT.all_nil
  PT.all_nil) PT.all_nil) (PT.all_node (infAt (by kernel_rfl)) (PT.all_node (infAt (by kernel_rfl)) PT.all_nil PT.all_nil) PT.all_nil)) (PT.all_node (infAt (by kernel_rfl)) (PT.all_node (infAt (by kernel_rfl)) (PT.all_node (infAt (by
  kernel_rfl)) PT.all_nil PT.all_nil) PT.all_nil) (PT.all_node (infAt (by kernel_rfl)) (PT.all_node (infAt (by kernel_rfl)) PT.all_nil PT.all_nil) PT.all_nil))) (PT.all_node (infAt (by kernel_rfl)) (PT.all_node (infAt (by kernel_rfl))
  (PT.all_node (infAt (by kernel_rfl)) (PT.all_node (infAt (by kernel_rfl)) PT.all_nil PT.all_nil) PT.all_nil) (PT.all_node (infAt (by kernel_rfl)) (PT.all_node (infAt (by kernel_rfl)) PT.all_nil PT.all_nil) PT.all_nil)) (PT.all_node (infAt
  (by kernel_rfl)) (PT.all_node (infAt (by kernel_rfl)) (PT.all_node (infAt (by kernel_rfl)) PT.all_nil PT.all_nil) PT.all_nil) (PT.all_node (infAt (by kernel_rfl)) (PT.all_node (infAt (by kernel_rfl)) PT.all_nil PT.all_nil) PT.all_nil))))
  (PT.all_node (infAt (by kernel_rfl)) (PT.all_node (infAt (by kernel_rfl)) (PT.all_node (infAt (by kernel_rfl)) (PT.all_node (infAt (by kernel_rfl)) (PT.all_node (infAt (by kernel_rfl)) PT.all_nil PT.all_nil) PT.all_nil) (PT.all_node (infAt
  (by kernel_rfl)) (PT.all_node (infAt (by kernel_rfl)) PT.all_nil PT.all_nil) PT.all_nil)) (PT.all_node (infAt (by kernel_rfl)) (PT.all_node (infAt (by kernel_rfl)) (PT.all_node (infAt (by kernel_rfl)) PT.all_nil PT.all_nil) PT.all_nil)
  (PT.all_node (infAt (by kernel_rfl)) (PT.all_node (infAt (by kernel_rfl)) PT.all_nil PT.all_nil) PT.all_nil))) (PT.all_node (infAt (by kernel_rfl)) (PT.all_node (infAt (by kernel_rfl)) (PT.all_node (infAt (by kernel_rfl)) (PT.all_node
  (infAt (by kernel_rfl)) PT.all_nil PT.all_nil) PT.all_nil) (PT.all_node (infAt (by kernel_rfl)) (PT.all_node (infAt (by kernel_rfl)) PT.all_nil PT.all_nil) PT.all_nil)) (PT.all_node (infAt (by kernel_rfl)) (PT.all_node (infAt (by
  kernel_rfl)) (PT.all_node (infAt (by kernel_rfl)) PT.all_nil PT.all_nil) PT.all_nil) (PT.all_node (infAt (by kernel_rfl)) PT.all_nil PT.all_nil))))) (PT.all_node (infAt (by kernel_rfl)) (PT.all_node (infAt (by kernel_rfl)) (PT.all_node
  (infAt (by kernel_rfl)) (PT.all_node (infAt (by kernel_rfl)) (PT.all_node (infAt (by kernel_rfl)) (PT.all_node (infAt (by kernel_rfl)) PT.all_nil PT.all_nil) PT.all_nil) (PT.all_node (infAt (by kernel_rfl)) (PT.all_node (infAt (by
  kernel_rfl)) PT.all_nil PT.all_nil) PT.all_nil)) (PT.all_node (infAt (by kernel_rfl)) (PT.all_node (infAt (by kernel_rfl)) (PT.all_node (infAt (by kernel_rfl)) PT.all_nil PT.all_nil) PT.all_nil) (PT.all_node (infAt (by kernel_rfl))
  (PT.all_node (infAt (by kernel_rfl)) PT.all_nil PT.all_nil) PT.all_nil))) (PT.all_node (infAt (by kernel_rfl)) (PT.all_node (infAt (by kernel_rfl)) (PT.all_node (infAt (by kernel_rfl)) (PT.all_node (infAt (by kernel_rfl)) PT.all_nil
  PT.all_nil) PT.all_nil) (PT.all_node (infAt (by kernel_rfl)) (PT.all_node (infAt (by kernel_rfl)) PT.all_nil PT.all_nil) PT.all_nil)) (PT.all_node (infAt (by kernel_rfl)) (PT.all_node (infAt (by kernel_rfl)) (PT.all_node (infAt (by
  kernel_rfl)) PT.all_nil PT.all_nil) PT.all_nil) (PT.all_node (infAt (by kernel_rfl)) (PT.all_node (infAt (by kernel_rfl)) PT.all_nil PT.all_nil) PT.all_nil)))) (PT.all_node (infAt (by kernel_rfl)) (PT.all_node (infAt (by kernel_rfl))
  (PT.all_node (infAt (by kernel_rfl)) (PT.all_node (infAt (by kernel_rfl)) (PT.all_node (infAt (by kernel_rfl)) PT.all_nil PT.all_nil) PT.all_nil) (PT.all_node (infAt (by kernel_rfl)) (PT.all_node (infAt (by kernel_rfl)) PT.all_nil
  PT.all_nil) PT.all_nil)) (PT.all_node (infAt (by kernel_rfl)) (PT.all_node (infAt (by kernel_rfl)) (PT.all_node (infAt (by kernel_rfl)) PT.all_nil PT.all_nil) PT.all_nil) (PT.all_node (infAt (by kernel_rfl)) (PT.all_node (infAt (by
  kernel_rfl)) PT.all_nil PT.all_nil) PT.all_nil))) (PT.all_node (infAt (by kernel_rfl)) (PT.all_node (infAt (by kernel_rfl)) (PT.all_node (infAt (by kernel_rfl)) (PT.all_node (infAt (by kernel_rfl)) PT.all_nil PT.all_nil) PT.all_nil)
  (PT.all_node (infAt (by kernel_rfl)) (PT.all_node (infAt (by kernel_rfl)) PT.all_nil PT.all_nil) PT.all_nil)) (PT.all_node (infAt (by kernel_rfl)) (PT.all_node (infAt (by kernel_rfl)) (PT.all_node (infAt (by kernel_rfl)) PT.all_nil
  PT.all_nil) PT.all_nil) (PT.all_node (infAt (by kernel_rfl)) PT.all_nil PT.all_nil)))))))
theorem unT_ok : unT.All (UndP Tryd.prog) (fun k => k) := (PT.all_node (undAt (by kernel_rfl)) (PT.all_node (undAt (by kernel_rfl)) (PT.all_node (undAt (by kernel_rfl)) (PT.all_node (undAt (by kernel_rfl)) (PT.all_node (undAt (by
  kernel_rfl)) (PT.all_node (undAt (by kernel_rfl)) (PT.all_node (undAt (by kernel_rfl)) (PT.all_node (undAt (by kernel_rfl)) PT.all_nil PT.all_nil) PT.all_nil) (PT.all_node (undAt (by kernel_rfl)) (PT.all_node (undAt (by kernel_rfl))
  PT.all_nil PT.all_nil) PT.all_nil)) (PT.all_node (undAt (by kernel_rfl)) (PT.all_node (undAt (by kernel_rfl)) (PT.all_node (undAt (by kernel_rfl)) PT.all_nil PT.all_nil) PT.all_nil) (PT.all_node (undAt (by kernel_rfl)) (PT.all_node (undAt
  (by kernel_rfl)) PT.all_nil PT.all_nil) PT.all_nil))) (PT.all_node (undAt (by kernel_rfl)) (PT.all_node (undAt (by kernel_rfl)) (PT.all_node (undAt (by kernel_rfl)) (PT.all_node (undAt (by kernel_rfl)) PT.all_nil PT.all_nil) PT.all_nil)
  (PT.all_node (undAt (by kernel_rfl)) (PT.all_node (undAt (by kernel_rfl)) PT.all_nil PT.all_nil) PT.all_nil)) (PT.all_node (undAt (by kernel_rfl)) (PT.all_node (undAt (by kernel_rfl)) (PT.all_node (undAt (by kernel_rfl)) PT.all_nil
  PT.all_nil) PT.all_nil) (PT.all_node (undAt (by kernel_rfl)) (PT.all_node (undAt (by kernel_rfl)) PT.all_nil PT.all_nil) PT.all_nil)))) (PT.all_node (undAt (by kernel_rfl)) (PT.all_node (undAt (by kernel_rfl)) (PT.all_node (undAt (by
  kernel_rfl)) (PT.all_node (undAt (by kernel_rfl)) (PT.all_node (undAt (by kernel_rfl)) PT.all_nil PT.all_nil) PT.all_nil) (PT.all_node (undAt (by kernel_rfl)) (PT.all_node (undAt (by kernel_rfl)) PT.all_nil PT.all_nil) PT.all_nil))
  (PT.all_node (undAt (by kernel_rfl)) (PT.all_node (undAt (by kernel_rfl)) (PT.all_node (undAt (by kernel_rfl)) PT.all_nil PT.all_nil) PT.all_nil) (PT.all_node (undAt (by kernel_rfl)) (PT.all_node (undAt (by kernel_rfl)) PT.all_nil
  PT.all_nil) PT.all_nil))) (PT.all_node (undAt (by kernel_rfl)) (PT.all_node (undAt (by kernel_rfl)) (PT.all_node (undAt (by kernel_rfl)) (PT.all_node (undAt (by kernel_rfl)) PT.all_nil PT.all_nil) PT.all_nil) (PT.all_node (undAt (by
  kernel_rfl)) (PT.all_node (undAt (by kernel_rfl)) PT.all_nil PT.all_nil) PT.all_nil)) (PT.all_node (undAt (by kernel_rfl)) (PT.all_node (undAt (by kernel_rfl)) (PT.all_node (undAt (by kernel_rfl)) PT.all_nil PT.all_nil) PT.all_nil)
  (PT.all_node (undAt (by kernel_rfl)) PT.all_nil PT.all_nil))))) (PT.all_node (undAt (by kernel_rfl)) (PT.all_node (undAt (by kernel_rfl)) (PT.all_node (undAt (by kernel_rfl)) (PT.all_node (undAt (by kernel_rfl)) (PT.all_node (undAt (by
  kernel_rfl)) (PT.all_node (undAt (by kernel_rfl)) PT.all_nil PT.all_nil) PT.all_nil) (PT.all_node (undAt (by kernel_rfl)) (PT.all_node (undAt (by kernel_rfl)) PT.all_nil PT.all_nil) PT.all_nil)) (PT.all_node (undAt (by kernel_rfl))
  (PT.all_node (undAt (by kernel_rfl)) (PT.all_node (undAt (by kernel_rfl)) PT.all_nil PT.all_nil) PT.all_nil) (PT.all_node (undAt (by kernel_rfl)) (PT.all_node (undAt (by kernel_rfl)) PT.all_nil PT.all_nil) PT.all_nil))) (PT.all_node (undAt
  (by kernel_rfl)) (PT.all_node (undAt (by kernel_rfl)) (PT.all_node (undAt (by kernel_rfl)) (PT.all_node (undAt (by kernel_rfl)) PT.all_nil PT.all_nil) PT.all_nil) (PT.all_node (undAt (by kernel_rfl)) (PT.all_node (undAt (by kernel_rfl))
  PT.all_nil PT.all_nil) PT.all_nil)) (PT.all_node (undAt (by kernel_rfl)) (PT.all_node (undAt (by kernel_rfl)) (PT.all_node (undAt (by kernel_rfl)) PT.all_nil PT.all_nil) PT.all_nil) (PT.all_node (undAt (by kernel_rfl)) (PT.all_node (undAt
  (by kernel_rfl)) PT.all_nil PT.all_nil) PT.all_nil)))) (PT.all_node (undAt (by kernel_rfl)) (PT.all_node (undAt (by kernel_rfl)) (PT.all_node (undAt (by kernel_rfl)) (PT.all_node (undAt (by kernel_rfl)) (PT.all_node (undAt (by kernel_rfl))
  PT.all_nil PT.all_nil) PT.all_nil) (PT.all_node (undAt (by kernel_rfl)) (PT.all_node (undAt (by kernel_rfl)) PT.all_nil PT.all_nil) PT.all_nil)) (PT.all_node (undAt (by kernel_rfl)) (PT.all_node (undAt (by kernel_rfl)) (PT.all_node (undAt
  (by kernel_rfl)) PT.all_nil PT.all_nil) PT.all_nil) (PT.all_node (undAt (by kernel_rfl)) (PT.all_node (undAt (by kernel_rfl)) PT.all_nil PT.all_nil) PT.all_nil))) (PT.all_node (undAt (by kernel_rfl)) (PT.all_node (undAt (by kernel_rfl))
  (PT.all_node (undAt (by kernel_rfl)) (PT.all_node (undAt (by kernel_rfl)) PT.all_nil PT.all_nil) PT.all_nil) (PT.all_node (undAt (by kernel_rfl)) (PT.all_node (undAt (by kernel_rfl)) PT.all_nil PT.all_nil) PT.all_nil)) (PT.all_node (undAt
  (by kernel_rfl)) (PT.all_node (undAt (by kernel_rfl)) (PT.all_node (undAt (by kernel_rfl)) PT.all_nil PT.all_nil) PT.all_nil) (PT.all_node (undAt (by kernel_rfl)) PT.all_nil PT.all_nil)))))) (PT.all_node (undAt (by kernel_rfl))
  (PT.all_node (undAt (by kernel_rfl)) (PT.all_node (undAt (by kernel_rfl)) (PT.all_node (undAt (by kernel_rfl)) (PT.all_node (undAt (by kernel_rfl)) (PT.all_node (undAt (by kernel_rfl)) (PT.all_node (undAt (by kernel_rfl)) PT.all_nil
  PT.all_nil) PT.all_nil) (PT.all_node (undAt (by kernel_rfl)) (PT.all_node (undAt (by kernel_rfl)) PT.all_nil PT.all_nil) PT.all_nil)) (PT.all_node (undAt (by kernel_rfl)) (PT.all_node (undAt (by kernel_rfl)) (PT.all_node (undAt (by
  kernel_rfl)) PT.all_nil PT.all_nil) PT.all_nil) (PT.all_node (undAt (by kernel_rfl)) (PT.all_node (undAt (by kernel_rfl)) PT.all_nil PT.all_nil) PT.all_nil))) (PT.all_node (undAt (by kernel_rfl)) (PT.all_node (undAt (by kernel_rfl))
  (PT.all_node (undAt (by kernel_rfl)) (PT.all_node (undAt (by kernel_rfl)) PT.all_nil PT.all_nil) PT.all_nil) (PT.all_node (undAt (by kernel_rfl)) (PT.all_node (undAt (by kernel_rfl)) PT.all_nil PT.all_nil) PT.all_nil)) (PT.all_node (undAt
  (by kernel_rfl)) (PT.all_node (undAt (by kernel_rfl)) (PT.all_node (undAt (by kernel_rfl)) PT.all_nil PT.all_nil) PT.all_nil) (PT.all_node (undAt (by kernel_rfl)) (PT.all_node (undAt (by kernel_rfl)) PT.all_nil PT.all_nil) PT.all_nil))))
  (PT.all_node (undAt (by kernel_rfl)) (PT.all_node (undAt (by kernel_rfl)) (PT.all_node (undAt (by kernel_rfl)) (PT.all_node (undAt (by kernel_rfl)) (PT.all_node (undAt (by kernel_rfl)) PT.all_nil PT.all_nil) PT.all_nil) (PT.all_node (undAt
  (by kernel_rfl)) (PT.all_node (undAt (by kernel_rfl)) PT.all_nil PT.all_nil) PT.all_nil)) (PT.all_node (undAt (by kernel_rfl)) (PT.all_node (undAt (by kernel_rfl)) (PT.all_node (undAt (by kernel_rfl)) PT.all_nil PT.all_nil) PT.all_nil)
  (PT.all_node (undAt (by kernel_rfl)) (PT.all_node (undAt (by kernel_rfl)) PT.all_nil PT.all_nil) PT.all_nil))) (PT.all_node (undAt (by kernel_rfl)) (PT.all_node (undAt (by kernel_rfl)) (PT.all_node (undAt (by kernel_rfl)) (PT.all_node
  (undAt (by kernel_rfl)) PT.all_nil PT.all_nil) PT.all_nil) (PT.all_node (undAt (by kernel_rfl)) (PT.all_node (undAt (by kernel_rfl)) PT.all_nil PT.all_nil) PT.all_nil)) (PT.all_node (undAt (by kernel_rfl)) (PT.all_node (undAt (by
  kernel_rfl)) (PT.all_node (undAt (by kernel_rfl)) PT.all_nil PT.all_nil) PT.all_nil) (PT.all_node (undAt (by kernel_rfl)) PT.all_nil PT.all_nil))))) (PT.all_node (undAt (by kernel_rfl)) (PT.all_node (undAt (by kernel_rfl)) (PT.all_node
  (undAt (by kernel_rfl)) (PT.all_node (undAt (by kernel_rfl)) (PT.all_node (undAt (by kernel_rfl)) (PT.all_node (undAt (by kernel_rfl)) PT.all_nil PT.all_nil) PT.all_nil) (PT.all_node (undAt (by kernel_rfl)) (PT.all_node (undAt (by
  kernel_rfl)) PT.all_nil PT.all_nil) PT.all_nil)) (PT.all_node (undAt (by kernel_rfl)) (PT.all_node (undAt (by kernel_rfl)) (PT.all_node (undAt (by kernel_rfl)) PT.all_nil PT.all_nil) PT.all_nil) (PT.all_node (undAt (by kernel_rfl))
  (PT.all_node (undAt (by kernel_rfl)) PT.all_nil PT.all_nil) PT.all_nil))) (PT.all_node (undAt (by kernel_rfl)) (PT.all_node (undAt (by kernel_rfl)) (PT.all_node (undAt (by kernel_rfl)) (PT.all_node (undAt (by kernel_rfl)) PT.all_nil
  PT.all_nil) PT.all_nil) (PT.all_node (undAt (by kernel_rfl)) (PT.all_node (undAt (by kernel_rfl)) PT.all_nil PT.all_nil) PT.all_nil)) (PT.all_node (undAt (by kernel_rfl)) (PT.all_node (undAt (by kernel_rfl)) (PT.all_node (undAt (by
  kernel_rfl)) PT.all_nil PT.all_nil) PT.all_nil) (PT.all_node (undAt (by kernel_rfl)) (PT.all_node (undAt (by kernel_rfl)) PT.all_nil PT.all_nil) PT.all_nil)))) (PT.all_node (undAt (by kernel_rfl)) (PT.all_node (undAt (by kernel_rfl))
  (PT.all_node (undAt (by kernel_rfl)) (PT.all_node (undAt (by kernel_rfl)) (PT.all_node (undAt (by kernel_rfl)) PT.all_nil PT.all_nil) PT.all_nil) (PT.all_node (undAt (by kernel_rfl)) (PT.all_node (undAt (by kernel_rfl)) PT.all_nil
  PT.all_nil) PT.all_nil)) (PT.all_node (undAt (by kernel_rfl)) (PT.all_node (undAt (by kernel_rfl)) (PT.all_node (undAt (by kernel_rfl)) PT.all_nil PT.all_nil) PT.all_nil) (PT.all_node (undAt (by kernel_rfl)) (PT.all_node (undAt (by
  kernel_rfl)) PT.all_nil PT.all_nil) PT.all_nil))) (PT.all_node (undAt (by kernel_rfl)) (PT.all_node (undAt (by kernel_rfl)) (PT.all_node (undAt (by kernel_rfl)) (PT.all_node (undAt (by kernel_rfl)) PT.all_nil PT.all_nil) PT.all_nil)
  (PT.all_node (undAt (by kernel_rfl)) (PT.all_node (undAt (by kernel_rfl)) PT.all_nil PT.all_nil) PT.all_nil)) (PT.all_node (undAt (by kernel_rfl)) (PT.all_node (undAt (by kernel_rfl)) (PT.all_node (undAt (by kernel_rfl)) PT.all_nil
  PT.all_nil) PT.all_nil) (PT.all_node (undAt (by kernel_rfl)) PT.all_nil PT.all_nil)))))))
theorem fnT_ok : fnT.All (FnP Tryd.prog) (fun k => k) := (PT.all_node noAt (PT.all_node noAt (PT.all_node (fnAt (by kernel_rfl) Tryd.call3 Tryd.func3) (PT.all_node (fnAt (by kernel_rfl) Tryd.call7 Tryd.func7) (PT.all_node (fnAt (by
  kernel_rfl) Tryd.call15 Tryd.func15) (PT.all_node (fnAt (by kernel_rfl) Tryd.call31 Tryd.func31) (PT.all_node (fnAt (by kernel_rfl) Tryd.call63 Tryd.func63) PT.all_nil PT.all_nil) (PT.all_node (fnAt (by kernel_rfl) Tryd.call95 Tryd.func95)
  PT.all_nil PT.all_nil)) (PT.all_node (fnAt (by kernel_rfl) Tryd.call47 Tryd.func47) (PT.all_node (fnAt (by kernel_rfl) Tryd.call79 Tryd.func79) PT.all_nil PT.all_nil) (PT.all_node (fnAt (by kernel_rfl) Tryd.call111 Tryd.func111) PT.all_nil
  PT.all_nil))) (PT.all_node (fnAt (by kernel_rfl) Tryd.call23 Tryd.func23) (PT.all_node (fnAt (by kernel_rfl) Tryd.call39 Tryd.func39) (PT.all_node (fnAt (by kernel_rfl) Tryd.call71 Tryd.func71) PT.all_nil PT.all_nil) (PT.all_node (fnAt (by
  kernel_rfl) Tryd.call103 Tryd.func103) PT.all_nil PT.all_nil)) (PT.all_node (fnAt (by kernel_rfl) Tryd.call55 Tryd.func55) (PT.all_node (fnAt (by kernel_rfl) Tryd.call87 Tryd.func87) PT.all_nil PT.all_nil) PT.all_nil))) (PT.all_node (fnAt
  (by kernel_rfl) Tryd.call11 Tryd.func11) (PT.all_node (fnAt (by kernel_rfl) Tryd.call19 Tryd.func19) (PT.all_node (fnAt (by kernel_rfl) Tryd.call35 Tryd.func35) (PT.all_node (fnAt (by kernel_rfl) Tryd.call67 Tryd.func67) PT.all_nil
  PT.all_nil) (PT.all_node (fnAt (by kernel_rfl) Tryd.call99 Tryd.func99) PT.all_nil PT.all_nil)) (PT.all_node (fnAt (by kernel_rfl) Tryd.call51 Tryd.func51) (PT.all_node (fnAt (by kernel_rfl) Tryd.call83 Tryd.func83) PT.all_nil PT.all_nil)
  (PT.all_node (fnAt (by kernel_rfl) Tryd.call115 Tryd.func115) PT.all_nil PT.all_nil))) (PT.all_node (fnAt (by kernel_rfl) Tryd.call27 Tryd.func27) (PT.all_node (fnAt (by kernel_rfl) Tryd.call43 Tryd.func43) PT.all_nil (PT.all_node (fnAt
  (by kernel_rfl) Tryd.call107 Tryd.func107) PT.all_nil PT.all_nil)) (PT.all_node (fnAt (by kernel_rfl) Tryd.call59 Tryd.func59) (PT.all_node (fnAt (by kernel_rfl) Tryd.call91 Tryd.func91) PT.all_nil PT.all_nil) PT.all_nil)))) (PT.all_node
  (fnAt (by kernel_rfl) Tryd.call5 Tryd.func5) (PT.all_node (fnAt (by kernel_rfl) Tryd.call9 Tryd.func9) (PT.all_node (fnAt (by kernel_rfl) Tryd.call17 Tryd.func17) (PT.all_node (fnAt (by kernel_rfl) Tryd.call33 Tryd.func33) (PT.all_node
  (fnAt (by kernel_rfl) Tryd.call65 Tryd.func65) PT.all_nil PT.all_nil) (PT.all_node (fnAt (by kernel_rfl) Tryd.call97 Tryd.func97) PT.all_nil PT.all_nil)) (PT.all_node (fnAt (by kernel_rfl) Tryd.call49 Tryd.func49) PT.all_nil (PT.all_node
  (fnAt (by kernel_rfl) Tryd.call113 Tryd.func113) PT.all_nil PT.all_nil))) (PT.all_node (fnAt (by kernel_rfl) Tryd.call25 Tryd.func25) (PT.all_node (fnAt (by kernel_rfl) Tryd.call41 Tryd.func41) (PT.all_node (fnAt (by kernel_rfl)
  Tryd.call73 Tryd.func73) PT.all_nil PT.all_nil) (PT.all_node (fnAt (by kernel_rfl) Tryd.call105 Tryd.func105) PT.all_nil PT.all_nil)) (PT.all_node (fnAt (by kernel_rfl) Tryd.call57 Tryd.func57) (PT.all_node (fnAt (by kernel_rfl)
  Tryd.call89 Tryd.func89) (PT.all_node (fnAt (by kernel_rfl) Tryd.call153 Tryd.func153) PT.all_nil PT.all_nil) PT.all_nil) PT.all_nil))) (PT.all_node (fnAt (by kernel_rfl) Tryd.call13 Tryd.func13) (PT.all_node (fnAt (by kernel_rfl)
  Tryd.call21 Tryd.func21) (PT.all_node (fnAt (by kernel_rfl) Tryd.call37 Tryd.func37) (PT.all_node (fnAt (by kernel_rfl) Tryd.call69 Tryd.func69) PT.all_nil PT.all_nil) (PT.all_node (fnAt (by kernel_rfl) Tryd.call101 Tryd.func101)
  PT.all_nil PT.all_nil)) (PT.all_node (fnAt (by kernel_rfl) Tryd.call53 Tryd.func53) (PT.all_node (fnAt (by kernel_rfl) Tryd.call85 Tryd.func85) PT.all_nil PT.all_nil) (PT.all_node (fnAt (by kernel_rfl) Tryd.call117 Tryd.func117) PT.all_nil
  PT.all_nil))) (PT.all_node (fnAt (by kernel_rfl) Tryd.call29 Tryd.func29) (PT.all_node (fnAt (by kernel_rfl) Tryd.call45 Tryd.func45) (PT.all_node (fnAt (by kernel_rfl) Tryd.call77 Tryd.func77) PT.all_nil PT.all_nil) (PT.all_node (fnAt (by
  kernel_rfl) Tryd.call109 Tryd.func109) PT.all_nil PT.all_nil)) (PT.all_node (fnAt (by kernel_rfl) Tryd.call61 Tryd.func61) (PT.all_node (fnAt (by kernel_rfl) Tryd.call93 Tryd.func93) PT.all_nil PT.all_nil) PT.all_nil))))) (PT.all_node
  (fnAt (by kernel_rfl) Tryd.call2 Tryd.func2) (PT.all_node (fnAt (by kernel_rfl) Tryd.call4 Tryd.func4) (PT.all_node (fnAt (by kernel_rfl) Tryd.call8 Tryd.func8) (PT.all_node (fnAt (by kernel_rfl) Tryd.call16 Tryd.func16) (PT.all_node (fnAt
  (by kernel_rfl) Tryd.call32 Tryd.func32) (PT.all_node (fnAt (by kernel_rfl) Tryd.call64 Tryd.func64) PT.all_nil PT.all_nil) (PT.all_node (fnAt (by kernel_rfl) Tryd.call96 Tryd.func96) PT.all_nil PT.all_nil)) (PT.all_node (fnAt (by
  kernel_rfl) Tryd.call48 Tryd.func48) PT.all_nil (PT.all_node (fnAt (by kernel_rfl) Tryd.call112 Tryd.func112) PT.all_nil PT.all_nil))) (PT.all_node (fnAt (by kernel_rfl) Tryd.call24 Tryd.func24) (PT.all_node (fnAt (by kernel_rfl)
  Tryd.call40 Tryd.func40) (PT.all_node (fnAt (by kernel_rfl) Tryd.call72 Tryd.func72) PT.all_nil PT.all_nil) (PT.all_node (fnAt (by kernel_rfl) Tryd.call104 Tryd.func104) PT.all_nil PT.all_nil)) (PT.all_node (fnAt (by kernel_rfl)
  Tryd.call56 Tryd.func56) PT.all_nil PT.all_nil))) (PT.all_node (fnAt (by kernel_rfl) Tryd.call12 Tryd.func12) (PT.all_node (fnAt (by kernel_rfl) Tryd.call20 Tryd.func20) (PT.all_node (fnAt (by kernel_rfl) Tryd.call36 Tryd.func36)
  (PT.all_node (fnAt (by kernel_rfl) Tryd.call68 Tryd.func68) PT.all_nil PT.all_nil) (PT.all_node (fnAt (by kernel_rfl) Tryd.call100 Tryd.func100) PT.all_nil PT.all_nil)) (PT.all_node (fnAt (by kernel_rfl) Tryd.call52 Tryd.func52)
  (PT.all_node (fnAt (by kernel_rfl) Tryd.call84 Tryd.func84) PT.all_nil PT.all_nil) (PT.all_node (fnAt (by kernel_rfl) Tryd.call116 Tryd.func116) PT.all_nil PT.all_nil))) (PT.all_node (fnAt (by kernel_rfl) Tryd.call28 Tryd.func28)
  (PT.all_node (fnAt (by kernel_rfl) Tryd.call44 Tryd.func44) (PT.all_node (fnAt (by kernel_rfl) Tryd.call76 Tryd.func76) PT.all_nil PT.all_nil) (PT.all_node (fnAt (by kernel_rfl) Tryd.call108 Tryd.func108) PT.all_nil PT.all_nil))
  (PT.all_node (fnAt (by kernel_rfl) Tryd.call60 Tryd.func60) (PT.all_node (fnAt (by kernel_rfl) Tryd.call92 Tryd.func92) PT.all_nil PT.all_nil) PT.all_nil)))) (PT.all_node (fnAt (by kernel_rfl) Tryd.call6 Tryd.func6) (PT.all_node (fnAt (by
  kernel_rfl) Tryd.call10 Tryd.func10) (PT.all_node (fnAt (by kernel_rfl) Tryd.call18 Tryd.func18) (PT.all_node (fnAt (by kernel_rfl) Tryd.call34 Tryd.func34) (PT.all_node (fnAt (by kernel_rfl) Tryd.call66 Tryd.func66) PT.all_nil PT.all_nil)
  (PT.all_node (fnAt (by kernel_rfl) Tryd.call98 Tryd.func98) PT.all_nil PT.all_nil)) (PT.all_node (fnAt (by kernel_rfl) Tryd.call50 Tryd.func50) PT.all_nil (PT.all_node (fnAt (by kernel_rfl) Tryd.call114 Tryd.func114) PT.all_nil
  PT.all_nil))) (PT.all_node (fnAt (by kernel_rfl) Tryd.call26 Tryd.func26) (PT.all_node (fnAt (by kernel_rfl) Tryd.call42 Tryd.func42) (PT.all_node (fnAt (by kernel_rfl) Tryd.call74 Tryd.func74) PT.all_nil PT.all_nil) (PT.all_node (fnAt (by
  kernel_rfl) Tryd.call106 Tryd.func106) PT.all_nil PT.all_nil)) (PT.all_node (fnAt (by kernel_rfl) Tryd.call58 Tryd.func58) (PT.all_node (fnAt (by kernel_rfl) Tryd.call90 Tryd.func90) PT.all_nil PT.all_nil) PT.all_nil))) (PT.all_node (fnAt
  (by kernel_rfl) Tryd.call14 Tryd.func14) (PT.all_node (fnAt (by kernel_rfl) Tryd.call22 Tryd.func22) (PT.all_node (fnAt (by kernel_rfl) Tryd.call38 Tryd.func38) (PT.all_node (fnAt (by kernel_rfl) Tryd.call70 Tryd.func70) PT.all_nil
  PT.all_nil) (PT.all_node (fnAt (by kernel_rfl) Tryd.call102 Tryd.func102) PT.all_nil PT.all_nil)) (PT.all_node (fnAt (by kernel_rfl) Tryd.call54 Tryd.func54) (PT.all_node (fnAt (by kernel_rfl) Tryd.call86 Tryd.func86) PT.all_nil
  PT.all_nil) PT.all_nil)) (PT.all_node (fnAt (by kernel_rfl) Tryd.call30 Tryd.func30) (PT.all_node (fnAt (by kernel_rfl) Tryd.call46 Tryd.func46) (PT.all_node (fnAt (by kernel_rfl) Tryd.call78 Tryd.func78) PT.all_nil PT.all_nil)
  (PT.all_node (fnAt (by kernel_rfl) Tryd.call110 Tryd.func110) PT.all_nil PT.all_nil)) (PT.all_node (fnAt (by kernel_rfl) Tryd.call62 Tryd.func62) (PT.all_node (fnAt (by kernel_rfl) Tryd.call94 Tryd.func94) PT.all_nil PT.all_nil)
  PT.all_nil))))))
def isSize (s : ByteArray) : Option ByteArray :=
  match s.data.toList with
  | [66] => some ⟨#[98]⟩
  | [87] => some ⟨#[119]⟩
  | [76] => some ⟨#[108]⟩
  | _ => none
def extF (f : Nat) (vs : List Value) : Option Value :=
  cond (Nat.beq f 35) (match vs with
    | [.string s] => (isSize s).map .string
    | _ => none) none
noncomputable def Lk0 : Lk where
  info t := tyT.get t
  und t := unT.get t
  func f := fnT.get f
  glob g := Nat.beq g 0
  ext := extF
theorem size_one {s r : ByteArray} (h : isSize s = some r) : (Lib.toLowerA s.data.toList).toArray = r.data ∧ s.size = 1 ∧ ∀ (j : Nat) (b : UInt8), s.data.toList[j]? = some b → b.toNat < 128 := by
  unfold isSize at h
  have hsz : ∀ x, s.data.toList = [x] → s.size = 1 := fun x hx => by
    show s.data.size = 1
    rw [← Array.length_toList, hx]; rfl
  have hall : ∀ x : UInt8, x.toNat < 128 → s.data.toList = [x] → ∀ (j : Nat) (b : UInt8), s.data.toList[j]? = some b → b.toNat < 128 := fun x hx hs j b hb => by
    rw [hs] at hb
    cases j with
    | zero => simp at hb; subst hb; exact hx
    | succ j => simp at hb
  split at h
  · rename_i hs; cases h; exact ⟨by rw [hs]; rfl, hsz _ hs, hall _ (by decide) hs⟩
  · rename_i hs; cases h; exact ⟨by rw [hs]; rfl, hsz _ hs, hall _ (by decide) hs⟩
  · rename_i hs; cases h; exact ⟨by rw [hs]; rfl, hsz _ hs, hall _ (by decide) hs⟩
  · cases h
theorem Lk0_ok [Sym] : Lk0.Ok Tryd.prog where
  symOp _ _ _ _ _ h := by cases h
  symLen _ _ h := by cases h
  info t i h := PT.all_get tyT _ tyT_ok t i h
  und t d h := PT.all_get unT _ unT_ok t d h
  func f j fn h := PT.all_get fnT _ fnT_ok f (j, fn) h
  mixed := by kernel_rfl
  ext f vs v h := by
    have h' : extF f vs = some v := h
    unfold extF at h'
    cases hb : Nat.beq f 35 with
    | false => rw [hb] at h'; cases h'
    | true =>
      rw [hb] at h'
      rw [beq_dec] at hb
      have hf := of_decide_eq_true hb
      subst hf
      simp only [cond_true] at h'
      split at h'
      · rename_i s
        simp only [Option.map_eq_some_iff] at h'
        obtain ⟨r, hr, rfl⟩ := h'
        obtain ⟨h1, h2, h3⟩ := size_one hr
        refine ⟨fun x hx => by simp at hx; subst hx; rfl, rfl, fun w => .inl ⟨35, Tryd.call35, ?_⟩⟩
        refine (Tryd.strings_ToLower_ascii s w (by omega) h3).mono fun e w' ⟨he, hb⟩ => ⟨?_, hb⟩
        rw [he, h1]
      · cases h'
end Go.Proofs.YtfgdoliihmjnoaaDoorE
