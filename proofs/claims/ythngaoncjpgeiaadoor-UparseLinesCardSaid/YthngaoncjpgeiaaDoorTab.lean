/- The tables of this seat for the evaluator, and that they are the program's. Written by mkseat.py. -/
import Derived.Test.YthngaoncjpgeiaaDoorProg
import Derived.Test.YthngaoncjpgeiaaDoorXC
import Derived.KernelRfl
import Derived.Test.YthngaoncjpgeiaaDoorShelf
import Derived.Test.YthngaoncjpgeiaaDoorXF
set_option linter.unusedSimpArgs false
set_option linter.unusedVariables false
namespace Go.Proofs.YthngaoncjpgeiaaDoorE
open Go Go.E Go.Proofs
set_option maxRecDepth 100000
noncomputable def tyT : PT TypeInfo := (.node (.node (.node (.node (.node (.node (.node (.node .nil (some Tryd.t127) .nil) (some Tryd.t63) (.node .nil (some Tryd.t191) .nil)) (some Tryd.t31) (.node (.node .nil (some Tryd.t159) .nil) (some
  Tryd.t95) (.node .nil (some Tryd.t223) .nil))) (some Tryd.t15) (.node (.node (.node .nil (some Tryd.t143) .nil) (some Tryd.t79) (.node .nil (some Tryd.t207) .nil)) (some Tryd.t47) (.node (.node .nil (some Tryd.t175) .nil) (some Tryd.t111)
  .nil))) (some Tryd.t7) (.node (.node (.node (.node .nil (some Tryd.t135) .nil) (some Tryd.t71) (.node .nil (some Tryd.t199) .nil)) (some Tryd.t39) (.node (.node .nil (some Tryd.t167) .nil) (some Tryd.t103) .nil)) (some Tryd.t23) (.node
  (.node (.node .nil (some Tryd.t151) .nil) (some Tryd.t87) (.node .nil (some Tryd.t215) .nil)) (some Tryd.t55) (.node (.node .nil (some Tryd.t183) .nil) (some Tryd.t119) .nil)))) (some Tryd.t3) (.node (.node (.node (.node (.node .nil (some
  Tryd.t131) .nil) (some Tryd.t67) (.node .nil (some Tryd.t195) .nil)) (some Tryd.t35) (.node (.node .nil (some Tryd.t163) .nil) (some Tryd.t99) (.node .nil (some Tryd.t227) .nil))) (some Tryd.t19) (.node (.node (.node .nil (some Tryd.t147)
  .nil) (some Tryd.t83) (.node .nil (some Tryd.t211) .nil)) (some Tryd.t51) (.node (.node .nil (some Tryd.t179) .nil) (some Tryd.t115) .nil))) (some Tryd.t11) (.node (.node (.node (.node .nil (some Tryd.t139) .nil) (some Tryd.t75) (.node
  .nil (some Tryd.t203) .nil)) (some Tryd.t43) (.node (.node .nil (some Tryd.t171) .nil) (some Tryd.t107) .nil)) (some Tryd.t27) (.node (.node (.node .nil (some Tryd.t155) .nil) (some Tryd.t91) (.node .nil (some Tryd.t219) .nil)) (some
  Tryd.t59) (.node (.node .nil (some Tryd.t187) .nil) (some Tryd.t123) .nil))))) (some Tryd.t1) (.node (.node (.node (.node (.node (.node .nil (some Tryd.t129) .nil) (some Tryd.t65) (.node .nil (some Tryd.t193) .nil)) (some Tryd.t33) (.node
  (.node .nil (some Tryd.t161) .nil) (some Tryd.t97) (.node .nil (some Tryd.t225) .nil))) (some Tryd.t17) (.node (.node (.node .nil (some Tryd.t145) .nil) (some Tryd.t81) (.node .nil (some Tryd.t209) .nil)) (some Tryd.t49) (.node (.node .nil
  (some Tryd.t177) .nil) (some Tryd.t113) .nil))) (some Tryd.t9) (.node (.node (.node (.node .nil (some Tryd.t137) .nil) (some Tryd.t73) (.node .nil (some Tryd.t201) .nil)) (some Tryd.t41) (.node (.node .nil (some Tryd.t169) .nil) (some
  Tryd.t105) .nil)) (some Tryd.t25) (.node (.node (.node .nil (some Tryd.t153) .nil) (some Tryd.t89) (.node .nil (some Tryd.t217) .nil)) (some Tryd.t57) (.node (.node .nil (some Tryd.t185) .nil) (some Tryd.t121) .nil)))) (some Tryd.t5)
  (.node (.node (.node (.node (.node .nil (some Tryd.t133) .nil) (some Tryd.t69) (.node .nil (some Tryd.t197) .nil)) (some Tryd.t37) (.node (.node .nil (some Tryd.t165) .nil) (some Tryd.t101) (.node .nil (some Tryd.t229) .nil))) (some
  Tryd.t21) (.node (.node (.node .nil (some Tryd.t149) .nil) (some Tryd.t85) (.node .nil (some Tryd.t213) .nil)) (some Tryd.t53) (.node (.node .nil (some Tryd.t181) .nil) (some Tryd.t117) .nil))) (some Tryd.t13) (.node (.node (.node (.node
  .nil (some Tryd.t141) .nil) (some Tryd.t77) (.node .nil (some Tryd.t205) .nil)) (some Tryd.t45) (.node (.node .nil (some Tryd.t173) .nil) (some Tryd.t109) .nil)) (some Tryd.t29) (.node (.node (.node .nil (some Tryd.t157) .nil) (some
  Tryd.t93) (.node .nil (some Tryd.t221) .nil)) (some Tryd.t61) (.node (.node .nil (some Tryd.t189) .nil) (some Tryd.t125) .nil)))))) (some Tryd.t0) (.node (.node (.node (.node (.node (.node (.node .nil (some Tryd.t128) .nil) (some Tryd.t64)
  (.node .nil (some Tryd.t192) .nil)) (some Tryd.t32) (.node (.node .nil (some Tryd.t160) .nil) (some Tryd.t96) (.node .nil (some Tryd.t224) .nil))) (some Tryd.t16) (.node (.node (.node .nil (some Tryd.t144) .nil) (some Tryd.t80) (.node .nil
  (some Tryd.t208) .nil)) (some Tryd.t48) (.node (.node .nil (some Tryd.t176) .nil) (some Tryd.t112) .nil))) (some Tryd.t8) (.node (.node (.node (.node .nil (some Tryd.t136) .nil) (some Tryd.t72) (.node .nil (some Tryd.t200) .nil)) (some
  Tryd.t40) (.node (.node .nil (some Tryd.t168) .nil) (some Tryd.t104) .nil)) (some Tryd.t24) (.node (.node (.node .nil (some Tryd.t152) .nil) (some Tryd.t88) (.node .nil (some Tryd.t216) .nil)) (some Tryd.t56) (.node (.node .nil (some
  Tryd.t184) .nil) (some Tryd.t120) .nil)))) (some Tryd.t4) (.node (.node (.node (.node (.node .nil (some Tryd.t132) .nil) (some Tryd.t68) (.node .nil (some Tryd.t196) .nil)) (some Tryd.t36) (.node (.node .nil (some Tryd.t164) .nil) (some
  Tryd.t100) (.node .nil (some Tryd.t228) .nil))) (some Tryd.t20) (.node (.node (.node .nil (some Tryd.t148) .nil) (some Tryd.t84) (.node .nil (some Tryd.t212) .nil)) (some Tryd.t52) (.node (.node .nil (some Tryd.t180) .nil) (some Tryd.t116)
  .nil))) (some Tryd.t12) (.node (.node (.node (.node .nil (some Tryd.t140) .nil) (some Tryd.t76) (.node .nil (some Tryd.t204) .nil)) (some Tryd.t44) (.node (.node .nil (some Tryd.t172) .nil) (some Tryd.t108) .nil)) (some Tryd.t28) (.node
  (.node (.node .nil (some Tryd.t156) .nil) (some Tryd.t92) (.node .nil (some Tryd.t220) .nil)) (some Tryd.t60) (.node (.node .nil (some Tryd.t188) .nil) (some Tryd.t124) .nil))))) (some Tryd.t2) (.node (.node (.node (.node (.node (.node
  .nil (some Tryd.t130) .nil) (some Tryd.t66) (.node .nil (some Tryd.t194) .nil)) (some Tryd.t34) (.node (.node .nil (some Tryd.t162) .nil) (some Tryd.t98) (.node .nil (some Tryd.t226) .nil))) (some Tryd.t18) (.node (.node (.node .nil (some
  Tryd.t146) .nil) (some Tryd.t82) (.node .nil (some Tryd.t210) .nil)) (some Tryd.t50) (.node (.node .nil (some Tryd.t178) .nil) (some Tryd.t114) .nil))) (some Tryd.t10) (.node (.node (.node (.node .nil (some Tryd.t138) .nil) (some Tryd.t74)
  (.node .nil (some Tryd.t202) .nil)) (some Tryd.t42) (.node (.node .nil (some Tryd.t170) .nil) (some Tryd.t106) .nil)) (some Tryd.t26) (.node (.node (.node .nil (some Tryd.t154) .nil) (some Tryd.t90) (.node .nil (some Tryd.t218) .nil))
  (some Tryd.t58) (.node (.node .nil (some Tryd.t186) .nil) (some Tryd.t122) .nil)))) (some Tryd.t6) (.node (.node (.node (.node (.node .nil (some Tryd.t134) .nil) (some Tryd.t70) (.node .nil (some Tryd.t198) .nil)) (some Tryd.t38) (.node
  (.node .nil (some Tryd.t166) .nil) (some Tryd.t102) (.node .nil (some Tryd.t230) .nil))) (some Tryd.t22) (.node (.node (.node .nil (some Tryd.t150) .nil) (some Tryd.t86) (.node .nil (some Tryd.t214) .nil)) (some Tryd.t54) (.node (.node
  .nil (some Tryd.t182) .nil) (some Tryd.t118) .nil))) (some Tryd.t14) (.node (.node (.node (.node .nil (some Tryd.t142) .nil) (some Tryd.t78) (.node .nil (some Tryd.t206) .nil)) (some Tryd.t46) (.node (.node .nil (some Tryd.t174) .nil)
  (some Tryd.t110) .nil)) (some Tryd.t30) (.node (.node (.node .nil (some Tryd.t158) .nil) (some Tryd.t94) (.node .nil (some Tryd.t222) .nil)) (some Tryd.t62) (.node (.node .nil (some Tryd.t190) .nil) (some Tryd.t126) .nil)))))))
noncomputable def unT : PT TypeDesc := (.node (.node (.node (.node (.node (.node (.node (.node .nil (some Tryd.t127.desc) .nil) (some Tryd.t63.desc) (.node .nil (some Tryd.t191.desc) .nil)) (some Tryd.t31.desc) (.node (.node .nil (some
  Tryd.t3.desc) .nil) (some Tryd.t24.desc) (.node .nil (some Tryd.t5.desc) .nil))) (some Tryd.t15.desc) (.node (.node (.node .nil (some Tryd.t143.desc) .nil) (some Tryd.t79.desc) (.node .nil (some Tryd.t207.desc) .nil)) (some Tryd.t47.desc)
  (.node (.node .nil (some Tryd.t175.desc) .nil) (some Tryd.t111.desc) .nil))) (some Tryd.t7.desc) (.node (.node (.node (.node .nil (some Tryd.t135.desc) .nil) (some Tryd.t71.desc) (.node .nil (some Tryd.t198.desc) .nil)) (some
  Tryd.t39.desc) (.node (.node .nil (some Tryd.t167.desc) .nil) (some Tryd.t103.desc) .nil)) (some Tryd.t23.desc) (.node (.node (.node .nil (some Tryd.t151.desc) .nil) (some Tryd.t87.desc) (.node .nil (some Tryd.t215.desc) .nil)) (some
  Tryd.t55.desc) (.node (.node .nil (some Tryd.t183.desc) .nil) (some Tryd.t118.desc) .nil)))) (some Tryd.t3.desc) (.node (.node (.node (.node (.node .nil (some Tryd.t130.desc) .nil) (some Tryd.t67.desc) (.node .nil (some Tryd.t195.desc)
  .nil)) (some Tryd.t35.desc) (.node (.node .nil (some Tryd.t163.desc) .nil) (some Tryd.t99.desc) (.node .nil (some Tryd.t21.desc) .nil))) (some Tryd.t18.desc) (.node (.node (.node .nil (some Tryd.t147.desc) .nil) (some Tryd.t83.desc) (.node
  .nil (some Tryd.t211.desc) .nil)) (some Tryd.t51.desc) (.node (.node .nil (some Tryd.t179.desc) .nil) (some Tryd.t115.desc) .nil))) (some Tryd.t9.desc) (.node (.node (.node (.node .nil (some Tryd.t139.desc) .nil) (some Tryd.t75.desc)
  (.node .nil (some Tryd.t203.desc) .nil)) (some Tryd.t43.desc) (.node (.node .nil (some Tryd.t171.desc) .nil) (some Tryd.t107.desc) .nil)) (some Tryd.t27.desc) (.node (.node (.node .nil (some Tryd.t155.desc) .nil) (some Tryd.t91.desc)
  (.node .nil (some Tryd.t219.desc) .nil)) (some Tryd.t58.desc) (.node (.node .nil (some Tryd.t187.desc) .nil) (some Tryd.t122.desc) .nil))))) (some Tryd.t1.desc) (.node (.node (.node (.node (.node (.node .nil (some Tryd.t129.desc) .nil)
  (some Tryd.t65.desc) (.node .nil (some Tryd.t193.desc) .nil)) (some Tryd.t33.desc) (.node (.node .nil (some Tryd.t161.desc) .nil) (some Tryd.t97.desc) (.node .nil (some Tryd.t225.desc) .nil))) (some Tryd.t17.desc) (.node (.node (.node .nil
  (some Tryd.t145.desc) .nil) (some Tryd.t81.desc) (.node .nil (some Tryd.t209.desc) .nil)) (some Tryd.t48.desc) (.node (.node .nil (some Tryd.t177.desc) .nil) (some Tryd.t113.desc) .nil))) (some Tryd.t9.desc) (.node (.node (.node (.node
  .nil (some Tryd.t137.desc) .nil) (some Tryd.t35.desc) (.node .nil (some Tryd.t201.desc) .nil)) (some Tryd.t41.desc) (.node (.node .nil (some Tryd.t168.desc) .nil) (some Tryd.t105.desc) .nil)) (some Tryd.t3.desc) (.node (.node (.node .nil
  (some Tryd.t153.desc) .nil) (some Tryd.t89.desc) (.node .nil (some Tryd.t217.desc) .nil)) (some Tryd.t56.desc) (.node (.node .nil (some Tryd.t185.desc) .nil) (some Tryd.t121.desc) .nil)))) (some Tryd.t5.desc) (.node (.node (.node (.node
  (.node .nil (some Tryd.t133.desc) .nil) (some Tryd.t69.desc) (.node .nil (some Tryd.t197.desc) .nil)) (some Tryd.t37.desc) (.node (.node .nil (some Tryd.t165.desc) .nil) (some Tryd.t101.desc) (.node .nil (some Tryd.t228.desc) .nil))) (some
  Tryd.t21.desc) (.node (.node (.node .nil (some Tryd.t149.desc) .nil) (some Tryd.t85.desc) (.node .nil (some Tryd.t213.desc) .nil)) (some Tryd.t53.desc) (.node (.node .nil (some Tryd.t181.desc) .nil) (some Tryd.t117.desc) .nil))) (some
  Tryd.t13.desc) (.node (.node (.node (.node .nil (some Tryd.t141.desc) .nil) (some Tryd.t77.desc) (.node .nil (some Tryd.t204.desc) .nil)) (some Tryd.t45.desc) (.node (.node .nil (some Tryd.t173.desc) .nil) (some Tryd.t109.desc) .nil))
  (some Tryd.t29.desc) (.node (.node (.node .nil (some Tryd.t157.desc) .nil) (some Tryd.t92.desc) (.node .nil (some Tryd.t220.desc) .nil)) (some Tryd.t61.desc) (.node (.node .nil (some Tryd.t189.desc) .nil) (some Tryd.t125.desc) .nil))))))
  (some Tryd.t0.desc) (.node (.node (.node (.node (.node (.node (.node .nil (some Tryd.t128.desc) .nil) (some Tryd.t63.desc) (.node .nil (some Tryd.t192.desc) .nil)) (some Tryd.t32.desc) (.node (.node .nil (some Tryd.t160.desc) .nil) (some
  Tryd.t96.desc) (.node .nil (some Tryd.t5.desc) .nil))) (some Tryd.t16.desc) (.node (.node (.node .nil (some Tryd.t144.desc) .nil) (some Tryd.t80.desc) (.node .nil (some Tryd.t208.desc) .nil)) (some Tryd.t48.desc) (.node (.node .nil (some
  Tryd.t175.desc) .nil) (some Tryd.t112.desc) .nil))) (some Tryd.t7.desc) (.node (.node (.node (.node .nil (some Tryd.t135.desc) .nil) (some Tryd.t72.desc) (.node .nil (some Tryd.t200.desc) .nil)) (some Tryd.t40.desc) (.node (.node .nil
  (some Tryd.t168.desc) .nil) (some Tryd.t104.desc) .nil)) (some Tryd.t24.desc) (.node (.node (.node .nil (some Tryd.t152.desc) .nil) (some Tryd.t88.desc) (.node .nil (some Tryd.t216.desc) .nil)) (some Tryd.t56.desc) (.node (.node .nil (some
  Tryd.t184.desc) .nil) (some Tryd.t120.desc) .nil)))) (some Tryd.t4.desc) (.node (.node (.node (.node (.node .nil (some Tryd.t132.desc) .nil) (some Tryd.t68.desc) (.node .nil (some Tryd.t196.desc) .nil)) (some Tryd.t35.desc) (.node (.node
  .nil (some Tryd.t164.desc) .nil) (some Tryd.t100.desc) (.node .nil (some Tryd.t228.desc) .nil))) (some Tryd.t20.desc) (.node (.node (.node .nil (some Tryd.t148.desc) .nil) (some Tryd.t83.desc) (.node .nil (some Tryd.t212.desc) .nil)) (some
  Tryd.t52.desc) (.node (.node .nil (some Tryd.t180.desc) .nil) (some Tryd.t116.desc) .nil))) (some Tryd.t12.desc) (.node (.node (.node (.node .nil (some Tryd.t140.desc) .nil) (some Tryd.t75.desc) (.node .nil (some Tryd.t204.desc) .nil))
  (some Tryd.t44.desc) (.node (.node .nil (some Tryd.t172.desc) .nil) (some Tryd.t108.desc) .nil)) (some Tryd.t28.desc) (.node (.node (.node .nil (some Tryd.t156.desc) .nil) (some Tryd.t92.desc) (.node .nil (some Tryd.t220.desc) .nil)) (some
  Tryd.t60.desc) (.node (.node .nil (some Tryd.t187.desc) .nil) (some Tryd.t124.desc) .nil))))) (some Tryd.t2.desc) (.node (.node (.node (.node (.node (.node .nil (some Tryd.t130.desc) .nil) (some Tryd.t66.desc) (.node .nil (some
  Tryd.t194.desc) .nil)) (some Tryd.t34.desc) (.node (.node .nil (some Tryd.t162.desc) .nil) (some Tryd.t98.desc) (.node .nil (some Tryd.t21.desc) .nil))) (some Tryd.t18.desc) (.node (.node (.node .nil (some Tryd.t146.desc) .nil) (some
  Tryd.t56.desc) (.node .nil (some Tryd.t210.desc) .nil)) (some Tryd.t50.desc) (.node (.node .nil (some Tryd.t178.desc) .nil) (some Tryd.t114.desc) .nil))) (some Tryd.t9.desc) (.node (.node (.node (.node .nil (some Tryd.t138.desc) .nil)
  (some Tryd.t74.desc) (.node .nil (some Tryd.t201.desc) .nil)) (some Tryd.t42.desc) (.node (.node .nil (some Tryd.t170.desc) .nil) (some Tryd.t106.desc) .nil)) (some Tryd.t26.desc) (.node (.node (.node .nil (some Tryd.t154.desc) .nil) (some
  Tryd.t90.desc) (.node .nil (some Tryd.t217.desc) .nil)) (some Tryd.t58.desc) (.node (.node .nil (some Tryd.t186.desc) .nil) (some Tryd.t122.desc) .nil)))) (some Tryd.t5.desc) (.node (.node (.node (.node (.node .nil (some Tryd.t134.desc)
  .nil) (some Tryd.t70.desc) (.node .nil (some Tryd.t198.desc) .nil)) (some Tryd.t38.desc) (.node (.node .nil (some Tryd.t166.desc) .nil) (some Tryd.t102.desc) (.node .nil (some Tryd.t230.desc) .nil))) (some Tryd.t22.desc) (.node (.node
  (.node .nil (some Tryd.t150.desc) .nil) (some Tryd.t85.desc) (.node .nil (some Tryd.t214.desc) .nil)) (some Tryd.t53.desc) (.node (.node .nil (some Tryd.t181.desc) .nil) (some Tryd.t118.desc) .nil))) (some Tryd.t13.desc) (.node (.node
  (.node (.node .nil (some Tryd.t142.desc) .nil) (some Tryd.t78.desc) (.node .nil (some Tryd.t206.desc) .nil)) (some Tryd.t46.desc) (.node (.node .nil (some Tryd.t174.desc) .nil) (some Tryd.t110.desc) .nil)) (some Tryd.t30.desc) (.node
  (.node (.node .nil (some Tryd.t158.desc) .nil) (some Tryd.t94.desc) (.node .nil (some Tryd.t222.desc) .nil)) (some Tryd.t62.desc) (.node (.node .nil (some Tryd.t190.desc) .nil) (some Tryd.t126.desc) .nil)))))))
noncomputable def fnT : PT (FuncId × Func) := (.node (.node (.node (.node (.node (.node (.node .nil (some (63, Tryd.f63)) .nil) (some (31, Tryd.f31)) (.node (.node .nil (some (159, Tryd.f159)) .nil) (some (95, Tryd.f95)) .nil)) (some (15,
  Tryd.f15)) (.node (.node .nil (some (79, Tryd.f79)) .nil) (some (47, Tryd.f47)) (.node .nil (some (111, Tryd.f111)) .nil))) (some (7, Tryd.f7)) (.node (.node (.node .nil (some (71, Tryd.f71)) .nil) (some (39, Tryd.f39)) (.node .nil (some
  (103, Tryd.f103)) .nil)) (some (23, Tryd.f23)) (.node (.node .nil (some (87, Tryd.f87)) .nil) (some (55, Tryd.f55)) (.node .nil (some (119, Tryd.f119)) .nil)))) (some (3, Tryd.f3)) (.node (.node (.node (.node .nil (some (67, Tryd.f67))
  .nil) (some (35, Tryd.f35)) (.node .nil (some (99, Tryd.f99)) .nil)) (some (19, Tryd.f19)) (.node (.node .nil (some (83, Tryd.f83)) .nil) (some (51, Tryd.f51)) (.node .nil (some (115, Tryd.f115)) .nil))) (some (11, Tryd.f11)) (.node (.node
  .nil (some (43, Tryd.f43)) (.node .nil (some (107, Tryd.f107)) .nil)) (some (27, Tryd.f27)) (.node (.node .nil (some (91, Tryd.f91)) .nil) (some (59, Tryd.f59)) (.node .nil (some (123, Tryd.f123)) .nil))))) none (.node (.node (.node (.node
  (.node .nil (some (65, Tryd.f65)) .nil) (some (33, Tryd.f33)) (.node .nil (some (97, Tryd.f97)) .nil)) (some (17, Tryd.f17)) (.node (.node .nil (some (81, Tryd.f81)) .nil) (some (49, Tryd.f49)) (.node .nil (some (113, Tryd.f113)) .nil)))
  (some (9, Tryd.f9)) (.node (.node (.node .nil (some (73, Tryd.f73)) .nil) (some (41, Tryd.f41)) (.node .nil (some (105, Tryd.f105)) .nil)) (some (25, Tryd.f25)) (.node (.node .nil (some (89, Tryd.f89)) .nil) (some (57, Tryd.f57)) (.node
  .nil (some (121, Tryd.f121)) .nil)))) (some (5, Tryd.f5)) (.node (.node (.node (.node .nil (some (69, Tryd.f69)) .nil) (some (37, Tryd.f37)) (.node .nil (some (101, Tryd.f101)) .nil)) (some (21, Tryd.f21)) (.node (.node .nil (some (85,
  Tryd.f85)) .nil) (some (53, Tryd.f53)) (.node .nil (some (117, Tryd.f117)) .nil))) (some (13, Tryd.f13)) (.node (.node (.node .nil (some (77, Tryd.f77)) .nil) (some (45, Tryd.f45)) (.node .nil (some (109, Tryd.f109)) .nil)) (some (29,
  Tryd.f29)) (.node (.node .nil (some (93, Tryd.f93)) .nil) (some (61, Tryd.f61)) .nil))))) none (.node (.node (.node (.node (.node (.node .nil (some (64, Tryd.f64)) .nil) (some (32, Tryd.f32)) (.node .nil (some (96, Tryd.f96)) .nil)) (some
  (16, Tryd.f16)) (.node .nil (some (48, Tryd.f48)) (.node .nil (some (112, Tryd.f112)) .nil))) (some (8, Tryd.f8)) (.node (.node (.node .nil (some (72, Tryd.f72)) .nil) (some (40, Tryd.f40)) (.node .nil (some (104, Tryd.f104)) .nil)) (some
  (24, Tryd.f24)) (.node .nil (some (56, Tryd.f56)) (.node .nil (some (120, Tryd.f120)) .nil)))) (some (4, Tryd.f4)) (.node (.node (.node (.node .nil (some (68, Tryd.f68)) .nil) (some (36, Tryd.f36)) (.node .nil (some (100, Tryd.f100))
  .nil)) (some (20, Tryd.f20)) (.node (.node .nil (some (84, Tryd.f84)) .nil) (some (52, Tryd.f52)) (.node .nil (some (116, Tryd.f116)) .nil))) (some (12, Tryd.f12)) (.node (.node (.node .nil (some (76, Tryd.f76)) .nil) (some (44, Tryd.f44))
  (.node .nil (some (108, Tryd.f108)) .nil)) (some (28, Tryd.f28)) (.node (.node .nil (some (92, Tryd.f92)) .nil) (some (60, Tryd.f60)) .nil)))) (some (2, Tryd.f2)) (.node (.node (.node (.node (.node .nil (some (66, Tryd.f66)) .nil) (some
  (34, Tryd.f34)) (.node .nil (some (98, Tryd.f98)) .nil)) (some (18, Tryd.f18)) (.node (.node .nil (some (82, Tryd.f82)) .nil) (some (50, Tryd.f50)) (.node .nil (some (114, Tryd.f114)) .nil))) (some (10, Tryd.f10)) (.node (.node (.node .nil
  (some (74, Tryd.f74)) .nil) (some (42, Tryd.f42)) (.node .nil (some (106, Tryd.f106)) .nil)) (some (26, Tryd.f26)) (.node (.node .nil (some (90, Tryd.f90)) .nil) (some (58, Tryd.f58)) (.node .nil (some (122, Tryd.f122)) .nil)))) (some (6,
  Tryd.f6)) (.node (.node (.node (.node .nil (some (70, Tryd.f70)) .nil) (some (38, Tryd.f38)) (.node .nil (some (102, Tryd.f102)) .nil)) (some (22, Tryd.f22)) (.node (.node .nil (some (86, Tryd.f86)) .nil) (some (54, Tryd.f54)) (.node .nil
  (some (118, Tryd.f118)) .nil))) (some (14, Tryd.f14)) (.node (.node (.node .nil (some (78, Tryd.f78)) .nil) (some (46, Tryd.f46)) (.node .nil (some (110, Tryd.f110)) .nil)) (some (30, Tryd.f30)) (.node (.node .nil (some (94, Tryd.f94))
  .nil) (some (62, Tryd.f62)) .nil))))))
theorem tyT_ok : tyT.All (InfP Tryd.prog) (fun k => k) := (PT.all_node (infAt (by kernel_rfl)) (PT.all_node (infAt (by kernel_rfl)) (PT.all_node (infAt (by kernel_rfl)) (PT.all_node (infAt (by kernel_rfl)) (PT.all_node (infAt (by
  kernel_rfl)) (PT.all_node (infAt (by kernel_rfl)) (PT.all_node (infAt (by kernel_rfl)) (PT.all_node (infAt (by kernel_rfl)) PT.all_nil PT.all_nil) (PT.all_node (infAt (by kernel_rfl)) PT.all_nil PT.all_nil)) (PT.all_node (infAt (by
  kernel_rfl)) (PT.all_node (infAt (by kernel_rfl)) PT.all_nil PT.all_nil) (PT.all_node (infAt (by kernel_rfl)) PT.all_nil PT.all_nil))) (PT.all_node (infAt (by kernel_rfl)) (PT.all_node (infAt (by kernel_rfl)) (PT.all_node (infAt (by
  kernel_rfl)) PT.all_nil PT.all_nil) (PT.all_node (infAt (by kernel_rfl)) PT.all_nil PT.all_nil)) (PT.all_node (infAt (by kernel_rfl)) (PT.all_node (infAt (by kernel_rfl)) PT.all_nil PT.all_nil) PT.all_nil))) (PT.all_node (infAt (by
  kernel_rfl)) (PT.all_node (infAt (by kernel_rfl)) (PT.all_node (infAt (by kernel_rfl)) (PT.all_node (infAt (by kernel_rfl)) PT.all_nil PT.all_nil) (PT.all_node (infAt (by kernel_rfl)) PT.all_nil PT.all_nil)) (PT.all_node (infAt (by
  kernel_rfl)) (PT.all_node (infAt (by kernel_rfl)) PT.all_nil PT.all_nil) PT.all_nil)) (PT.all_node (infAt (by kernel_rfl)) (PT.all_node (infAt (by kernel_rfl)) (PT.all_node (infAt (by kernel_rfl)) PT.all_nil PT.all_nil) (PT.all_node (infAt
  (by kernel_rfl)) PT.all_nil PT.all_nil)) (PT.all_node (infAt (by kernel_rfl)) (PT.all_node (infAt (by kernel_rfl)) PT.all_nil PT.all_nil) PT.all_nil)))) (PT.all_node (infAt (by kernel_rfl)) (PT.all_node (infAt (by kernel_rfl)) (PT.all_node
  (infAt (by kernel_rfl)) (PT.all_node (infAt (by kernel_rfl)) (PT.all_node (infAt (by kernel_rfl)) PT.all_nil PT.all_nil) (PT.all_node (infAt (by kernel_rfl)) PT.all_nil PT.all_nil)) (PT.all_node (infAt (by kernel_rfl)) (PT.all_node (infAt
  (by kernel_rfl)) PT.all_nil PT.all_nil) (PT.all_node (infAt (by kernel_rfl)) PT.all_nil PT.all_nil))) (PT.all_node (infAt (by kernel_rfl)) (PT.all_node (infAt (by kernel_rfl)) (PT.all_node (infAt (by kernel_rfl)) PT.all_nil PT.all_nil)
  (PT.all_node (infAt (by kernel_rfl)) PT.all_nil PT.all_nil)) (PT.all_node (infAt (by kernel_rfl)) (PT.all_node (infAt (by kernel_rfl)) PT.all_nil PT.all_nil) PT.all_nil))) (PT.all_node (infAt (by kernel_rfl)) (PT.all_node (infAt (by
  kernel_rfl)) (PT.all_node (infAt (by kernel_rfl)) (PT.all_node (infAt (by kernel_rfl)) PT.all_nil PT.all_nil) (PT.all_node (infAt (by kernel_rfl)) PT.all_nil PT.all_nil)) (PT.all_node (infAt (by kernel_rfl)) (PT.all_node (infAt (by
  kernel_rfl)) PT.all_nil PT.all_nil) PT.all_nil)) (PT.all_node (infAt (by kernel_rfl)) (PT.all_node (infAt (by kernel_rfl)) (PT.all_node (infAt (by kernel_rfl)) PT.all_nil PT.all_nil) (PT.all_node (infAt (by kernel_rfl)) PT.all_nil
  PT.all_nil)) (PT.all_node (infAt (by kernel_rfl)) (PT.all_node (infAt (by kernel_rfl)) PT.all_nil PT.all_nil) PT.all_nil))))) (PT.all_node (infAt (by kernel_rfl)) (PT.all_node (infAt (by kernel_rfl)) (PT.all_node (infAt (by kernel_rfl))
  (PT.all_node (infAt (by kernel_rfl)) (PT.all_node (infAt (by kernel_rfl)) (PT.all_node (infAt (by kernel_rfl)) PT.all_nil PT.all_nil) (PT.all_node (infAt (by kernel_rfl)) PT.all_nil PT.all_nil)) (PT.all_node (infAt (by kernel_rfl))
  (PT.all_node (infAt (by kernel_rfl)) PT.all_nil PT.all_nil) (PT.all_node (infAt (by kernel_rfl)) PT.all_nil PT.all_nil))) (PT.all_node (infAt (by kernel_rfl)) (PT.all_node (infAt (by kernel_rfl)) (PT.all_node (infAt (by kernel_rfl))
  PT.all_nil PT.all_nil) (PT.all_node (infAt (by kernel_rfl)) PT.all_nil PT.all_nil)) (PT.all_node (infAt (by kernel_rfl)) (PT.all_node (infAt (by kernel_rfl)) PT.all_nil PT.all_nil) PT.all_nil))) (PT.all_node (infAt (by kernel_rfl))
  (PT.all_node (infAt (by kernel_rfl)) (PT.all_node (infAt (by kernel_rfl)) (PT.all_node (infAt (by kernel_rfl)) PT.all_nil PT.all_nil) (PT.all_node (infAt (by kernel_rfl)) PT.all_nil PT.all_nil)) (PT.all_node (infAt (by kernel_rfl))
  (PT.all_node (infAt (by kernel_rfl)) PT.all_nil PT.all_nil) PT.all_nil)) (PT.all_node (infAt (by kernel_rfl)) (PT.all_node (infAt (by kernel_rfl)) (PT.all_node (infAt (by kernel_rfl)) PT.all_nil PT.all_nil) (PT.all_node (infAt (by
  kernel_rfl)) PT.all_nil PT.all_nil)) (PT.all_node (infAt (by kernel_rfl)) (PT.all_node (infAt (by kernel_rfl)) PT.all_nil PT.all_nil) PT.all_nil)))) (PT.all_node (infAt (by kernel_rfl)) (PT.all_node (infAt (by kernel_rfl)) (PT.all_node
  (infAt (by kernel_rfl)) (PT.all_node (infAt (by kernel_rfl)) (PT.all_node (infAt (by kernel_rfl)) PT.all_nil PT.all_nil) (PT.all_node (infAt (by kernel_rfl)) PT.all_nil PT.all_nil)) (PT.all_node (infAt (by kernel_rfl)) (PT.all_node (infAt
  (by kernel_rfl)) PT.all_nil PT.all_nil) (PT.all_node (infAt (by kernel_rfl)) PT.all_nil PT.all_nil))) (PT.all_node (infAt (by kernel_rfl)) (PT.all_node (infAt (by kernel_rfl)) (PT.all_node (infAt (by kernel_rfl)) PT.all_nil PT.all_nil)
  (PT.all_node (infAt (by kernel_rfl)) PT.all_nil PT.all_nil)) (PT.all_node (infAt (by kernel_rfl)) (PT.all_node (infAt (by kernel_rfl)) PT.all_nil PT.all_nil) PT.all_nil))) (PT.all_node (infAt (by kernel_rfl)) (PT.all_node (infAt (by
  kernel_rfl)) (PT.all_node (infAt (by kernel_rfl)) (PT.all_node (infAt (by kernel_rfl)) PT.all_nil PT.all_nil) (PT.all_node (infAt (by kernel_rfl)) PT.all_nil PT.all_nil)) (PT.all_node (infAt (by kernel_rfl)) (PT.all_node (infAt (by
  kernel_rfl)) PT.all_nil PT.all_nil) PT.all_nil)) (PT.all_node (infAt (by kernel_rfl)) (PT.all_node (infAt (by kernel_rfl)) (PT.all_node (infAt (by kernel_rfl)) PT.all_nil PT.all_nil) (PT.all_node (infAt (by kernel_rfl)) PT.all_nil
  PT.all_nil)) (PT.all_node (infAt (by kernel_rfl)) (PT.all_node (infAt (by kernel_rfl)) PT.all_nil PT.all_nil) PT.all_nil)))))) (PT.all_node (infAt (by kernel_rfl)) (PT.all_node (infAt (by kernel_rfl)) (PT.all_node (infAt (by kernel_rfl))
  (PT.all_node (infAt (by kernel_rfl)) (PT.all_node (infAt (by kernel_rfl)) (PT.all_node (infAt (by kernel_rfl)) (PT.all_node (infAt (by kernel_rfl)) PT.all_nil PT.all_nil) (PT.all_node (infAt (by kernel_rfl)) PT.all_nil PT.all_nil))
  (PT.all_node (infAt (by kernel_rfl)) (PT.all_node (infAt (by kernel_rfl)) PT.all_nil PT.all_nil) (PT.all_node (infAt (by kernel_rfl)) PT.all_nil PT.all_nil))) (PT.all_node (infAt (by kernel_rfl)) (PT.all_node (infAt (by kernel_rfl))
  (PT.all_node (infAt (by kernel_rfl)) PT.all_nil PT.all_nil) (PT.all_node (infAt (by kernel_rfl)) PT.all_nil PT.all_nil)) (PT.all_node (infAt (by kernel_rfl)) (PT.all_node (infAt (by kernel_rfl)) PT.all_nil PT.all_nil) PT.all_nil)))
  (PT.all_node (infAt (by kernel_rfl)) (PT.all_node (infAt (by kernel_rfl)) (PT.all_node (infAt (by kernel_rfl)) (PT.all_node (infAt (by kernel_rfl)) PT.all_nil PT.all_nil) (PT.all_node (infAt (by kernel_rfl)) PT.all_nil PT.all_nil))
  (PT.all_node (infAt (by kernel_rfl)) (PT.all_node (infAt (by kernel_rfl)) PT.all_nil PT.all_nil) PT.all_nil)) (PT.all_node (infAt (by kernel_rfl)) (PT.all_node (infAt (by kernel_rfl)) (PT.all_node (infAt (by kernel_rfl)) PT.all_nil
  PT.all_nil) (PT.all_node (infAt (by kernel_rfl)) PT.all_nil PT.all_nil)) (PT.all_node (infAt (by kernel_rfl)) (PT.all_node (infAt (by kernel_rfl)) PT.all_nil PT.all_nil) PT.all_nil)))) (PT.all_node (infAt (by kernel_rfl)) (PT.all_node
  (infAt (by kernel_rfl)) (PT.all_node (infAt (by kernel_rfl)) (PT.all_node (infAt (by kernel_rfl)) (PT.all_node (infAt (by kernel_rfl)) PT.all_nil PT.all_nil) (PT.all_node (infAt (by kernel_rfl)) PT.all_nil PT.all_nil)) (PT.all_node (infAt
  (by kernel_rfl)) (PT.all_node (infAt (by kernel_rfl)) PT.all_nil PT.all_nil) (PT.all_node (infAt (by kernel_rfl)) PT.all_nil PT.all_nil))) (PT.all_node (infAt (by kernel_rfl)) (PT.all_node (infAt (by kernel_rfl)) (PT.all_node (infAt (by
  kernel_rfl)) PT.all_nil PT.all_nil) (PT.all_node (infAt (by kernel_rfl)) PT.all_nil PT.all_nil)) (PT.all_node (infAt (by kernel_rfl)) (PT.all_node (infAt (by kernel_rfl)) PT.all_nil PT.all_nil) PT.all_nil))) (PT.all_node (infAt (by
  kernel_rfl)) (PT.all_node (infAt (by kernel_rfl)) (PT.all_node (infAt (by kernel_rfl)) (PT.all_node (infAt (by kernel_rfl)) PT.all_nil PT.all_nil) (PT.all_node (infAt (by kernel_rfl)) PT.all_nil PT.all_nil)) (PT.all_node (infAt (by
  kernel_rfl)) (PT.all_node (infAt (by kernel_rfl)) PT.all_nil PT.all_nil) PT.all_nil)) (PT.all_node (infAt (by kernel_rfl)) (PT.all_node (infAt (by kernel_rfl)) (PT.all_node (infAt (by kernel_rfl)) PT.all_nil PT.all_nil) (PT.all_node (infAt
  (by kernel_rfl)) PT.all_nil PT.all_nil)) (PT.all_node (infAt (by kernel_rfl)) (PT.all_node (infAt (by kernel_rfl)) PT.all_nil PT.all_nil) PT.all_nil))))) (PT.all_node (infAt (by kernel_rfl)) (PT.all_node (infAt (by kernel_rfl))
  (PT.all_node (infAt (by kernel_rfl)) (PT.all_node (infAt (by kernel_rfl)) (PT.all_node (infAt (by kernel_rfl)) (PT.all_node (infAt (by kernel_rfl)) PT.all_nil PT.all_nil) (PT.all_node (infAt (by kernel_rfl)) PT.all_nil PT.all_nil))
  (PT.all_node (infAt (by kernel_rfl)) (PT.all_node (infAt (by kernel_rfl)) PT.all_nil PT.all_nil) (PT.all_node (infAt (by kernel_rfl)) PT.all_nil PT.all_nil))) (PT.all_node (infAt (by kernel_rfl)) (PT.all_node (infAt (by kernel_rfl))
  (PT.all_node (infAt (by kernel_rfl)) PT.all_nil PT.all_nil) (PT.all_node (infAt (by kernel_rfl)) PT.all_nil PT.all_nil)) (PT.all_node (infAt (by kernel_rfl)) (PT.all_node (infAt (by kernel_rfl)) PT.all_nil PT.all_nil) PT.all_nil)))
  (PT.all_node (infAt (by kernel_rfl)) (PT.all_node (infAt (by kernel_rfl)) (PT.all_node (infAt (by kernel_rfl)) (PT.all_node (infAt (by kernel_rfl)) PT.all_nil PT.all_nil) (PT.all_node (infAt (by kernel_rfl)) PT.all_nil PT.all_nil))
  (PT.all_node (infAt (by kernel_rfl)) (PT.all_node (infAt (by kernel_rfl)) PT.all_nil PT.all_nil) PT.all_nil)) (PT.all_node (infAt (by kernel_rfl)) (PT.all_node (infAt (by kernel_rfl)) (PT.all_node (infAt (by kernel_rfl)) PT.all_nil
  PT.all_nil) (PT.all_node (infAt (by kernel_rfl)) PT.all_nil PT.all_nil)) (PT.all_node (infAt (by kernel_rfl)) (PT.all_node (infAt (by kernel_rfl)) PT.all_nil PT.all_nil) PT.all_nil)))) (PT.all_node (infAt (by kernel_rfl)) (PT.all_node
  (infAt (by kernel_rfl)) (PT.all_node (infAt (by kernel_rfl)) (PT.all_node (infAt (by kernel_rfl)) (PT.all_node (infAt (by kernel_rfl)) PT.all_nil PT.all_nil) (PT.all_node (infAt (by kernel_rfl)) PT.all_nil PT.all_nil)) (PT.all_node (infAt
  (by kernel_rfl)) (PT.all_node (infAt (by kernel_rfl)) PT.all_nil PT.all_nil) (PT.all_node (infAt (by kernel_rfl)) PT.all_nil PT.all_nil))) (PT.all_node (infAt (by kernel_rfl)) (PT.all_node (infAt (by kernel_rfl)) (PT.all_node (infAt (by
  kernel_rfl)) PT.all_nil PT.all_nil) (PT.all_node (infAt (by kernel_rfl)) PT.all_nil PT.all_nil)) (PT.all_node (infAt (by kernel_rfl)) (PT.all_node (infAt (by kernel_rfl)) PT.all_nil PT.all_nil) PT.all_nil))) (PT.all_node (infAt (by
  kernel_rfl)) (PT.all_node (infAt (by kernel_rfl)) (PT.all_node (infAt (by kernel_rfl)) (PT.all_node (infAt (by kernel_rfl)) PT.all_nil PT.all_nil) (PT.all_node (infAt (by kernel_rfl)) PT.all_nil PT.all_nil)) (PT.all_node (infAt (by
  kernel_rfl)) (PT.all_node (infAt (by kernel_rfl)) PT.all_nil PT.all_nil) PT.all_nil)) (PT.all_node (infAt (by kernel_rfl)) (PT.all_node (infAt (by kernel_rfl)) (PT.all_node (infAt (by kernel_rfl)) PT.all_nil PT.all_nil) (PT.all_node (infAt
  (by kernel_rfl)) PT.all_nil PT.all_nil)) (PT.all_node (infAt (by kernel_rfl)) (PT.all_node (infAt (by kernel_rfl)) PT.all_nil PT.all_nil) PT.all_nil)))))))
theorem unT_ok : unT.All (UndP Tryd.prog) (fun k => k) := (PT.all_node (undAt (by kernel_rfl)) (PT.all_node (undAt (by kernel_rfl)) (PT.all_node (undAt (by kernel_rfl)) (PT.all_node (undAt (by kernel_rfl)) (PT.all_node (undAt (by
  kernel_rfl)) (PT.all_node (undAt (by kernel_rfl)) (PT.all_node (undAt (by kernel_rfl)) (PT.all_node (undAt (by kernel_rfl)) PT.all_nil PT.all_nil) (PT.all_node (undAt (by kernel_rfl)) PT.all_nil PT.all_nil)) (PT.all_node (undAt (by
  kernel_rfl)) (PT.all_node (undAt (by kernel_rfl)) PT.all_nil PT.all_nil) (PT.all_node (undAt (by kernel_rfl)) PT.all_nil PT.all_nil))) (PT.all_node (undAt (by kernel_rfl)) (PT.all_node (undAt (by kernel_rfl)) (PT.all_node (undAt (by
  kernel_rfl)) PT.all_nil PT.all_nil) (PT.all_node (undAt (by kernel_rfl)) PT.all_nil PT.all_nil)) (PT.all_node (undAt (by kernel_rfl)) (PT.all_node (undAt (by kernel_rfl)) PT.all_nil PT.all_nil) PT.all_nil))) (PT.all_node (undAt (by
  kernel_rfl)) (PT.all_node (undAt (by kernel_rfl)) (PT.all_node (undAt (by kernel_rfl)) (PT.all_node (undAt (by kernel_rfl)) PT.all_nil PT.all_nil) (PT.all_node (undAt (by kernel_rfl)) PT.all_nil PT.all_nil)) (PT.all_node (undAt (by
  kernel_rfl)) (PT.all_node (undAt (by kernel_rfl)) PT.all_nil PT.all_nil) PT.all_nil)) (PT.all_node (undAt (by kernel_rfl)) (PT.all_node (undAt (by kernel_rfl)) (PT.all_node (undAt (by kernel_rfl)) PT.all_nil PT.all_nil) (PT.all_node (undAt
  (by kernel_rfl)) PT.all_nil PT.all_nil)) (PT.all_node (undAt (by kernel_rfl)) (PT.all_node (undAt (by kernel_rfl)) PT.all_nil PT.all_nil) PT.all_nil)))) (PT.all_node (undAt (by kernel_rfl)) (PT.all_node (undAt (by kernel_rfl)) (PT.all_node
  (undAt (by kernel_rfl)) (PT.all_node (undAt (by kernel_rfl)) (PT.all_node (undAt (by kernel_rfl)) PT.all_nil PT.all_nil) (PT.all_node (undAt (by kernel_rfl)) PT.all_nil PT.all_nil)) (PT.all_node (undAt (by kernel_rfl)) (PT.all_node (undAt
  (by kernel_rfl)) PT.all_nil PT.all_nil) (PT.all_node (undAt (by kernel_rfl)) PT.all_nil PT.all_nil))) (PT.all_node (undAt (by kernel_rfl)) (PT.all_node (undAt (by kernel_rfl)) (PT.all_node (undAt (by kernel_rfl)) PT.all_nil PT.all_nil)
  (PT.all_node (undAt (by kernel_rfl)) PT.all_nil PT.all_nil)) (PT.all_node (undAt (by kernel_rfl)) (PT.all_node (undAt (by kernel_rfl)) PT.all_nil PT.all_nil) PT.all_nil))) (PT.all_node (undAt (by kernel_rfl)) (PT.all_node (undAt (by
  kernel_rfl)) (PT.all_node (undAt (by kernel_rfl)) (PT.all_node (undAt (by kernel_rfl)) PT.all_nil PT.all_nil) (PT.all_node (undAt (by kernel_rfl)) PT.all_nil PT.all_nil)) (PT.all_node (undAt (by kernel_rfl)) (PT.all_node (undAt (by
  kernel_rfl)) PT.all_nil PT.all_nil) PT.all_nil)) (PT.all_node (undAt (by kernel_rfl)) (PT.all_node (undAt (by kernel_rfl)) (PT.all_node (undAt (by kernel_rfl)) PT.all_nil PT.all_nil) (PT.all_node (undAt (by kernel_rfl)) PT.all_nil
  PT.all_nil)) (PT.all_node (undAt (by kernel_rfl)) (PT.all_node (undAt (by kernel_rfl)) PT.all_nil PT.all_nil) PT.all_nil))))) (PT.all_node (undAt (by kernel_rfl)) (PT.all_node (undAt (by kernel_rfl)) (PT.all_node (undAt (by kernel_rfl))
  (PT.all_node (undAt (by kernel_rfl)) (PT.all_node (undAt (by kernel_rfl)) (PT.all_node (undAt (by kernel_rfl)) PT.all_nil PT.all_nil) (PT.all_node (undAt (by kernel_rfl)) PT.all_nil PT.all_nil)) (PT.all_node (undAt (by kernel_rfl))
  (PT.all_node (undAt (by kernel_rfl)) PT.all_nil PT.all_nil) (PT.all_node (undAt (by kernel_rfl)) PT.all_nil PT.all_nil))) (PT.all_node (undAt (by kernel_rfl)) (PT.all_node (undAt (by kernel_rfl)) (PT.all_node (undAt (by kernel_rfl))
  PT.all_nil PT.all_nil) (PT.all_node (undAt (by kernel_rfl)) PT.all_nil PT.all_nil)) (PT.all_node (undAt (by kernel_rfl)) (PT.all_node (undAt (by kernel_rfl)) PT.all_nil PT.all_nil) PT.all_nil))) (PT.all_node (undAt (by kernel_rfl))
  (PT.all_node (undAt (by kernel_rfl)) (PT.all_node (undAt (by kernel_rfl)) (PT.all_node (undAt (by kernel_rfl)) PT.all_nil PT.all_nil) (PT.all_node (undAt (by kernel_rfl)) PT.all_nil PT.all_nil)) (PT.all_node (undAt (by kernel_rfl))
  (PT.all_node (undAt (by kernel_rfl)) PT.all_nil PT.all_nil) PT.all_nil)) (PT.all_node (undAt (by kernel_rfl)) (PT.all_node (undAt (by kernel_rfl)) (PT.all_node (undAt (by kernel_rfl)) PT.all_nil PT.all_nil) (PT.all_node (undAt (by
  kernel_rfl)) PT.all_nil PT.all_nil)) (PT.all_node (undAt (by kernel_rfl)) (PT.all_node (undAt (by kernel_rfl)) PT.all_nil PT.all_nil) PT.all_nil)))) (PT.all_node (undAt (by kernel_rfl)) (PT.all_node (undAt (by kernel_rfl)) (PT.all_node
  (undAt (by kernel_rfl)) (PT.all_node (undAt (by kernel_rfl)) (PT.all_node (undAt (by kernel_rfl)) PT.all_nil PT.all_nil) (PT.all_node (undAt (by kernel_rfl)) PT.all_nil PT.all_nil)) (PT.all_node (undAt (by kernel_rfl)) (PT.all_node (undAt
  (by kernel_rfl)) PT.all_nil PT.all_nil) (PT.all_node (undAt (by kernel_rfl)) PT.all_nil PT.all_nil))) (PT.all_node (undAt (by kernel_rfl)) (PT.all_node (undAt (by kernel_rfl)) (PT.all_node (undAt (by kernel_rfl)) PT.all_nil PT.all_nil)
  (PT.all_node (undAt (by kernel_rfl)) PT.all_nil PT.all_nil)) (PT.all_node (undAt (by kernel_rfl)) (PT.all_node (undAt (by kernel_rfl)) PT.all_nil PT.all_nil) PT.all_nil))) (PT.all_node (undAt (by kernel_rfl)) (PT.all_node (undAt (by
  kernel_rfl)) (PT.all_node (undAt (by kernel_rfl)) (PT.all_node (undAt (by kernel_rfl)) PT.all_nil PT.all_nil) (PT.all_node (undAt (by kernel_rfl)) PT.all_nil PT.all_nil)) (PT.all_node (undAt (by kernel_rfl)) (PT.all_node (undAt (by
  kernel_rfl)) PT.all_nil PT.all_nil) PT.all_nil)) (PT.all_node (undAt (by kernel_rfl)) (PT.all_node (undAt (by kernel_rfl)) (PT.all_node (undAt (by kernel_rfl)) PT.all_nil PT.all_nil) (PT.all_node (undAt (by kernel_rfl)) PT.all_nil
  PT.all_nil)) (PT.all_node (undAt (by kernel_rfl)) (PT.all_node (undAt (by kernel_rfl)) PT.all_nil PT.all_nil) PT.all_nil)))))) (PT.all_node (undAt (by kernel_rfl)) (PT.all_node (undAt (by kernel_rfl)) (PT.all_node (undAt (by kernel_rfl))
  (PT.all_node (undAt (by kernel_rfl)) (PT.all_node (undAt (by kernel_rfl)) (PT.all_node (undAt (by kernel_rfl)) (PT.all_node (undAt (by kernel_rfl)) PT.all_nil PT.all_nil) (PT.all_node (undAt (by kernel_rfl)) PT.all_nil PT.all_nil))
  (PT.all_node (undAt (by kernel_rfl)) (PT.all_node (undAt (by kernel_rfl)) PT.all_nil PT.all_nil) (PT.all_node (undAt (by kernel_rfl)) PT.all_nil PT.all_nil))) (PT.all_node (undAt (by kernel_rfl)) (PT.all_node (undAt (by kernel_rfl))
  (PT.all_node (undAt (by kernel_rfl)) PT.all_nil PT.all_nil) (PT.all_node (undAt (by kernel_rfl)) PT.all_nil PT.all_nil)) (PT.all_node (undAt (by kernel_rfl)) (PT.all_node (undAt (by kernel_rfl)) PT.all_nil PT.all_nil) PT.all_nil)))
  (PT.all_node (undAt (by kernel_rfl)) (PT.all_node (undAt (by kernel_rfl)) (PT.all_node (undAt (by kernel_rfl)) (PT.all_node (undAt (by kernel_rfl)) PT.all_nil PT.all_nil) (PT.all_node (undAt (by kernel_rfl)) PT.all_nil PT.all_nil))
  (PT.all_node (undAt (by kernel_rfl)) (PT.all_node (undAt (by kernel_rfl)) PT.all_nil PT.all_nil) PT.all_nil)) (PT.all_node (undAt (by kernel_rfl)) (PT.all_node (undAt (by kernel_rfl)) (PT.all_node (undAt (by kernel_rfl)) PT.all_nil
  PT.all_nil) (PT.all_node (undAt (by kernel_rfl)) PT.all_nil PT.all_nil)) (PT.all_node (undAt (by kernel_rfl)) (PT.all_node (undAt (by kernel_rfl)) PT.all_nil PT.all_nil) PT.all_nil)))) (PT.all_node (undAt (by kernel_rfl)) (PT.all_node
  (undAt (by kernel_rfl)) (PT.all_node (undAt (by kernel_rfl)) (PT.all_node (undAt (by kernel_rfl)) (PT.all_node (undAt (by kernel_rfl)) PT.all_nil PT.all_nil) (PT.all_node (undAt (by kernel_rfl)) PT.all_nil PT.all_nil)) (PT.all_node (undAt
  (by kernel_rfl)) (PT.all_node (undAt (by kernel_rfl)) PT.all_nil PT.all_nil) (PT.all_node (undAt (by kernel_rfl)) PT.all_nil PT.all_nil))) (PT.all_node (undAt (by kernel_rfl)) (PT.all_node (undAt (by kernel_rfl)) (PT.all_node (undAt (by
  kernel_rfl)) PT.all_nil PT.all_nil) (PT.all_node (undAt (by kernel_rfl)) PT.all_nil PT.all_nil)) (PT.all_node (undAt (by kernel_rfl)) (PT.all_node (undAt (by kernel_rfl)) PT.all_nil PT.all_nil) PT.all_nil))) (PT.all_node (undAt (by
  kernel_rfl)) (PT.all_node (undAt (by kernel_rfl)) (PT.all_node (undAt (by kernel_rfl)) (PT.all_node (undAt (by kernel_rfl)) PT.all_nil PT.all_nil) (PT.all_node (undAt (by kernel_rfl)) PT.all_nil PT.all_nil)) (PT.all_node (undAt (by
  kernel_rfl)) (PT.all_node (undAt (by kernel_rfl)) PT.all_nil PT.all_nil) PT.all_nil)) (PT.all_node (undAt (by kernel_rfl)) (PT.all_node (undAt (by kernel_rfl)) (PT.all_node (undAt (by kernel_rfl)) PT.all_nil PT.all_nil) (PT.all_node (undAt
  (by kernel_rfl)) PT.all_nil PT.all_nil)) (PT.all_node (undAt (by kernel_rfl)) (PT.all_node (undAt (by kernel_rfl)) PT.all_nil PT.all_nil) PT.all_nil))))) (PT.all_node (undAt (by kernel_rfl)) (PT.all_node (undAt (by kernel_rfl))
  (PT.all_node (undAt (by kernel_rfl)) (PT.all_node (undAt (by kernel_rfl)) (PT.all_node (undAt (by kernel_rfl)) (PT.all_node (undAt (by kernel_rfl)) PT.all_nil PT.all_nil) (PT.all_node (undAt (by kernel_rfl)) PT.all_nil PT.all_nil))
  (PT.all_node (undAt (by kernel_rfl)) (PT.all_node (undAt (by kernel_rfl)) PT.all_nil PT.all_nil) (PT.all_node (undAt (by kernel_rfl)) PT.all_nil PT.all_nil))) (PT.all_node (undAt (by kernel_rfl)) (PT.all_node (undAt (by kernel_rfl))
  (PT.all_node (undAt (by kernel_rfl)) PT.all_nil PT.all_nil) (PT.all_node (undAt (by kernel_rfl)) PT.all_nil PT.all_nil)) (PT.all_node (undAt (by kernel_rfl)) (PT.all_node (undAt (by kernel_rfl)) PT.all_nil PT.all_nil) PT.all_nil)))
  (PT.all_node (undAt (by kernel_rfl)) (PT.all_node (undAt (by kernel_rfl)) (PT.all_node (undAt (by kernel_rfl)) (PT.all_node (undAt (by kernel_rfl)) PT.all_nil PT.all_nil) (PT.all_node (undAt (by kernel_rfl)) PT.all_nil PT.all_nil))
  (PT.all_node (undAt (by kernel_rfl)) (PT.all_node (undAt (by kernel_rfl)) PT.all_nil PT.all_nil) PT.all_nil)) (PT.all_node (undAt (by kernel_rfl)) (PT.all_node (undAt (by kernel_rfl)) (PT.all_node (undAt (by kernel_rfl)) PT.all_nil
  PT.all_nil) (PT.all_node (undAt (by kernel_rfl)) PT.all_nil PT.all_nil)) (PT.all_node (undAt (by kernel_rfl)) (PT.all_node (undAt (by kernel_rfl)) PT.all_nil PT.all_nil) PT.all_nil)))) (PT.all_node (undAt (by kernel_rfl)) (PT.all_node
  (undAt (by kernel_rfl)) (PT.all_node (undAt (by kernel_rfl)) (PT.all_node (undAt (by kernel_rfl)) (PT.all_node (undAt (by kernel_rfl)) PT.all_nil PT.all_nil) (PT.all_node (undAt (by kernel_rfl)) PT.all_nil PT.all_nil)) (PT.all_node (undAt
  (by kernel_rfl)) (PT.all_node (undAt (by kernel_rfl)) PT.all_nil PT.all_nil) (PT.all_node (undAt (by kernel_rfl)) PT.all_nil PT.all_nil))) (PT.all_node (undAt (by kernel_rfl)) (PT.all_node (undAt (by kernel_rfl)) (PT.all_node (undAt (by
  kernel_rfl)) PT.all_nil PT.all_nil) (PT.all_node (undAt (by kernel_rfl)) PT.all_nil PT.all_nil)) (PT.all_node (undAt (by kernel_rfl)) (PT.all_node (undAt (by kernel_rfl)) PT.all_nil PT.all_nil) PT.all_nil))) (PT.all_node (undAt (by
  kernel_rfl)) (PT.all_node (undAt (by kernel_rfl)) (PT.all_node (undAt (by kernel_rfl)) (PT.all_node (undAt (by kernel_rfl)) PT.all_nil PT.all_nil) (PT.all_node (undAt (by kernel_rfl)) PT.all_nil PT.all_nil)) (PT.all_node (undAt (by
  kernel_rfl)) (PT.all_node (undAt (by kernel_rfl)) PT.all_nil PT.all_nil) PT.all_nil)) (PT.all_node (undAt (by kernel_rfl)) (PT.all_node (undAt (by kernel_rfl)) (PT.all_node (undAt (by kernel_rfl)) PT.all_nil PT.all_nil) (PT.all_node (undAt
  (by kernel_rfl)) PT.all_nil PT.all_nil)) (PT.all_node (undAt (by kernel_rfl)) (PT.all_node (undAt (by kernel_rfl)) PT.all_nil PT.all_nil) PT.all_nil)))))))
theorem fnT_ok : fnT.All (FnP Tryd.prog) (fun k => k) := (PT.all_node noAt (PT.all_node noAt (PT.all_node (fnAt (by kernel_rfl) Tryd.call3 Tryd.func3) (PT.all_node (fnAt (by kernel_rfl) Tryd.call7 Tryd.func7) (PT.all_node (fnAt (by
  kernel_rfl) Tryd.call15 Tryd.func15) (PT.all_node (fnAt (by kernel_rfl) Tryd.call31 Tryd.func31) (PT.all_node (fnAt (by kernel_rfl) Tryd.call63 Tryd.func63) PT.all_nil PT.all_nil) (PT.all_node (fnAt (by kernel_rfl) Tryd.call95 Tryd.func95)
  (PT.all_node (fnAt (by kernel_rfl) Tryd.call159 Tryd.func159) PT.all_nil PT.all_nil) PT.all_nil)) (PT.all_node (fnAt (by kernel_rfl) Tryd.call47 Tryd.func47) (PT.all_node (fnAt (by kernel_rfl) Tryd.call79 Tryd.func79) PT.all_nil
  PT.all_nil) (PT.all_node (fnAt (by kernel_rfl) Tryd.call111 Tryd.func111) PT.all_nil PT.all_nil))) (PT.all_node (fnAt (by kernel_rfl) Tryd.call23 Tryd.func23) (PT.all_node (fnAt (by kernel_rfl) Tryd.call39 Tryd.func39) (PT.all_node (fnAt
  (by kernel_rfl) Tryd.call71 Tryd.func71) PT.all_nil PT.all_nil) (PT.all_node (fnAt (by kernel_rfl) Tryd.call103 Tryd.func103) PT.all_nil PT.all_nil)) (PT.all_node (fnAt (by kernel_rfl) Tryd.call55 Tryd.func55) (PT.all_node (fnAt (by
  kernel_rfl) Tryd.call87 Tryd.func87) PT.all_nil PT.all_nil) (PT.all_node (fnAt (by kernel_rfl) Tryd.call119 Tryd.func119) PT.all_nil PT.all_nil)))) (PT.all_node (fnAt (by kernel_rfl) Tryd.call11 Tryd.func11) (PT.all_node (fnAt (by
  kernel_rfl) Tryd.call19 Tryd.func19) (PT.all_node (fnAt (by kernel_rfl) Tryd.call35 Tryd.func35) (PT.all_node (fnAt (by kernel_rfl) Tryd.call67 Tryd.func67) PT.all_nil PT.all_nil) (PT.all_node (fnAt (by kernel_rfl) Tryd.call99 Tryd.func99)
  PT.all_nil PT.all_nil)) (PT.all_node (fnAt (by kernel_rfl) Tryd.call51 Tryd.func51) (PT.all_node (fnAt (by kernel_rfl) Tryd.call83 Tryd.func83) PT.all_nil PT.all_nil) (PT.all_node (fnAt (by kernel_rfl) Tryd.call115 Tryd.func115) PT.all_nil
  PT.all_nil))) (PT.all_node (fnAt (by kernel_rfl) Tryd.call27 Tryd.func27) (PT.all_node (fnAt (by kernel_rfl) Tryd.call43 Tryd.func43) PT.all_nil (PT.all_node (fnAt (by kernel_rfl) Tryd.call107 Tryd.func107) PT.all_nil PT.all_nil))
  (PT.all_node (fnAt (by kernel_rfl) Tryd.call59 Tryd.func59) (PT.all_node (fnAt (by kernel_rfl) Tryd.call91 Tryd.func91) PT.all_nil PT.all_nil) (PT.all_node (fnAt (by kernel_rfl) Tryd.call123 Tryd.func123) PT.all_nil PT.all_nil)))))
  (PT.all_node (fnAt (by kernel_rfl) Tryd.call5 Tryd.func5) (PT.all_node (fnAt (by kernel_rfl) Tryd.call9 Tryd.func9) (PT.all_node (fnAt (by kernel_rfl) Tryd.call17 Tryd.func17) (PT.all_node (fnAt (by kernel_rfl) Tryd.call33 Tryd.func33)
  (PT.all_node (fnAt (by kernel_rfl) Tryd.call65 Tryd.func65) PT.all_nil PT.all_nil) (PT.all_node (fnAt (by kernel_rfl) Tryd.call97 Tryd.func97) PT.all_nil PT.all_nil)) (PT.all_node (fnAt (by kernel_rfl) Tryd.call49 Tryd.func49) (PT.all_node
  (fnAt (by kernel_rfl) Tryd.call81 Tryd.func81) PT.all_nil PT.all_nil) (PT.all_node (fnAt (by kernel_rfl) Tryd.call113 Tryd.func113) PT.all_nil PT.all_nil))) (PT.all_node (fnAt (by kernel_rfl) Tryd.call25 Tryd.func25) (PT.all_node (fnAt (by
  kernel_rfl) Tryd.call41 Tryd.func41) (PT.all_node (fnAt (by kernel_rfl) Tryd.call73 Tryd.func73) PT.all_nil PT.all_nil) (PT.all_node (fnAt (by kernel_rfl) Tryd.call105 Tryd.func105) PT.all_nil PT.all_nil)) (PT.all_node (fnAt (by
  kernel_rfl) Tryd.call57 Tryd.func57) (PT.all_node (fnAt (by kernel_rfl) Tryd.call89 Tryd.func89) PT.all_nil PT.all_nil) (PT.all_node (fnAt (by kernel_rfl) Tryd.call121 Tryd.func121) PT.all_nil PT.all_nil)))) (PT.all_node (fnAt (by
  kernel_rfl) Tryd.call13 Tryd.func13) (PT.all_node (fnAt (by kernel_rfl) Tryd.call21 Tryd.func21) (PT.all_node (fnAt (by kernel_rfl) Tryd.call37 Tryd.func37) (PT.all_node (fnAt (by kernel_rfl) Tryd.call69 Tryd.func69) PT.all_nil PT.all_nil)
  (PT.all_node (fnAt (by kernel_rfl) Tryd.call101 Tryd.func101) PT.all_nil PT.all_nil)) (PT.all_node (fnAt (by kernel_rfl) Tryd.call53 Tryd.func53) (PT.all_node (fnAt (by kernel_rfl) Tryd.call85 Tryd.func85) PT.all_nil PT.all_nil)
  (PT.all_node (fnAt (by kernel_rfl) Tryd.call117 Tryd.func117) PT.all_nil PT.all_nil))) (PT.all_node (fnAt (by kernel_rfl) Tryd.call29 Tryd.func29) (PT.all_node (fnAt (by kernel_rfl) Tryd.call45 Tryd.func45) (PT.all_node (fnAt (by
  kernel_rfl) Tryd.call77 Tryd.func77) PT.all_nil PT.all_nil) (PT.all_node (fnAt (by kernel_rfl) Tryd.call109 Tryd.func109) PT.all_nil PT.all_nil)) (PT.all_node (fnAt (by kernel_rfl) Tryd.call61 Tryd.func61) (PT.all_node (fnAt (by
  kernel_rfl) Tryd.call93 Tryd.func93) PT.all_nil PT.all_nil) PT.all_nil))))) (PT.all_node (fnAt (by kernel_rfl) Tryd.call2 Tryd.func2) (PT.all_node (fnAt (by kernel_rfl) Tryd.call4 Tryd.func4) (PT.all_node (fnAt (by kernel_rfl) Tryd.call8
  Tryd.func8) (PT.all_node (fnAt (by kernel_rfl) Tryd.call16 Tryd.func16) (PT.all_node (fnAt (by kernel_rfl) Tryd.call32 Tryd.func32) (PT.all_node (fnAt (by kernel_rfl) Tryd.call64 Tryd.func64) PT.all_nil PT.all_nil) (PT.all_node (fnAt (by
  kernel_rfl) Tryd.call96 Tryd.func96) PT.all_nil PT.all_nil)) (PT.all_node (fnAt (by kernel_rfl) Tryd.call48 Tryd.func48) PT.all_nil (PT.all_node (fnAt (by kernel_rfl) Tryd.call112 Tryd.func112) PT.all_nil PT.all_nil))) (PT.all_node (fnAt
  (by kernel_rfl) Tryd.call24 Tryd.func24) (PT.all_node (fnAt (by kernel_rfl) Tryd.call40 Tryd.func40) (PT.all_node (fnAt (by kernel_rfl) Tryd.call72 Tryd.func72) PT.all_nil PT.all_nil) (PT.all_node (fnAt (by kernel_rfl) Tryd.call104
  Tryd.func104) PT.all_nil PT.all_nil)) (PT.all_node (fnAt (by kernel_rfl) Tryd.call56 Tryd.func56) PT.all_nil (PT.all_node (fnAt (by kernel_rfl) Tryd.call120 Tryd.func120) PT.all_nil PT.all_nil)))) (PT.all_node (fnAt (by kernel_rfl)
  Tryd.call12 Tryd.func12) (PT.all_node (fnAt (by kernel_rfl) Tryd.call20 Tryd.func20) (PT.all_node (fnAt (by kernel_rfl) Tryd.call36 Tryd.func36) (PT.all_node (fnAt (by kernel_rfl) Tryd.call68 Tryd.func68) PT.all_nil PT.all_nil)
  (PT.all_node (fnAt (by kernel_rfl) Tryd.call100 Tryd.func100) PT.all_nil PT.all_nil)) (PT.all_node (fnAt (by kernel_rfl) Tryd.call52 Tryd.func52) (PT.all_node (fnAt (by kernel_rfl) Tryd.call84 Tryd.func84) PT.all_nil PT.all_nil)
  (PT.all_node (fnAt (by kernel_rfl) Tryd.call116 Tryd.func116) PT.all_nil PT.all_nil))) (PT.all_node (fnAt (by kernel_rfl) Tryd.call28 Tryd.func28) (PT.all_node (fnAt (by kernel_rfl) Tryd.call44 Tryd.func44) (PT.all_node (fnAt (by
  kernel_rfl) Tryd.call76 Tryd.func76) PT.all_nil PT.all_nil) (PT.all_node (fnAt (by kernel_rfl) Tryd.call108 Tryd.func108) PT.all_nil PT.all_nil)) (PT.all_node (fnAt (by kernel_rfl) Tryd.call60 Tryd.func60) (PT.all_node (fnAt (by
  kernel_rfl) Tryd.call92 Tryd.func92) PT.all_nil PT.all_nil) PT.all_nil)))) (PT.all_node (fnAt (by kernel_rfl) Tryd.call6 Tryd.func6) (PT.all_node (fnAt (by kernel_rfl) Tryd.call10 Tryd.func10) (PT.all_node (fnAt (by kernel_rfl) Tryd.call18
  Tryd.func18) (PT.all_node (fnAt (by kernel_rfl) Tryd.call34 Tryd.func34) (PT.all_node (fnAt (by kernel_rfl) Tryd.call66 Tryd.func66) PT.all_nil PT.all_nil) (PT.all_node (fnAt (by kernel_rfl) Tryd.call98 Tryd.func98) PT.all_nil PT.all_nil))
  (PT.all_node (fnAt (by kernel_rfl) Tryd.call50 Tryd.func50) (PT.all_node (fnAt (by kernel_rfl) Tryd.call82 Tryd.func82) PT.all_nil PT.all_nil) (PT.all_node (fnAt (by kernel_rfl) Tryd.call114 Tryd.func114) PT.all_nil PT.all_nil)))
  (PT.all_node (fnAt (by kernel_rfl) Tryd.call26 Tryd.func26) (PT.all_node (fnAt (by kernel_rfl) Tryd.call42 Tryd.func42) (PT.all_node (fnAt (by kernel_rfl) Tryd.call74 Tryd.func74) PT.all_nil PT.all_nil) (PT.all_node (fnAt (by kernel_rfl)
  Tryd.call106 Tryd.func106) PT.all_nil PT.all_nil)) (PT.all_node (fnAt (by kernel_rfl) Tryd.call58 Tryd.func58) (PT.all_node (fnAt (by kernel_rfl) Tryd.call90 Tryd.func90) PT.all_nil PT.all_nil) (PT.all_node (fnAt (by kernel_rfl)
  Tryd.call122 Tryd.func122) PT.all_nil PT.all_nil)))) (PT.all_node (fnAt (by kernel_rfl) Tryd.call14 Tryd.func14) (PT.all_node (fnAt (by kernel_rfl) Tryd.call22 Tryd.func22) (PT.all_node (fnAt (by kernel_rfl) Tryd.call38 Tryd.func38)
  (PT.all_node (fnAt (by kernel_rfl) Tryd.call70 Tryd.func70) PT.all_nil PT.all_nil) (PT.all_node (fnAt (by kernel_rfl) Tryd.call102 Tryd.func102) PT.all_nil PT.all_nil)) (PT.all_node (fnAt (by kernel_rfl) Tryd.call54 Tryd.func54)
  (PT.all_node (fnAt (by kernel_rfl) Tryd.call86 Tryd.func86) PT.all_nil PT.all_nil) (PT.all_node (fnAt (by kernel_rfl) Tryd.call118 Tryd.func118) PT.all_nil PT.all_nil))) (PT.all_node (fnAt (by kernel_rfl) Tryd.call30 Tryd.func30)
  (PT.all_node (fnAt (by kernel_rfl) Tryd.call46 Tryd.func46) (PT.all_node (fnAt (by kernel_rfl) Tryd.call78 Tryd.func78) PT.all_nil PT.all_nil) (PT.all_node (fnAt (by kernel_rfl) Tryd.call110 Tryd.func110) PT.all_nil PT.all_nil))
  (PT.all_node (fnAt (by kernel_rfl) Tryd.call62 Tryd.func62) (PT.all_node (fnAt (by kernel_rfl) Tryd.call94 Tryd.func94) PT.all_nil PT.all_nil) PT.all_nil))))))
/-- Calls that Go's library's contracts tell. -/
def isIdx (f : Nat) : Bool := Nat.beq f 41 || Nat.beq f 63
def extF (f : Nat) (vs : List Value) : Option Value :=
  cond (isIdx f) (match vs with
    | [.string s, .int .u8 c] => some (.int .i64 (Lib.indexByte s.data.toList c.toNat.toUInt8))
    | _ => none)
  (cond (Nat.beq f 59) (match vs with
    | [.string s, .string t] => (match t.data.toList with
      | [c] => some (.int .i64 (Lib.countByte s.data.toList c))
      | _ => none)
    | _ => none)
  (cond (Nat.beq f 60) (match vs with
    | [.string s, .string t] => (match t.data.toList with
      | [c] => some (.int .i64 (Lib.indexByte s.data.toList c))
      | _ => none)
    | _ => none) none))
def errCon (nx g : Nat) : Con := ⟨nx, nx + 1, [(g, .table [.chan (some g)])], [], .iface 161 (.pointer (some ⟨nx, 0, none⟩))⟩
def conF (f : Nat) (vs : List Value) (nx : Nat) : Option Con :=
  cond (Nat.beq f 79) (match vs with
    | [.string _, .string s, .int .i64 _, .int .i64 _, .iface t (.int .i64 k)] => cond (Nat.ble s.size 281474976710656 && Nat.beq t 159) (cond (decide (k = 2)) (some (errCon nx 4)) (cond (decide (k = 1)) (some (errCon nx 5)) none)) none
    | _ => none) none
/-- Functions whose calls leave the memory as it was. -/
def pureL : List Nat := [38, 40, 14, 17, 31, 45, 50, 51, 22, 19, 24, 25, 65, 66, 81, 67, 68, 82, 84, 98, 99, 83, 69, 71, 72, 57, 33, 86, 70, 55]
noncomputable def Lk0 : Lk where
  info t := tyT.get t
  und t := unT.get t
  func f := fnT.get f
  glob g := Nat.beq g 4 || Nat.beq g 5
  ext := extF
  con := conF
  pureF f := pureL.any (Nat.beq f)
theorem one_bytes {t : ByteArray} {c : UInt8} (h : t.data.toList = [c]) : t = ⟨#[c]⟩ := by
  cases t with
  | mk d => cases d with
    | mk l => simp only at h; rw [h]
theorem extF_ok {f : Nat} {vs : List Value} {v : Value} (h : extF f vs = some v) : (∀ x ∈ vs, flat3 x = true) ∧ flat3 v = true ∧ ∀ w,
    ∃ j, (∀ bs w, (callFunc f bs).run Tryd.prog w = .ok (.enter j bs) w) ∧ Calls Tryd.prog j vs.toArray w fun e w' => e = .returned v ∧ RowKit.Below w.heap.size w w' := by
  have still : ∀ (w w' : World), w' = w → RowKit.Below w.heap.size w w' := fun w w' e => by subst e; exact ⟨rfl, rfl, rfl, Nat.le_refl _, fun _ _ => rfl⟩
  unfold extF at h
  cases hi : isIdx f with
  | true =>
    rw [hi] at h
    simp only [cond_true] at h
    split at h
    · rename_i s c
      cases h
      refine ⟨fun x hx => by simp at hx; rcases hx with rfl | rfl <;> rfl, rfl, fun w => ?_⟩
      unfold isIdx at hi
      simp only [Bool.or_eq_true, beq_dec, decide_eq_true_eq] at hi
      rcases hi with rfl | rfl
      · exact ⟨41, Tryd.call41, (Tryd.strings_IndexByte s c w).mono fun e w' ⟨h1, h2⟩ => ⟨h1, still w w' h2⟩⟩
      · exact ⟨63, Tryd.call63, (Tryd.stringslite_IndexByte s c w).mono fun e w' ⟨h1, h2⟩ => ⟨h1, still w w' h2⟩⟩
    · cases h
  | false =>
    rw [hi] at h
    simp only [cond_false] at h
    cases h59 : Nat.beq f 59 with
    | true =>
      rw [h59] at h
      have := beq_true h59
      subst this
      simp only [cond_true] at h
      split at h
      · rename_i s t
        split at h
        · rename_i c hc
          cases h
          have := one_bytes hc
          subst this
          exact ⟨fun x hx => by simp at hx; rcases hx with rfl | rfl <;> rfl, rfl, fun w => ⟨59, Tryd.call59, (Tryd.strings_Count_one s c w).mono fun e w' ⟨h1, h2⟩ => ⟨h1, still w w' h2⟩⟩⟩
        · cases h
      · cases h
    | false =>
      rw [h59] at h
      simp only [cond_false] at h
      cases h60 : Nat.beq f 60 with
      | true =>
        rw [h60] at h
        have := beq_true h60
        subst this
        simp only [cond_true] at h
        split at h
        · rename_i s t
          split at h
          · rename_i c hc
            cases h
            have := one_bytes hc
            subst this
            exact ⟨fun x hx => by simp at hx; rcases hx with rfl | rfl <;> rfl, rfl, fun w => ⟨60, Tryd.call60, (Tryd.strings_Index_one s c w).mono fun e w' ⟨h1, h2⟩ => ⟨h1, still w w' h2⟩⟩⟩
          · cases h
        · cases h
      | false => rw [h60] at h; cases h
theorem Lk0_ok [Sym] : Lk0.Ok Tryd.prog where
  symOp _ _ _ _ _ h := by cases h
  symLen _ _ h := by cases h
  info t i h := PT.all_get tyT _ tyT_ok t i h
  und t d h := PT.all_get unT _ unT_ok t d h
  func f j fn h := PT.all_get fnT _ fnT_ok f (j, fn) h
  mixed := by kernel_rfl
  ext f vs v h := by
    obtain ⟨h1, h2, h3⟩ := extF_ok h
    exact ⟨h1, h2, fun w => .inl (h3 w)⟩
theorem Lk0_S : LkS Lk0 := ⟨fun _ _ _ _ => rfl⟩
/-- The two variables hold errors. -/
structure ErrSym [Sym] : Prop where
  e4 : ∃ t u, Sym.v 4 = .iface t u
  e5 : ∃ t u, Sym.v 5 = .iface t u
theorem err_con [Sym] {g nx : Nat} {fn s : ByteArray} {base bits k : Int} (hs : s.size ≤ 281474976710656) (he : ∃ t u, Sym.v g = .iface t u)
    (hc : ∀ (ev : Value) (w : World), w.cell? ⟨g, 0, none⟩ = some ev → (ev = .nilIface ∨ ∃ te pe, ev = .iface te pe) →
      Calls Tryd.prog 79 #[.string fn, .string s, .int .i64 base, .int .i64 bits, .iface 159 (.int .i64 k)] w fun e w' => ∃ N, e = .returned (.iface 161 (.pointer (some ⟨N, 0, none⟩))) ∧ w.heap.size ≤ N ∧ w'.heap[N]? = some (.cells #[.string fn, .string s, ev] 176 (0, 0)) ∧ RowKit.Below w.heap.size w w') :
    ConFact Tryd.prog 79 [.string fn, .string s, .int .i64 base, .int .i64 bits, .iface 159 (.int .i64 k)] (errCon nx g) := by
  refine ⟨fun x hx => by simp at hx; rcases hx with rfl | rfl | rfl | rfl | rfl <;> rfl, 79, Tryd.call79, fun w pl hob => ?_⟩
  obtain ⟨hb, hoo, obj, hobj, arr, T, fr, rfl, hcells⟩ := hob (g, .table [.chan (some g)]) (by simp [errCon])
  obtain ⟨v', hv', hvr⟩ := hcells 0 (.chan (some g)) rfl
  have hv2 : v' = Sym.v g := by cases hvr; rfl
  subst hv2
  have hcell : w.cell? ⟨g, 0, none⟩ = some (Sym.v g) := by
    unfold World.cell?
    simp only [hobj]
    rw [hoo] at hv'
    simpa using hv'
  refine (hc (Sym.v g) w hcell (.inr he)).mono fun e w' ⟨N, h1, h2, h3, h4⟩ => ?_
  refine ⟨_, fun i => if i = nx then some ⟨N, 0, 3, 0⟩ else none, h1, ?_⟩
  have hN : N < w'.heap.size := (Array.getElem?_eq_some_iff.1 h3).1
  refine ⟨.iface (.ptr (p := ⟨N, 0, 3, 0⟩) (by simp)), h4, fun i p hp => ?_, fun i p hp => ?_, fun i p ob hp ho => by simp [errCon] at ho, fun i j p q hp hq hi => by simp [errCon] at hi⟩
  · split at hp
    · rename_i e; cases hp; subst e
      exact .inr ⟨Nat.le_refl _, Nat.lt_succ_self _, h2⟩
    · cases hp
  · split at hp
    · cases hp; exact hN
    · cases hp
theorem conF_ok [Sym] (hE : ErrSym) : ConOk Tryd.prog Lk0 := by
  intro f vs nx c h
  have h0 : conF f vs nx = some c := h
  clear h
  unfold conF at h0
  obtain ⟨hf, h1⟩ := cond_none h0
  clear h0
  have := beq_true hf
  subst this
  split at h1
  · rename_i fn s base bits t k
    obtain ⟨hq, h2⟩ := cond_none h1
    clear h1
    simp only [Bool.and_eq_true, Nat.ble_eq] at hq
    have := beq_true hq.2
    subst this
    cases k2 : decide (k = 2) with
    | true =>
      rw [k2] at h2; cases h2
      have := of_decide_eq_true k2
      subst this
      exact err_con hq.1 hE.e4 fun ev w hv hev => Tryd.toError_syntax _ _ _ _ ev w hq.1 hv hev
    | false =>
      rw [k2] at h2
      cases k1 : decide (k = 1) with
      | true =>
        rw [k1] at h2; cases h2
        have := of_decide_eq_true k1
        subst this
        exact err_con hq.1 hE.e5 fun ev w hv hev => Tryd.toError_range _ _ _ _ ev w hq.1 hv hev
      | false => rw [k1] at h2; cases h2
  · cases h1
noncomputable abbrev cc : CallS := cS Tryd.prog Lk0
end Go.Proofs.YthngaoncjpgeiaaDoorE
