/- The tables of this seat for the evaluator, and that they are the program's. Written by mkseat.py. -/
import Derived.Test.YthngaoncjpgeiaaGreatDoorProg
import Derived.Test.YthngaoncjpgeiaaGreatDoorXC
import Derived.KernelRfl
import Derived.Test.YthngaoncjpgeiaaGreatDoorShelf
import Derived.Test.YthngaoncjpgeiaaGreatDoorXF
set_option linter.unusedSimpArgs false
set_option linter.unusedVariables false
namespace Go.Proofs.YthngaoncjpgeiaaGreatDoorE
open Go Go.E Go.Proofs
set_option maxRecDepth 100000
noncomputable def tyT : PT TypeInfo := (.node (.node (.node (.node (.node (.node (.node (.node (.node .nil (some Tryz.t255) .nil) (some Tryz.t127) .nil) (some Tryz.t63) (.node .nil (some Tryz.t191) .nil)) (some Tryz.t31) (.node (.node (.node
  .nil (some Tryz.t287) .nil) (some Tryz.t159) .nil) (some Tryz.t95) (.node .nil (some Tryz.t223) .nil))) (some Tryz.t15) (.node (.node (.node (.node .nil (some Tryz.t271) .nil) (some Tryz.t143) .nil) (some Tryz.t79) (.node .nil (some
  Tryz.t207) .nil)) (some Tryz.t47) (.node (.node .nil (some Tryz.t175) .nil) (some Tryz.t111) (.node .nil (some Tryz.t239) .nil)))) (some Tryz.t7) (.node (.node (.node (.node (.node .nil (some Tryz.t263) .nil) (some Tryz.t135) .nil) (some
  Tryz.t71) (.node .nil (some Tryz.t199) .nil)) (some Tryz.t39) (.node (.node .nil (some Tryz.t167) .nil) (some Tryz.t103) (.node .nil (some Tryz.t231) .nil))) (some Tryz.t23) (.node (.node (.node (.node .nil (some Tryz.t279) .nil) (some
  Tryz.t151) .nil) (some Tryz.t87) (.node .nil (some Tryz.t215) .nil)) (some Tryz.t55) (.node (.node .nil (some Tryz.t183) .nil) (some Tryz.t119) (.node .nil (some Tryz.t247) .nil))))) (some Tryz.t3) (.node (.node (.node (.node (.node (.node
  .nil (some Tryz.t259) .nil) (some Tryz.t131) .nil) (some Tryz.t67) (.node .nil (some Tryz.t195) .nil)) (some Tryz.t35) (.node (.node .nil (some Tryz.t163) .nil) (some Tryz.t99) (.node .nil (some Tryz.t227) .nil))) (some Tryz.t19) (.node
  (.node (.node (.node .nil (some Tryz.t275) .nil) (some Tryz.t147) .nil) (some Tryz.t83) (.node .nil (some Tryz.t211) .nil)) (some Tryz.t51) (.node (.node .nil (some Tryz.t179) .nil) (some Tryz.t115) (.node .nil (some Tryz.t243) .nil))))
  (some Tryz.t11) (.node (.node (.node (.node (.node .nil (some Tryz.t267) .nil) (some Tryz.t139) .nil) (some Tryz.t75) (.node .nil (some Tryz.t203) .nil)) (some Tryz.t43) (.node (.node .nil (some Tryz.t171) .nil) (some Tryz.t107) (.node
  .nil (some Tryz.t235) .nil))) (some Tryz.t27) (.node (.node (.node (.node .nil (some Tryz.t283) .nil) (some Tryz.t155) .nil) (some Tryz.t91) (.node .nil (some Tryz.t219) .nil)) (some Tryz.t59) (.node (.node .nil (some Tryz.t187) .nil)
  (some Tryz.t123) (.node .nil (some Tryz.t251) .nil)))))) (some Tryz.t1) (.node (.node (.node (.node (.node (.node (.node .nil (some Tryz.t257) .nil) (some Tryz.t129) .nil) (some Tryz.t65) (.node .nil (some Tryz.t193) .nil)) (some Tryz.t33)
  (.node (.node .nil (some Tryz.t161) .nil) (some Tryz.t97) (.node .nil (some Tryz.t225) .nil))) (some Tryz.t17) (.node (.node (.node (.node .nil (some Tryz.t273) .nil) (some Tryz.t145) .nil) (some Tryz.t81) (.node .nil (some Tryz.t209)
  .nil)) (some Tryz.t49) (.node (.node .nil (some Tryz.t177) .nil) (some Tryz.t113) (.node .nil (some Tryz.t241) .nil)))) (some Tryz.t9) (.node (.node (.node (.node (.node .nil (some Tryz.t265) .nil) (some Tryz.t137) .nil) (some Tryz.t73)
  (.node .nil (some Tryz.t201) .nil)) (some Tryz.t41) (.node (.node .nil (some Tryz.t169) .nil) (some Tryz.t105) (.node .nil (some Tryz.t233) .nil))) (some Tryz.t25) (.node (.node (.node (.node .nil (some Tryz.t281) .nil) (some Tryz.t153)
  .nil) (some Tryz.t89) (.node .nil (some Tryz.t217) .nil)) (some Tryz.t57) (.node (.node .nil (some Tryz.t185) .nil) (some Tryz.t121) (.node .nil (some Tryz.t249) .nil))))) (some Tryz.t5) (.node (.node (.node (.node (.node (.node .nil (some
  Tryz.t261) .nil) (some Tryz.t133) .nil) (some Tryz.t69) (.node .nil (some Tryz.t197) .nil)) (some Tryz.t37) (.node (.node .nil (some Tryz.t165) .nil) (some Tryz.t101) (.node .nil (some Tryz.t229) .nil))) (some Tryz.t21) (.node (.node
  (.node (.node .nil (some Tryz.t277) .nil) (some Tryz.t149) .nil) (some Tryz.t85) (.node .nil (some Tryz.t213) .nil)) (some Tryz.t53) (.node (.node .nil (some Tryz.t181) .nil) (some Tryz.t117) (.node .nil (some Tryz.t245) .nil)))) (some
  Tryz.t13) (.node (.node (.node (.node (.node .nil (some Tryz.t269) .nil) (some Tryz.t141) .nil) (some Tryz.t77) (.node .nil (some Tryz.t205) .nil)) (some Tryz.t45) (.node (.node .nil (some Tryz.t173) .nil) (some Tryz.t109) (.node .nil
  (some Tryz.t237) .nil))) (some Tryz.t29) (.node (.node (.node (.node .nil (some Tryz.t285) .nil) (some Tryz.t157) .nil) (some Tryz.t93) (.node .nil (some Tryz.t221) .nil)) (some Tryz.t61) (.node (.node .nil (some Tryz.t189) .nil) (some
  Tryz.t125) (.node .nil (some Tryz.t253) .nil))))))) (some Tryz.t0) (.node (.node (.node (.node (.node (.node (.node (.node .nil (some Tryz.t256) .nil) (some Tryz.t128) .nil) (some Tryz.t64) (.node .nil (some Tryz.t192) .nil)) (some
  Tryz.t32) (.node (.node (.node .nil (some Tryz.t288) .nil) (some Tryz.t160) .nil) (some Tryz.t96) (.node .nil (some Tryz.t224) .nil))) (some Tryz.t16) (.node (.node (.node (.node .nil (some Tryz.t272) .nil) (some Tryz.t144) .nil) (some
  Tryz.t80) (.node .nil (some Tryz.t208) .nil)) (some Tryz.t48) (.node (.node .nil (some Tryz.t176) .nil) (some Tryz.t112) (.node .nil (some Tryz.t240) .nil)))) (some Tryz.t8) (.node (.node (.node (.node (.node .nil (some Tryz.t264) .nil)
  (some Tryz.t136) .nil) (some Tryz.t72) (.node .nil (some Tryz.t200) .nil)) (some Tryz.t40) (.node (.node .nil (some Tryz.t168) .nil) (some Tryz.t104) (.node .nil (some Tryz.t232) .nil))) (some Tryz.t24) (.node (.node (.node (.node .nil
  (some Tryz.t280) .nil) (some Tryz.t152) .nil) (some Tryz.t88) (.node .nil (some Tryz.t216) .nil)) (some Tryz.t56) (.node (.node .nil (some Tryz.t184) .nil) (some Tryz.t120) (.node .nil (some Tryz.t248) .nil))))) (some Tryz.t4) (.node
  (.node (.node (.node (.node (.node .nil (some Tryz.t260) .nil) (some Tryz.t132) .nil) (some Tryz.t68) (.node .nil (some Tryz.t196) .nil)) (some Tryz.t36) (.node (.node .nil (some Tryz.t164) .nil) (some Tryz.t100) (.node .nil (some
  Tryz.t228) .nil))) (some Tryz.t20) (.node (.node (.node (.node .nil (some Tryz.t276) .nil) (some Tryz.t148) .nil) (some Tryz.t84) (.node .nil (some Tryz.t212) .nil)) (some Tryz.t52) (.node (.node .nil (some Tryz.t180) .nil) (some
  Tryz.t116) (.node .nil (some Tryz.t244) .nil)))) (some Tryz.t12) (.node (.node (.node (.node (.node .nil (some Tryz.t268) .nil) (some Tryz.t140) .nil) (some Tryz.t76) (.node .nil (some Tryz.t204) .nil)) (some Tryz.t44) (.node (.node .nil
  (some Tryz.t172) .nil) (some Tryz.t108) (.node .nil (some Tryz.t236) .nil))) (some Tryz.t28) (.node (.node (.node (.node .nil (some Tryz.t284) .nil) (some Tryz.t156) .nil) (some Tryz.t92) (.node .nil (some Tryz.t220) .nil)) (some Tryz.t60)
  (.node (.node .nil (some Tryz.t188) .nil) (some Tryz.t124) (.node .nil (some Tryz.t252) .nil)))))) (some Tryz.t2) (.node (.node (.node (.node (.node (.node (.node .nil (some Tryz.t258) .nil) (some Tryz.t130) .nil) (some Tryz.t66) (.node
  .nil (some Tryz.t194) .nil)) (some Tryz.t34) (.node (.node .nil (some Tryz.t162) .nil) (some Tryz.t98) (.node .nil (some Tryz.t226) .nil))) (some Tryz.t18) (.node (.node (.node (.node .nil (some Tryz.t274) .nil) (some Tryz.t146) .nil)
  (some Tryz.t82) (.node .nil (some Tryz.t210) .nil)) (some Tryz.t50) (.node (.node .nil (some Tryz.t178) .nil) (some Tryz.t114) (.node .nil (some Tryz.t242) .nil)))) (some Tryz.t10) (.node (.node (.node (.node (.node .nil (some Tryz.t266)
  .nil) (some Tryz.t138) .nil) (some Tryz.t74) (.node .nil (some Tryz.t202) .nil)) (some Tryz.t42) (.node (.node .nil (some Tryz.t170) .nil) (some Tryz.t106) (.node .nil (some Tryz.t234) .nil))) (some Tryz.t26) (.node (.node (.node (.node
  .nil (some Tryz.t282) .nil) (some Tryz.t154) .nil) (some Tryz.t90) (.node .nil (some Tryz.t218) .nil)) (some Tryz.t58) (.node (.node .nil (some Tryz.t186) .nil) (some Tryz.t122) (.node .nil (some Tryz.t250) .nil))))) (some Tryz.t6) (.node
  (.node (.node (.node (.node (.node .nil (some Tryz.t262) .nil) (some Tryz.t134) .nil) (some Tryz.t70) (.node .nil (some Tryz.t198) .nil)) (some Tryz.t38) (.node (.node .nil (some Tryz.t166) .nil) (some Tryz.t102) (.node .nil (some
  Tryz.t230) .nil))) (some Tryz.t22) (.node (.node (.node (.node .nil (some Tryz.t278) .nil) (some Tryz.t150) .nil) (some Tryz.t86) (.node .nil (some Tryz.t214) .nil)) (some Tryz.t54) (.node (.node .nil (some Tryz.t182) .nil) (some
  Tryz.t118) (.node .nil (some Tryz.t246) .nil)))) (some Tryz.t14) (.node (.node (.node (.node (.node .nil (some Tryz.t270) .nil) (some Tryz.t142) .nil) (some Tryz.t78) (.node .nil (some Tryz.t206) .nil)) (some Tryz.t46) (.node (.node .nil
  (some Tryz.t174) .nil) (some Tryz.t110) (.node .nil (some Tryz.t238) .nil))) (some Tryz.t30) (.node (.node (.node (.node .nil (some Tryz.t286) .nil) (some Tryz.t158) .nil) (some Tryz.t94) (.node .nil (some Tryz.t222) .nil)) (some Tryz.t62)
  (.node (.node .nil (some Tryz.t190) .nil) (some Tryz.t126) (.node .nil (some Tryz.t254) .nil))))))))
noncomputable def unT : PT TypeDesc := (.node (.node (.node (.node (.node (.node (.node (.node (.node .nil (some Tryz.t255.desc) .nil) (some Tryz.t127.desc) .nil) (some Tryz.t63.desc) (.node .nil (some Tryz.t191.desc) .nil)) (some
  Tryz.t31.desc) (.node (.node (.node .nil (some Tryz.t286.desc) .nil) (some Tryz.t159.desc) .nil) (some Tryz.t95.desc) (.node .nil (some Tryz.t223.desc) .nil))) (some Tryz.t15.desc) (.node (.node (.node (.node .nil (some Tryz.t271.desc)
  .nil) (some Tryz.t142.desc) .nil) (some Tryz.t78.desc) (.node .nil (some Tryz.t207.desc) .nil)) (some Tryz.t47.desc) (.node (.node .nil (some Tryz.t175.desc) .nil) (some Tryz.t110.desc) (.node .nil (some Tryz.t239.desc) .nil)))) (some
  Tryz.t7.desc) (.node (.node (.node (.node (.node .nil (some Tryz.t263.desc) .nil) (some Tryz.t135.desc) .nil) (some Tryz.t71.desc) (.node .nil (some Tryz.t199.desc) .nil)) (some Tryz.t38.desc) (.node (.node .nil (some Tryz.t167.desc) .nil)
  (some Tryz.t103.desc) (.node .nil (some Tryz.t231.desc) .nil))) (some Tryz.t23.desc) (.node (.node (.node (.node .nil (some Tryz.t279.desc) .nil) (some Tryz.t150.desc) .nil) (some Tryz.t87.desc) (.node .nil (some Tryz.t214.desc) .nil))
  (some Tryz.t55.desc) (.node (.node .nil (some Tryz.t183.desc) .nil) (some Tryz.t119.desc) (.node .nil (some Tryz.t247.desc) .nil))))) (some Tryz.t3.desc) (.node (.node (.node (.node (.node (.node .nil (some Tryz.t259.desc) .nil) (some
  Tryz.t130.desc) .nil) (some Tryz.t67.desc) (.node .nil (some Tryz.t195.desc) .nil)) (some Tryz.t34.desc) (.node (.node .nil (some Tryz.t163.desc) .nil) (some Tryz.t27.desc) (.node .nil (some Tryz.t227.desc) .nil))) (some Tryz.t18.desc)
  (.node (.node (.node (.node .nil (some Tryz.t274.desc) .nil) (some Tryz.t147.desc) .nil) (some Tryz.t83.desc) (.node .nil (some Tryz.t211.desc) .nil)) (some Tryz.t51.desc) (.node (.node .nil (some Tryz.t179.desc) .nil) (some
  Tryz.t115.desc) (.node .nil (some Tryz.t243.desc) .nil)))) (some Tryz.t9.desc) (.node (.node (.node (.node (.node .nil (some Tryz.t267.desc) .nil) (some Tryz.t138.desc) .nil) (some Tryz.t75.desc) (.node .nil (some Tryz.t203.desc) .nil))
  (some Tryz.t43.desc) (.node (.node .nil (some Tryz.t171.desc) .nil) (some Tryz.t107.desc) (.node .nil (some Tryz.t235.desc) .nil))) (some Tryz.t27.desc) (.node (.node (.node (.node .nil (some Tryz.t283.desc) .nil) (some Tryz.t155.desc)
  .nil) (some Tryz.t91.desc) (.node .nil (some Tryz.t219.desc) .nil)) (some Tryz.t59.desc) (.node (.node .nil (some Tryz.t187.desc) .nil) (some Tryz.t123.desc) (.node .nil (some Tryz.t251.desc) .nil)))))) (some Tryz.t1.desc) (.node (.node
  (.node (.node (.node (.node (.node .nil (some Tryz.t257.desc) .nil) (some Tryz.t129.desc) .nil) (some Tryz.t65.desc) (.node .nil (some Tryz.t193.desc) .nil)) (some Tryz.t33.desc) (.node (.node .nil (some Tryz.t161.desc) .nil) (some
  Tryz.t96.desc) (.node .nil (some Tryz.t225.desc) .nil))) (some Tryz.t17.desc) (.node (.node (.node (.node .nil (some Tryz.t273.desc) .nil) (some Tryz.t145.desc) .nil) (some Tryz.t81.desc) (.node .nil (some Tryz.t209.desc) .nil)) (some
  Tryz.t49.desc) (.node (.node .nil (some Tryz.t177.desc) .nil) (some Tryz.t113.desc) (.node .nil (some Tryz.t241.desc) .nil)))) (some Tryz.t9.desc) (.node (.node (.node (.node (.node .nil (some Tryz.t265.desc) .nil) (some Tryz.t137.desc)
  .nil) (some Tryz.t73.desc) (.node .nil (some Tryz.t201.desc) .nil)) (some Tryz.t41.desc) (.node (.node .nil (some Tryz.t169.desc) .nil) (some Tryz.t105.desc) (.node .nil (some Tryz.t233.desc) .nil))) (some Tryz.t25.desc) (.node (.node
  (.node (.node .nil (some Tryz.t5.desc) .nil) (some Tryz.t153.desc) .nil) (some Tryz.t89.desc) (.node .nil (some Tryz.t217.desc) .nil)) (some Tryz.t57.desc) (.node (.node .nil (some Tryz.t185.desc) .nil) (some Tryz.t121.desc) (.node .nil
  (some Tryz.t249.desc) .nil))))) (some Tryz.t5.desc) (.node (.node (.node (.node (.node (.node .nil (some Tryz.t261.desc) .nil) (some Tryz.t133.desc) .nil) (some Tryz.t69.desc) (.node .nil (some Tryz.t197.desc) .nil)) (some Tryz.t37.desc)
  (.node (.node .nil (some Tryz.t165.desc) .nil) (some Tryz.t101.desc) (.node .nil (some Tryz.t229.desc) .nil))) (some Tryz.t21.desc) (.node (.node (.node (.node .nil (some Tryz.t276.desc) .nil) (some Tryz.t149.desc) .nil) (some
  Tryz.t85.desc) (.node .nil (some Tryz.t213.desc) .nil)) (some Tryz.t53.desc) (.node (.node .nil (some Tryz.t181.desc) .nil) (some Tryz.t117.desc) (.node .nil (some Tryz.t245.desc) .nil)))) (some Tryz.t13.desc) (.node (.node (.node (.node
  (.node .nil (some Tryz.t269.desc) .nil) (some Tryz.t141.desc) .nil) (some Tryz.t77.desc) (.node .nil (some Tryz.t205.desc) .nil)) (some Tryz.t45.desc) (.node (.node .nil (some Tryz.t173.desc) .nil) (some Tryz.t108.desc) (.node .nil (some
  Tryz.t236.desc) .nil))) (some Tryz.t29.desc) (.node (.node (.node (.node .nil (some Tryz.t21.desc) .nil) (some Tryz.t157.desc) .nil) (some Tryz.t93.desc) (.node .nil (some Tryz.t221.desc) .nil)) (some Tryz.t61.desc) (.node (.node .nil
  (some Tryz.t189.desc) .nil) (some Tryz.t124.desc) (.node .nil (some Tryz.t253.desc) .nil))))))) (some Tryz.t0.desc) (.node (.node (.node (.node (.node (.node (.node (.node .nil (some Tryz.t3.desc) .nil) (some Tryz.t128.desc) .nil) (some
  Tryz.t64.desc) (.node .nil (some Tryz.t192.desc) .nil)) (some Tryz.t32.desc) (.node (.node (.node .nil (some Tryz.t288.desc) .nil) (some Tryz.t108.desc) .nil) (some Tryz.t96.desc) (.node .nil (some Tryz.t223.desc) .nil))) (some
  Tryz.t16.desc) (.node (.node (.node (.node .nil (some Tryz.t272.desc) .nil) (some Tryz.t144.desc) .nil) (some Tryz.t80.desc) (.node .nil (some Tryz.t208.desc) .nil)) (some Tryz.t48.desc) (.node (.node .nil (some Tryz.t176.desc) .nil) (some
  Tryz.t112.desc) (.node .nil (some Tryz.t239.desc) .nil)))) (some Tryz.t7.desc) (.node (.node (.node (.node (.node .nil (some Tryz.t263.desc) .nil) (some Tryz.t136.desc) .nil) (some Tryz.t72.desc) (.node .nil (some Tryz.t200.desc) .nil))
  (some Tryz.t40.desc) (.node (.node .nil (some Tryz.t168.desc) .nil) (some Tryz.t103.desc) (.node .nil (some Tryz.t232.desc) .nil))) (some Tryz.t24.desc) (.node (.node (.node (.node .nil (some Tryz.t279.desc) .nil) (some Tryz.t152.desc)
  .nil) (some Tryz.t88.desc) (.node .nil (some Tryz.t216.desc) .nil)) (some Tryz.t56.desc) (.node (.node .nil (some Tryz.t184.desc) .nil) (some Tryz.t120.desc) (.node .nil (some Tryz.t248.desc) .nil))))) (some Tryz.t4.desc) (.node (.node
  (.node (.node (.node (.node .nil (some Tryz.t260.desc) .nil) (some Tryz.t132.desc) .nil) (some Tryz.t68.desc) (.node .nil (some Tryz.t196.desc) .nil)) (some Tryz.t36.desc) (.node (.node .nil (some Tryz.t164.desc) .nil) (some
  Tryz.t100.desc) (.node .nil (some Tryz.t228.desc) .nil))) (some Tryz.t20.desc) (.node (.node (.node (.node .nil (some Tryz.t276.desc) .nil) (some Tryz.t148.desc) .nil) (some Tryz.t84.desc) (.node .nil (some Tryz.t212.desc) .nil)) (some
  Tryz.t51.desc) (.node (.node .nil (some Tryz.t180.desc) .nil) (some Tryz.t116.desc) (.node .nil (some Tryz.t244.desc) .nil)))) (some Tryz.t12.desc) (.node (.node (.node (.node (.node .nil (some Tryz.t268.desc) .nil) (some Tryz.t140.desc)
  .nil) (some Tryz.t76.desc) (.node .nil (some Tryz.t203.desc) .nil)) (some Tryz.t44.desc) (.node (.node .nil (some Tryz.t172.desc) .nil) (some Tryz.t108.desc) (.node .nil (some Tryz.t236.desc) .nil))) (some Tryz.t3.desc) (.node (.node
  (.node (.node .nil (some Tryz.t21.desc) .nil) (some Tryz.t156.desc) .nil) (some Tryz.t92.desc) (.node .nil (some Tryz.t220.desc) .nil)) (some Tryz.t60.desc) (.node (.node .nil (some Tryz.t188.desc) .nil) (some Tryz.t124.desc) (.node .nil
  (some Tryz.t252.desc) .nil)))))) (some Tryz.t2.desc) (.node (.node (.node (.node (.node (.node (.node .nil (some Tryz.t258.desc) .nil) (some Tryz.t130.desc) .nil) (some Tryz.t66.desc) (.node .nil (some Tryz.t194.desc) .nil)) (some
  Tryz.t34.desc) (.node (.node .nil (some Tryz.t161.desc) .nil) (some Tryz.t98.desc) (.node .nil (some Tryz.t226.desc) .nil))) (some Tryz.t18.desc) (.node (.node (.node (.node .nil (some Tryz.t274.desc) .nil) (some Tryz.t146.desc) .nil)
  (some Tryz.t81.desc) (.node .nil (some Tryz.t210.desc) .nil)) (some Tryz.t50.desc) (.node (.node .nil (some Tryz.t178.desc) .nil) (some Tryz.t114.desc) (.node .nil (some Tryz.t242.desc) .nil)))) (some Tryz.t9.desc) (.node (.node (.node
  (.node (.node .nil (some Tryz.t266.desc) .nil) (some Tryz.t138.desc) .nil) (some Tryz.t74.desc) (.node .nil (some Tryz.t202.desc) .nil)) (some Tryz.t42.desc) (.node (.node .nil (some Tryz.t170.desc) .nil) (some Tryz.t106.desc) (.node .nil
  (some Tryz.t233.desc) .nil))) (some Tryz.t25.desc) (.node (.node (.node (.node .nil (some Tryz.t5.desc) .nil) (some Tryz.t124.desc) .nil) (some Tryz.t90.desc) (.node .nil (some Tryz.t218.desc) .nil)) (some Tryz.t58.desc) (.node (.node .nil
  (some Tryz.t186.desc) .nil) (some Tryz.t122.desc) (.node .nil (some Tryz.t250.desc) .nil))))) (some Tryz.t5.desc) (.node (.node (.node (.node (.node (.node .nil (some Tryz.t262.desc) .nil) (some Tryz.t134.desc) .nil) (some Tryz.t70.desc)
  (.node .nil (some Tryz.t198.desc) .nil)) (some Tryz.t38.desc) (.node (.node .nil (some Tryz.t166.desc) .nil) (some Tryz.t102.desc) (.node .nil (some Tryz.t230.desc) .nil))) (some Tryz.t22.desc) (.node (.node (.node (.node .nil (some
  Tryz.t278.desc) .nil) (some Tryz.t150.desc) .nil) (some Tryz.t86.desc) (.node .nil (some Tryz.t214.desc) .nil)) (some Tryz.t54.desc) (.node (.node .nil (some Tryz.t182.desc) .nil) (some Tryz.t118.desc) (.node .nil (some Tryz.t246.desc)
  .nil)))) (some Tryz.t13.desc) (.node (.node (.node (.node (.node .nil (some Tryz.t269.desc) .nil) (some Tryz.t142.desc) .nil) (some Tryz.t78.desc) (.node .nil (some Tryz.t206.desc) .nil)) (some Tryz.t46.desc) (.node (.node .nil (some
  Tryz.t174.desc) .nil) (some Tryz.t110.desc) (.node .nil (some Tryz.t238.desc) .nil))) (some Tryz.t30.desc) (.node (.node (.node (.node .nil (some Tryz.t286.desc) .nil) (some Tryz.t157.desc) .nil) (some Tryz.t93.desc) (.node .nil (some
  Tryz.t222.desc) .nil)) (some Tryz.t62.desc) (.node (.node .nil (some Tryz.t190.desc) .nil) (some Tryz.t126.desc) (.node .nil (some Tryz.t254.desc) .nil))))))))
noncomputable def fnT : PT (FuncId × Func) := (.node (.node (.node (.node (.node (.node (.node (.node .nil (some (127, Tryz.f127)) .nil) (some (63, Tryz.f63)) .nil) (some (31, Tryz.f31)) (.node .nil (some (95, Tryz.f95)) .nil)) (some (15,
  Tryz.f15)) (.node (.node (.node .nil (some (143, Tryz.f143)) .nil) (some (79, Tryz.f79)) .nil) (some (47, Tryz.f47)) (.node (.node .nil (some (175, Tryz.f175)) .nil) (some (111, Tryz.f111)) .nil))) (some (7, Tryz.f7)) (.node (.node (.node
  (.node .nil (some (135, Tryz.f135)) .nil) (some (71, Tryz.f71)) .nil) (some (39, Tryz.f39)) (.node (.node .nil (some (167, Tryz.f167)) .nil) (some (103, Tryz.f103)) .nil)) (some (23, Tryz.f23)) (.node (.node (.node .nil (some (151,
  Tryz.f151)) .nil) (some (87, Tryz.f87)) .nil) (some (55, Tryz.f55)) (.node (.node .nil (some (183, Tryz.f183)) .nil) (some (119, Tryz.f119)) .nil)))) (some (3, Tryz.f3)) (.node (.node (.node (.node (.node .nil (some (131, Tryz.f131)) .nil)
  (some (67, Tryz.f67)) .nil) (some (35, Tryz.f35)) (.node (.node .nil (some (163, Tryz.f163)) .nil) (some (99, Tryz.f99)) .nil)) (some (19, Tryz.f19)) (.node (.node (.node .nil (some (147, Tryz.f147)) .nil) (some (83, Tryz.f83)) .nil) (some
  (51, Tryz.f51)) (.node (.node .nil (some (179, Tryz.f179)) .nil) (some (115, Tryz.f115)) .nil))) (some (11, Tryz.f11)) (.node (.node (.node (.node .nil (some (139, Tryz.f139)) .nil) (some (75, Tryz.f75)) .nil) (some (43, Tryz.f43)) (.node
  (.node .nil (some (171, Tryz.f171)) .nil) (some (107, Tryz.f107)) .nil)) (some (27, Tryz.f27)) (.node (.node (.node .nil (some (155, Tryz.f155)) .nil) (some (91, Tryz.f91)) (.node .nil (some (219, Tryz.f219)) .nil)) (some (59, Tryz.f59))
  (.node .nil (some (123, Tryz.f123)) .nil))))) none (.node (.node (.node (.node (.node (.node .nil (some (129, Tryz.f129)) .nil) (some (65, Tryz.f65)) .nil) (some (33, Tryz.f33)) (.node (.node .nil (some (161, Tryz.f161)) .nil) (some (97,
  Tryz.f97)) .nil)) (some (17, Tryz.f17)) (.node (.node (.node .nil (some (145, Tryz.f145)) .nil) (some (81, Tryz.f81)) .nil) (some (49, Tryz.f49)) (.node (.node .nil (some (177, Tryz.f177)) .nil) (some (113, Tryz.f113)) .nil))) (some (9,
  Tryz.f9)) (.node (.node (.node (.node .nil (some (137, Tryz.f137)) .nil) (some (73, Tryz.f73)) .nil) (some (41, Tryz.f41)) (.node (.node .nil (some (169, Tryz.f169)) .nil) (some (105, Tryz.f105)) .nil)) (some (25, Tryz.f25)) (.node (.node
  (.node .nil (some (153, Tryz.f153)) .nil) (some (89, Tryz.f89)) .nil) (some (57, Tryz.f57)) (.node .nil (some (121, Tryz.f121)) .nil)))) (some (5, Tryz.f5)) (.node (.node (.node (.node (.node .nil (some (133, Tryz.f133)) .nil) (some (69,
  Tryz.f69)) .nil) (some (37, Tryz.f37)) (.node (.node .nil (some (165, Tryz.f165)) .nil) (some (101, Tryz.f101)) .nil)) (some (21, Tryz.f21)) (.node (.node (.node .nil (some (149, Tryz.f149)) .nil) (some (85, Tryz.f85)) .nil) (some (53,
  Tryz.f53)) (.node (.node .nil (some (181, Tryz.f181)) .nil) (some (117, Tryz.f117)) .nil))) (some (13, Tryz.f13)) (.node (.node (.node (.node .nil (some (141, Tryz.f141)) .nil) (some (77, Tryz.f77)) .nil) (some (45, Tryz.f45)) (.node
  (.node .nil (some (173, Tryz.f173)) .nil) (some (109, Tryz.f109)) .nil)) (some (29, Tryz.f29)) (.node (.node (.node .nil (some (157, Tryz.f157)) .nil) (some (93, Tryz.f93)) .nil) (some (61, Tryz.f61)) (.node .nil (some (125, Tryz.f125))
  .nil)))))) none (.node (.node (.node (.node (.node (.node (.node .nil (some (128, Tryz.f128)) .nil) (some (64, Tryz.f64)) .nil) (some (32, Tryz.f32)) (.node (.node .nil (some (160, Tryz.f160)) .nil) (some (96, Tryz.f96)) .nil)) (some (16,
  Tryz.f16)) (.node (.node (.node .nil (some (144, Tryz.f144)) .nil) (some (80, Tryz.f80)) .nil) (some (48, Tryz.f48)) (.node (.node .nil (some (176, Tryz.f176)) .nil) (some (112, Tryz.f112)) .nil))) (some (8, Tryz.f8)) (.node (.node (.node
  (.node .nil (some (136, Tryz.f136)) .nil) (some (72, Tryz.f72)) .nil) (some (40, Tryz.f40)) (.node (.node .nil (some (168, Tryz.f168)) .nil) (some (104, Tryz.f104)) .nil)) (some (24, Tryz.f24)) (.node (.node (.node .nil (some (152,
  Tryz.f152)) .nil) (some (88, Tryz.f88)) .nil) (some (56, Tryz.f56)) (.node .nil (some (120, Tryz.f120)) .nil)))) (some (4, Tryz.f4)) (.node (.node (.node (.node (.node .nil (some (132, Tryz.f132)) .nil) (some (68, Tryz.f68)) .nil) (some
  (36, Tryz.f36)) (.node .nil (some (100, Tryz.f100)) .nil)) (some (20, Tryz.f20)) (.node (.node (.node .nil (some (148, Tryz.f148)) .nil) (some (84, Tryz.f84)) .nil) (some (52, Tryz.f52)) (.node (.node .nil (some (180, Tryz.f180)) .nil)
  (some (116, Tryz.f116)) .nil))) (some (12, Tryz.f12)) (.node (.node (.node (.node .nil (some (140, Tryz.f140)) .nil) (some (76, Tryz.f76)) .nil) (some (44, Tryz.f44)) (.node (.node .nil (some (172, Tryz.f172)) .nil) (some (108, Tryz.f108))
  .nil)) (some (28, Tryz.f28)) (.node (.node (.node .nil (some (156, Tryz.f156)) .nil) (some (92, Tryz.f92)) .nil) (some (60, Tryz.f60)) (.node .nil (some (124, Tryz.f124)) .nil))))) (some (2, Tryz.f2)) (.node (.node (.node (.node (.node
  (.node .nil (some (130, Tryz.f130)) .nil) (some (66, Tryz.f66)) .nil) (some (34, Tryz.f34)) (.node (.node .nil (some (162, Tryz.f162)) .nil) (some (98, Tryz.f98)) .nil)) (some (18, Tryz.f18)) (.node (.node (.node .nil (some (146,
  Tryz.f146)) .nil) (some (82, Tryz.f82)) .nil) (some (50, Tryz.f50)) (.node (.node .nil (some (178, Tryz.f178)) .nil) (some (114, Tryz.f114)) .nil))) (some (10, Tryz.f10)) (.node (.node (.node (.node .nil (some (138, Tryz.f138)) .nil) (some
  (74, Tryz.f74)) .nil) (some (42, Tryz.f42)) (.node .nil (some (106, Tryz.f106)) .nil)) (some (26, Tryz.f26)) (.node (.node (.node .nil (some (154, Tryz.f154)) .nil) (some (90, Tryz.f90)) .nil) (some (58, Tryz.f58)) (.node .nil (some (122,
  Tryz.f122)) .nil)))) (some (6, Tryz.f6)) (.node (.node (.node (.node (.node .nil (some (134, Tryz.f134)) .nil) (some (70, Tryz.f70)) .nil) (some (38, Tryz.f38)) (.node (.node .nil (some (166, Tryz.f166)) .nil) (some (102, Tryz.f102))
  .nil)) (some (22, Tryz.f22)) (.node (.node (.node .nil (some (150, Tryz.f150)) .nil) (some (86, Tryz.f86)) .nil) (some (54, Tryz.f54)) (.node (.node .nil (some (182, Tryz.f182)) .nil) (some (118, Tryz.f118)) .nil))) (some (14, Tryz.f14))
  (.node (.node (.node (.node .nil (some (142, Tryz.f142)) .nil) (some (78, Tryz.f78)) .nil) (some (46, Tryz.f46)) (.node (.node .nil (some (174, Tryz.f174)) .nil) (some (110, Tryz.f110)) .nil)) (some (30, Tryz.f30)) (.node (.node (.node
  .nil (some (158, Tryz.f158)) .nil) (some (94, Tryz.f94)) .nil) (some (62, Tryz.f62)) (.node .nil (some (126, Tryz.f126)) .nil)))))))
theorem tyT_ok : tyT.All (InfP Tryz.prog) (fun k => k) := (PT.all_node (infAt (by kernel_rfl)) (PT.all_node (infAt (by kernel_rfl)) (PT.all_node (infAt (by kernel_rfl)) (PT.all_node (infAt (by kernel_rfl)) (PT.all_node (infAt (by
  kernel_rfl)) (PT.all_node (infAt (by kernel_rfl)) (PT.all_node (infAt (by kernel_rfl)) (PT.all_node (infAt (by kernel_rfl)) (PT.all_node (infAt (by kernel_rfl)) PT.all_nil PT.all_nil) PT.all_nil) (PT.all_node (infAt (by kernel_rfl))
  PT.all_nil PT.all_nil)) (PT.all_node (infAt (by kernel_rfl)) (PT.all_node (infAt (by kernel_rfl)) (PT.all_node (infAt (by kernel_rfl)) PT.all_nil PT.all_nil) PT.all_nil) (PT.all_node (infAt (by kernel_rfl)) PT.all_nil PT.all_nil)))
  (PT.all_node (infAt (by kernel_rfl)) (PT.all_node (infAt (by kernel_rfl)) (PT.all_node (infAt (by kernel_rfl)) (PT.all_node (infAt (by kernel_rfl)) PT.all_nil PT.all_nil) PT.all_nil) (PT.all_node (infAt (by kernel_rfl)) PT.all_nil
  PT.all_nil)) (PT.all_node (infAt (by kernel_rfl)) (PT.all_node (infAt (by kernel_rfl)) PT.all_nil PT.all_nil) (PT.all_node (infAt (by kernel_rfl)) PT.all_nil PT.all_nil)))) (PT.all_node (infAt (by kernel_rfl)) (PT.all_node (infAt (by
  kernel_rfl)) (PT.all_node (infAt (by kernel_rfl)) (PT.all_node (infAt (by kernel_rfl)) (PT.all_node (infAt (by kernel_rfl)) PT.all_nil PT.all_nil) PT.all_nil) (PT.all_node (infAt (by kernel_rfl)) PT.all_nil PT.all_nil)) (PT.all_node (infAt
  (by kernel_rfl)) (PT.all_node (infAt (by kernel_rfl)) PT.all_nil PT.all_nil) (PT.all_node (infAt (by kernel_rfl)) PT.all_nil PT.all_nil))) (PT.all_node (infAt (by kernel_rfl)) (PT.all_node (infAt (by kernel_rfl)) (PT.all_node (infAt (by
  kernel_rfl)) (PT.all_node (infAt (by kernel_rfl)) PT.all_nil PT.all_nil) PT.all_nil) (PT.all_node (infAt (by kernel_rfl)) PT.all_nil PT.all_nil)) (PT.all_node (infAt (by kernel_rfl)) (PT.all_node (infAt (by kernel_rfl)) PT.all_nil
  PT.all_nil) (PT.all_node (infAt (by kernel_rfl)) PT.all_nil PT.all_nil))))) (PT.all_node (infAt (by kernel_rfl)) (PT.all_node (infAt (by kernel_rfl)) (PT.all_node (infAt (by kernel_rfl)) (PT.all_node (infAt (by kernel_rfl)) (PT.all_node
  (infAt (by kernel_rfl)) (PT.all_node (infAt (by kernel_rfl)) PT.all_nil PT.all_nil) PT.all_nil) (PT.all_node (infAt (by kernel_rfl)) PT.all_nil PT.all_nil)) (PT.all_node (infAt (by kernel_rfl)) (PT.all_node (infAt (by kernel_rfl))
  PT.all_nil PT.all_nil) (PT.all_node (infAt (by kernel_rfl)) PT.all_nil PT.all_nil))) (PT.all_node (infAt (by kernel_rfl)) (PT.all_node (infAt (by kernel_rfl)) (PT.all_node (infAt (by kernel_rfl)) (PT.all_node (infAt (by kernel_rfl))
  PT.all_nil PT.all_nil) PT.all_nil) (PT.all_node (infAt (by kernel_rfl)) PT.all_nil PT.all_nil)) (PT.all_node (infAt (by kernel_rfl)) (PT.all_node (infAt (by kernel_rfl)) PT.all_nil PT.all_nil) (PT.all_node (infAt (by kernel_rfl))
  PT.all_nil PT.all_nil)))) (PT.all_node (infAt (by kernel_rfl)) (PT.all_node (infAt (by kernel_rfl)) (PT.all_node (infAt (by kernel_rfl)) (PT.all_node (infAt (by kernel_rfl)) (PT.all_node (infAt (by kernel_rfl)) PT.all_nil PT.all_nil)
  PT.all_nil) (PT.all_node (infAt (by kernel_rfl)) PT.all_nil PT.all_nil)) (PT.all_node (infAt (by kernel_rfl)) (PT.all_node (infAt (by kernel_rfl)) PT.all_nil PT.all_nil) (PT.all_node (infAt (by kernel_rfl)) PT.all_nil PT.all_nil)))
  (PT.all_node (infAt (by kernel_rfl)) (PT.all_node (infAt (by kernel_rfl)) (PT.all_node (infAt (by kernel_rfl)) (PT.all_node (infAt (by kernel_rfl)) PT.all_nil PT.all_nil) PT.all_nil) (PT.all_node (infAt (by kernel_rfl)) PT.all_nil
  PT.all_nil)) (PT.all_node (infAt (by kernel_rfl)) (PT.all_node (infAt (by kernel_rfl)) PT.all_nil PT.all_nil) (PT.all_node (infAt (by kernel_rfl)) PT.all_nil PT.all_nil)))))) (PT.all_node (infAt (by kernel_rfl)) (PT.all_node (infAt (by
  kernel_rfl)) (PT.all_node (infAt (by kernel_rfl)) (PT.all_node (infAt (by kernel_rfl)) (PT.all_node (infAt (by kernel_rfl)) (PT.all_node (infAt (by kernel_rfl)) (PT.all_node (infAt (by kernel_rfl)) PT.all_nil PT.all_nil) PT.all_nil)
  (PT.all_node (infAt (by kernel_rfl)) PT.all_nil PT.all_nil)) (PT.all_node (infAt (by kernel_rfl)) (PT.all_node (infAt (by kernel_rfl)) PT.all_nil PT.all_nil) (PT.all_node (infAt (by kernel_rfl)) PT.all_nil PT.all_nil))) (PT.all_node (infAt
  (by kernel_rfl)) (PT.all_node (infAt (by kernel_rfl)) (PT.all_node (infAt (by kernel_rfl)) (PT.all_node (infAt (by kernel_rfl)) PT.all_nil PT.all_nil) PT.all_nil) (PT.all_node (infAt (by kernel_rfl)) PT.all_nil PT.all_nil)) (PT.all_node
  (infAt (by kernel_rfl)) (PT.all_node (infAt (by kernel_rfl)) PT.all_nil PT.all_nil) (PT.all_node (infAt (by kernel_rfl)) PT.all_nil PT.all_nil)))) (PT.all_node (infAt (by kernel_rfl)) (PT.all_node (infAt (by kernel_rfl)) (PT.all_node
  (infAt (by kernel_rfl)) (PT.all_node (infAt (by kernel_rfl)) (PT.all_node (infAt (by kernel_rfl)) PT.all_nil PT.all_nil) PT.all_nil) (PT.all_node (infAt (by kernel_rfl)) PT.all_nil PT.all_nil)) (PT.all_node (infAt (by kernel_rfl))
  (PT.all_node (infAt (by kernel_rfl)) PT.all_nil PT.all_nil) (PT.all_node (infAt (by kernel_rfl)) PT.all_nil PT.all_nil))) (PT.all_node (infAt (by kernel_rfl)) (PT.all_node (infAt (by kernel_rfl)) (PT.all_node (infAt (by kernel_rfl))
  (PT.all_node (infAt (by kernel_rfl)) PT.all_nil PT.all_nil) PT.all_nil) (PT.all_node (infAt (by kernel_rfl)) PT.all_nil PT.all_nil)) (PT.all_node (infAt (by kernel_rfl)) (PT.all_node (infAt (by kernel_rfl)) PT.all_nil PT.all_nil)
  (PT.all_node (infAt (by kernel_rfl)) PT.all_nil PT.all_nil))))) (PT.all_node (infAt (by kernel_rfl)) (PT.all_node (infAt (by kernel_rfl)) (PT.all_node (infAt (by kernel_rfl)) (PT.all_node (infAt (by kernel_rfl)) (PT.all_node (infAt (by
  kernel_rfl)) (PT.all_node (infAt (by kernel_rfl)) PT.all_nil PT.all_nil) PT.all_nil) (PT.all_node (infAt (by kernel_rfl)) PT.all_nil PT.all_nil)) (PT.all_node (infAt (by kernel_rfl)) (PT.all_node (infAt (by kernel_rfl)) PT.all_nil
  PT.all_nil) (PT.all_node (infAt (by kernel_rfl)) PT.all_nil PT.all_nil))) (PT.all_node (infAt (by kernel_rfl)) (PT.all_node (infAt (by kernel_rfl)) (PT.all_node (infAt (by kernel_rfl)) (PT.all_node (infAt (by kernel_rfl)) PT.all_nil
  PT.all_nil) PT.all_nil) (PT.all_node (infAt (by kernel_rfl)) PT.all_nil PT.all_nil)) (PT.all_node (infAt (by kernel_rfl)) (PT.all_node (infAt (by kernel_rfl)) PT.all_nil PT.all_nil) (PT.all_node (infAt (by kernel_rfl)) PT.all_nil
  PT.all_nil)))) (PT.all_node (infAt (by kernel_rfl)) (PT.all_node (infAt (by kernel_rfl)) (PT.all_node (infAt (by kernel_rfl)) (PT.all_node (infAt (by kernel_rfl)) (PT.all_node (infAt (by kernel_rfl)) PT.all_nil PT.all_nil) PT.all_nil)
  (PT.all_node (infAt (by kernel_rfl)) PT.all_nil PT.all_nil)) (PT.all_node (infAt (by kernel_rfl)) (PT.all_node (infAt (by kernel_rfl)) PT.all_nil PT.all_nil) (PT.all_node (infAt (by kernel_rfl)) PT.all_nil PT.all_nil))) (PT.all_node (infAt
  (by kernel_rfl)) (PT.all_node (infAt (by kernel_rfl)) (PT.all_node (infAt (by kernel_rfl)) (PT.all_node (infAt (by kernel_rfl)) PT.all_nil PT.all_nil) PT.all_nil) (PT.all_node (infAt (by kernel_rfl)) PT.all_nil PT.all_nil)) (PT.all_node
  (infAt (by kernel_rfl)) (PT.all_node (infAt (by kernel_rfl)) PT.all_nil PT.all_nil) (PT.all_node (infAt (by kernel_rfl)) PT.all_nil PT.all_nil))))))) (PT.all_node (infAt (by kernel_rfl)) (PT.all_node (infAt (by kernel_rfl)) (PT.all_node
  (infAt (by kernel_rfl)) (PT.all_node (infAt (by kernel_rfl)) (PT.all_node (infAt (by kernel_rfl)) (PT.all_node (infAt (by kernel_rfl)) (PT.all_node (infAt (by kernel_rfl)) (PT.all_node (infAt (by kernel_rfl)) PT.all_nil PT.all_nil)
  PT.all_nil) (PT.all_node (infAt (by kernel_rfl)) PT.all_nil PT.all_nil)) (PT.all_node (infAt (by kernel_rfl)) (PT.all_node (infAt (by kernel_rfl)) (PT.all_node (infAt (by kernel_rfl)) PT.all_nil PT.all_nil) PT.all_nil) (PT.all_node (infAt
  (by kernel_rfl)) PT.all_nil PT.all_nil))) (PT.all_node (infAt (by kernel_rfl)) (PT.all_node (infAt (by kernel_rfl)) (PT.all_node (infAt (by kernel_rfl)) (PT.all_node (infAt (by kernel_rfl)) PT.all_nil PT.all_nil) PT.all_nil) (PT.all_node
  (infAt (by kernel_rfl)) PT.all_nil PT.all_nil)) (PT.all_node (infAt (by kernel_rfl)) (PT.all_node (infAt (by kernel_rfl)) PT.all_nil PT.all_nil) (PT.all_node (infAt (by kernel_rfl)) PT.all_nil PT.all_nil)))) (PT.all_node (infAt (by
  kernel_rfl)) (PT.all_node (infAt (by kernel_rfl)) (PT.all_node (infAt (by kernel_rfl)) (PT.all_node (infAt (by kernel_rfl)) (PT.all_node (infAt (by kernel_rfl)) PT.all_nil PT.all_nil) PT.all_nil) (PT.all_node (infAt (by kernel_rfl))
  PT.all_nil PT.all_nil)) (PT.all_node (infAt (by kernel_rfl)) (PT.all_node (infAt (by kernel_rfl)) PT.all_nil PT.all_nil) (PT.all_node (infAt (by kernel_rfl)) PT.all_nil PT.all_nil))) (PT.all_node (infAt (by kernel_rfl)) (PT.all_node (infAt
  (by kernel_rfl)) (PT.all_node (infAt (by kernel_rfl)) (PT.all_node (infAt (by kernel_rfl)) PT.all_nil PT.all_nil) PT.all_nil) (PT.all_node (infAt (by kernel_rfl)) PT.all_nil PT.all_nil)) (PT.all_node (infAt (by kernel_rfl)) (PT.all_node
  (infAt (by kernel_rfl)) PT.all_nil PT.all_nil) (PT.all_node (infAt (by kernel_rfl)) PT.all_nil PT.all_nil))))) (PT.all_node (infAt (by kernel_rfl)) (PT.all_node (infAt (by kernel_rfl)) (PT.all_node (infAt (by kernel_rfl)) (PT.all_node
  (infAt (by kernel_rfl)) (PT.all_node (infAt (by kernel_rfl)) (PT.all_node (infAt (by kernel_rfl)) PT.all_nil PT.all_nil) PT.all_nil) (PT.all_node (infAt (by kernel_rfl)) PT.all_nil PT.all_nil)) (PT.all_node (infAt (by kernel_rfl))
  (PT.all_node (infAt (by kernel_rfl)) PT.all_nil PT.all_nil) (PT.all_node (infAt (by kernel_rfl)) PT.all_nil PT.all_nil))) (PT.all_node (infAt (by kernel_rfl)) (PT.all_node (infAt (by kernel_rfl)) (PT.all_node (infAt (by kernel_rfl))
  (PT.all_node (infAt (by kernel_rfl)) PT.all_nil PT.all_nil) PT.all_nil) (PT.all_node (infAt (by kernel_rfl)) PT.all_nil PT.all_nil)) (PT.all_node (infAt (by kernel_rfl)) (PT.all_node (infAt (by kernel_rfl)) PT.all_nil PT.all_nil)
  (PT.all_node (infAt (by kernel_rfl)) PT.all_nil PT.all_nil)))) (PT.all_node (infAt (by kernel_rfl)) (PT.all_node (infAt (by kernel_rfl)) (PT.all_node (infAt (by kernel_rfl)) (PT.all_node (infAt (by kernel_rfl)) (PT.all_node (infAt (by
  kernel_rfl)) PT.all_nil PT.all_nil) PT.all_nil) (PT.all_node (infAt (by kernel_rfl)) PT.all_nil PT.all_nil)) (PT.all_node (infAt (by kernel_rfl)) (PT.all_node (infAt (by kernel_rfl)) PT.all_nil PT.all_nil) (PT.all_node (infAt (by
  kernel_rfl)) PT.all_nil PT.all_nil))) (PT.all_node (infAt (by kernel_rfl)) (PT.all_node (infAt (by kernel_rfl)) (PT.all_node (infAt (by kernel_rfl)) (PT.all_node (infAt (by kernel_rfl)) PT.all_nil PT.all_nil) PT.all_nil) (PT.all_node
  (infAt (by kernel_rfl)) PT.all_nil PT.all_nil)) (PT.all_node (infAt (by kernel_rfl)) (PT.all_node (infAt (by kernel_rfl)) PT.all_nil PT.all_nil) (PT.all_node (infAt (by kernel_rfl)) PT.all_nil PT.all_nil)))))) (PT.all_node (infAt (by
  kernel_rfl)) (PT.all_node (infAt (by kernel_rfl)) (PT.all_node (infAt (by kernel_rfl)) (PT.all_node (infAt (by kernel_rfl)) (PT.all_node (infAt (by kernel_rfl)) (PT.all_node (infAt (by kernel_rfl)) (PT.all_node (infAt (by kernel_rfl))
  PT.all_nil PT.all_nil) PT.all_nil) (PT.all_node (infAt (by kernel_rfl)) PT.all_nil PT.all_nil)) (PT.all_node (infAt (by kernel_rfl)) (PT.all_node (infAt (by kernel_rfl)) PT.all_nil PT.all_nil) (PT.all_node (infAt (by kernel_rfl))
  PT.all_nil PT.all_nil))) (PT.all_node (infAt (by kernel_rfl)) (PT.all_node (infAt (by kernel_rfl)) (PT.all_node (infAt (by kernel_rfl)) (PT.all_node (infAt (by kernel_rfl)) PT.all_nil PT.all_nil) PT.all_nil) (PT.all_node (infAt (by
  kernel_rfl)) PT.all_nil PT.all_nil)) (PT.all_node (infAt (by kernel_rfl)) (PT.all_node (infAt (by kernel_rfl)) PT.all_nil PT.all_nil) (PT.all_node (infAt (by kernel_rfl)) PT.all_nil PT.all_nil)))) (PT.all_node (infAt (by kernel_rfl))
  (PT.all_node (infAt (by kernel_rfl)) (PT.all_node (infAt (by kernel_rfl)) (PT.all_node (infAt (by kernel_rfl)) (PT.all_node (infAt (by kernel_rfl)) PT.all_nil PT.all_nil) PT.all_nil) (PT.all_node (infAt (by kernel_rfl)) PT.all_nil
  PT.all_nil)) (PT.all_node (infAt (by kernel_rfl)) (PT.all_node (infAt (by kernel_rfl)) PT.all_nil PT.all_nil) (PT.all_node (infAt (by kernel_rfl)) PT.all_nil PT.all_nil))) (PT.all_node (infAt (by kernel_rfl)) (PT.all_node (infAt (by
  kernel_rfl)) (PT.all_node (infAt (by kernel_rfl)) (PT.all_node (infAt (by kernel_rfl)) PT.all_nil PT.all_nil) PT.all_nil) (PT.all_node (infAt (by kernel_rfl)) PT.all_nil PT.all_nil)) (PT.all_node (infAt (by kernel_rfl)) (PT.all_node (infAt
  (by kernel_rfl)) PT.all_nil PT.all_nil) (PT.all_node (infAt (by kernel_rfl)) PT.all_nil PT.all_nil))))) (PT.all_node (infAt (by kernel_rfl)) (PT.all_node (infAt (by kernel_rfl)) (PT.all_node (infAt (by kernel_rfl)) (PT.all_node (infAt (by
  kernel_rfl)) (PT.all_node (infAt (by kernel_rfl)) (PT.all_node (infAt (by kernel_rfl)) PT.all_nil PT.all_nil) PT.all_nil) (PT.all_node (infAt (by kernel_rfl)) PT.all_nil PT.all_nil)) (PT.all_node (infAt (by kernel_rfl)) (PT.all_node (infAt
  (by kernel_rfl)) PT.all_nil PT.all_nil) (PT.all_node (infAt (by kernel_rfl)) PT.all_nil PT.all_nil))) (PT.all_node (infAt (by kernel_rfl)) (PT.all_node (infAt (by kernel_rfl)) (PT.all_node (infAt (by kernel_rfl)) (PT.all_node (infAt (by
  kernel_rfl)) PT.all_nil PT.all_nil) PT.all_nil) (PT.all_node (infAt (by kernel_rfl)) PT.all_nil PT.all_nil)) (PT.all_node (infAt (by kernel_rfl)) (PT.all_node (infAt (by kernel_rfl)) PT.all_nil PT.all_nil) (PT.all_node (infAt (by
  kernel_rfl)) PT.all_nil PT.all_nil)))) (PT.all_node (infAt (by kernel_rfl)) (PT.all_node (infAt (by kernel_rfl)) (PT.all_node (infAt (by kernel_rfl)) (PT.all_node (infAt (by kernel_rfl)) (PT.all_node (infAt (by kernel_rfl)) PT.all_nil
  PT.all_nil) PT.all_nil) (PT.all_node (infAt (by kernel_rfl)) PT.all_nil PT.all_nil)) (PT.all_node (infAt (by kernel_rfl)) (PT.all_node (infAt (by kernel_rfl)) PT.all_nil PT.all_nil) (PT.all_node (infAt (by kernel_rfl)) PT.all_nil
  PT.all_nil))) (PT.all_node (infAt (by kernel_rfl)) (PT.all_node (infAt (by kernel_rfl)) (PT.all_node (infAt (by kernel_rfl)) (PT.all_node (infAt (by kernel_rfl)) PT.all_nil PT.all_nil) PT.all_nil) (PT.all_node (infAt (by kernel_rfl))
  PT.all_nil PT.all_nil)) (PT.all_node (infAt (by kernel_rfl)) (PT.all_node (infAt (by kernel_rfl)) PT.all_nil PT.all_nil) (PT.all_node (infAt (by kernel_rfl)) PT.all_nil PT.all_nil))))))))
theorem unT_ok : unT.All (UndP Tryz.prog) (fun k => k) := (PT.all_node (undAt (by kernel_rfl)) (PT.all_node (undAt (by kernel_rfl)) (PT.all_node (undAt (by kernel_rfl)) (PT.all_node (undAt (by kernel_rfl)) (PT.all_node (undAt (by
  kernel_rfl)) (PT.all_node (undAt (by kernel_rfl)) (PT.all_node (undAt (by kernel_rfl)) (PT.all_node (undAt (by kernel_rfl)) (PT.all_node (undAt (by kernel_rfl)) PT.all_nil PT.all_nil) PT.all_nil) (PT.all_node (undAt (by kernel_rfl))
  PT.all_nil PT.all_nil)) (PT.all_node (undAt (by kernel_rfl)) (PT.all_node (undAt (by kernel_rfl)) (PT.all_node (undAt (by kernel_rfl)) PT.all_nil PT.all_nil) PT.all_nil) (PT.all_node (undAt (by kernel_rfl)) PT.all_nil PT.all_nil)))
  (PT.all_node (undAt (by kernel_rfl)) (PT.all_node (undAt (by kernel_rfl)) (PT.all_node (undAt (by kernel_rfl)) (PT.all_node (undAt (by kernel_rfl)) PT.all_nil PT.all_nil) PT.all_nil) (PT.all_node (undAt (by kernel_rfl)) PT.all_nil
  PT.all_nil)) (PT.all_node (undAt (by kernel_rfl)) (PT.all_node (undAt (by kernel_rfl)) PT.all_nil PT.all_nil) (PT.all_node (undAt (by kernel_rfl)) PT.all_nil PT.all_nil)))) (PT.all_node (undAt (by kernel_rfl)) (PT.all_node (undAt (by
  kernel_rfl)) (PT.all_node (undAt (by kernel_rfl)) (PT.all_node (undAt (by kernel_rfl)) (PT.all_node (undAt (by kernel_rfl)) PT.all_nil PT.all_nil) PT.all_nil) (PT.all_node (undAt (by kernel_rfl)) PT.all_nil PT.all_nil)) (PT.all_node (undAt
  (by kernel_rfl)) (PT.all_node (undAt (by kernel_rfl)) PT.all_nil PT.all_nil) (PT.all_node (undAt (by kernel_rfl)) PT.all_nil PT.all_nil))) (PT.all_node (undAt (by kernel_rfl)) (PT.all_node (undAt (by kernel_rfl)) (PT.all_node (undAt (by
  kernel_rfl)) (PT.all_node (undAt (by kernel_rfl)) PT.all_nil PT.all_nil) PT.all_nil) (PT.all_node (undAt (by kernel_rfl)) PT.all_nil PT.all_nil)) (PT.all_node (undAt (by kernel_rfl)) (PT.all_node (undAt (by kernel_rfl)) PT.all_nil
  PT.all_nil) (PT.all_node (undAt (by kernel_rfl)) PT.all_nil PT.all_nil))))) (PT.all_node (undAt (by kernel_rfl)) (PT.all_node (undAt (by kernel_rfl)) (PT.all_node (undAt (by kernel_rfl)) (PT.all_node (undAt (by kernel_rfl)) (PT.all_node
  (undAt (by kernel_rfl)) (PT.all_node (undAt (by kernel_rfl)) PT.all_nil PT.all_nil) PT.all_nil) (PT.all_node (undAt (by kernel_rfl)) PT.all_nil PT.all_nil)) (PT.all_node (undAt (by kernel_rfl)) (PT.all_node (undAt (by kernel_rfl))
  PT.all_nil PT.all_nil) (PT.all_node (undAt (by kernel_rfl)) PT.all_nil PT.all_nil))) (PT.all_node (undAt (by kernel_rfl)) (PT.all_node (undAt (by kernel_rfl)) (PT.all_node (undAt (by kernel_rfl)) (PT.all_node (undAt (by kernel_rfl))
  PT.all_nil PT.all_nil) PT.all_nil) (PT.all_node (undAt (by kernel_rfl)) PT.all_nil PT.all_nil)) (PT.all_node (undAt (by kernel_rfl)) (PT.all_node (undAt (by kernel_rfl)) PT.all_nil PT.all_nil) (PT.all_node (undAt (by kernel_rfl))
  PT.all_nil PT.all_nil)))) (PT.all_node (undAt (by kernel_rfl)) (PT.all_node (undAt (by kernel_rfl)) (PT.all_node (undAt (by kernel_rfl)) (PT.all_node (undAt (by kernel_rfl)) (PT.all_node (undAt (by kernel_rfl)) PT.all_nil PT.all_nil)
  PT.all_nil) (PT.all_node (undAt (by kernel_rfl)) PT.all_nil PT.all_nil)) (PT.all_node (undAt (by kernel_rfl)) (PT.all_node (undAt (by kernel_rfl)) PT.all_nil PT.all_nil) (PT.all_node (undAt (by kernel_rfl)) PT.all_nil PT.all_nil)))
  (PT.all_node (undAt (by kernel_rfl)) (PT.all_node (undAt (by kernel_rfl)) (PT.all_node (undAt (by kernel_rfl)) (PT.all_node (undAt (by kernel_rfl)) PT.all_nil PT.all_nil) PT.all_nil) (PT.all_node (undAt (by kernel_rfl)) PT.all_nil
  PT.all_nil)) (PT.all_node (undAt (by kernel_rfl)) (PT.all_node (undAt (by kernel_rfl)) PT.all_nil PT.all_nil) (PT.all_node (undAt (by kernel_rfl)) PT.all_nil PT.all_nil)))))) (PT.all_node (undAt (by kernel_rfl)) (PT.all_node (undAt (by
  kernel_rfl)) (PT.all_node (undAt (by kernel_rfl)) (PT.all_node (undAt (by kernel_rfl)) (PT.all_node (undAt (by kernel_rfl)) (PT.all_node (undAt (by kernel_rfl)) (PT.all_node (undAt (by kernel_rfl)) PT.all_nil PT.all_nil) PT.all_nil)
  (PT.all_node (undAt (by kernel_rfl)) PT.all_nil PT.all_nil)) (PT.all_node (undAt (by kernel_rfl)) (PT.all_node (undAt (by kernel_rfl)) PT.all_nil PT.all_nil) (PT.all_node (undAt (by kernel_rfl)) PT.all_nil PT.all_nil))) (PT.all_node (undAt
  (by kernel_rfl)) (PT.all_node (undAt (by kernel_rfl)) (PT.all_node (undAt (by kernel_rfl)) (PT.all_node (undAt (by kernel_rfl)) PT.all_nil PT.all_nil) PT.all_nil) (PT.all_node (undAt (by kernel_rfl)) PT.all_nil PT.all_nil)) (PT.all_node
  (undAt (by kernel_rfl)) (PT.all_node (undAt (by kernel_rfl)) PT.all_nil PT.all_nil) (PT.all_node (undAt (by kernel_rfl)) PT.all_nil PT.all_nil)))) (PT.all_node (undAt (by kernel_rfl)) (PT.all_node (undAt (by kernel_rfl)) (PT.all_node
  (undAt (by kernel_rfl)) (PT.all_node (undAt (by kernel_rfl)) (PT.all_node (undAt (by kernel_rfl)) PT.all_nil PT.all_nil) PT.all_nil) (PT.all_node (undAt (by kernel_rfl)) PT.all_nil PT.all_nil)) (PT.all_node (undAt (by kernel_rfl))
  (PT.all_node (undAt (by kernel_rfl)) PT.all_nil PT.all_nil) (PT.all_node (undAt (by kernel_rfl)) PT.all_nil PT.all_nil))) (PT.all_node (undAt (by kernel_rfl)) (PT.all_node (undAt (by kernel_rfl)) (PT.all_node (undAt (by kernel_rfl))
  (PT.all_node (undAt (by kernel_rfl)) PT.all_nil PT.all_nil) PT.all_nil) (PT.all_node (undAt (by kernel_rfl)) PT.all_nil PT.all_nil)) (PT.all_node (undAt (by kernel_rfl)) (PT.all_node (undAt (by kernel_rfl)) PT.all_nil PT.all_nil)
  (PT.all_node (undAt (by kernel_rfl)) PT.all_nil PT.all_nil))))) (PT.all_node (undAt (by kernel_rfl)) (PT.all_node (undAt (by kernel_rfl)) (PT.all_node (undAt (by kernel_rfl)) (PT.all_node (undAt (by kernel_rfl)) (PT.all_node (undAt (by
  kernel_rfl)) (PT.all_node (undAt (by kernel_rfl)) PT.all_nil PT.all_nil) PT.all_nil) (PT.all_node (undAt (by kernel_rfl)) PT.all_nil PT.all_nil)) (PT.all_node (undAt (by kernel_rfl)) (PT.all_node (undAt (by kernel_rfl)) PT.all_nil
  PT.all_nil) (PT.all_node (undAt (by kernel_rfl)) PT.all_nil PT.all_nil))) (PT.all_node (undAt (by kernel_rfl)) (PT.all_node (undAt (by kernel_rfl)) (PT.all_node (undAt (by kernel_rfl)) (PT.all_node (undAt (by kernel_rfl)) PT.all_nil
  PT.all_nil) PT.all_nil) (PT.all_node (undAt (by kernel_rfl)) PT.all_nil PT.all_nil)) (PT.all_node (undAt (by kernel_rfl)) (PT.all_node (undAt (by kernel_rfl)) PT.all_nil PT.all_nil) (PT.all_node (undAt (by kernel_rfl)) PT.all_nil
  PT.all_nil)))) (PT.all_node (undAt (by kernel_rfl)) (PT.all_node (undAt (by kernel_rfl)) (PT.all_node (undAt (by kernel_rfl)) (PT.all_node (undAt (by kernel_rfl)) (PT.all_node (undAt (by kernel_rfl)) PT.all_nil PT.all_nil) PT.all_nil)
  (PT.all_node (undAt (by kernel_rfl)) PT.all_nil PT.all_nil)) (PT.all_node (undAt (by kernel_rfl)) (PT.all_node (undAt (by kernel_rfl)) PT.all_nil PT.all_nil) (PT.all_node (undAt (by kernel_rfl)) PT.all_nil PT.all_nil))) (PT.all_node (undAt
  (by kernel_rfl)) (PT.all_node (undAt (by kernel_rfl)) (PT.all_node (undAt (by kernel_rfl)) (PT.all_node (undAt (by kernel_rfl)) PT.all_nil PT.all_nil) PT.all_nil) (PT.all_node (undAt (by kernel_rfl)) PT.all_nil PT.all_nil)) (PT.all_node
  (undAt (by kernel_rfl)) (PT.all_node (undAt (by kernel_rfl)) PT.all_nil PT.all_nil) (PT.all_node (undAt (by kernel_rfl)) PT.all_nil PT.all_nil))))))) (PT.all_node (undAt (by kernel_rfl)) (PT.all_node (undAt (by kernel_rfl)) (PT.all_node
  (undAt (by kernel_rfl)) (PT.all_node (undAt (by kernel_rfl)) (PT.all_node (undAt (by kernel_rfl)) (PT.all_node (undAt (by kernel_rfl)) (PT.all_node (undAt (by kernel_rfl)) (PT.all_node (undAt (by kernel_rfl)) PT.all_nil PT.all_nil)
  PT.all_nil) (PT.all_node (undAt (by kernel_rfl)) PT.all_nil PT.all_nil)) (PT.all_node (undAt (by kernel_rfl)) (PT.all_node (undAt (by kernel_rfl)) (PT.all_node (undAt (by kernel_rfl)) PT.all_nil PT.all_nil) PT.all_nil) (PT.all_node (undAt
  (by kernel_rfl)) PT.all_nil PT.all_nil))) (PT.all_node (undAt (by kernel_rfl)) (PT.all_node (undAt (by kernel_rfl)) (PT.all_node (undAt (by kernel_rfl)) (PT.all_node (undAt (by kernel_rfl)) PT.all_nil PT.all_nil) PT.all_nil) (PT.all_node
  (undAt (by kernel_rfl)) PT.all_nil PT.all_nil)) (PT.all_node (undAt (by kernel_rfl)) (PT.all_node (undAt (by kernel_rfl)) PT.all_nil PT.all_nil) (PT.all_node (undAt (by kernel_rfl)) PT.all_nil PT.all_nil)))) (PT.all_node (undAt (by
  kernel_rfl)) (PT.all_node (undAt (by kernel_rfl)) (PT.all_node (undAt (by kernel_rfl)) (PT.all_node (undAt (by kernel_rfl)) (PT.all_node (undAt (by kernel_rfl)) PT.all_nil PT.all_nil) PT.all_nil) (PT.all_node (undAt (by kernel_rfl))
  PT.all_nil PT.all_nil)) (PT.all_node (undAt (by kernel_rfl)) (PT.all_node (undAt (by kernel_rfl)) PT.all_nil PT.all_nil) (PT.all_node (undAt (by kernel_rfl)) PT.all_nil PT.all_nil))) (PT.all_node (undAt (by kernel_rfl)) (PT.all_node (undAt
  (by kernel_rfl)) (PT.all_node (undAt (by kernel_rfl)) (PT.all_node (undAt (by kernel_rfl)) PT.all_nil PT.all_nil) PT.all_nil) (PT.all_node (undAt (by kernel_rfl)) PT.all_nil PT.all_nil)) (PT.all_node (undAt (by kernel_rfl)) (PT.all_node
  (undAt (by kernel_rfl)) PT.all_nil PT.all_nil) (PT.all_node (undAt (by kernel_rfl)) PT.all_nil PT.all_nil))))) (PT.all_node (undAt (by kernel_rfl)) (PT.all_node (undAt (by kernel_rfl)) (PT.all_node (undAt (by kernel_rfl)) (PT.all_node
  (undAt (by kernel_rfl)) (PT.all_node (undAt (by kernel_rfl)) (PT.all_node (undAt (by kernel_rfl)) PT.all_nil PT.all_nil) PT.all_nil) (PT.all_node (undAt (by kernel_rfl)) PT.all_nil PT.all_nil)) (PT.all_node (undAt (by kernel_rfl))
  (PT.all_node (undAt (by kernel_rfl)) PT.all_nil PT.all_nil) (PT.all_node (undAt (by kernel_rfl)) PT.all_nil PT.all_nil))) (PT.all_node (undAt (by kernel_rfl)) (PT.all_node (undAt (by kernel_rfl)) (PT.all_node (undAt (by kernel_rfl))
  (PT.all_node (undAt (by kernel_rfl)) PT.all_nil PT.all_nil) PT.all_nil) (PT.all_node (undAt (by kernel_rfl)) PT.all_nil PT.all_nil)) (PT.all_node (undAt (by kernel_rfl)) (PT.all_node (undAt (by kernel_rfl)) PT.all_nil PT.all_nil)
  (PT.all_node (undAt (by kernel_rfl)) PT.all_nil PT.all_nil)))) (PT.all_node (undAt (by kernel_rfl)) (PT.all_node (undAt (by kernel_rfl)) (PT.all_node (undAt (by kernel_rfl)) (PT.all_node (undAt (by kernel_rfl)) (PT.all_node (undAt (by
  kernel_rfl)) PT.all_nil PT.all_nil) PT.all_nil) (PT.all_node (undAt (by kernel_rfl)) PT.all_nil PT.all_nil)) (PT.all_node (undAt (by kernel_rfl)) (PT.all_node (undAt (by kernel_rfl)) PT.all_nil PT.all_nil) (PT.all_node (undAt (by
  kernel_rfl)) PT.all_nil PT.all_nil))) (PT.all_node (undAt (by kernel_rfl)) (PT.all_node (undAt (by kernel_rfl)) (PT.all_node (undAt (by kernel_rfl)) (PT.all_node (undAt (by kernel_rfl)) PT.all_nil PT.all_nil) PT.all_nil) (PT.all_node
  (undAt (by kernel_rfl)) PT.all_nil PT.all_nil)) (PT.all_node (undAt (by kernel_rfl)) (PT.all_node (undAt (by kernel_rfl)) PT.all_nil PT.all_nil) (PT.all_node (undAt (by kernel_rfl)) PT.all_nil PT.all_nil)))))) (PT.all_node (undAt (by
  kernel_rfl)) (PT.all_node (undAt (by kernel_rfl)) (PT.all_node (undAt (by kernel_rfl)) (PT.all_node (undAt (by kernel_rfl)) (PT.all_node (undAt (by kernel_rfl)) (PT.all_node (undAt (by kernel_rfl)) (PT.all_node (undAt (by kernel_rfl))
  PT.all_nil PT.all_nil) PT.all_nil) (PT.all_node (undAt (by kernel_rfl)) PT.all_nil PT.all_nil)) (PT.all_node (undAt (by kernel_rfl)) (PT.all_node (undAt (by kernel_rfl)) PT.all_nil PT.all_nil) (PT.all_node (undAt (by kernel_rfl))
  PT.all_nil PT.all_nil))) (PT.all_node (undAt (by kernel_rfl)) (PT.all_node (undAt (by kernel_rfl)) (PT.all_node (undAt (by kernel_rfl)) (PT.all_node (undAt (by kernel_rfl)) PT.all_nil PT.all_nil) PT.all_nil) (PT.all_node (undAt (by
  kernel_rfl)) PT.all_nil PT.all_nil)) (PT.all_node (undAt (by kernel_rfl)) (PT.all_node (undAt (by kernel_rfl)) PT.all_nil PT.all_nil) (PT.all_node (undAt (by kernel_rfl)) PT.all_nil PT.all_nil)))) (PT.all_node (undAt (by kernel_rfl))
  (PT.all_node (undAt (by kernel_rfl)) (PT.all_node (undAt (by kernel_rfl)) (PT.all_node (undAt (by kernel_rfl)) (PT.all_node (undAt (by kernel_rfl)) PT.all_nil PT.all_nil) PT.all_nil) (PT.all_node (undAt (by kernel_rfl)) PT.all_nil
  PT.all_nil)) (PT.all_node (undAt (by kernel_rfl)) (PT.all_node (undAt (by kernel_rfl)) PT.all_nil PT.all_nil) (PT.all_node (undAt (by kernel_rfl)) PT.all_nil PT.all_nil))) (PT.all_node (undAt (by kernel_rfl)) (PT.all_node (undAt (by
  kernel_rfl)) (PT.all_node (undAt (by kernel_rfl)) (PT.all_node (undAt (by kernel_rfl)) PT.all_nil PT.all_nil) PT.all_nil) (PT.all_node (undAt (by kernel_rfl)) PT.all_nil PT.all_nil)) (PT.all_node (undAt (by kernel_rfl)) (PT.all_node (undAt
  (by kernel_rfl)) PT.all_nil PT.all_nil) (PT.all_node (undAt (by kernel_rfl)) PT.all_nil PT.all_nil))))) (PT.all_node (undAt (by kernel_rfl)) (PT.all_node (undAt (by kernel_rfl)) (PT.all_node (undAt (by kernel_rfl)) (PT.all_node (undAt (by
  kernel_rfl)) (PT.all_node (undAt (by kernel_rfl)) (PT.all_node (undAt (by kernel_rfl)) PT.all_nil PT.all_nil) PT.all_nil) (PT.all_node (undAt (by kernel_rfl)) PT.all_nil PT.all_nil)) (PT.all_node (undAt (by kernel_rfl)) (PT.all_node (undAt
  (by kernel_rfl)) PT.all_nil PT.all_nil) (PT.all_node (undAt (by kernel_rfl)) PT.all_nil PT.all_nil))) (PT.all_node (undAt (by kernel_rfl)) (PT.all_node (undAt (by kernel_rfl)) (PT.all_node (undAt (by kernel_rfl)) (PT.all_node (undAt (by
  kernel_rfl)) PT.all_nil PT.all_nil) PT.all_nil) (PT.all_node (undAt (by kernel_rfl)) PT.all_nil PT.all_nil)) (PT.all_node (undAt (by kernel_rfl)) (PT.all_node (undAt (by kernel_rfl)) PT.all_nil PT.all_nil) (PT.all_node (undAt (by
  kernel_rfl)) PT.all_nil PT.all_nil)))) (PT.all_node (undAt (by kernel_rfl)) (PT.all_node (undAt (by kernel_rfl)) (PT.all_node (undAt (by kernel_rfl)) (PT.all_node (undAt (by kernel_rfl)) (PT.all_node (undAt (by kernel_rfl)) PT.all_nil
  PT.all_nil) PT.all_nil) (PT.all_node (undAt (by kernel_rfl)) PT.all_nil PT.all_nil)) (PT.all_node (undAt (by kernel_rfl)) (PT.all_node (undAt (by kernel_rfl)) PT.all_nil PT.all_nil) (PT.all_node (undAt (by kernel_rfl)) PT.all_nil
  PT.all_nil))) (PT.all_node (undAt (by kernel_rfl)) (PT.all_node (undAt (by kernel_rfl)) (PT.all_node (undAt (by kernel_rfl)) (PT.all_node (undAt (by kernel_rfl)) PT.all_nil PT.all_nil) PT.all_nil) (PT.all_node (undAt (by kernel_rfl))
  PT.all_nil PT.all_nil)) (PT.all_node (undAt (by kernel_rfl)) (PT.all_node (undAt (by kernel_rfl)) PT.all_nil PT.all_nil) (PT.all_node (undAt (by kernel_rfl)) PT.all_nil PT.all_nil))))))))
theorem fnT_ok : fnT.All (FnP Tryz.prog) (fun k => k) := (PT.all_node noAt (PT.all_node noAt (PT.all_node (fnAt (by kernel_rfl) Tryz.call3 Tryz.func3) (PT.all_node (fnAt (by kernel_rfl) Tryz.call7 Tryz.func7) (PT.all_node (fnAt (by
  kernel_rfl) Tryz.call15 Tryz.func15) (PT.all_node (fnAt (by kernel_rfl) Tryz.call31 Tryz.func31) (PT.all_node (fnAt (by kernel_rfl) Tryz.call63 Tryz.func63) (PT.all_node (fnAt (by kernel_rfl) Tryz.call127 Tryz.func127) PT.all_nil
  PT.all_nil) PT.all_nil) (PT.all_node (fnAt (by kernel_rfl) Tryz.call95 Tryz.func95) PT.all_nil PT.all_nil)) (PT.all_node (fnAt (by kernel_rfl) Tryz.call47 Tryz.func47) (PT.all_node (fnAt (by kernel_rfl) Tryz.call79 Tryz.func79)
  (PT.all_node (fnAt (by kernel_rfl) Tryz.call143 Tryz.func143) PT.all_nil PT.all_nil) PT.all_nil) (PT.all_node (fnAt (by kernel_rfl) Tryz.call111 Tryz.func111) (PT.all_node (fnAt (by kernel_rfl) Tryz.call175 Tryz.func175) PT.all_nil
  PT.all_nil) PT.all_nil))) (PT.all_node (fnAt (by kernel_rfl) Tryz.call23 Tryz.func23) (PT.all_node (fnAt (by kernel_rfl) Tryz.call39 Tryz.func39) (PT.all_node (fnAt (by kernel_rfl) Tryz.call71 Tryz.func71) (PT.all_node (fnAt (by
  kernel_rfl) Tryz.call135 Tryz.func135) PT.all_nil PT.all_nil) PT.all_nil) (PT.all_node (fnAt (by kernel_rfl) Tryz.call103 Tryz.func103) (PT.all_node (fnAt (by kernel_rfl) Tryz.call167 Tryz.func167) PT.all_nil PT.all_nil) PT.all_nil))
  (PT.all_node (fnAt (by kernel_rfl) Tryz.call55 Tryz.func55) (PT.all_node (fnAt (by kernel_rfl) Tryz.call87 Tryz.func87) (PT.all_node (fnAt (by kernel_rfl) Tryz.call151 Tryz.func151) PT.all_nil PT.all_nil) PT.all_nil) (PT.all_node (fnAt (by
  kernel_rfl) Tryz.call119 Tryz.func119) (PT.all_node (fnAt (by kernel_rfl) Tryz.call183 Tryz.func183) PT.all_nil PT.all_nil) PT.all_nil)))) (PT.all_node (fnAt (by kernel_rfl) Tryz.call11 Tryz.func11) (PT.all_node (fnAt (by kernel_rfl)
  Tryz.call19 Tryz.func19) (PT.all_node (fnAt (by kernel_rfl) Tryz.call35 Tryz.func35) (PT.all_node (fnAt (by kernel_rfl) Tryz.call67 Tryz.func67) (PT.all_node (fnAt (by kernel_rfl) Tryz.call131 Tryz.func131) PT.all_nil PT.all_nil)
  PT.all_nil) (PT.all_node (fnAt (by kernel_rfl) Tryz.call99 Tryz.func99) (PT.all_node (fnAt (by kernel_rfl) Tryz.call163 Tryz.func163) PT.all_nil PT.all_nil) PT.all_nil)) (PT.all_node (fnAt (by kernel_rfl) Tryz.call51 Tryz.func51)
  (PT.all_node (fnAt (by kernel_rfl) Tryz.call83 Tryz.func83) (PT.all_node (fnAt (by kernel_rfl) Tryz.call147 Tryz.func147) PT.all_nil PT.all_nil) PT.all_nil) (PT.all_node (fnAt (by kernel_rfl) Tryz.call115 Tryz.func115) (PT.all_node (fnAt
  (by kernel_rfl) Tryz.call179 Tryz.func179) PT.all_nil PT.all_nil) PT.all_nil))) (PT.all_node (fnAt (by kernel_rfl) Tryz.call27 Tryz.func27) (PT.all_node (fnAt (by kernel_rfl) Tryz.call43 Tryz.func43) (PT.all_node (fnAt (by kernel_rfl)
  Tryz.call75 Tryz.func75) (PT.all_node (fnAt (by kernel_rfl) Tryz.call139 Tryz.func139) PT.all_nil PT.all_nil) PT.all_nil) (PT.all_node (fnAt (by kernel_rfl) Tryz.call107 Tryz.func107) (PT.all_node (fnAt (by kernel_rfl) Tryz.call171
  Tryz.func171) PT.all_nil PT.all_nil) PT.all_nil)) (PT.all_node (fnAt (by kernel_rfl) Tryz.call59 Tryz.func59) (PT.all_node (fnAt (by kernel_rfl) Tryz.call91 Tryz.func91) (PT.all_node (fnAt (by kernel_rfl) Tryz.call155 Tryz.func155)
  PT.all_nil PT.all_nil) (PT.all_node (fnAt (by kernel_rfl) Tryz.call219 Tryz.func219) PT.all_nil PT.all_nil)) (PT.all_node (fnAt (by kernel_rfl) Tryz.call123 Tryz.func123) PT.all_nil PT.all_nil))))) (PT.all_node (fnAt (by kernel_rfl)
  Tryz.call5 Tryz.func5) (PT.all_node (fnAt (by kernel_rfl) Tryz.call9 Tryz.func9) (PT.all_node (fnAt (by kernel_rfl) Tryz.call17 Tryz.func17) (PT.all_node (fnAt (by kernel_rfl) Tryz.call33 Tryz.func33) (PT.all_node (fnAt (by kernel_rfl)
  Tryz.call65 Tryz.func65) (PT.all_node (fnAt (by kernel_rfl) Tryz.call129 Tryz.func129) PT.all_nil PT.all_nil) PT.all_nil) (PT.all_node (fnAt (by kernel_rfl) Tryz.call97 Tryz.func97) (PT.all_node (fnAt (by kernel_rfl) Tryz.call161
  Tryz.func161) PT.all_nil PT.all_nil) PT.all_nil)) (PT.all_node (fnAt (by kernel_rfl) Tryz.call49 Tryz.func49) (PT.all_node (fnAt (by kernel_rfl) Tryz.call81 Tryz.func81) (PT.all_node (fnAt (by kernel_rfl) Tryz.call145 Tryz.func145)
  PT.all_nil PT.all_nil) PT.all_nil) (PT.all_node (fnAt (by kernel_rfl) Tryz.call113 Tryz.func113) (PT.all_node (fnAt (by kernel_rfl) Tryz.call177 Tryz.func177) PT.all_nil PT.all_nil) PT.all_nil))) (PT.all_node (fnAt (by kernel_rfl)
  Tryz.call25 Tryz.func25) (PT.all_node (fnAt (by kernel_rfl) Tryz.call41 Tryz.func41) (PT.all_node (fnAt (by kernel_rfl) Tryz.call73 Tryz.func73) (PT.all_node (fnAt (by kernel_rfl) Tryz.call137 Tryz.func137) PT.all_nil PT.all_nil)
  PT.all_nil) (PT.all_node (fnAt (by kernel_rfl) Tryz.call105 Tryz.func105) (PT.all_node (fnAt (by kernel_rfl) Tryz.call169 Tryz.func169) PT.all_nil PT.all_nil) PT.all_nil)) (PT.all_node (fnAt (by kernel_rfl) Tryz.call57 Tryz.func57)
  (PT.all_node (fnAt (by kernel_rfl) Tryz.call89 Tryz.func89) (PT.all_node (fnAt (by kernel_rfl) Tryz.call153 Tryz.func153) PT.all_nil PT.all_nil) PT.all_nil) (PT.all_node (fnAt (by kernel_rfl) Tryz.call121 Tryz.func121) PT.all_nil
  PT.all_nil)))) (PT.all_node (fnAt (by kernel_rfl) Tryz.call13 Tryz.func13) (PT.all_node (fnAt (by kernel_rfl) Tryz.call21 Tryz.func21) (PT.all_node (fnAt (by kernel_rfl) Tryz.call37 Tryz.func37) (PT.all_node (fnAt (by kernel_rfl)
  Tryz.call69 Tryz.func69) (PT.all_node (fnAt (by kernel_rfl) Tryz.call133 Tryz.func133) PT.all_nil PT.all_nil) PT.all_nil) (PT.all_node (fnAt (by kernel_rfl) Tryz.call101 Tryz.func101) (PT.all_node (fnAt (by kernel_rfl) Tryz.call165
  Tryz.func165) PT.all_nil PT.all_nil) PT.all_nil)) (PT.all_node (fnAt (by kernel_rfl) Tryz.call53 Tryz.func53) (PT.all_node (fnAt (by kernel_rfl) Tryz.call85 Tryz.func85) (PT.all_node (fnAt (by kernel_rfl) Tryz.call149 Tryz.func149)
  PT.all_nil PT.all_nil) PT.all_nil) (PT.all_node (fnAt (by kernel_rfl) Tryz.call117 Tryz.func117) (PT.all_node (fnAt (by kernel_rfl) Tryz.call181 Tryz.func181) PT.all_nil PT.all_nil) PT.all_nil))) (PT.all_node (fnAt (by kernel_rfl)
  Tryz.call29 Tryz.func29) (PT.all_node (fnAt (by kernel_rfl) Tryz.call45 Tryz.func45) (PT.all_node (fnAt (by kernel_rfl) Tryz.call77 Tryz.func77) (PT.all_node (fnAt (by kernel_rfl) Tryz.call141 Tryz.func141) PT.all_nil PT.all_nil)
  PT.all_nil) (PT.all_node (fnAt (by kernel_rfl) Tryz.call109 Tryz.func109) (PT.all_node (fnAt (by kernel_rfl) Tryz.call173 Tryz.func173) PT.all_nil PT.all_nil) PT.all_nil)) (PT.all_node (fnAt (by kernel_rfl) Tryz.call61 Tryz.func61)
  (PT.all_node (fnAt (by kernel_rfl) Tryz.call93 Tryz.func93) (PT.all_node (fnAt (by kernel_rfl) Tryz.call157 Tryz.func157) PT.all_nil PT.all_nil) PT.all_nil) (PT.all_node (fnAt (by kernel_rfl) Tryz.call125 Tryz.func125) PT.all_nil
  PT.all_nil)))))) (PT.all_node (fnAt (by kernel_rfl) Tryz.call2 Tryz.func2) (PT.all_node (fnAt (by kernel_rfl) Tryz.call4 Tryz.func4) (PT.all_node (fnAt (by kernel_rfl) Tryz.call8 Tryz.func8) (PT.all_node (fnAt (by kernel_rfl) Tryz.call16
  Tryz.func16) (PT.all_node (fnAt (by kernel_rfl) Tryz.call32 Tryz.func32) (PT.all_node (fnAt (by kernel_rfl) Tryz.call64 Tryz.func64) (PT.all_node (fnAt (by kernel_rfl) Tryz.call128 Tryz.func128) PT.all_nil PT.all_nil) PT.all_nil)
  (PT.all_node (fnAt (by kernel_rfl) Tryz.call96 Tryz.func96) (PT.all_node (fnAt (by kernel_rfl) Tryz.call160 Tryz.func160) PT.all_nil PT.all_nil) PT.all_nil)) (PT.all_node (fnAt (by kernel_rfl) Tryz.call48 Tryz.func48) (PT.all_node (fnAt
  (by kernel_rfl) Tryz.call80 Tryz.func80) (PT.all_node (fnAt (by kernel_rfl) Tryz.call144 Tryz.func144) PT.all_nil PT.all_nil) PT.all_nil) (PT.all_node (fnAt (by kernel_rfl) Tryz.call112 Tryz.func112) (PT.all_node (fnAt (by kernel_rfl)
  Tryz.call176 Tryz.func176) PT.all_nil PT.all_nil) PT.all_nil))) (PT.all_node (fnAt (by kernel_rfl) Tryz.call24 Tryz.func24) (PT.all_node (fnAt (by kernel_rfl) Tryz.call40 Tryz.func40) (PT.all_node (fnAt (by kernel_rfl) Tryz.call72
  Tryz.func72) (PT.all_node (fnAt (by kernel_rfl) Tryz.call136 Tryz.func136) PT.all_nil PT.all_nil) PT.all_nil) (PT.all_node (fnAt (by kernel_rfl) Tryz.call104 Tryz.func104) (PT.all_node (fnAt (by kernel_rfl) Tryz.call168 Tryz.func168)
  PT.all_nil PT.all_nil) PT.all_nil)) (PT.all_node (fnAt (by kernel_rfl) Tryz.call56 Tryz.func56) (PT.all_node (fnAt (by kernel_rfl) Tryz.call88 Tryz.func88) (PT.all_node (fnAt (by kernel_rfl) Tryz.call152 Tryz.func152) PT.all_nil
  PT.all_nil) PT.all_nil) (PT.all_node (fnAt (by kernel_rfl) Tryz.call120 Tryz.func120) PT.all_nil PT.all_nil)))) (PT.all_node (fnAt (by kernel_rfl) Tryz.call12 Tryz.func12) (PT.all_node (fnAt (by kernel_rfl) Tryz.call20 Tryz.func20)
  (PT.all_node (fnAt (by kernel_rfl) Tryz.call36 Tryz.func36) (PT.all_node (fnAt (by kernel_rfl) Tryz.call68 Tryz.func68) (PT.all_node (fnAt (by kernel_rfl) Tryz.call132 Tryz.func132) PT.all_nil PT.all_nil) PT.all_nil) (PT.all_node (fnAt (by
  kernel_rfl) Tryz.call100 Tryz.func100) PT.all_nil PT.all_nil)) (PT.all_node (fnAt (by kernel_rfl) Tryz.call52 Tryz.func52) (PT.all_node (fnAt (by kernel_rfl) Tryz.call84 Tryz.func84) (PT.all_node (fnAt (by kernel_rfl) Tryz.call148
  Tryz.func148) PT.all_nil PT.all_nil) PT.all_nil) (PT.all_node (fnAt (by kernel_rfl) Tryz.call116 Tryz.func116) (PT.all_node (fnAt (by kernel_rfl) Tryz.call180 Tryz.func180) PT.all_nil PT.all_nil) PT.all_nil))) (PT.all_node (fnAt (by
  kernel_rfl) Tryz.call28 Tryz.func28) (PT.all_node (fnAt (by kernel_rfl) Tryz.call44 Tryz.func44) (PT.all_node (fnAt (by kernel_rfl) Tryz.call76 Tryz.func76) (PT.all_node (fnAt (by kernel_rfl) Tryz.call140 Tryz.func140) PT.all_nil
  PT.all_nil) PT.all_nil) (PT.all_node (fnAt (by kernel_rfl) Tryz.call108 Tryz.func108) (PT.all_node (fnAt (by kernel_rfl) Tryz.call172 Tryz.func172) PT.all_nil PT.all_nil) PT.all_nil)) (PT.all_node (fnAt (by kernel_rfl) Tryz.call60
  Tryz.func60) (PT.all_node (fnAt (by kernel_rfl) Tryz.call92 Tryz.func92) (PT.all_node (fnAt (by kernel_rfl) Tryz.call156 Tryz.func156) PT.all_nil PT.all_nil) PT.all_nil) (PT.all_node (fnAt (by kernel_rfl) Tryz.call124 Tryz.func124)
  PT.all_nil PT.all_nil))))) (PT.all_node (fnAt (by kernel_rfl) Tryz.call6 Tryz.func6) (PT.all_node (fnAt (by kernel_rfl) Tryz.call10 Tryz.func10) (PT.all_node (fnAt (by kernel_rfl) Tryz.call18 Tryz.func18) (PT.all_node (fnAt (by kernel_rfl)
  Tryz.call34 Tryz.func34) (PT.all_node (fnAt (by kernel_rfl) Tryz.call66 Tryz.func66) (PT.all_node (fnAt (by kernel_rfl) Tryz.call130 Tryz.func130) PT.all_nil PT.all_nil) PT.all_nil) (PT.all_node (fnAt (by kernel_rfl) Tryz.call98
  Tryz.func98) (PT.all_node (fnAt (by kernel_rfl) Tryz.call162 Tryz.func162) PT.all_nil PT.all_nil) PT.all_nil)) (PT.all_node (fnAt (by kernel_rfl) Tryz.call50 Tryz.func50) (PT.all_node (fnAt (by kernel_rfl) Tryz.call82 Tryz.func82)
  (PT.all_node (fnAt (by kernel_rfl) Tryz.call146 Tryz.func146) PT.all_nil PT.all_nil) PT.all_nil) (PT.all_node (fnAt (by kernel_rfl) Tryz.call114 Tryz.func114) (PT.all_node (fnAt (by kernel_rfl) Tryz.call178 Tryz.func178) PT.all_nil
  PT.all_nil) PT.all_nil))) (PT.all_node (fnAt (by kernel_rfl) Tryz.call26 Tryz.func26) (PT.all_node (fnAt (by kernel_rfl) Tryz.call42 Tryz.func42) (PT.all_node (fnAt (by kernel_rfl) Tryz.call74 Tryz.func74) (PT.all_node (fnAt (by
  kernel_rfl) Tryz.call138 Tryz.func138) PT.all_nil PT.all_nil) PT.all_nil) (PT.all_node (fnAt (by kernel_rfl) Tryz.call106 Tryz.func106) PT.all_nil PT.all_nil)) (PT.all_node (fnAt (by kernel_rfl) Tryz.call58 Tryz.func58) (PT.all_node (fnAt
  (by kernel_rfl) Tryz.call90 Tryz.func90) (PT.all_node (fnAt (by kernel_rfl) Tryz.call154 Tryz.func154) PT.all_nil PT.all_nil) PT.all_nil) (PT.all_node (fnAt (by kernel_rfl) Tryz.call122 Tryz.func122) PT.all_nil PT.all_nil)))) (PT.all_node
  (fnAt (by kernel_rfl) Tryz.call14 Tryz.func14) (PT.all_node (fnAt (by kernel_rfl) Tryz.call22 Tryz.func22) (PT.all_node (fnAt (by kernel_rfl) Tryz.call38 Tryz.func38) (PT.all_node (fnAt (by kernel_rfl) Tryz.call70 Tryz.func70) (PT.all_node
  (fnAt (by kernel_rfl) Tryz.call134 Tryz.func134) PT.all_nil PT.all_nil) PT.all_nil) (PT.all_node (fnAt (by kernel_rfl) Tryz.call102 Tryz.func102) (PT.all_node (fnAt (by kernel_rfl) Tryz.call166 Tryz.func166) PT.all_nil PT.all_nil)
  PT.all_nil)) (PT.all_node (fnAt (by kernel_rfl) Tryz.call54 Tryz.func54) (PT.all_node (fnAt (by kernel_rfl) Tryz.call86 Tryz.func86) (PT.all_node (fnAt (by kernel_rfl) Tryz.call150 Tryz.func150) PT.all_nil PT.all_nil) PT.all_nil)
  (PT.all_node (fnAt (by kernel_rfl) Tryz.call118 Tryz.func118) (PT.all_node (fnAt (by kernel_rfl) Tryz.call182 Tryz.func182) PT.all_nil PT.all_nil) PT.all_nil))) (PT.all_node (fnAt (by kernel_rfl) Tryz.call30 Tryz.func30) (PT.all_node (fnAt
  (by kernel_rfl) Tryz.call46 Tryz.func46) (PT.all_node (fnAt (by kernel_rfl) Tryz.call78 Tryz.func78) (PT.all_node (fnAt (by kernel_rfl) Tryz.call142 Tryz.func142) PT.all_nil PT.all_nil) PT.all_nil) (PT.all_node (fnAt (by kernel_rfl)
  Tryz.call110 Tryz.func110) (PT.all_node (fnAt (by kernel_rfl) Tryz.call174 Tryz.func174) PT.all_nil PT.all_nil) PT.all_nil)) (PT.all_node (fnAt (by kernel_rfl) Tryz.call62 Tryz.func62) (PT.all_node (fnAt (by kernel_rfl) Tryz.call94
  Tryz.func94) (PT.all_node (fnAt (by kernel_rfl) Tryz.call158 Tryz.func158) PT.all_nil PT.all_nil) PT.all_nil) (PT.all_node (fnAt (by kernel_rfl) Tryz.call126 Tryz.func126) PT.all_nil PT.all_nil)))))))
/-- The fields of a word: their names and how many bits each has. -/
def wfields : List (List UInt8 × Nat) := [([97, 108, 117], 5), ([97], 6), ([98], 6), ([100], 6), ([108, 105, 116], 8), ([115, 105, 122, 101], 2), ([99, 99], 2), ([109, 101, 109], 4), ([115, 101, 113], 3), ([99, 111, 110, 100], 5), ([116, 111], 11), ([109, 105, 115, 99], 6)]
def fieldsC : List Value := wfields.flatMap fun x => [.string ⟨⟨x.1⟩⟩, .int .i64 x.2]
def asciiC : List Value := Lib.asciiSpaceTab.map fun z => .int .u8 z
/-- Calls that Go's library's contracts tell. -/
def isIdx (f : Nat) : Bool := Nat.beq f 118 || Nat.beq f 143
def extF1 (f : Nat) (vs : List Value) : Option Value :=
  cond (isIdx f) (match vs with
    | [.string s, .int .u8 c] => some (.int .i64 (Lib.indexByte s.data.toList c.toNat.toUInt8))
    | _ => none)
  (cond (Nat.beq f 139) (match vs with
    | [.string s, .string t] => (match t.data.toList with
      | [c] => some (.int .i64 (Lib.countByte s.data.toList c))
      | _ => none)
    | _ => none)
  (cond (Nat.beq f 140) (match vs with
    | [.string s, .string t] => (match t.data.toList with
      | [c] => some (.int .i64 (Lib.indexByte s.data.toList c))
      | _ => none)
    | _ => none) none))
def extF (f : Nat) (vs : List Value) : Option Value :=
  cond (Nat.beq f 55) (match vs with
    | [.int .i64 n] => cond (decide (0 ≤ n) && decide (n < 100)) (some (.string ⟨(Lib.decDigits n.toNat).toArray⟩)) none
    | _ => none) (extF1 f vs)
def errCon (nx g : Nat) : Con := ⟨nx, nx + 1, [(g, .table [.chan (some g)])], [], .iface 258 (.pointer (some ⟨nx, 0, none⟩))⟩
def conF (f : Nat) (vs : List Value) (nx : Nat) : Option Con :=
  cond (Nat.beq f 163) (match vs with
    | [.string _, .string s, .int .i64 _, .int .i64 _, .iface t (.int .i64 k)] => cond (Nat.ble s.size 281474976710656 && Nat.beq t 256) (cond (decide (k = 2)) (some (errCon nx 9)) (cond (decide (k = 1)) (some (errCon nx 10)) none)) none
    | _ => none) none
/-- Functions whose calls leave the memory as it was. -/
def pureL : List Nat := [115, 117, 74, 97, 87, 88, 120, 121, 144, 51, 50, 80, 26, 19, 81, 38, 62, 104, 123, 106, 125, 107, 78, 25, 146, 145, 124, 102, 122, 103, 105, 77, 16, 29]
noncomputable def Lk0 : Lk where
  info t := tyT.get t
  und t := unT.get t
  func f := fnT.get f
  glob g := Nat.beq g 9 || Nat.beq g 10 || Nat.beq g 0 || Nat.beq g 1
  ext := extF
  con := conF
  pureF f := pureL.any (Nat.beq f)
theorem one_bytes {t : ByteArray} {c : UInt8} (h : t.data.toList = [c]) : t = ⟨#[c]⟩ := by
  cases t with
  | mk d => cases d with
    | mk l => simp only at h; rw [h]
theorem extF1_ok {f : Nat} {vs : List Value} {v : Value} (h : extF1 f vs = some v) : (∀ x ∈ vs, flat3 x = true) ∧ flat3 v = true ∧ ∀ w,
    ∃ j, (∀ bs w, (callFunc f bs).run Tryz.prog w = .ok (.enter j bs) w) ∧ Calls Tryz.prog j vs.toArray w fun e w' => e = .returned v ∧ RowKit.Below w.heap.size w w' := by
  have still : ∀ (w w' : World), w' = w → RowKit.Below w.heap.size w w' := fun w w' e => by subst e; exact ⟨rfl, rfl, rfl, Nat.le_refl _, fun _ _ => rfl⟩
  unfold extF1 at h
  cases hi : isIdx f with
  | true =>
    rw [hi] at h
    simp only [cond_true] at h
    split at h
    · rename_i s c
      cases h
      refine ⟨fun x hx => by simp at hx; rcases hx with rfl | rfl <;> rfl, rfl, fun w => ?_⟩
      unfold isIdx at hi
      simp only [Bool.or_eq_true, beq_dec, decide_eq_true_eq] at hi
      rcases hi with rfl | rfl
      · exact ⟨118, Tryz.call118, (Tryz.strings_IndexByte s c w).mono fun e w' ⟨h1, h2⟩ => ⟨h1, still w w' h2⟩⟩
      · exact ⟨143, Tryz.call143, (Tryz.stringslite_IndexByte s c w).mono fun e w' ⟨h1, h2⟩ => ⟨h1, still w w' h2⟩⟩
    · cases h
  | false =>
    rw [hi] at h
    simp only [cond_false] at h
    cases h59 : Nat.beq f 139 with
    | true =>
      rw [h59] at h
      have := beq_true h59
      subst this
      simp only [cond_true] at h
      split at h
      · rename_i s t
        split at h
        · rename_i c hc
          cases h
          have := one_bytes hc
          subst this
          exact ⟨fun x hx => by simp at hx; rcases hx with rfl | rfl <;> rfl, rfl, fun w => ⟨139, Tryz.call139, (Tryz.strings_Count_one s c w).mono fun e w' ⟨h1, h2⟩ => ⟨h1, still w w' h2⟩⟩⟩
        · cases h
      · cases h
    | false =>
      rw [h59] at h
      simp only [cond_false] at h
      cases h60 : Nat.beq f 140 with
      | true =>
        rw [h60] at h
        have := beq_true h60
        subst this
        simp only [cond_true] at h
        split at h
        · rename_i s t
          split at h
          · rename_i c hc
            cases h
            have := one_bytes hc
            subst this
            exact ⟨fun x hx => by simp at hx; rcases hx with rfl | rfl <;> rfl, rfl, fun w => ⟨140, Tryz.call140, (Tryz.strings_Index_one s c w).mono fun e w' ⟨h1, h2⟩ => ⟨h1, still w w' h2⟩⟩⟩
          · cases h
        · cases h
      | false => rw [h60] at h; cases h
theorem extF_ok {f : Nat} {vs : List Value} {v : Value} (h : extF f vs = some v) : (∀ x ∈ vs, flat3 x = true) ∧ flat3 v = true ∧ ∀ w,
    ∃ j, (∀ bs w, (callFunc f bs).run Tryz.prog w = .ok (.enter j bs) w) ∧ Calls Tryz.prog j vs.toArray w fun e w' => e = .returned v ∧ RowKit.Below w.heap.size w w' := by
  have still : ∀ (w w' : World), w' = w → RowKit.Below w.heap.size w w' := fun w w' e => by subst e; exact ⟨rfl, rfl, rfl, Nat.le_refl _, fun _ _ => rfl⟩
  unfold extF at h
  cases hi : Nat.beq f 55 with
  | false => rw [hi] at h; exact extF1_ok h
  | true =>
    rw [hi] at h
    simp only [cond_true] at h
    have hf : f = 55 := by rw [beq_dec] at hi; exact of_decide_eq_true hi
    subst hf
    split at h
    · rename_i n
      cases hc : (decide (0 ≤ n) && decide (n < 100)) with
      | false => rw [hc] at h; cases h
      | true =>
        rw [hc] at h
        simp only [cond_true] at h
        cases h
        simp only [Bool.and_eq_true, decide_eq_true_eq] at hc
        refine ⟨fun x hx => by simp at hx; subst hx; rfl, rfl, fun w => ⟨55, Tryz.call55, ?_⟩⟩
        have hn : (n.toNat : Int) = n := Int.toNat_of_nonneg hc.1
        have := Tryz.strconv_Itoa_small n.toNat (by omega) w
        rw [hn] at this
        exact this.mono fun e w' ⟨h1, h2⟩ => ⟨h1, still w w' h2⟩
    · cases h
theorem Lk0_ok [Sym] : Lk0.Ok Tryz.prog where
  symOp _ _ _ _ _ h := by cases h
  symLen _ _ h := by cases h
  info t i h := PT.all_get tyT _ tyT_ok t i h
  und t d h := PT.all_get unT _ unT_ok t d h
  func f j fn h := PT.all_get fnT _ fnT_ok f (j, fn) h
  mixed := by kernel_rfl
  ext f vs v h := by
    obtain ⟨h1, h2, h3⟩ := extF_ok h
    exact ⟨h1, h2, fun w => .inl (h3 w)⟩
theorem Lk0_S : LkS Lk0 := ⟨fun _ _ _ _ => rfl⟩
/-- The two variables hold errors. -/
structure ErrSym [Sym] : Prop where
  e4 : ∃ t u, Sym.v 9 = .iface t u
  e5 : ∃ t u, Sym.v 10 = .iface t u
theorem err_con [Sym] {g nx : Nat} {fn s : ByteArray} {base bits k : Int} (hs : s.size ≤ 281474976710656) (he : ∃ t u, Sym.v g = .iface t u)
    (hc : ∀ (ev : Value) (w : World), w.cell? ⟨g, 0, none⟩ = some ev → (ev = .nilIface ∨ ∃ te pe, ev = .iface te pe) →
      Calls Tryz.prog 163 #[.string fn, .string s, .int .i64 base, .int .i64 bits, .iface 256 (.int .i64 k)] w fun e w' => ∃ N, e = .returned (.iface 258 (.pointer (some ⟨N, 0, none⟩))) ∧ w.heap.size ≤ N ∧ w'.heap[N]? = some (.cells #[.string fn, .string s, ev] 270 (0, 0)) ∧ RowKit.Below w.heap.size w w') :
    ConFact Tryz.prog 163 [.string fn, .string s, .int .i64 base, .int .i64 bits, .iface 256 (.int .i64 k)] (errCon nx g) := by
  refine ⟨fun x hx => by simp at hx; rcases hx with rfl | rfl | rfl | rfl | rfl <;> rfl, 163, Tryz.call163, fun w pl hob => ?_⟩
  obtain ⟨hb, hoo, obj, hobj, arr, T, fr, rfl, hcells⟩ := hob (g, .table [.chan (some g)]) (by simp [errCon])
  obtain ⟨v', hv', hvr⟩ := hcells 0 (.chan (some g)) rfl
  have hv2 : v' = Sym.v g := by cases hvr; rfl
  subst hv2
  have hcell : w.cell? ⟨g, 0, none⟩ = some (Sym.v g) := by
    unfold World.cell?
    simp only [hobj]
    rw [hoo] at hv'
    simpa using hv'
  refine (hc (Sym.v g) w hcell (.inr he)).mono fun e w' ⟨N, h1, h2, h3, h4⟩ => ?_
  refine ⟨_, fun i => if i = nx then some ⟨N, 0, 3, 0⟩ else none, h1, ?_⟩
  have hN : N < w'.heap.size := (Array.getElem?_eq_some_iff.1 h3).1
  refine ⟨.iface (.ptr (p := ⟨N, 0, 3, 0⟩) (by simp)), h4, fun i p hp => ?_, fun i p hp => ?_, fun i p ob hp ho => by simp [errCon] at ho, fun i j p q hp hq hi => by simp [errCon] at hi⟩
  · split at hp
    · rename_i e; cases hp; subst e
      exact .inr ⟨Nat.le_refl _, Nat.lt_succ_self _, h2⟩
    · cases hp
  · split at hp
    · cases hp; exact hN
    · cases hp
theorem conF_ok [Sym] (hE : ErrSym) : ConOk Tryz.prog Lk0 := by
  intro f vs nx c h
  have h0 : conF f vs nx = some c := h
  clear h
  unfold conF at h0
  obtain ⟨hf, h1⟩ := cond_none h0
  clear h0
  have := beq_true hf
  subst this
  split at h1
  · rename_i fn s base bits t k
    obtain ⟨hq, h2⟩ := cond_none h1
    clear h1
    simp only [Bool.and_eq_true, Nat.ble_eq] at hq
    have := beq_true hq.2
    subst this
    cases k2 : decide (k = 2) with
    | true =>
      rw [k2] at h2; cases h2
      have := of_decide_eq_true k2
      subst this
      exact err_con hq.1 hE.e4 fun ev w hv hev => Tryz.toError_syntax _ _ _ _ ev w hq.1 hv hev
    | false =>
      rw [k2] at h2
      cases k1 : decide (k = 1) with
      | true =>
        rw [k1] at h2; cases h2
        have := of_decide_eq_true k1
        subst this
        exact err_con hq.1 hE.e5 fun ev w hv hev => Tryz.toError_range _ _ _ _ ev w hq.1 hv hev
      | false => rw [k1] at h2; cases h2
  · cases h1
noncomputable abbrev cc : CallS := cS Tryz.prog Lk0
end Go.Proofs.YthngaoncjpgeiaaGreatDoorE
