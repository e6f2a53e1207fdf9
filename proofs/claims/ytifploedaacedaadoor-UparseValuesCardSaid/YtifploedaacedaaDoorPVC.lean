/- Parts of the proof of UparseValues, packed by a program: an evaluator over the given code, functions as plain texts, their laws. -/
import Derived.KernelRfl
import Derived.Test.YtifploedaacedaaDoorPVB
set_option linter.unusedVariables false
set_option linter.unusedSimpArgs false
namespace Go.E
open Go
def PT.vals {α:Type}:PT α→(Nat→Nat)→List (Nat×α)
 | .nil,_=>[]
 | .node l v r,f=>(match v with | some x=>[(f 0,x)] | none=>[])++(l.vals (fun k=>f (2*k+1))++r.vals (fun k=>f (2*k+2)))
theorem PT.all_vals {α:Type} {p:Nat→α→Prop}:∀ (t:PT α) (f:Nat→Nat),(∀ x∈t.vals f,p x.1 x.2)→t.All p f
 | .nil,_,_=>trivial
 | .node l v r,f,h=>⟨fun x hx=>by
   subst hx
   exact h (f 0,x) (by simp [PT.vals]),PT.all_vals l _ fun x hx=>h x (by simp [PT.vals,hx]),PT.all_vals r _ fun x hx=>h x (by simp [PT.vals,hx])⟩
theorem PT.all_map {α β:Type} {p:Nat→α→Prop} {g h:Nat×α→β} {t:PT α} (hp:∀ x:Nat×α,g x=h x→p x.1 x.2) (e:(t.vals fun k=>k).map g=(t.vals fun k=>k).map h):t.All p fun k=>k:=
 PT.all_vals t _ fun x hx=>hp x (List.map_inj_left.1 e x hx)
noncomputable def zL {α:Type} (x:α):PT α:=.node .nil (some x) .nil
noncomputable def zN {α:Type} (l:PT α) (x:α) (r:PT α):PT α:=.node l (some x) r
end Go.E
namespace Go.Proofs.YtifploedaacedaaDoorE
open Go Go.E Go.Proofs
set_option maxRecDepth 100000
open Tryd in
noncomputable def tyT:PT TypeInfo:=zN (zN (zN (zN (zN (zN (zN (zL t127) t63 (zL t191)) t31 (zN (zL t159) t95 .nil)) t15 (zN (zN (zL t143) t79 .nil) t47 (zN (zL t175) t111 .nil))) t7 (zN (zN (zN (zL t135) t71 (zL t199)) t39
 (zN (zL t167) t103 .nil)) t23 (zN (zN (zL t151) t87 .nil) t55 (zN (zL t183) t119 .nil)))) t3 (zN (zN (zN (zN (zL t131) t67 (zL t195)) t35 (zN (zL t163) t99 .nil)) t19 (zN (zN (zL t147) t83 .nil) t51 (zN (zL t179) t115 .nil))) t11 (zN (zN
 (zN (zL t139) t75 (zL t203)) t43 (zN (zL t171) t107 .nil)) t27 (zN (zN (zL t155) t91 .nil) t59 (zN (zL t187) t123 .nil))))) t1 (zN (zN (zN (zN (zN (zL t129) t65 (zL t193)) t33 (zN (zL t161) t97 .nil)) t17 (zN (zN (zL t145) t81 .nil) t49
 (zN (zL t177) t113 .nil))) t9 (zN (zN (zN (zL t137) t73 (zL t201)) t41 (zN (zL t169) t105 .nil)) t25 (zN (zN (zL t153) t89 .nil) t57 (zN (zL t185) t121 .nil)))) t5 (zN (zN (zN (zN (zL t133) t69 (zL t197)) t37 (zN (zL t165) t101 .nil)) t21
 (zN (zN (zL t149) t85 .nil) t53 (zN (zL t181) t117 .nil))) t13 (zN (zN (zN (zL t141) t77 .nil) t45 (zN (zL t173) t109 .nil)) t29 (zN (zN (zL t157) t93 .nil) t61 (zN (zL t189) t125 .nil)))))) t0 (zN (zN (zN (zN (zN (zN (zL t128) t64 (zL
 t192)) t32 (zN (zL t160) t96 .nil)) t16 (zN (zN (zL t144) t80 .nil) t48 (zN (zL t176) t112 .nil))) t8 (zN (zN (zN (zL t136) t72 (zL t200)) t40 (zN (zL t168) t104 .nil)) t24 (zN (zN (zL t152) t88 .nil) t56 (zN (zL t184) t120 .nil)))) t4 (zN
 (zN (zN (zN (zL t132) t68 (zL t196)) t36 (zN (zL t164) t100 .nil)) t20 (zN (zN (zL t148) t84 .nil) t52 (zN (zL t180) t116 .nil))) t12 (zN (zN (zN (zL t140) t76 (zL t204)) t44 (zN (zL t172) t108 .nil)) t28 (zN (zN (zL t156) t92 .nil) t60
 (zN (zL t188) t124 .nil))))) t2 (zN (zN (zN (zN (zN (zL t130) t66 (zL t194)) t34 (zN (zL t162) t98 .nil)) t18 (zN (zN (zL t146) t82 .nil) t50 (zN (zL t178) t114 .nil))) t10 (zN (zN (zN (zL t138) t74 (zL t202)) t42 (zN (zL t170) t106 .nil))
 t26 (zN (zN (zL t154) t90 .nil) t58 (zN (zL t186) t122 .nil)))) t6 (zN (zN (zN (zN (zL t134) t70 (zL t198)) t38 (zN (zL t166) t102 .nil)) t22 (zN (zN (zL t150) t86 .nil) t54 (zN (zL t182) t118 .nil))) t14 (zN (zN (zN (zL t142) t78 .nil)
 t46 (zN (zL t174) t110 .nil)) t30 (zN (zN (zL t158) t94 .nil) t62 (zN (zL t190) t126 .nil))))))
open Tryd in
noncomputable def unT:PT TypeDesc:=zN (zN (zN (zN (zN (zN (zN (zL t127.desc) t63.desc (zL t191.desc)) t31.desc (zN (zL t159.desc) t95.desc .nil)) t15.desc (zN (zN (zL t143.desc) t79.desc .nil) t47.desc (zN (zL t175.desc)
 t111.desc .nil))) t7.desc (zN (zN (zN (zL t3.desc) t71.desc (zL t199.desc)) t38.desc (zN (zL t166.desc) t103.desc .nil)) t23.desc (zN (zN (zL t151.desc) t87.desc .nil) t55.desc (zN (zL t183.desc) t119.desc .nil)))) t3.desc (zN (zN (zN (zN
 (zL t131.desc) t66.desc (zL t194.desc)) t34.desc (zN (zL t163.desc) t98.desc .nil)) t18.desc (zN (zN (zL t147.desc) t83.desc .nil) t51.desc (zN (zL t179.desc) t115.desc .nil))) t9.desc (zN (zN (zN (zL t139.desc) t75.desc (zL t202.desc))
 t43.desc (zN (zL t171.desc) t107.desc .nil)) t27.desc (zN (zN (zL t155.desc) t91.desc .nil) t59.desc (zN (zL t187.desc) t123.desc .nil))))) t1.desc (zN (zN (zN (zN (zN (zL t129.desc) t65.desc (zL t193.desc)) t33.desc (zN (zL t161.desc)
 t97.desc .nil)) t17.desc (zN (zN (zL t145.desc) t81.desc .nil) t49.desc (zN (zL t177.desc) t113.desc .nil))) t9.desc (zN (zN (zN (zL t137.desc) t73.desc (zL t21.desc)) t41.desc (zN (zL t169.desc) t105.desc .nil)) t25.desc (zN (zN (zL
 t153.desc) t89.desc .nil) t56.desc (zN (zL t185.desc) t121.desc .nil)))) t5.desc (zN (zN (zN (zN (zL t133.desc) t28.desc (zL t5.desc)) t36.desc (zN (zL t165.desc) t101.desc .nil)) t21.desc (zN (zN (zL t148.desc) t85.desc .nil) t52.desc (zN
 (zL t181.desc) t117.desc .nil))) t13.desc (zN (zN (zN (zL t141.desc) t77.desc .nil) t45.desc (zN (zL t172.desc) t109.desc .nil)) t3.desc (zN (zN (zL t156.desc) t93.desc .nil) t61.desc (zN (zL t189.desc) t125.desc .nil)))))) t0.desc (zN (zN
 (zN (zN (zN (zN (zL t128.desc) t64.desc (zL t191.desc)) t32.desc (zN (zL t159.desc) t96.desc .nil)) t16.desc (zN (zN (zL t144.desc) t80.desc .nil) t48.desc (zN (zL t176.desc) t112.desc .nil))) t7.desc (zN (zN (zN (zL t136.desc) t72.desc
 (zL t21.desc)) t40.desc (zN (zL t168.desc) t104.desc .nil)) t24.desc (zN (zN (zL t152.desc) t88.desc .nil) t56.desc (zN (zL t184.desc) t120.desc .nil)))) t4.desc (zN (zN (zN (zN (zL t132.desc) t68.desc (zL t196.desc)) t36.desc (zN (zL
 t164.desc) t100.desc .nil)) t20.desc (zN (zN (zL t148.desc) t84.desc .nil) t52.desc (zN (zL t180.desc) t116.desc .nil))) t12.desc (zN (zN (zN (zL t140.desc) t76.desc (zL t204.desc)) t43.desc (zN (zL t172.desc) t108.desc .nil)) t28.desc (zN
 (zN (zL t156.desc) t92.desc .nil) t59.desc (zN (zL t188.desc) t124.desc .nil))))) t2.desc (zN (zN (zN (zN (zN (zL t130.desc) t66.desc (zL t194.desc)) t34.desc (zN (zL t162.desc) t98.desc .nil)) t18.desc (zN (zN (zL t146.desc) t82.desc
 .nil) t50.desc (zN (zL t178.desc) t114.desc .nil))) t9.desc (zN (zN (zN (zL t138.desc) t74.desc (zL t202.desc)) t42.desc (zN (zL t169.desc) t106.desc .nil)) t26.desc (zN (zN (zL t154.desc) t89.desc .nil) t58.desc (zN (zL t186.desc)
 t122.desc .nil)))) t5.desc (zN (zN (zN (zN (zL t134.desc) t70.desc (zL t5.desc)) t38.desc (zN (zL t166.desc) t102.desc .nil)) t22.desc (zN (zN (zL t150.desc) t85.desc .nil) t54.desc (zN (zL t182.desc) t117.desc .nil))) t13.desc (zN (zN (zN
 (zL t141.desc) t78.desc .nil) t46.desc (zN (zL t174.desc) t110.desc .nil)) t30.desc (zN (zN (zL t158.desc) t94.desc .nil) t62.desc (zN (zL t190.desc) t126.desc .nil))))))
open Tryd in
noncomputable def fnT:PT (FuncId×Func):=(.node (.node (zN (zN (zN (zN (zL (63,f63)) (31,f31) (zL (95,f95))) (15,f15) (zN (zL (79,f79)) (47,f47) .nil)) (7,f7) (zN (zN (zL (71,f71)) (39,f39) .nil) (23,f23) (zN (zL
 (87,f87)) (55,f55) .nil))) (3,f3) (zN (zN (zN (zL (67,f67)) (35,f35) (zL (99,f99))) (19,f19) (zN (zL (83,f83)) (51,f51) .nil)) (11,f11) (zN (zN (zL (75,f75)) (43,f43) .nil) (27,f27) (.node (zL (91,f91)) none .nil)))) none (zN
 (zN (zN (zN (zL (65,f65)) (33,f33) (zL (97,f97))) (17,f17) (zN (zL (81,f81)) (49,f49) .nil)) (9,f9) (zN (zN (zN (zL (137,f137)) (73,f73) .nil) (41,f41) .nil) (25,f25) (zN (zL (89,f89)) (57,f57) .nil))) (5,f5) (zN (zN (zN .nil
 (37,f37) (zL (101,f101))) (21,f21) (zN (zL (85,f85)) (53,f53) .nil)) (13,f13) (zN (zN (zL (77,f77)) (45,f45) .nil) (29,f29) (zN (zL (93,f93)) (61,f61) .nil))))) none (zN (zN (zN (zN (zN .nil (32,f32) (zL (96,f96))) (16,f16)
 (zN (zL (80,f80)) (48,f48) .nil)) (8,f8) (zN (zN (zL (72,f72)) (40,f40) .nil) (24,f24) (zN (zL (88,f88)) (56,f56) .nil))) (4,f4) (zN (zN (zN (zL (68,f68)) (36,f36) (zL (100,f100))) (20,f20) (zN (zL (84,f84)) (52,f52) .nil))
 (12,f12) (zN (zN (zL (76,f76)) (44,f44) .nil) (28,f28) (zN (zL (92,f92)) (60,f60) .nil)))) (2,f2) (zN (zN (zN (zN (zL (66,f66)) (34,f34) (zL (98,f98))) (18,f18) (zN (zL (82,f82)) (50,f50) .nil)) (10,f10) (zN (zN (zL (74,
 f74)) (42,f42) .nil) (26,f26) (zN (zL (90,f90)) (58,f58) .nil))) (6,f6) (zN (zN (zN (zL (70,f70)) (38,f38) .nil) (22,f22) (zN (zL (86,f86)) (54,f54) .nil)) (14,f14) (zN (zN (zL (78,f78)) (46,f46) .nil) (30,f30) (zN (zL (94,
 f94)) (62,f62) .nil))))))
theorem tyT_ok:tyT.All (InfP Tryd.prog) (fun k=>k):=PT.all_map (g:=fun x=>Tryd.prog.info? x.1) (h:=fun x=>some x.2) (fun _ e=>e) (by kernel_rfl)
theorem unT_ok:unT.All (UndP Tryd.prog) (fun k=>k):=PT.all_map (g:=fun x=>Tryd.prog.underlying x.1) (h:=fun x=>some x.2) (fun _ e=>e) (by kernel_rfl)
theorem fnT_ok:fnT.All (FnP Tryd.prog) (fun k=>k):=PT.all_map (g:=fun x=>(fun args w=>(callFunc x.1 args).run Tryd.prog w,Tryd.prog.funcs[x.2.1]?)) (h:=fun x=>(fun args w=>.ok (.enter x.2.1 args) w,some x.2.2)) (fun _ e=>⟨fun args w=>congrFun (congrFun (congrArg Prod.fst e) args) w,congrArg Prod.snd e⟩) (by kernel_rfl)
def zkP (f:Nat):Bool:=Nat.beq f 35||Nat.beq f 50
def zkQ (f:Nat) (vs:List Value):Option Value:=
 cond (zkP f) (match vs with
  | [.string s,.int .u8 c]=>some (.int .i64 (Lib.indexByte s.data.toList c.toNat.toUInt8))
  | _=>none)
 (cond (Nat.beq f 46) (match vs with
  | [.string s,.string t]=>(match t.data.toList with
    | [c]=>some (.int .i64 (Lib.countByte s.data.toList c))
    | _=>none)
  | _=>none)
 (cond (Nat.beq f 47) (match vs with
  | [.string s,.string t]=>(match t.data.toList with
    | [c]=>some (.int .i64 (Lib.indexByte s.data.toList c))
    | _=>none)
  | _=>none) none))
def extF (f:Nat) (vs:List Value):Option Value:=
 cond (Nat.beq f 83) (match vs with
  | [.int .i64 n]=>cond (decide (0≤n)&&decide (n<100)) (some (.string ⟨(Lib.decDigits n.toNat).toArray⟩)) none
  | _=>none) (zkQ f vs)
def zcU (nx g:Nat):Con:=⟨nx,nx+1,[(g,.table [.chan (some g)])],[],.iface 137 (.pointer (some ⟨nx,0,none⟩))⟩
def zhn (f:Nat) (vs:List Value) (nx:Nat):Option Con:=
 cond (Nat.beq f 63) (match vs with
  | [.string _,.string s,.int .i64 _,.int .i64 _,.iface t (.int .i64 k)]=>cond (Nat.ble s.size 281474976710656&&Nat.beq t 135) (cond (decide (k=2)) (some (zcU nx 4)) (cond (decide (k=1)) (some (zcU nx 5)) none)) none
  | _=>none) none
def pureL:List Nat:=[32,34,13,19,37,38,51,41,53,43,56,44,29,14,66,65,54,39,52,40,42,27,9,6,7]
noncomputable def Lk0:Lk where
 info t:=tyT.get t
 und t:=unT.get t
 func f:=fnT.get f
 glob g:=Nat.beq g 4||Nat.beq g 5
 ext:=extF
 con:=zhn
 pureF f:=pureL.any (Nat.beq f)
theorem ziV {t:ByteArray} {c:UInt8} (h:t.data.toList=[c]):t=⟨#[c]⟩:=by
 cases t with
 | mk d=>cases d with
   | mk l=>simp only at h;rw [h]
theorem zmz {f:Nat} {vs:List Value} {v:Value} (h:zkQ f vs=some v):(∀ x∈vs,flat3 x=true)∧flat3 v=true∧∀ w,
  ∃ j,(∀ bs w,(callFunc f bs).run Tryd.prog w=.ok (.enter j bs) w)∧Calls Tryd.prog j vs.toArray w fun e w'=>e=.returned v∧RowKit.Below w.heap.size w w':=by
 have still:∀ (w w':World),w'=w→RowKit.Below w.heap.size w w':=fun w w' e=>by subst e;exact ⟨rfl,rfl,rfl,zlr _,fun _ _=>rfl⟩
 unfold zkQ at h
 cases hi:zkP f with
 | true=>
   rw [hi] at h
   simp only [zct] at h
   split at h
   ·rename_i s c
    cases h
    refine ⟨fun x hx=>by simp at hx;rcases hx with rfl | rfl<;>rfl,rfl,fun w=>?_⟩
    unfold zkP at hi
    simp only [Bool.or_eq_true,zan,decide_eq_true_eq] at hi
    rcases hi with rfl | rfl
    ·exact ⟨35,Tryd.call35,(Tryd.strings_IndexByte s c w).mono fun e w' ⟨h1,h2⟩=>⟨h1,still w w' h2⟩⟩
    ·exact ⟨50,Tryd.call50,(Tryd.stringslite_IndexByte s c w).mono fun e w' ⟨h1,h2⟩=>⟨h1,still w w' h2⟩⟩
   ·cases h
 | false=>
   rw [hi] at h
   simp only [zcf] at h
   cases h59:Nat.beq f 46 with
   | true=>
     rw [h59] at h
     have:=beq_true h59
     subst this
     simp only [zct] at h
     split at h
     ·rename_i s t
      split at h
      ·rename_i c hc
       cases h
       have:=ziV hc
       subst this
       exact ⟨fun x hx=>by simp at hx;rcases hx with rfl | rfl<;>rfl,rfl,fun w=>⟨46,Tryd.call46,(Tryd.strings_Count_one s c w).mono fun e w' ⟨h1,h2⟩=>⟨h1,still w w' h2⟩⟩⟩
      ·cases h
     ·cases h
   | false=>
     rw [h59] at h
     simp only [zcf] at h
     cases h60:Nat.beq f 47 with
     | true=>
       rw [h60] at h
       have:=beq_true h60
       subst this
       simp only [zct] at h
       split at h
       ·rename_i s t
        split at h
        ·rename_i c hc
         cases h
         have:=ziV hc
         subst this
         exact ⟨fun x hx=>by simp at hx;rcases hx with rfl | rfl<;>rfl,rfl,fun w=>⟨47,Tryd.call47,(Tryd.strings_Index_one s c w).mono fun e w' ⟨h1,h2⟩=>⟨h1,still w w' h2⟩⟩⟩
        ·cases h
       ·cases h
     | false=>rw [h60] at h;cases h
theorem znk {f:Nat} {vs:List Value} {v:Value} (h:extF f vs=some v):(∀ x∈vs,flat3 x=true)∧flat3 v=true∧∀ w,
  ∃ j,(∀ bs w,(callFunc f bs).run Tryd.prog w=.ok (.enter j bs) w)∧Calls Tryd.prog j vs.toArray w fun e w'=>e=.returned v∧RowKit.Below w.heap.size w w':=by
 have still:∀ (w w':World),w'=w→RowKit.Below w.heap.size w w':=fun w w' e=>by subst e;exact ⟨rfl,rfl,rfl,zlr _,fun _ _=>rfl⟩
 unfold extF at h
 cases hi:Nat.beq f 83 with
 | false=>rw [hi] at h;exact zmz h
 | true=>
   rw [hi] at h
   simp only [zct] at h
   have hf:f=83:=by rw [zan] at hi;exact of_decide_eq_true hi
   subst hf
   split at h
   ·rename_i n
    cases hc:(decide (0≤n)&&decide (n<100)) with
    | false=>rw [hc] at h;cases h
    | true=>
      rw [hc] at h
      simp only [zct] at h
      cases h
      simp only [zae,decide_eq_true_eq] at hc
      refine ⟨fun x hx=>by simp at hx;subst hx;rfl,rfl,fun w=>⟨83,Tryd.call83,?_⟩⟩
      have hn:(n.toNat:Int)=n:=Int.toNat_of_nonneg hc.1
      have:=Tryd.strconv_Itoa_small n.toNat (by omega) w
      rw [hn] at this
      exact this.mono fun e w' ⟨h1,h2⟩=>⟨h1,still w w' h2⟩
   ·cases h
theorem zat [Sym]:Lk0.Ok Tryd.prog where
 symOp _ _ _ _ _ h:=by cases h
 symLen _ _ h:=by cases h
 info t i h:=PT.all_get tyT _ tyT_ok t i h
 und t d h:=PT.all_get unT _ unT_ok t d h
 func f j fn h:=PT.all_get fnT _ fnT_ok f (j,fn) h
 mixed:=by kernel_rfl
 ext f vs v h:=by
  obtain ⟨h1,h2,h3⟩:=znk h
  exact ⟨h1,h2,fun w=>.inl (h3 w)⟩
theorem zaC:LkS Lk0:=⟨fun _ _ _ _=>rfl⟩
structure ErrSym [Sym]:Prop where
 e4:∃ t u,Sym.v 4=.iface t u
 e5:∃ t u,Sym.v 5=.iface t u
theorem zkf [Sym] {g nx:Nat} {fn s:ByteArray} {base bits k:Int} (hs:s.size≤281474976710656) (he:∃ t u,Sym.v g=.iface t u)
  (hc:∀ (ev:Value) (w:World),w.cell? ⟨g,0,none⟩=some ev→(ev=.nilIface∨∃ te pe,ev=.iface te pe)→
   Calls Tryd.prog 63 #[.string fn,.string s,.int .i64 base,.int .i64 bits,.iface 135 (.int .i64 k)] w fun e w'=>∃ N,e=.returned (.iface 137 (.pointer (some ⟨N,0,none⟩)))∧w.heap.size≤N∧w'.heap[N]?=some (.cells #[.string fn,.string s,ev] 149 (0,0))∧RowKit.Below w.heap.size w w'):
  ConFact Tryd.prog 63 [.string fn,.string s,.int .i64 base,.int .i64 bits,.iface 135 (.int .i64 k)] (zcU nx g):=by
 refine ⟨fun x hx=>by simp at hx;rcases hx with rfl | rfl | rfl | rfl | rfl<;>rfl,63,Tryd.call63,fun w pl hob=>?_⟩
 obtain ⟨hb,hoo,obj,hobj,_,arr,T,fr,rfl,hcells⟩:=hob (g,.table [.chan (some g)]) (by simp [zcU])
 obtain ⟨v',hv',hvr⟩:=hcells 0 (.chan (some g)) rfl
 have hv2:v'=Sym.v g:=by cases hvr;rfl
 subst hv2
 have hcell:w.cell? ⟨g,0,none⟩=some (Sym.v g):=by
  unfold World.cell?
  simp only [hobj]
  rw [hoo] at hv'
  simpa using hv'
 refine (hc (Sym.v g) w hcell (.inr he)).mono fun e w' ⟨N,h1,h2,h3,h4⟩=>?_
 refine ⟨_,fun i=>if i=nx then some ⟨N,0,3,0⟩ else none,h1,?_⟩
 have hN:N<w'.heap.size:=(Array.getElem?_eq_some_iff.1 h3).1
 refine ⟨.iface (.ptr (p:=⟨N,0,3,0⟩) (by simp)),h4,fun i p hp=>?_,fun i p hp=>?_,fun i p ob hp ho=>by simp [zcU] at ho,fun i j p q hp hq hi=>by simp [zcU] at hi⟩
 ·split at hp
  ·rename_i e;cases hp;subst e
   exact .inr ⟨zlr _,Nat.lt_succ_self _,h2⟩
  ·cases hp
 ·split at hp
  ·cases hp;exact hN
  ·cases hp
theorem znl [Sym] (hE:ErrSym):zhD Tryd.prog Lk0:=by
 intro f vs nx c h
 have h0:zhn f vs nx=some c:=h
 clear h
 unfold zhn at h0
 obtain ⟨hf,h1⟩:=zaE h0
 clear h0
 have:=beq_true hf
 subst this
 split at h1
 ·rename_i fn s base bits t k
  obtain ⟨hq,h2⟩:=zaE h1
  clear h1
  simp only [zae,Nat.ble_eq] at hq
  have:=beq_true hq.2
  subst this
  cases k2:decide (k=2) with
  | true=>
    rw [k2] at h2;cases h2
    have:=of_decide_eq_true k2
    subst this
    exact zkf hq.1 hE.e4 fun ev w hv hev=>Tryd.toError_syntax _ _ _ _ ev w hq.1 hv hev
  | false=>
    rw [k2] at h2
    cases k1:decide (k=1) with
    | true=>
      rw [k1] at h2;cases h2
      have:=of_decide_eq_true k1
      subst this
      exact zkf hq.1 hE.e5 fun ev w hv hev=>Tryd.toError_range _ _ _ _ ev w hq.1 hv hev
    | false=>rw [k1] at h2;cases h2
 ·cases h1
noncomputable abbrev cc:zav:=cS Tryd.prog Lk0
end Go.Proofs.YtifploedaacedaaDoorE
namespace Go.Proofs.YtifploedaacedaaDoorE
set_option maxRecDepth 20000
open Go Go.E Go.Proofs
noncomputable def zg5 (cf:zav) (lf:zah) (c':Int) (st:SS):Option (Value×SS):=
 cond (decide (97≤c')) (
 cond (decide (c'≤122)) (
 some (.bool true,st)) (
 cond (decide (65≤c')) (
 cond (decide (c'≤90)) (
 some (.bool true,st)) (
 some (.bool (decide (c'=95)),st))) (
 some (.bool (decide (c'=95)),st)))) (
 cond (decide (65≤c')) (
 cond (decide (c'≤90)) (
 some (.bool true,st)) (
 some (.bool (decide (c'=95)),st))) (
 some (.bool (decide (c'=95)),st)))
noncomputable abbrev ziu:zah:=lS Tryd.prog Lk0 Tryd.f31 zaY
theorem ziv:Lk0.func 31=some (31,Tryd.f31):=by kernel_rfl
theorem ziw [Sym] (c':Int) (st:SS) {r:Value×SS} (h:zg5 cc ziu c' st=some r):cc 31 [.int .u8 c'] st=some r:=
 zas (li:=zaY) zat zaC ziv rfl (fun _=>rfl) (.trans (by kernel_rfl) h)
noncomputable def zh1 (cf:zav) (lf:zah) (c':Int) (st:SS):Option (Value×SS):=
 cond (decide (48≤c')) (
 some (.bool (decide (c'≤57)),st)) (
 some (.bool false,st))
noncomputable abbrev zi6:zah:=lS Tryd.prog Lk0 Tryd.f33 zaY
theorem zi7:Lk0.func 33=some (33,Tryd.f33):=by kernel_rfl
theorem zi8 [Sym] (c':Int) (st:SS) {r:Value×SS} (h:zh1 cc zi6 c' st=some r):cc 33 [.int .u8 c'] st=some r:=
 zas (li:=zaY) zat zaC zi7 rfl (fun _=>rfl) (.trans (by kernel_rfl) h)
def zgi:LoopI:=⟨[(0,.str),(6,.any)],[(.exit 0,[(0,.str)]),(.ret,[(2,.int .i64)])]⟩
def zg6 (n:Nat):Option LoopI:=cond (Nat.beq n 2) (some zgi) (none)
noncomputable def zho (cf:zav) (lf:zah) (s':ByteArray) (st:SS):Option (Value×SS):=
 let a:SS:=(st.ro st.next).new (.iter s' 0)
 (lf 2 [.string s',ptr ((st.ro st.next).next) 0] a).bind fun b=>
 cond (Nat.beq b.1 0) (
 ((b.2.1[0]?).bind asS).bind fun c=>
 some (.int .i64 (c.size:Int),st.adv b.2.2.next)) (
 ((b.2.1[0]?).bind (asI .i64)).bind fun d=>
 some (.int .i64 d,st.adv b.2.2.next))
noncomputable abbrev zdK:zah:=lS Tryd.prog Lk0 Tryd.f32 zg6
theorem zjY:Lk0.func 32=some (32,Tryd.f32):=by kernel_rfl
theorem zjZ [Sym] (s':ByteArray) (st:SS) {r:Value×SS} (h:zho cc zdK s' st=some r):cc 32 [.string s'] st=some r:=
 zas (li:=zg6) zat zaC zjY rfl (fun _=>rfl) (.trans (by kernel_rfl) h)
noncomputable def zcn (cf:zav) (lf:zah) (s':ByteArray) (t6':Value) (st:SS):Option (Nat×List Value×SS):=
 (addr? t6').bind fun a=>
 cond (Nat.beq a.2 0) (
 (st.iterG a.1).bind fun q2=>
 cond (Nat.ble st.lim a.1) (
 cond (decide (q2.2<q2.1.size)) (
 let b:SS:=st.set a.1 (some (.iter q2.1 (q2.2+(Utf8.decode q2.1 q2.2).2)))
 cond (decide (128≤((Utf8.decode q2.1 q2.2).1:Int))) (
 some (1,[.int .i64 (q2.2:Int)],b)) (
 let c:Int:=IntKind.wrap .u8 ((Utf8.decode q2.1 q2.2).1:Int)
 (cf 31 [.int .u8 c] b).bind fun d=>
 ((some d.1).bind asB).bind fun e=>
 cond (!e) (
 let f:Int:=IntKind.wrap .u8 ((Utf8.decode q2.1 q2.2).1:Int)
 (cf 33 [.int .u8 f] d.2).bind fun g=>
 ((some g.1).bind asB).bind fun h=>
 cond (!h) (
 some (1,[.int .i64 (q2.2:Int)],g.2)) (
 lf 2 [.string s',t6'] g.2)) (
 lf 2 [.string s',t6'] d.2))) (
 some (0,[.string s'],st))) none) none
theorem zcG [Sym] (s':ByteArray) (t6':Value) (st:SS) {r:Nat×List Value×SS} (h:zcn cc zdK s' t6' st=some r):zdK 2 [.string s',t6'] st=some r:=
 za7 zat zaC (key:=2) (I:=zgi) rfl (by kernel_rfl) (by kernel_rfl) rfl rfl (.trans (by kernel_rfl) h)
end Go.Proofs.YtifploedaacedaaDoorE
namespace Go.Proofs.YtifploedaacedaaDoorE
open Go Go.E Go.Proofs
def zbg (c:Int):Bool:=(decide (97≤c)&&decide (c≤122))||(decide (65≤c)&&decide (c≤90))||decide (c=95)
def zbR (c:Int):Bool:=decide (48≤c)&&decide (c≤57)
theorem zeK [Sym] (c:Int) (st:SS):cc 31 [.int .u8 c] st=some (.bool (zbg c),st):=by
 refine ziw c st ?_
 unfold zg5 zbg
 cases decide (97≤c)<;>cases decide (c≤122)<;>cases decide (65≤c)<;>cases decide (c≤90)<;>simp
theorem digit_ok [Sym] (c:Int) (st:SS):cc 33 [.int .u8 c] st=some (.bool (zbR c),st):=by
 refine zi8 c st ?_
 unfold zh1 zbR
 cases decide (48≤c)<;>cases decide (c≤57)<;>simp
def nameB (b:UInt8):Bool:=zbg b.toNat||zbR b.toNat
theorem zmA {b:UInt8} (h:nameB b=true):b.toNat<128:=by
 unfold nameB zbg zbR at h
 simp only [Bool.or_eq_true,zae,decide_eq_true_eq] at h
 omega
def zaB (l:List UInt8):Nat:=(l.takeWhile nameB).length
theorem get!_of {s:ByteArray} {i:Nat} {b:UInt8} (h:(bl s)[i]?=some b):s.get! i=b:=by
 unfold bl at h
 rw [Array.getElem?_toList] at h
 show s.data[i]! =b
 rw [getElem!_def,h]
theorem zjz {s:ByteArray} {i:Nat} {b:UInt8} (h:(bl s)[i]?=some b) (hb:b.toNat<128):Utf8.decode s i=(b.toNat,1):=by
 unfold Utf8.decode
 simp only [Nat.add_zero,get!_of h,if_pos hb]
theorem zkR {s:ByteArray} {i:Nat} {b:UInt8} (h:(bl s)[i]?=some b) (hb:128≤b.toNat):128≤(Utf8.decode s i).1:=by
 unfold Utf8.decode
 simp only [Nat.add_zero,get!_of h,if_neg (Nat.not_lt.2 hb)]
 repeat' split
 all_goals simp_all [Utf8.runeError]
 all_goals omega
theorem drop_cons {α:Type} {l:List α} {i:Nat} {b:α} (h:l[i]?=some b):l.drop i=b::l.drop (i+1):=by
 obtain ⟨h1,h2⟩:=List.getElem?_eq_some_iff.1 h
 rw [List.drop_eq_getElem_cons h1,h2]
theorem zda {b:UInt8} {l:List UInt8}:zaB (b::l)=if nameB b then 1+zaB l else 0:=by
 unfold zaB
 simp only [List.takeWhile_cons]
 split<;>simp;omega
theorem zg7 (s:ByteArray):(bl s).drop s.size=[]:=by
 rw [List.drop_eq_nil_iff];simp
theorem zmB [Sym] (s:ByteArray) (i:Nat):∀ (k p:Nat) (st:SS),k+p=s.size→st.mem.get i=some (.iter s p)→st.lim≤i→
  ∃ idx vs st',zdK 2 [.string s,ptr i 0] st=some (idx,vs,st')∧st'.next=st.next∧
   ((idx=0∧vs=[.string s]∧p+zaB ((bl s).drop p)=s.size)∨(idx=1∧vs=[.int .i64 ((p+zaB ((bl s).drop p):Nat):Int)])):=by
 intro k
 induction k with
 | zero=>
   intro p st hk hm hl
   have hp:p=s.size:=by omega
   subst hp
   refine ⟨0,[.string s],st,zcG s _ st ?_,rfl,.inl ⟨rfl,rfl,by rw [zg7];rfl⟩⟩
   simp [zcn,addr?,ptr,SS.iterG_get hm,hl]
 | succ k ih=>
   intro p st hk hm hl
   have hlt:p<s.size:=by omega
   have hb:∃ b,(bl s)[p]?=some b:=⟨_,zge (by rw [zaV];exact hlt)⟩
   obtain ⟨b,hb⟩:=hb
   have hd:=drop_cons hb
   by_cases hbig:128≤b.toNat
   ·have hdec:=zkR hb hbig
    have hn:nameB b=false:=by
     cases h:nameB b with
     | false=>rfl
     | true=>have:=zmA h;omega
    refine ⟨1,[.int .i64 (p:Int)],st.set i (some (.iter s (p+(Utf8.decode s p).2))),zcG s _ st ?_,rfl,.inr ⟨rfl,by rw [hd,zda,hn];simp⟩⟩
    have h128:(128:Int)≤((Utf8.decode s p).1:Int):=by omega
    simp [zcn,addr?,ptr,SS.iterG_get hm,hl,hlt,h128]
   ·have hdec:=zjz hb (by omega)
    have h128:¬ (128:Int)≤(b.toNat:Int):=by omega
    have hw:IntKind.wrap .u8 (b.toNat:Int)=b.toNat:=ze5 (by omega) (u8_lt b)
    cases hn:nameB b with
    | false=>
      unfold nameB at hn
      simp only [Bool.or_eq_false_iff] at hn
      refine ⟨1,[.int .i64 (p:Int)],st.set i (some (.iter s (p+1))),zcG s _ st ?_,rfl,.inr ⟨rfl,by rw [hd,zda,nameB,hn.1,hn.2];simp⟩⟩
      simp [zcn,addr?,ptr,SS.iterG_get hm,hl,hlt,hdec,h128,hw,zeK,digit_ok,hn.1,hn.2]
    | true=>
      obtain ⟨idx,vs,st',h1,h2,h3⟩:=ih (p+1) (st.set i (some (.iter s (p+1)))) (by omega) (by simp) hl
      refine ⟨idx,vs,st',zcG s _ st ?_,h2,?_⟩
      ·have hn':=hn
       unfold nameB at hn'
       cases hl1:zbg b.toNat with
       | true=>simpa [zcn,addr?,ptr,SS.iterG_get hm,hl,hlt,hdec,h128,hw,zeK,hl1] using h1
       | false=>
         rw [hl1,Bool.false_or] at hn'
         simpa [zcn,addr?,ptr,SS.iterG_get hm,hl,hlt,hdec,h128,hw,zeK,digit_ok,hl1,hn'] using h1
      ·rw [hd,zda,hn,if_pos rfl]
       rcases h3 with ⟨a,b',c⟩ | ⟨a,b'⟩
       ·exact .inl ⟨a,b',by omega⟩
       ·exact .inr ⟨a,by rw [b'];congr 2;omega⟩
theorem zdP [Sym] (s:ByteArray) (st:SS):∃ n,st.next≤n∧cc 32 [.string s] st=some (.int .i64 (zaB (bl s):Nat),st.adv n):=by
 obtain ⟨idx,vs,st',h1,h2,h3⟩:=zmB s st.next s.size 0 ((st.ro st.next).new (.iter s 0)) (by omega) (SS.new_get (st:=st.ro st.next)) (zlr _)
 refine ⟨st'.next,by rw [h2];simp,zjZ s st ?_⟩
 rcases h3 with ⟨rfl,rfl,h⟩ | ⟨rfl,rfl⟩
 ·simp only [List.drop_zero,Nat.zero_add] at h
  simp [zho,h1,h]
 ·simp [zho,h1]
def mkS (l:List UInt8):ByteArray:=⟨⟨l⟩⟩
@[simp] theorem zdm (l:List UInt8):bl (mkS l)=l:=rfl
@[simp] theorem ze7 (s:ByteArray):mkS (bl s)=s:=by cases s with | mk d=>cases d;rfl
@[simp] theorem mkS_size (l:List UInt8):(mkS l).size=l.length:=rfl
theorem zdL (s:ByteArray) (l h:Nat):s.extract l h=mkS (((bl s).take h).drop l):=by
 rw [← zfD,ze7]
theorem zdD (a b:ByteArray):eqT a b=decide (bl a=bl b):=rfl
def pieces (c:UInt8):List UInt8→List (List UInt8)
 | []=>[[]]
 | b::r=>if b=c then []::pieces c r else match pieces c r with
   | []=>[[b]]
   | x::y=>(b::x)::y
theorem zlH (c:UInt8) (l:List UInt8):pieces c l≠[]:=by
 cases l with
 | nil=>simp [pieces]
 | cons b r=>
   unfold pieces
   split
   ·simp
   ·split<;>simp
theorem pieces_len (c:UInt8) (l:List UInt8):(pieces c l).length≤l.length+1:=by
 induction l with
 | nil=>simp [pieces]
 | cons b r ih=>
   unfold pieces
   split
   ·simp;omega
   ·split<;>rename_i h<;>rw [h] at ih<;>simp at ih ⊢<;>omega
def strs (l:List (List UInt8)):List Value:=l.map fun x=>.string (mkS x)
@[simp] theorem znD (l:List (List UInt8)):(strs l).length=l.length:=by simp [strs]
theorem zg8 (a b:List (List UInt8)):strs (a++b)=strs a++strs b:=by simp [strs]
theorem Rd.new1 {st:SS} {row:List Value} {z:Nat} (h:row.length=z):Rd (st.new (.cells row z)) (.slice (some ⟨st.next,0,none⟩) 1 1) row z 1:=
 ⟨by rw [h,Nat.one_mul],.inr ⟨st.next,1,rfl,⟨z,SS.new_get⟩,by simp⟩⟩
end Go.Proofs.YtifploedaacedaaDoorE
namespace Go.Proofs.YtifploedaacedaaDoorE
set_option maxRecDepth 20000
open Go Go.E Go.Proofs
noncomputable def strings_Split (cf:zav) (lf:zah) (s':ByteArray) (sep':ByteArray) (st:SS):Option (Value×SS):=
 (cf 30 [.string s',.string sep',.int .i64 0,.int .i64 (-1)] st).bind fun a=>
 some (a.1,a.2)
noncomputable abbrev zhp:zah:=lS Tryd.prog Lk0 Tryd.f17 zaY
theorem zhq:Lk0.func 17=some (17,Tryd.f17):=by kernel_rfl
theorem zhr [Sym] (s':ByteArray) (sep':ByteArray) (st:SS) {r:Value×SS} (h:strings_Split cc zhp s' sep' st=some r):cc 17 [.string s',.string sep'] st=some r:=
 zas (li:=zaY) zat zaC zhq rfl (fun _=>rfl) (.trans (by kernel_rfl) h)
def zdb:LoopI:=⟨[(0,.str),(1,.str),(2,.int .i64),(3,.int .i64),(9,.any),(10,.int .i64)],[(.exit 0,[(0,.str),(9,.any),(10,.int .i64)])]⟩
def zdw (n:Nat):Option LoopI:=cond (Nat.beq n 11) (some zdb) (none)
noncomputable def strings_genSplit (cf:zav) (lf:zah) (s':ByteArray) (sep':ByteArray) (sepSave':Int) (n':Int) (st:SS):Option (Value×SS):=
 cond (decide (n'=0)) (
 some (.slice none 0 0,st)) (
 cond (eqT sep' ⟨#[]⟩) (
 (cf 45 [.string s',.int .i64 n'] st).bind fun a=>
 some (a.1,a.2)) (
 cond (decide (n'<0)) (
 (cf 46 [.string s',.string sep'] st).bind fun b=>
 ((some b.1).bind (asI .i64)).bind fun c=>
 let d:Int:=IntKind.wrap .i64 (c+1)
 let e:Int:=IntKind.wrap .i64 ((s'.size:Int)+1)
 let f:Int:=if e<d then e else d
 (zeH f f 16).bind fun _=>
 let g:SS:=b.2.new (.cells (zeo [.string ⟨#[]⟩] f) 1)
 let h:Int:=IntKind.wrap .i64 (f-1)
 (lf 11 [.string s',.string sep',.int .i64 sepSave',.int .i64 h,.slice (some ⟨b.2.next,0,none⟩) ((f:Int).toNat) ((f:Int).toNat),.int .i64 0] g).bind fun i=>
 ((i.2.1[0]?).bind asS).bind fun j=>
 (i.2.1[1]?).bind fun k=>
 ((i.2.1[2]?).bind (asI .i64)).bind fun l=>
 (zaD k l 1).bind fun m=>
 (i.2.2.st m.1 m.2 [.string j]).bind fun n=>
 let o:Int:=IntKind.wrap .i64 (l+1)
 (n.resl k 1 0 o).bind fun p=>
 some (p,n)) (
 let q:Int:=IntKind.wrap .i64 ((s'.size:Int)+1)
 let r:Int:=if q<n' then q else n'
 (zeH r r 16).bind fun _=>
 let s:SS:=st.new (.cells (zeo [.string ⟨#[]⟩] r) 1)
 let t:Int:=IntKind.wrap .i64 (r-1)
 (lf 11 [.string s',.string sep',.int .i64 sepSave',.int .i64 t,.slice (some ⟨st.next,0,none⟩) ((r:Int).toNat) ((r:Int).toNat),.int .i64 0] s).bind fun u=>
 ((u.2.1[0]?).bind asS).bind fun v=>
 (u.2.1[1]?).bind fun w=>
 ((u.2.1[2]?).bind (asI .i64)).bind fun x=>
 (zaD w x 1).bind fun y=>
 (u.2.2.st y.1 y.2 [.string v]).bind fun z=>
 let A:Int:=IntKind.wrap .i64 (x+1)
 (z.resl w 1 0 A).bind fun B=>
 some (B,z))))
noncomputable abbrev zbs:zah:=lS Tryd.prog Lk0 Tryd.f30 zdw
theorem zfU:Lk0.func 30=some (30,Tryd.f30):=by kernel_rfl
theorem zfV [Sym] (s':ByteArray) (sep':ByteArray) (sepSave':Int) (n':Int) (st:SS) {r:Value×SS} (h:strings_genSplit cc zbs s' sep' sepSave' n' st=some r):cc 30 [.string s',.string sep',.int .i64 sepSave',.int .i64 n'] st=some r:=
 zas (li:=zdw) zat zaC zfU rfl (fun _=>rfl) (.trans (by kernel_rfl) h)
noncomputable def zce (cf:zav) (lf:zah) (s':ByteArray) (sep':ByteArray) (sepSave':Int) (n':Int) (a':Value) (i':Int) (st:SS):Option (Nat×List Value×SS):=
 cond (decide (i'<n')) (
 (cf 47 [.string s',.string sep'] st).bind fun a=>
 ((some a.1).bind (asI .i64)).bind fun b=>
 cond (decide (b<0)) (
 some (0,[.string s',a',.int .i64 i'],a.2)) (
 let c:Int:=IntKind.wrap .i64 (b+sepSave')
 (zcp s' 0 c).bind fun d=>
 (zaD a' i' 1).bind fun e=>
 (a.2.st e.1 e.2 [.string d]).bind fun f=>
 let g:Int:=IntKind.wrap .i64 (b+(sep'.size:Int))
 (zcp s' g (s'.size:Int)).bind fun h=>
 let i:Int:=IntKind.wrap .i64 (i'+1)
 lf 11 [.string h,.string sep',.int .i64 sepSave',.int .i64 n',a',.int .i64 i] f)) (
 some (0,[.string s',a',.int .i64 i'],st))
theorem zcK [Sym] (s':ByteArray) (sep':ByteArray) (sepSave':Int) (n':Int) (a':Value) (i':Int) (st:SS) {r:Nat×List Value×SS} (h:zce cc zbs s' sep' sepSave' n' a' i' st=some r):zbs 11 [.string s',.string sep',.int .i64 sepSave',.int .i64 n',a',.int .i64 i'] st=some r:=
 za7 zat zaC (key:=11) (I:=zdb) rfl (by kernel_rfl) (by kernel_rfl) rfl rfl (.trans (by kernel_rfl) h)
noncomputable def zcV (cf:zav) (lf:zah) (s':ByteArray) (prefix0':ByteArray) (st:SS):Option (Value×SS):=
 (cf 72 [.string s',.string prefix0'] st).bind fun a=>
 ((some a.1).bind asB).bind fun b=>
 cond (!b) (
 some (.tuple #[.string s',.bool false],a.2)) (
 (zcp s' (prefix0'.size:Int) (s'.size:Int)).bind fun c=>
 some (.tuple #[.string c,.bool true],a.2))
noncomputable abbrev zd2:zah:=lS Tryd.prog Lk0 Tryd.f61 zaY
theorem zd3:Lk0.func 61=some (61,Tryd.f61):=by kernel_rfl
theorem zd4 [Sym] (s':ByteArray) (prefix0':ByteArray) (st:SS) {r:Value×SS} (h:zcV cc zd2 s' prefix0' st=some r):cc 61 [.string s',.string prefix0'] st=some r:=
 zas (li:=zaY) zat zaC zd3 rfl (fun _=>rfl) (.trans (by kernel_rfl) h)
noncomputable def zcW (cf:zav) (lf:zah) (s':ByteArray) (prefix0':ByteArray) (st:SS):Option (Value×SS):=
 cond (decide ((prefix0'.size:Int)≤(s'.size:Int))) (
 (zcp s' 0 (prefix0'.size:Int)).bind fun s1=>
 some (.bool (eqT s1 prefix0'),st)) (
 some (.bool false,st))
noncomputable abbrev zd5:zah:=lS Tryd.prog Lk0 Tryd.f72 zaY
theorem zd6:Lk0.func 72=some (72,Tryd.f72):=by kernel_rfl
theorem zd7 [Sym] (s':ByteArray) (prefix0':ByteArray) (st:SS) {r:Value×SS} (h:zcW cc zd5 s' prefix0' st=some r):cc 72 [.string s',.string prefix0'] st=some r:=
 zas (li:=zaY) zat zaC zd6 rfl (fun _=>rfl) (.trans (by kernel_rfl) h)
noncomputable def strings_CutPrefix (cf:zav) (lf:zah) (s':ByteArray) (prefix0':ByteArray) (st:SS):Option (Value×SS):=
 (cf 61 [.string s',.string prefix0'] st).bind fun a=>
 ((zao a.1 0).bind asS).bind fun b=>
 ((zao a.1 1).bind asB).bind fun c=>
 some (.tuple #[.string b,.bool c],a.2)
noncomputable abbrev zfF:zah:=lS Tryd.prog Lk0 Tryd.f48 zaY
theorem zfG:Lk0.func 48=some (48,Tryd.f48):=by kernel_rfl
theorem zfH [Sym] (s':ByteArray) (prefix0':ByteArray) (st:SS) {r:Value×SS} (h:strings_CutPrefix cc zfF s' prefix0' st=some r):cc 48 [.string s',.string prefix0'] st=some r:=
 zas (li:=zaY) zat zaC zfG rfl (fun _=>rfl) (.trans (by kernel_rfl) h)
noncomputable def zcP (cf:zav) (lf:zah) (s':ByteArray) (base':Int) (bitSize':Int) (st:SS):Option (Value×SS):=
 (cf 62 [.string s',.int .i64 base',.int .i64 bitSize'] st).bind fun a=>
 ((zao a.1 0).bind (asI .u64)).bind fun b=>
 (zao a.1 1).bind fun c=>
 (((zdl c).bind fun r=>some (.bool !r)).bind asB).bind fun d=>
 cond d (
 (cf 63 [.string ⟨#[80,97,114,115,101,85,105,110,116]⟩,.string s',.int .i64 base',.int .i64 bitSize',c] a.2).bind fun e=>
 some (.tuple #[.int .u64 b,e.1],e.2)) (
 some (.tuple #[.int .u64 b,.nilIface],a.2))
noncomputable abbrev zfI:zah:=lS Tryd.prog Lk0 Tryd.f49 zaY
theorem zfJ:Lk0.func 49=some (49,Tryd.f49):=by kernel_rfl
theorem zdn [Sym] (s':ByteArray) (base':Int) (bitSize':Int) (st:SS) {r:Value×SS} (h:zcP cc zfI s' base' bitSize' st=some r):cc 49 [.string s',.int .i64 base',.int .i64 bitSize'] st=some r:=
 zas (li:=zaY) zat zaC zfJ rfl (fun _=>rfl) (.trans (by kernel_rfl) h)
noncomputable def ze8 (cf:zav) (lf:zah) (c':Int) (st:SS):Option (Value×SS):=
 let n1:Int:=orI .u8 c' 32
 some (.int .u8 n1,st)
noncomputable abbrev zgM:zah:=lS Tryd.prog Lk0 Tryd.f73 zaY
theorem zgN:Lk0.func 73=some (73,Tryd.f73):=by kernel_rfl
theorem zgO [Sym] (c':Int) (st:SS) {r:Value×SS} (h:ze8 cc zgM c' st=some r):cc 73 [.int .u8 c'] st=some r:=
 zas (li:=zaY) zat zaC zgN rfl (fun _=>rfl) (.trans (by kernel_rfl) h)
def ziW:LoopI:=⟨[(1,.int .i64),(8,.bool),(9,.str),(10,.int .u64),(11,.int .u64),(12,.bool),(13,.int .u64),(99,.any),(100,.int .i64),(101,.int .i64)],[(.exit 3,[(9,.str),(12,.bool),(13,.int .u64)]),(.ret,[(6,.int .u64),(7,.any)])]⟩
def zkg (n:Nat):Option LoopI:=cond (Nat.beq n 36) (some ziW) (none)
noncomputable def pu10 (cf:zav) (lf:zah) (s':ByteArray) (st:SS):Option (Value×SS):=
 cond (eqT s' ⟨#[]⟩) (
 some (.tuple #[.int .u64 0,.iface 135 (.int .i64 2)],st)) (
 let a:Int:=zil .u64 1 31
 let c:Int:=IntKind.wrap .u64 (a-1)
 let d:SS:=st.new (.cells (s'.data.toList.map fun b=>.int .u8 b.toNat) 1)
 (lf 36 [.int .i64 10,.bool false,.string s',.int .u64 1844674407370955162,.int .u64 c,.bool false,.int .u64 0,.slice (some ⟨st.next,0,none⟩) s'.size s'.size,.int .i64 ((s'.size:Nat):Int),.int .i64 0] d).bind fun e=>
 cond (Nat.beq e.1 0) (
 ((e.2.1[0]?).bind asS).bind fun f=>
 ((e.2.1[1]?).bind asB).bind fun g=>
 ((e.2.1[2]?).bind (asI .u64)).bind fun h=>
 cond g (
 (cf 74 [.string f] e.2.2).bind fun i=>
 ((some i.1).bind asB).bind fun j=>
 cond (!j) (
 some (.tuple #[.int .u64 0,.iface 135 (.int .i64 2)],i.2)) (
 some (.tuple #[.int .u64 h,.nilIface],i.2))) (
 some (.tuple #[.int .u64 h,.nilIface],e.2.2))) (
 ((e.2.1[0]?).bind (asI .u64)).bind fun k=>
 (e.2.1[1]?).bind fun l=>
 some (.tuple #[.int .u64 k,l],e.2.2)))
noncomputable abbrev zeb:zah:=lS Tryd.prog Lk0 Tryd.f62 zkg
theorem znm:Lk0.func 62=some (62,Tryd.f62):=by kernel_rfl
theorem zkh [Sym] (s':ByteArray) (st:SS) {r:Value×SS} (h:pu10 cc zeb s' st=some r):cc 62 [.string s',.int .i64 10,.int .i64 31] st=some r:=
 zas (li:=zkg) zat zaC znm rfl (fun _=>rfl) (.trans (by kernel_rfl) h)
noncomputable def zcg (cf:zav) (lf:zah) (base':Int) (s0':ByteArray) (cutoff':Int) (maxVal':Int) (underscores':Bool) (n':Int) (t99':Value) (t100':Int) (t101':Int) (st:SS):Option (Nat×List Value×SS):=
 cond (decide (t101'<t100')) (
 (zaD t99' t101' 1).bind fun a=>
 ((st.ld a.1 a.2).bind (asI .u8)).bind fun b=>
 cond (decide (b=95)) (
 cond (decide (48≤b)) (
 cond (decide (b≤57)) (
 let c:Int:=IntKind.wrap .u8 (b-48)
 let d:Int:=IntKind.wrap .u8 base'
 cond (decide (d≤c)) (
 some (1,[.int .u64 0,.iface 135 (.int .i64 2)],st)) (
 cond (decide (cutoff'≤n')) (
 some (1,[.int .u64 maxVal',.iface 135 (.int .i64 1)],st)) (
 let e:Int:=IntKind.wrap .u64 base'
 let f:Int:=IntKind.wrap .u64 (n'*e)
 let g:Int:=IntKind.wrap .u64 c
 let h:Int:=IntKind.wrap .u64 (f+g)
 cond (decide (h<f)) (
 some (1,[.int .u64 maxVal',.iface 135 (.int .i64 1)],st)) (
 cond (decide (maxVal'<h)) (
 some (1,[.int .u64 maxVal',.iface 135 (.int .i64 1)],st)) (
 let i:Int:=IntKind.wrap .i64 (t101'+1)
 lf 36 [.int .i64 base',.bool false,.string s0',.int .u64 cutoff',.int .u64 maxVal',.bool underscores',.int .u64 h,t99',.int .i64 t100',.int .i64 i] st))))) (
 (cf 73 [.int .u8 b] st).bind fun j=>
 ((some j.1).bind (asI .u8)).bind fun k=>
 cond (decide (97≤k)) (
 (cf 73 [.int .u8 b] j.2).bind fun l=>
 ((some l.1).bind (asI .u8)).bind fun m=>
 cond (decide (m≤122)) (
 (cf 73 [.int .u8 b] l.2).bind fun n=>
 ((some n.1).bind (asI .u8)).bind fun o=>
 let p:Int:=IntKind.wrap .u8 (o-97)
 let q:Int:=IntKind.wrap .u8 (p+10)
 let r:Int:=IntKind.wrap .u8 base'
 cond (decide (r≤q)) (
 some (1,[.int .u64 0,.iface 135 (.int .i64 2)],n.2)) (
 cond (decide (cutoff'≤n')) (
 some (1,[.int .u64 maxVal',.iface 135 (.int .i64 1)],n.2)) (
 let s:Int:=IntKind.wrap .u64 base'
 let t:Int:=IntKind.wrap .u64 (n'*s)
 let u:Int:=IntKind.wrap .u64 q
 let v:Int:=IntKind.wrap .u64 (t+u)
 cond (decide (v<t)) (
 some (1,[.int .u64 maxVal',.iface 135 (.int .i64 1)],n.2)) (
 cond (decide (maxVal'<v)) (
 some (1,[.int .u64 maxVal',.iface 135 (.int .i64 1)],n.2)) (
 let w:Int:=IntKind.wrap .i64 (t101'+1)
 lf 36 [.int .i64 base',.bool false,.string s0',.int .u64 cutoff',.int .u64 maxVal',.bool underscores',.int .u64 v,t99',.int .i64 t100',.int .i64 w] n.2))))) (
 some (1,[.int .u64 0,.iface 135 (.int .i64 2)],l.2))) (
 some (1,[.int .u64 0,.iface 135 (.int .i64 2)],j.2)))) (
 (cf 73 [.int .u8 b] st).bind fun x=>
 ((some x.1).bind (asI .u8)).bind fun y=>
 cond (decide (97≤y)) (
 (cf 73 [.int .u8 b] x.2).bind fun z=>
 ((some z.1).bind (asI .u8)).bind fun A=>
 cond (decide (A≤122)) (
 (cf 73 [.int .u8 b] z.2).bind fun B=>
 ((some B.1).bind (asI .u8)).bind fun C=>
 let D:Int:=IntKind.wrap .u8 (C-97)
 let E:Int:=IntKind.wrap .u8 (D+10)
 let F:Int:=IntKind.wrap .u8 base'
 cond (decide (F≤E)) (
 some (1,[.int .u64 0,.iface 135 (.int .i64 2)],B.2)) (
 cond (decide (cutoff'≤n')) (
 some (1,[.int .u64 maxVal',.iface 135 (.int .i64 1)],B.2)) (
 let G:Int:=IntKind.wrap .u64 base'
 let H:Int:=IntKind.wrap .u64 (n'*G)
 let I:Int:=IntKind.wrap .u64 E
 let J:Int:=IntKind.wrap .u64 (H+I)
 cond (decide (J<H)) (
 some (1,[.int .u64 maxVal',.iface 135 (.int .i64 1)],B.2)) (
 cond (decide (maxVal'<J)) (
 some (1,[.int .u64 maxVal',.iface 135 (.int .i64 1)],B.2)) (
 let K:Int:=IntKind.wrap .i64 (t101'+1)
 lf 36 [.int .i64 base',.bool false,.string s0',.int .u64 cutoff',.int .u64 maxVal',.bool underscores',.int .u64 J,t99',.int .i64 t100',.int .i64 K] B.2))))) (
 some (1,[.int .u64 0,.iface 135 (.int .i64 2)],z.2))) (
 some (1,[.int .u64 0,.iface 135 (.int .i64 2)],x.2)))) (
 cond (decide (48≤b)) (
 cond (decide (b≤57)) (
 let L:Int:=IntKind.wrap .u8 (b-48)
 let M:Int:=IntKind.wrap .u8 base'
 cond (decide (M≤L)) (
 some (1,[.int .u64 0,.iface 135 (.int .i64 2)],st)) (
 cond (decide (cutoff'≤n')) (
 some (1,[.int .u64 maxVal',.iface 135 (.int .i64 1)],st)) (
 let N:Int:=IntKind.wrap .u64 base'
 let O:Int:=IntKind.wrap .u64 (n'*N)
 let P:Int:=IntKind.wrap .u64 L
 let Q:Int:=IntKind.wrap .u64 (O+P)
 cond (decide (Q<O)) (
 some (1,[.int .u64 maxVal',.iface 135 (.int .i64 1)],st)) (
 cond (decide (maxVal'<Q)) (
 some (1,[.int .u64 maxVal',.iface 135 (.int .i64 1)],st)) (
 let R:Int:=IntKind.wrap .i64 (t101'+1)
 lf 36 [.int .i64 base',.bool false,.string s0',.int .u64 cutoff',.int .u64 maxVal',.bool underscores',.int .u64 Q,t99',.int .i64 t100',.int .i64 R] st))))) (
 (cf 73 [.int .u8 b] st).bind fun S=>
 ((some S.1).bind (asI .u8)).bind fun T=>
 cond (decide (97≤T)) (
 (cf 73 [.int .u8 b] S.2).bind fun U=>
 ((some U.1).bind (asI .u8)).bind fun V=>
 cond (decide (V≤122)) (
 (cf 73 [.int .u8 b] U.2).bind fun W=>
 ((some W.1).bind (asI .u8)).bind fun X=>
 let Y:Int:=IntKind.wrap .u8 (X-97)
 let Z:Int:=IntKind.wrap .u8 (Y+10)
 let aA:Int:=IntKind.wrap .u8 base'
 cond (decide (aA≤Z)) (
 some (1,[.int .u64 0,.iface 135 (.int .i64 2)],W.2)) (
 cond (decide (cutoff'≤n')) (
 some (1,[.int .u64 maxVal',.iface 135 (.int .i64 1)],W.2)) (
 let aB:Int:=IntKind.wrap .u64 base'
 let aC:Int:=IntKind.wrap .u64 (n'*aB)
 let aD:Int:=IntKind.wrap .u64 Z
 let aE:Int:=IntKind.wrap .u64 (aC+aD)
 cond (decide (aE<aC)) (
 some (1,[.int .u64 maxVal',.iface 135 (.int .i64 1)],W.2)) (
 cond (decide (maxVal'<aE)) (
 some (1,[.int .u64 maxVal',.iface 135 (.int .i64 1)],W.2)) (
 let aF:Int:=IntKind.wrap .i64 (t101'+1)
 lf 36 [.int .i64 base',.bool false,.string s0',.int .u64 cutoff',.int .u64 maxVal',.bool underscores',.int .u64 aE,t99',.int .i64 t100',.int .i64 aF] W.2))))) (
 some (1,[.int .u64 0,.iface 135 (.int .i64 2)],U.2))) (
 some (1,[.int .u64 0,.iface 135 (.int .i64 2)],S.2)))) (
 (cf 73 [.int .u8 b] st).bind fun aG=>
 ((some aG.1).bind (asI .u8)).bind fun aH=>
 cond (decide (97≤aH)) (
 (cf 73 [.int .u8 b] aG.2).bind fun aI=>
 ((some aI.1).bind (asI .u8)).bind fun aJ=>
 cond (decide (aJ≤122)) (
 (cf 73 [.int .u8 b] aI.2).bind fun aK=>
 ((some aK.1).bind (asI .u8)).bind fun aL=>
 let aM:Int:=IntKind.wrap .u8 (aL-97)
 let aN:Int:=IntKind.wrap .u8 (aM+10)
 let aO:Int:=IntKind.wrap .u8 base'
 cond (decide (aO≤aN)) (
 some (1,[.int .u64 0,.iface 135 (.int .i64 2)],aK.2)) (
 cond (decide (cutoff'≤n')) (
 some (1,[.int .u64 maxVal',.iface 135 (.int .i64 1)],aK.2)) (
 let aP:Int:=IntKind.wrap .u64 base'
 let aQ:Int:=IntKind.wrap .u64 (n'*aP)
 let aR:Int:=IntKind.wrap .u64 aN
 let aS:Int:=IntKind.wrap .u64 (aQ+aR)
 cond (decide (aS<aQ)) (
 some (1,[.int .u64 maxVal',.iface 135 (.int .i64 1)],aK.2)) (
 cond (decide (maxVal'<aS)) (
 some (1,[.int .u64 maxVal',.iface 135 (.int .i64 1)],aK.2)) (
 let aT:Int:=IntKind.wrap .i64 (t101'+1)
 lf 36 [.int .i64 base',.bool false,.string s0',.int .u64 cutoff',.int .u64 maxVal',.bool underscores',.int .u64 aS,t99',.int .i64 t100',.int .i64 aT] aK.2))))) (
 some (1,[.int .u64 0,.iface 135 (.int .i64 2)],aI.2))) (
 some (1,[.int .u64 0,.iface 135 (.int .i64 2)],aG.2))))) (
 some (0,[.string s0',.bool underscores',.int .u64 n'],st))
theorem zg9 [Sym] (base':Int) (s0':ByteArray) (cutoff':Int) (maxVal':Int) (underscores':Bool) (n':Int) (t99':Value) (t100':Int) (t101':Int) (st:SS) {r:Nat×List Value×SS} (h:zcg cc zeb base' s0' cutoff' maxVal' underscores' n' t99' t100' t101' st=some r):zeb 36 [.int .i64 base',.bool false,.string s0',.int .u64 cutoff',.int .u64 maxVal',.bool underscores',.int .u64 n',t99',.int .i64 t100',.int .i64 t101'] st=some r:=
 za7 zat zaC (key:=36) (I:=ziW) rfl (by kernel_rfl) (by kernel_rfl) rfl rfl (.trans (by kernel_rfl) h)
def zlI:LoopI:=⟨[(1,.int .i64),(8,.bool),(9,.str),(10,.int .u64),(11,.int .u64),(12,.bool),(13,.int .u64),(99,.any),(100,.int .i64),(101,.int .i64)],[(.exit 3,[(9,.str),(12,.bool),(13,.int .u64)]),(.ret,[(6,.int .u64),(7,.any)])]⟩
def zki (n:Nat):Option LoopI:=cond (Nat.beq n 36) (some zlI) (none)
noncomputable def pu16 (cf:zav) (lf:zah) (s':ByteArray) (st:SS):Option (Value×SS):=
 cond (eqT s' ⟨#[]⟩) (
 some (.tuple #[.int .u64 0,.iface 135 (.int .i64 2)],st)) (
 let a:Int:=zil .u64 1 31
 let c:Int:=IntKind.wrap .u64 (a-1)
 let d:SS:=st.new (.cells (s'.data.toList.map fun b=>.int .u8 b.toNat) 1)
 (lf 36 [.int .i64 16,.bool false,.string s',.int .u64 1152921504606846976,.int .u64 c,.bool false,.int .u64 0,.slice (some ⟨st.next,0,none⟩) s'.size s'.size,.int .i64 ((s'.size:Nat):Int),.int .i64 0] d).bind fun e=>
 cond (Nat.beq e.1 0) (
 ((e.2.1[0]?).bind asS).bind fun f=>
 ((e.2.1[1]?).bind asB).bind fun g=>
 ((e.2.1[2]?).bind (asI .u64)).bind fun h=>
 cond g (
 (cf 74 [.string f] e.2.2).bind fun i=>
 ((some i.1).bind asB).bind fun j=>
 cond (!j) (
 some (.tuple #[.int .u64 0,.iface 135 (.int .i64 2)],i.2)) (
 some (.tuple #[.int .u64 h,.nilIface],i.2))) (
 some (.tuple #[.int .u64 h,.nilIface],e.2.2))) (
 ((e.2.1[0]?).bind (asI .u64)).bind fun k=>
 (e.2.1[1]?).bind fun l=>
 some (.tuple #[.int .u64 k,l],e.2.2)))
noncomputable abbrev zkj:zah:=lS Tryd.prog Lk0 Tryd.f62 zki
theorem znn:Lk0.func 62=some (62,Tryd.f62):=by kernel_rfl
theorem zkk [Sym] (s':ByteArray) (st:SS) {r:Value×SS} (h:pu16 cc zkj s' st=some r):cc 62 [.string s',.int .i64 16,.int .i64 31] st=some r:=
 zas (li:=zki) zat zaC znn rfl (fun _=>rfl) (.trans (by kernel_rfl) h)
noncomputable def zcX (cf:zav) (lf:zah) (s':ByteArray) (st:SS):Option (Value×SS):=
 (cf 48 [.string s',.string ⟨#[48,120]⟩] (st.ro st.next)).bind fun a=>
 ((zao a.1 0).bind asS).bind fun b=>
 ((zao a.1 1).bind asB).bind fun c=>
 cond c (
 (cf 49 [.string b,.int .i64 16,.int .i64 31] a.2).bind fun d=>
 ((zao d.1 0).bind (asI .u64)).bind fun e=>
 (zao d.1 1).bind fun f=>
 let g:Int:=IntKind.wrap .i64 e
 (((zdl f).bind fun r=>some (.bool r)).bind asB).bind fun h=>
 cond h (
 (cf 35 [.string b,.int .u8 95] d.2).bind fun i=>
 ((some i.1).bind (asI .i64)).bind fun j=>
 some (.tuple #[.int .i64 g,.bool (decide (j<0))],st.adv i.2.next)) (
 some (.tuple #[.int .i64 g,.bool false],st.adv d.2.next))) (
 (cf 49 [.string s',.int .i64 10,.int .i64 31] a.2).bind fun k=>
 ((zao k.1 0).bind (asI .u64)).bind fun l=>
 (zao k.1 1).bind fun m=>
 let n:Int:=IntKind.wrap .i64 l
 (((zdl m).bind fun r=>some (.bool r)).bind asB).bind fun o=>
 cond o (
 (cf 35 [.string s',.int .u8 95] k.2).bind fun p=>
 ((some p.1).bind (asI .i64)).bind fun q=>
 some (.tuple #[.int .i64 n,.bool (decide (q<0))],st.adv p.2.next)) (
 some (.tuple #[.int .i64 n,.bool false],st.adv k.2.next)))
noncomputable abbrev zix:zah:=lS Tryd.prog Lk0 Tryd.f34 zaY
theorem ziy:Lk0.func 34=some (34,Tryd.f34):=by kernel_rfl
theorem ze9 [Sym] (s':ByteArray) (st:SS) {r:Value×SS} (h:zcX cc zix s' st=some r):cc 34 [.string s'] st=some r:=
 zas (li:=zaY) zat zaC ziy rfl (fun _=>rfl) (.trans (by kernel_rfl) h)
end Go.Proofs.YtifploedaacedaaDoorE
namespace Go.Proofs.YtifploedaacedaaDoorE
open Go Go.E Go.Proofs
theorem ziX (c:UInt8) (l:List UInt8):(Lib.indexByte l c= -1∧pieces c l=[l]∧l.count c=0)∨
  ∃ m:Nat,Lib.indexByte l c=m∧m<l.length∧pieces c l=l.take m::pieces c (l.drop (m+1))∧l.count c=(l.drop (m+1)).count c+1:=by
 induction l with
 | nil=>exact .inl ⟨rfl,rfl,rfl⟩
 | cons b r ih=>
   by_cases hb:b=c
   ·subst hb
    refine .inr ⟨0,?_,by simp,?_,?_⟩
    ·simp [Lib.indexByte]
    ·simp [pieces]
    ·simp
   ·rcases ih with ⟨h1,h2,h3⟩ | ⟨m,h1,h2,h3,h4⟩
    ·refine .inl ⟨?_,?_,?_⟩
     ·simp [Lib.indexByte,hb,h1]
     ·simp [pieces,hb,h2]
     ·simp [List.count_cons,hb,h3]
    ·refine .inr ⟨m+1,?_,by simp;omega,?_,?_⟩
     ·have:¬ ((m:Int)= -1):=by omega
      simp [Lib.indexByte,hb,h1,this]
     ·simp [pieces,hb,h3]
     ·simp [List.count_cons,hb,h4]
theorem zmC {n:Int} {z:Nat} (h0:0≤n) (h1:n≤1099511627776) (h2:n*z≤70368744177664):zeH n n z=some ():=by
 unfold zeH
 simp [h0,h1,h2]
theorem zkS (v:Value) (n:Nat):zeo [v] (n:Int)=List.replicate n v:=by
 unfold zeo
 apply List.ext_getElem
 ·simp
 ·intro i h1 h2
  simp
  have:i%1=0:=Nat.mod_one i
  simp [this]
theorem zmD (done:List (List UInt8)) (k:Nat) (x:List UInt8):(strs done++List.replicate (k+1) (Value.string ⟨#[]⟩)).take done.length++([.string (mkS x)]++(strs done++List.replicate (k+1) (Value.string ⟨#[]⟩)).drop (done.length+1))=strs (done++[x])++List.replicate k (Value.string ⟨#[]⟩):=by
 rw [zg8,List.take_append_of_le_length (by simp),List.take_of_length_le (by simp),List.drop_append]
 have h1:(strs done).drop (done.length+1)=[]:=by rw [List.drop_eq_nil_iff];simp
 rw [h1]
 simp [strs]
theorem count_le (c:UInt8) (l:List UInt8):l.count c≤l.length:=List.count_le_length
theorem zno (c:UInt8) (s:ByteArray) (st:SS) [Sym]:cc 47 [.string s,.string ⟨#[c]⟩] st=some (.int .i64 (Lib.indexByte (bl s) c),st):=
 zgd (by rfl) st
theorem zmE (c:UInt8) (s:ByteArray) (st:SS) [Sym]:cc 46 [.string s,.string ⟨#[c]⟩] st=some (.int .i64 ((bl s).count c:Nat),st):=
 zgd (by rfl) st
theorem zet (c:UInt8) (s:ByteArray) (st:SS) [Sym]:cc 35 [.string s,.int .u8 c.toNat] st=some (.int .i64 (Lib.indexByte (bl s) c),st):=by
 refine zgd ?_ st
 show some (Value.int .i64 (Lib.indexByte s.data.toList (c.toNat:Int).toNat.toUInt8))=_
 have:((c.toNat:Int).toNat).toUInt8=c:=by simp
 rw [this];rfl
theorem zkT [Sym] (c:UInt8) (N b:Nat) (st0:SS) (hN:N≤4294967296):∀ (k:Nat) (rest:ByteArray) (done:List (List UInt8)) (st:SS),k=(bl rest).count c→done.length+k=N→rest.size≤4294967296→
  st.mem.get b=some (.cells (strs done++List.replicate (k+1) (.string ⟨#[]⟩)) 1)→st.lim≤b→st0.next≤b→b<st.next→Ext st0 st→
  ∃ (rest':ByteArray) (front:List (List UInt8)) (st':SS),zbs 11 [.string rest,.string ⟨#[c]⟩,.int .i64 0,.int .i64 N,.slice (some ⟨b,0,none⟩) (N+1) (N+1),.int .i64 done.length] st=some (0,[.string rest',.slice (some ⟨b,0,none⟩) (N+1) (N+1),.int .i64 N],st')∧
   st'.mem.get b=some (.cells (strs (done++front)++[.string ⟨#[]⟩]) 1)∧front++[bl rest']=pieces c (bl rest)∧(done++front).length=N∧st'.lim≤b∧b<st'.next∧Ext st0 st':=by
 intro k
 induction k with
 | zero=>
   intro rest done st hk hd hs hm hl hb0 hb he
   rcases ziX c (bl rest) with ⟨h1,h2,h3⟩ | ⟨m,h1,h2,h3,h4⟩
   ·refine ⟨rest,[],st,zcK rest _ 0 _ _ _ st ?_,by simpa using hm,by simp [h2],by simp;omega,hl,hb,he⟩
    have:¬ ((done.length:Int)<(N:Int)):=by omega
    simp [zce,this]
    omega
   ·omega
 | succ k ih=>
   intro rest done st hk hd hs hm hl hb0 hb he
   rcases ziX c (bl rest) with ⟨h1,h2,h3⟩ | ⟨m,h1,h2,h3,h4⟩
   ·omega
   ·rw [zaV] at h2
    have hlt:(done.length:Int)<(N:Int):=by omega
    have hm0:¬ ((m:Int)<0):=by omega
    have hw:IntKind.wrap .i64 (m:Int)=m:=wrap64 (by omega) (by omega)
    have hw1:IntKind.wrap .i64 ((m:Int)+1)=((m+1:Nat):Int):=by rw [wrap64 (by omega) (by omega)];omega
    have hwd:IntKind.wrap .i64 ((done.length:Int)+1)=(((done++[(bl rest).take m]).length:Nat):Int):=by rw [wrap64 (by omega) (by omega)];simp
    have hb1:bl (rest.extract (m+1) rest.size)=(bl rest).drop (m+1):=by
     rw [zfD,List.take_of_length_le (by simp)]
    have hst:st.st b done.length [.string (mkS ((bl rest).take m))]=some (st.set b (some (.cells (strs (done++[(bl rest).take m])++List.replicate (k+1) (.string ⟨#[]⟩)) 1))):=
     SS.st_cells hm hl (by rfl) (by
      rw [zb7 (by simp),← zmD]
      rfl)
    obtain ⟨rest',front,st',e1,e2,e3,e4,e5,e6,e7⟩:=ih (rest.extract (m+1) rest.size) (done++[(bl rest).take m]) (st.set b (some (.cells (strs (done++[(bl rest).take m])++List.replicate (k+1) (.string ⟨#[]⟩)) 1)))
     (by rw [hb1];omega) (by simp;omega) (by simp;omega) (by simp) hl hb0 hb (he.set hb0 _)
    refine ⟨rest',(bl rest).take m::front,st',zcK rest _ 0 _ _ _ st ?_,by simpa using e2,by rw [h3,← hb1,← e3];rfl,by simpa using e4,e5,e6,e7⟩
    have hel:zaD (.slice (some ⟨b,0,none⟩) (N+1) (N+1)) (done.length:Int) 1=some (b,done.length):=by
     unfold zaD
     have:(done.length:Int)<((N+1:Nat):Int):=by omega
     simp only [zdt this]
     simp
    have hs1:zcp rest 0 (m:Int)=some (mkS ((bl rest).take m)):=by rw [ze6 (by omega) (by omega) (by omega),zdL];simp
    have hs2:zcp rest ((m+1:Nat):Int) (rest.size:Int)=some (rest.extract (m+1) rest.size):=by rw [ze6 (by omega) (by omega) (by omega)];simp
    have hsz:(((⟨#[c]⟩:ByteArray).size:Nat):Int)=1:=rfl
    simp only [zce,zdt hlt,zct,zno,zob,zac,h1,zdf hm0,zcf,Int.add_zero,hw,hs1,hel,hst,hsz,hw1,hs2,hwd]
    exact e1
theorem split_ok [Sym] (s:ByteArray) (c:UInt8) (hs:s.size≤4294967296) (st:SS) (hl:st.lim≤st.next):∃ v st',cc 17 [.string s,.string ⟨#[c]⟩] st=some (v,st')∧Ext st st'∧
  Rd st' v (strs (pieces c (bl s))) 1 (pieces c (bl s)).length:=by
 have hc:=count_le c (bl s)
 rw [zaV] at hc
 obtain ⟨rest',front,st',e1,e2,e3,e4,e5,e6,e7⟩:=zkT c ((bl s).count c) st.next st (by omega) _ s [] (st.new (.cells (List.replicate ((bl s).count c+1) (.string ⟨#[]⟩)) 1)) rfl (by simp) hs (by simp [strs]) hl (zlr _) (by simp) ((Ext.refl st).new _)
 simp only [List.nil_append] at e2 e4
 have hlen:(pieces c (bl s)).length=(bl s).count c+1:=by rw [← e3];simp [e4]
 have hst:st'.st st.next ((bl s).count c) [.string rest']=some (st'.set st.next (some (.cells (strs (pieces c (bl s))) 1))):=
  SS.st_cells e2 e5 (by rfl) (by
   rw [← e4,zb7 (by simp),← e3]
   rw [List.take_append_of_le_length (by simp),List.take_of_length_le (by simp),zg8]
   congr 2
   simp [strs])
 have hw1:IntKind.wrap .i64 (((bl s).count c:Nat)+1:Int)=(((bl s).count c+1:Nat):Int):=by rw [wrap64 (by omega) (by omega)];omega
 have hw2:IntKind.wrap .i64 ((s.size:Int)+1)=((s.size+1:Nat):Int):=by rw [wrap64 (by omega) (by omega)];omega
 have hw3:IntKind.wrap .i64 ((((bl s).count c+1:Nat):Int)-1)=(((bl s).count c:Nat):Int):=by rw [wrap64 (by omega) (by omega)];omega
 have hmin:(if ((s.size+1:Nat):Int)<(((bl s).count c+1:Nat):Int) then ((s.size+1:Nat):Int) else (((bl s).count c+1:Nat):Int))=(((bl s).count c+1:Nat):Int):=by split<;>omega
 have hmk:zeH (((bl s).count c+1:Nat):Int) (((bl s).count c+1:Nat):Int) 16=some ():=zmC (by omega) (by omega) (by omega)
 have hel:zaD (.slice (some ⟨st.next,0,none⟩) ((bl s).count c+1) ((bl s).count c+1)) (((bl s).count c:Nat):Int) 1=some (st.next,(bl s).count c):=by
  unfold zaD
  have:(((bl s).count c:Nat):Int)<(((bl s).count c+1:Nat):Int):=by omega
  simp only [zdt this]
  simp
 have hre:(st'.set st.next (some (.cells (strs (pieces c (bl s))) 1))).resl (.slice (some ⟨st.next,0,none⟩) ((bl s).count c+1) ((bl s).count c+1)) 1 0 (((bl s).count c+1:Nat):Int)=some (.slice (some ⟨st.next,0,none⟩) ((bl s).count c+1) ((bl s).count c+1)):=by
  unfold SS.resl
  simp
  rfl
 refine ⟨.slice (some ⟨st.next,0,none⟩) ((bl s).count c+1) ((bl s).count c+1),st'.set st.next (some (.cells (strs (pieces c (bl s))) 1)),zhr s _ st ?_,e7.set (zlr _) _,by simp,.inr ⟨st.next,(bl s).count c+1,by rw [hlen],⟨1,by simp⟩,e6⟩⟩
 have hgen:cc 30 [.string s,.string ⟨#[c]⟩,.int .i64 0,.int .i64 (-1)] st=some (.slice (some ⟨st.next,0,none⟩) ((bl s).count c+1) ((bl s).count c+1),st'.set st.next (some (.cells (strs (pieces c (bl s))) 1))):=by
  refine zfV s _ 0 (-1) st ?_
  have h0:eqT (⟨#[c]⟩:ByteArray) ⟨#[]⟩=false:=by rfl
  have hm1:decide ((-1:Int)=0)=false:=rfl
  have hm2:decide ((-1:Int)<0)=true:=rfl
  simp only [strings_genSplit,hm1,zcf,h0,hm2,zct,zmE,zob,zac,hw1,hw2,hmin,hmk,zkS,hw3]
  have e1':zbs 11 [.string s,.string ⟨#[c]⟩,.int .i64 0,.int .i64 (((bl s).count c:Nat):Int),.slice (some ⟨st.next,0,none⟩) (Int.toNat (((bl s).count c+1:Nat):Int)) (Int.toNat (((bl s).count c+1:Nat):Int)),.int .i64 0] (st.new (.cells (List.replicate ((bl s).count c+1) (.string ⟨#[]⟩)) 1))=some (0,[.string rest',.slice (some ⟨st.next,0,none⟩) ((bl s).count c+1) ((bl s).count c+1),.int .i64 (((bl s).count c:Nat):Int)],st'):=e1
  rw [e1']
  simp only [zob,zgz,zgs,zab,zac,hel,hst,hw1,hre]
 simp only [strings_Split,hgen,zob]
end Go.Proofs.YtifploedaacedaaDoorE
namespace Go.Proofs.YtifploedaacedaaDoorE
set_option maxRecDepth 20000
open Go Go.E Go.Proofs
def zfT:LoopI:=⟨[(0,.str),(1,.int .i64),(7,.any),(8,.int .i64)],[(.exit 0,[(0,.str),(1,.int .i64),(7,.any)]),(.ret,[(4,.any),(5,.int .i64),(6,.bool)])]⟩
def zgj (n:Nat):Option LoopI:=cond (Nat.beq n 3) (some zfT) (none)
noncomputable def zgk (cf:zav) (lf:zah) (s':ByteArray) (at0':Int) (st:SS):Option (Value×SS):=
 (lf 3 [.string s',.int .i64 at0',.slice none 0 0,.int .i64 0] st).bind fun a=>
 cond (Nat.beq a.1 0) (
 ((a.2.1[0]?).bind asS).bind fun b=>
 ((a.2.1[1]?).bind (asI .i64)).bind fun c=>
 (a.2.1[2]?).bind fun d=>
 let e:Int:=IntKind.wrap .i64 ((b.size:Int)+1)
 let f:SS:=a.2.2.new (.cells ([.int .i64 0,.string ⟨#[]⟩,.int .i64 0,.int .i64 c,.int .i64 e]) 5)
 (f.app 5 48 d (.slice (some ⟨a.2.2.next,0,none⟩) 1 1)).bind fun g=>
 some (.tuple #[g.1,.int .i64 0,.bool true],g.2)) (
 (a.2.1[0]?).bind fun h=>
 ((a.2.1[1]?).bind (asI .i64)).bind fun i=>
 ((a.2.1[2]?).bind asB).bind fun j=>
 some (.tuple #[h,.int .i64 i,.bool j],a.2.2))
noncomputable abbrev za3:zah:=lS Tryd.prog Lk0 Tryd.f18 zgj
theorem zjA:Lk0.func 18=some (18,Tryd.f18):=by kernel_rfl
theorem zgl [Sym] (s':ByteArray) (at0':Int) (st:SS) {r:Value×SS} (h:zgk cc za3 s' at0' st=some r):cc 18 [.string s',.int .i64 at0'] st=some r:=
 zas (li:=zgj) zat zaC zjA rfl (fun _=>rfl) (.trans (by kernel_rfl) h)
noncomputable def za4 (cf:zav) (lf:zah) (s':ByteArray) (at0':Int) (out':Value) (col':Int) (st:SS):Option (Nat×List Value×SS):=
 cond (decide (col'<(s'.size:Int))) (
 let a:Int:=IntKind.wrap .i64 (col'+1)
 let b:SS:=st.new (.cells [.int .i64 0,.string ⟨#[]⟩,.int .i64 0,.int .i64 0,.int .i64 0] 0)
 (b.st st.next 0 [.int .i64 0,.string ⟨#[]⟩,.int .i64 0,.int .i64 at0',.int .i64 a]).bind fun c=>
 ((zeQ s' col').bind (asI .u8)).bind fun d=>
 cond (decide (d=59)) (
 lf 3 [.string s',.int .i64 at0',out',.int .i64 (s'.size:Int)] c) (
 cond (decide (d=32)) (
 let e:Int:=IntKind.wrap .i64 (col'+1)
 lf 3 [.string s',.int .i64 at0',out',.int .i64 e] c) (
 cond (decide (d=9)) (
 let f:Int:=IntKind.wrap .i64 (col'+1)
 lf 3 [.string s',.int .i64 at0',out',.int .i64 f] c) (
 cond (decide (d=13)) (
 let g:Int:=IntKind.wrap .i64 (col'+1)
 lf 3 [.string s',.int .i64 at0',out',.int .i64 g] c) (
 (cf 31 [.int .u8 d] c).bind fun h=>
 ((some h.1).bind asB).bind fun i=>
 cond i (
 (zcp s' col' (s'.size:Int)).bind fun j=>
 (cf 32 [.string j] h.2).bind fun k=>
 ((some k.1).bind (asI .i64)).bind fun l=>
 let m:Int:=IntKind.wrap .i64 (col'+l)
 (zcp s' col' m).bind fun n=>
 (k.2.st st.next 0 [.int .i64 1]).bind fun o=>
 (o.st st.next 1 [.string n]).bind fun p=>
 ((p.ld st.next 1).bind asS).bind fun q=>
 cond (decide (24<(q.size:Int))) (
 ((p.ld st.next 4).bind (asI .i64)).bind fun r=>
 some (1,[.slice none 0 0,.int .i64 r,.bool false],p)) (
 ((p.ld st.next 1).bind asS).bind fun s=>
 let t:Int:=IntKind.wrap .i64 (col'+(s.size:Int))
 (p.ldN st.next 0 5).bind fun u=>
 (zbe u 5).bind fun v=>
 let w:SS:=p.new (.cells (v++([])) 5)
 (w.app 5 48 out' (.slice (some ⟨p.next,0,none⟩) 1 1)).bind fun x=>
 lf 3 [.string s',.int .i64 at0',x.1,.int .i64 t] x.2)) (
 (cf 33 [.int .u8 d] h.2).bind fun y=>
 ((some y.1).bind asB).bind fun z=>
 cond z (
 (zcp s' col' (s'.size:Int)).bind fun A=>
 (cf 32 [.string A] y.2).bind fun B=>
 ((some B.1).bind (asI .i64)).bind fun C=>
 let D:Int:=IntKind.wrap .i64 (col'+C)
 (zcp s' col' D).bind fun E=>
 (B.2.st st.next 0 [.int .i64 2]).bind fun F=>
 (F.st st.next 1 [.string E]).bind fun G=>
 ((G.ld st.next 1).bind asS).bind fun H=>
 (cf 34 [.string H] G).bind fun I=>
 ((zao I.1 0).bind (asI .i64)).bind fun J=>
 ((zao I.1 1).bind asB).bind fun K=>
 (I.2.st st.next 2 [.int .i64 J]).bind fun L=>
 cond (!K) (
 ((L.ld st.next 4).bind (asI .i64)).bind fun M=>
 some (1,[.slice none 0 0,.int .i64 M,.bool false],L)) (
 ((L.ld st.next 1).bind asS).bind fun N=>
 let O:Int:=IntKind.wrap .i64 (col'+(N.size:Int))
 (L.ldN st.next 0 5).bind fun P=>
 (zbe P 5).bind fun Q=>
 let R:SS:=L.new (.cells (Q++([])) 5)
 (R.app 5 48 out' (.slice (some ⟨L.next,0,none⟩) 1 1)).bind fun S=>
 lf 3 [.string s',.int .i64 at0',S.1,.int .i64 O] S.2)) (
 (cf 35 [.string ⟨#[58,61,46,43,45]⟩,.int .u8 d] y.2).bind fun T=>
 ((some T.1).bind (asI .i64)).bind fun U=>
 cond (decide (0≤U)) (
 let V:Int:=IntKind.wrap .i64 (col'+1)
 (zcp s' col' V).bind fun W=>
 (T.2.st st.next 0 [.int .i64 3]).bind fun X=>
 (X.st st.next 1 [.string W]).bind fun Y=>
 ((Y.ld st.next 1).bind asS).bind fun Z=>
 let aA:Int:=IntKind.wrap .i64 (col'+(Z.size:Int))
 (Y.ldN st.next 0 5).bind fun aB=>
 (zbe aB 5).bind fun aC=>
 let aD:SS:=Y.new (.cells (aC++([])) 5)
 (aD.app 5 48 out' (.slice (some ⟨Y.next,0,none⟩) 1 1)).bind fun aE=>
 lf 3 [.string s',.int .i64 at0',aE.1,.int .i64 aA] aE.2) (
 ((T.2.ld st.next 4).bind (asI .i64)).bind fun aF=>
 some (1,[.slice none 0 0,.int .i64 aF,.bool false],T.2))))))))) (
 some (0,[.string s',.int .i64 at0',out'],st))
theorem zaO [Sym] (s':ByteArray) (at0':Int) (out':Value) (col':Int) (st:SS) {r:Nat×List Value×SS} (h:za4 cc za3 s' at0' out' col' st=some r):za3 3 [.string s',.int .i64 at0',out',.int .i64 col'] st=some r:=
 za7 zat zaC (key:=3) (I:=zfT) rfl (by kernel_rfl) (by kernel_rfl) rfl rfl (.trans (by kernel_rfl) h)
def zgm:LoopI:=⟨[(3,.any),(5,.any),(16,.any),(17,.int .i64),(18,.int .i64)],[(.exit 0,[(3,.any),(5,.any)]),(.ret,[(2,.any),(3,.any),(4,.int .i64)])]⟩
def zha (n:Nat):Option LoopI:=cond (Nat.beq n 5) (some zgm) (none)
noncomputable def zhs (cf:zav) (lf:zah) (text':ByteArray) (st:SS):Option (Value×SS):=
 let a:SS:=st.new (.cells [.int .i64 0,.int .i64 0] 0)
 cond (decide (131072<(text'.size:Int))) (
 (a.st st.next 0 [.int .i64 0,.int .i64 0]).bind fun b=>
 (b.rdN st.next 0 2).bind fun c=>
 some (.tuple #[.slice none 0 0,c,.int .i64 3],b)) (
 (cf 17 [.string text',.string ⟨#[10]⟩] a).bind fun d=>
 ((lenV d.1).bind (asI .i64)).bind fun e=>
 (lf 5 [ptr st.next 0,.slice none 0 0,d.1,.int .i64 e,.int .i64 0] d.2).bind fun f=>
 cond (Nat.beq f.1 0) (
 (f.2.1[0]?).bind fun g=>
 (f.2.1[1]?).bind fun h=>
 (addr? g).bind fun i=>
 (f.2.2.st i.1 i.2 [.int .i64 0,.int .i64 0]).bind fun j=>
 (addr? g).bind fun k=>
 (j.rdN k.1 k.2 2).bind fun l=>
 some (.tuple #[h,l,.int .i64 0],j)) (
 (f.2.1[0]?).bind fun m=>
 (f.2.1[1]?).bind fun n=>
 ((f.2.1[2]?).bind (asI .i64)).bind fun o=>
 (addr? n).bind fun p=>
 (f.2.2.rdN p.1 p.2 2).bind fun q=>
 some (.tuple #[m,q,.int .i64 o],f.2.2)))
noncomputable abbrev zco:zah:=lS Tryd.prog Lk0 Tryd.f11 zha
theorem zj0:Lk0.func 11=some (11,Tryd.f11):=by kernel_rfl
theorem zhb [Sym] (text':ByteArray) (st:SS) {r:Value×SS} (h:zhs cc zco text' st=some r):cc 11 [.string text'] st=some r:=
 zas (li:=zha) zat zaC zj0 rfl (fun _=>rfl) (.trans (by kernel_rfl) h)
noncomputable def zdM (cf:zav) (lf:zah) (t3':Value) (out':Value) (t16':Value) (t17':Int) (t18':Int) (st:SS):Option (Nat×List Value×SS):=
 cond (decide (t18'<t17')) (
 (zaD t16' t18' 1).bind fun a=>
 ((st.ld a.1 a.2).bind asS).bind fun b=>
 let c:Int:=IntKind.wrap .i64 (t18'+1)
 (cf 18 [.string b,.int .i64 c] st).bind fun d=>
 (zao d.1 0).bind fun e=>
 ((zao d.1 1).bind (asI .i64)).bind fun f=>
 ((zao d.1 2).bind asB).bind fun g=>
 cond (!g) (
 let h:Int:=IntKind.wrap .i64 (t18'+1)
 (addr? t3').bind fun i=>
 (d.2.st i.1 i.2 [.int .i64 h,.int .i64 f]).bind fun j=>
 some (1,[.slice none 0 0,t3',.int .i64 4],j)) (
 (d.2.app 5 48 out' e).bind fun k=>
 let l:Int:=IntKind.wrap .i64 (t18'+1)
 lf 5 [t3',k.1,t16',.int .i64 t17',.int .i64 l] k.2)) (
 some (0,[t3',out'],st))
theorem zdE [Sym] (t3':Value) (out':Value) (t16':Value) (t17':Int) (t18':Int) (st:SS) {r:Nat×List Value×SS} (h:zdM cc zco t3' out' t16' t17' t18' st=some r):zco 5 [t3',out',t16',.int .i64 t17',.int .i64 t18'] st=some r:=
 za7 zat zaC (key:=5) (I:=zgm) rfl (by kernel_rfl) (by kernel_rfl) rfl rfl (.trans (by kernel_rfl) h)
end Go.Proofs.YtifploedaacedaaDoorE
namespace Go.Proofs.YtifploedaacedaaDoorE
open Go Go.E Go.Proofs
structure Gd (st:SS):Prop where
 g4:st.mem.get 4=some (.table [.chan (some 4)])
 g5:st.mem.get 5=some (.table [.chan (some 5)])
 nx:12≤st.next
theorem Gd.ext {st st':SS} (h:Gd st) (he:Ext st st'):Gd st':=
 ⟨he.get (by have:=h.nx;omega) h.g4,he.get (by have:=h.nx;omega) h.g5,zlt h.nx he.next⟩
theorem Gd.ro {st:SS} {n:Nat} (h:Gd st):Gd (st.ro n):=⟨h.g4,h.g5,h.nx⟩
theorem zj1 (p l:List UInt8):(l.take p.length=p)↔p.isPrefixOf l=true:=by
 rw [List.isPrefixOf_iff_prefix,List.prefix_iff_eq_take]
 exact eq_comm
theorem zjB [Sym] (s p:ByteArray) (st:SS):cc 72 [.string s,.string p] st=some (.bool ((bl p).isPrefixOf (bl s)),st):=by
 refine zd7 s p st ?_
 unfold zcW
 by_cases h:(p.size:Int)≤(s.size:Int)
 ·simp only [zdt h,zct,ze6 (s:=s) (l:=0) (h:=p.size) (by omega) (by omega) h,zob,zdD]
  congr 3
  rw [Bool.eq_iff_iff,decide_eq_true_eq,← zj1,zfD,zaV]
  simp
 ·simp only [zdf h,zcf]
  congr 3
  have:(bl p).isPrefixOf (bl s)=false:=by
   rw [Bool.eq_false_iff]
   intro hp
   rw [List.isPrefixOf_iff_prefix] at hp
   have:=hp.length_le
   simp at this
   omega
  rw [this]
theorem zjC [Sym] (s p:ByteArray) (st:SS):cc 48 [.string s,.string p] st=some (.tuple #[.string (if (bl p).isPrefixOf (bl s) then mkS ((bl s).drop p.size) else s),.bool ((bl p).isPrefixOf (bl s))],st):=by
 have h1:cc 61 [.string s,.string p] st=some (.tuple #[.string (if (bl p).isPrefixOf (bl s) then mkS ((bl s).drop p.size) else s),.bool ((bl p).isPrefixOf (bl s))],st):=by
  refine zd4 s p st ?_
  unfold zcV
  rw [zjB]
  cases hp:(bl p).isPrefixOf (bl s) with
  | false=>simp
  | true=>
    have hp':=hp
    rw [List.isPrefixOf_iff_prefix] at hp'
    have:=hp'.length_le
    simp only [zaV] at this
    simp [ze6 (s:=s) (l:=p.size) (h:=s.size) (by omega) (by omega) (by omega),zdL]
    rw [List.take_of_length_le (by simp)]
 refine zfH s p st ?_
 unfold strings_CutPrefix
 rw [h1]
 rfl
def zcq (b:UInt8):Nat:=(orI .u8 b.toNat 32).toNat
theorem zgn (n:Int):0≤IntKind.wrap .u8 n∧IntKind.wrap .u8 n<256:=by
 rw [← zfy]
 show 0≤((zcu n 256:Nat):Int)∧((zcu n 256:Nat):Int)<256
 rw [zel _ _ (by decide)]
 omega
theorem zlJ (b:UInt8):orI .u8 b.toNat 32=(zcq b:Int):=by
 have:=(zgn ((BitVec.ofInt 8 b.toNat||| BitVec.ofInt 8 32).toNat:Nat)).1
 unfold zcq
 rw [Int.toNat_of_nonneg]
 exact this
theorem low_lt (b:UInt8):zcq b<256:=by
 have:=(zgn ((BitVec.ofInt 8 b.toNat||| BitVec.ofInt 8 32).toNat:Nat)).2
 have h2:=zlJ b
 have h3:orI .u8 b.toNat 32<256:=this
 omega
theorem zmF [Sym] (b:UInt8) (st:SS):cc 73 [.int .u8 b.toNat] st=some (.int .u8 (zcq b),st):=by
 refine zgO _ st ?_
 unfold ze8
 rw [zlJ]
def zdo (b:UInt8):Option Nat:=if 48≤b.toNat∧b.toNat≤57 then some (b.toNat-48) else if 97≤zcq b∧zcq b≤122 then some (zcq b-87) else none
def zaZ (B:Nat):Nat→List UInt8→Option (Option Nat)
 | n,[]=>some (some n)
 | n,b::r=>match zdo b with
   | none=>none
   | some d=>if B≤d then none else if 2147483647<n*B+d then some none else zaZ B (n*B+d) r
def puR (x:Option (Option Nat)) (s:ByteArray) (st:SS):Nat×List Value×SS:=match x with
 | none=>(1,[.int .u64 0,.iface 135 (.int .i64 2)],st)
 | some none=>(1,[.int .u64 2147483647,.iface 135 (.int .i64 1)],st)
 | some (some m)=>(0,[.string s,.bool false,.int .u64 m],st)
theorem zkl [Sym] (s s0:ByteArray) (B:Nat) (hB:0<B∧B≤16) (C:Int) (hC:2147483648≤C) (i cap:Nat) (st:SS) (hs:s.size≤4294967296) (hm:st.mem.get i=some (.cells (s.data.toList.map fun b=>.int .u8 b.toNat) 1)):∀ (l:List UInt8) (p n:Nat),(bl s).drop p=l→p≤s.size→n≤2147483647→
  zeb 36 [.int .i64 B,.bool false,.string s0,.int .u64 C,.int .u64 2147483647,.bool false,.int .u64 n,.slice (some ⟨i,0,none⟩) s.size cap,.int .i64 s.size,.int .i64 p] st=some (puR (zaZ B n l) s0 st):=by
 intro l
 induction l with
 | nil=>
   intro p n hp hle hn
   have hps:p=s.size:=by
    rw [List.drop_eq_nil_iff,zaV] at hp
    omega
   subst hps
   refine zg9 _ _ _ _ _ _ _ _ _ st ?_
   simp [zcg,zaZ,puR]
 | cons b r ih=>
   intro p n hp hle hn
   have hb:(bl s)[p]?=some b:=by
    have:=congrArg (·[0]?) hp
    simpa using this
   have hlt:p<s.size:=by
    obtain ⟨h,_⟩:=List.getElem?_eq_some_iff.1 hb
    simpa using h
   have hr:(bl s).drop (p+1)=r:=by
    have:=drop_cons hb
    rw [hp] at this
    exact (List.cons.inj this).2.symm
   have hlt':(p:Int)<(s.size:Int):=by omega
   have hel:zaD (.slice (some ⟨i,0,none⟩) s.size cap) (p:Int) 1=some (i,p):=by
    unfold zaD
    simp [hlt]
   have hld:(st.ld i p).bind (asI .u8)=some (b.toNat:Int):=by
    rw [SS.ld_cells hm,List.getElem?_map]
    show (((bl s)[p]?).map _).bind _=_
    rw [hb]
    rfl
   have hwp:IntKind.wrap .i64 ((p:Int)+1)=((p+1:Nat):Int):=by rw [wrap64 (by omega) (by omega)];omega
   have hB8:IntKind.wrap .u8 (B:Int)=B:=ze5 (by omega) (by omega)
   have hB64:IntKind.wrap .u64 (B:Int)=B:=zgK (by omega) (by omega)
   have hmul:n*B≤2147483647*16:=Nat.mul_le_mul hn hB.2
   have hmulw:IntKind.wrap .u64 ((n:Int)*(B:Int))=((n*B:Nat):Int):=by
    rw [← Int.natCast_mul]
    exact zgK (by omega) (by omega)
   have hCn:¬ C≤(n:Int):=by omega
   have hlow:=low_lt b
   have hbl:=b.toNat_lt
   have fin:∀ d:Nat,d<256→zdo b=some d→∀ (q:Int),q=d→
    (cond (decide ((B:Int)≤q)) (some (1,[Value.int .u64 0,.iface 135 (.int .i64 2)],st)) (
     cond (decide (C≤(n:Int))) (some (1,[.int .u64 2147483647,.iface 135 (.int .i64 1)],st)) (
      cond (decide (IntKind.wrap .u64 (((n*B:Nat):Int)+IntKind.wrap .u64 q)<((n*B:Nat):Int))) (some (1,[.int .u64 2147483647,.iface 135 (.int .i64 1)],st)) (
       cond (decide (2147483647<IntKind.wrap .u64 (((n*B:Nat):Int)+IntKind.wrap .u64 q))) (some (1,[.int .u64 2147483647,.iface 135 (.int .i64 1)],st)) (
        zeb 36 [.int .i64 B,.bool false,.string s0,.int .u64 C,.int .u64 2147483647,.bool false,.int .u64 (IntKind.wrap .u64 (((n*B:Nat):Int)+IntKind.wrap .u64 q)),.slice (some ⟨i,0,none⟩) s.size cap,.int .i64 s.size,.int .i64 ((p+1:Nat):Int)] st)))))=some (puR (zaZ B n (b::r)) s0 st):=by
    intro d hd hv q hq
    subst hq
    have hw1:IntKind.wrap .u64 (d:Int)=d:=zgK (by omega) (by omega)
    have hw2:IntKind.wrap .u64 (((n*B:Nat):Int)+(d:Int))=((n*B+d:Nat):Int):=by
     rw [← Int.natCast_add]
     exact zgK (by omega) (by omega)
    have hnl:¬ (((n*B+d:Nat):Int)<((n*B:Nat):Int)):=by omega
    rw [hw1,hw2,zdf hCn,zdf hnl]
    unfold zaZ
    rw [hv]
    by_cases h1:B≤d
    ·have h1':(B:Int)≤(d:Int):=by omega
     simp [h1,puR]
    ·have h1':¬ (B:Int)≤(d:Int):=by omega
     rw [zdf h1']
     simp only [zcf,h1,if_false]
     by_cases h2:2147483647<n*B+d
     ·have h2':(2147483647:Int)<((n*B+d:Nat):Int):=by omega
      rw [zdt h2',if_pos h2]
      rfl
     ·have h2':¬ (2147483647:Int)<((n*B+d:Nat):Int):=by omega
      rw [zdf h2',if_neg h2]
      exact ih (p+1) (n*B+d) hr (by omega) (by omega)
   refine zg9 _ _ _ _ _ _ _ _ _ st ?_
   by_cases hdig:48≤b.toNat∧b.toNat≤57
   ·have h1:(48:Int)≤(b.toNat:Int):=by omega
    have h2:(b.toNat:Int)≤57:=by omega
    have h3:¬ (b.toNat:Int)=95:=by omega
    have hw:IntKind.wrap .u8 ((b.toNat:Int)-48)=((b.toNat-48:Nat):Int):=by rw [ze5 (by omega) (by omega)];omega
    have:=fin (b.toNat-48) (by omega) (by unfold zdo;rw [if_pos hdig]) _ rfl
    simp only [zcg,zdt hlt',zct,hel,zob,hld,zdf h3,zcf,zdt h1,zdt h2,hw,hB8,hB64,hmulw,hwp]
    exact this
   ·have hlo:=zmF b st
    have h4857:decide ((48:Int)≤(b.toNat:Int))=false∨(decide ((48:Int)≤(b.toNat:Int))=true∧decide ((b.toNat:Int)≤57)=false):=by
     by_cases h:(48:Int)≤(b.toNat:Int)
     ·exact .inr ⟨zdt h,zdf (by omega)⟩
     ·exact .inl (zdf h)
    by_cases h1:97≤zcq b
    ·have h1':(97:Int)≤(zcq b:Int):=by omega
     have hw1:IntKind.wrap .u8 ((zcq b:Int)-97)=((zcq b-97:Nat):Int):=by rw [ze5 (by omega) (by omega)];omega
     by_cases h2:zcq b≤122
     ·have h2':(zcq b:Int)≤122:=by omega
      have hw2:IntKind.wrap .u8 (((zcq b-97:Nat):Int)+10)=((zcq b-87:Nat):Int):=by rw [ze5 (by omega) (by omega)];omega
      have:=fin (zcq b-87) (by omega) (by unfold zdo;rw [if_neg hdig,if_pos ⟨h1,h2⟩]) _ rfl
      rcases h4857 with h48 | ⟨h48,h57⟩
      ·cases h95:decide ((b.toNat:Int)=95)
       all_goals
        simp only [zcg,zdt hlt',zct,hel,zob,hld,h95,zcf,h48,hlo,zac,zdt h1',zdt h2',hw1,hw2,hB8,hB64,hmulw,hwp]
        exact this
      ·cases h95:decide ((b.toNat:Int)=95)
       all_goals
        simp only [zcg,zdt hlt',zct,hel,zob,hld,h95,zcf,h48,h57,hlo,zac,zdt h1',zdt h2',hw1,hw2,hB8,hB64,hmulw,hwp]
        exact this
     ·have h2':¬ (zcq b:Int)≤122:=by omega
      have hv:zdo b=none:=by unfold zdo;rw [if_neg hdig,if_neg (by omega)]
      have e:zaZ B n (b::r)=none:=by unfold zaZ;rw [hv]
      rw [e]
      rcases h4857 with h48 | ⟨h48,h57⟩
      ·cases h95:decide ((b.toNat:Int)=95)
       all_goals
        simp only [zcg,zdt hlt',zct,hel,zob,hld,h95,zcf,h48,hlo,zac,zdt h1',zdf h2',puR]
      ·cases h95:decide ((b.toNat:Int)=95)
       all_goals
        simp only [zcg,zdt hlt',zct,hel,zob,hld,h95,zcf,h48,h57,hlo,zac,zdt h1',zdf h2',puR]
    ·have h1':¬ (97:Int)≤(zcq b:Int):=by omega
     have hv:zdo b=none:=by unfold zdo;rw [if_neg hdig,if_neg (by omega)]
     have e:zaZ B n (b::r)=none:=by unfold zaZ;rw [hv]
     rw [e]
     rcases h4857 with h48 | ⟨h48,h57⟩
     ·cases h95:decide ((b.toNat:Int)=95)
      all_goals
       simp only [zcg,zdt hlt',zct,hel,zob,hld,h95,zcf,h48,hlo,zac,zdf h1',puR]
     ·cases h95:decide ((b.toNat:Int)=95)
      all_goals
       simp only [zcg,zdt hlt',zct,hel,zob,hld,h95,zcf,h48,h57,hlo,zac,zdf h1',puR]
def zaK (B:Nat) (l:List UInt8):Option (Option Nat):=if l=[] then none else zaZ B 0 l
def puV (x:Option (Option Nat)):Int×Option Nat:=match x with
 | none=>(0,some 4)
 | some none=>(2147483647,some 5)
 | some (some m)=>(m,none)
def zdF (x:Option (Option Nat)):Int×Bool:=((puV x).1,(puV x).2.isNone)
def puE (x:Option (Option Nat)):Value:=match x with
 | none=>.iface 135 (.int .i64 2)
 | some none=>.iface 135 (.int .i64 1)
 | some (some m)=>.nilIface
theorem zeL (s:ByteArray):eqT s ⟨#[]⟩=decide (bl s=[]):=rfl
theorem znp [Sym] (s:ByteArray) (hs:s.size≤4294967296) (st:SS):∃ st',cc 62 [.string s,.int .i64 10,.int .i64 31] st=some (.tuple #[.int .u64 (puV (zaK 10 (bl s))).1,puE (zaK 10 (bl s))],st')∧Ext st st':=by
 have hsh:IntKind.wrap .u64 (zil .u64 1 31-1)=2147483647:=by decide
 by_cases h0:bl s=[]
 ·refine ⟨st,zkh s st ?_,.refl _⟩
  simp [pu10,zeL,h0,zaK,puV,puE]
 ·refine ⟨st.new (.cells (s.data.toList.map fun b=>.int .u8 b.toNat) 1),zkh s st ?_,(Ext.refl st).new _⟩
  have:=zkl s s 10 (by omega) 1844674407370955162 (by omega) st.next s.size (st.new (.cells (s.data.toList.map fun b=>.int .u8 b.toNat) 1)) hs (by simp) (bl s) 0 0 rfl (by omega) (by omega)
  have this':zeb 36 [.int .i64 10,.bool false,.string s,.int .u64 1844674407370955162,.int .u64 2147483647,.bool false,.int .u64 0,.slice (some ⟨st.next,0,none⟩) s.size s.size,.int .i64 ((s.size:Nat):Int),.int .i64 0] (st.new (.cells (s.data.toList.map fun b=>.int .u8 b.toNat) 1))=_:=this
  simp only [pu10,zeL,zdf h0,zcf,hsh,this',zob,zaK,if_neg h0]
  rcases zaZ 10 0 (bl s) with _ | _ | m<;>simp [puR,puV,puE]
theorem znq [Sym] (s:ByteArray) (hs:s.size≤4294967296) (st:SS):∃ st',cc 62 [.string s,.int .i64 16,.int .i64 31] st=some (.tuple #[.int .u64 (puV (zaK 16 (bl s))).1,puE (zaK 16 (bl s))],st')∧Ext st st':=by
 have hsh:IntKind.wrap .u64 (zil .u64 1 31-1)=2147483647:=by decide
 by_cases h0:bl s=[]
 ·refine ⟨st,zkk s st ?_,.refl _⟩
  simp [pu16,zeL,h0,zaK,puV,puE]
 ·refine ⟨st.new (.cells (s.data.toList.map fun b=>.int .u8 b.toNat) 1),zkk s st ?_,(Ext.refl st).new _⟩
  have:=zkl s s 16 (by omega) 1152921504606846976 (by omega) st.next s.size (st.new (.cells (s.data.toList.map fun b=>.int .u8 b.toNat) 1)) hs (by simp) (bl s) 0 0 rfl (by omega) (by omega)
  have this':zkj 36 [.int .i64 16,.bool false,.string s,.int .u64 1152921504606846976,.int .u64 2147483647,.bool false,.int .u64 0,.slice (some ⟨st.next,0,none⟩) s.size s.size,.int .i64 ((s.size:Nat):Int),.int .i64 0] (st.new (.cells (s.data.toList.map fun b=>.int .u8 b.toNat) 1))=_:=this
  simp only [pu16,zeL,zdf h0,zcf,hsh,this',zob,zaK,if_neg h0]
  rcases zaZ 16 0 (bl s) with _ | _ | m<;>simp [puR,puV,puE]
theorem zmG [Sym] {st:SS} (hg:Gd st) (fn s:ByteArray) (hs:s.size≤4294967296) (base bits:Int) (x:Option (Option Nat)) (hx:(puV x).2.isNone=false):
  cc 63 [.string fn,.string s,.int .i64 base,.int .i64 bits,puE x] st=some (.iface 137 (.pointer (some ⟨st.next,0,none⟩)),st.adv (st.next+1)):=by
 have hq:Nat.ble s.size 281474976710656=true:=by rw [Nat.ble_eq];omega
 have hn:=hg.nx
 rcases x with _ | _ | m
 ·have h:=ziU (P:=Tryd.prog) (L:=Lk0) (f:=63) (args:=[.string fn,.string s,.int .i64 base,.int .i64 bits,.iface 135 (.int .i64 2)]) (st:=st) (c:=zcU st.next 4) (by rfl)
   (by show zhn 63 [.string fn,.string s,.int .i64 base,.int .i64 bits,.iface 135 (.int .i64 2)] st.next=_;simp [zhn, -zjy,hq]) (by
    have h4:Nat.blt 4 st.next=true:=by rw [Nat.blt_eq];omega
    have hgl:Lk0.glob 4=true:=rfl
    simp [zcU,hg.g4,zdH,zfl,h4,hgl])
  exact h
 ·have h:=ziU (P:=Tryd.prog) (L:=Lk0) (f:=63) (args:=[.string fn,.string s,.int .i64 base,.int .i64 bits,.iface 135 (.int .i64 1)]) (st:=st) (c:=zcU st.next 5) (by rfl)
   (by show zhn 63 [.string fn,.string s,.int .i64 base,.int .i64 bits,.iface 135 (.int .i64 1)] st.next=_;simp [zhn, -zjy,hq]) (by
    have h4:Nat.blt 5 st.next=true:=by rw [Nat.blt_eq];omega
    have hgl:Lk0.glob 5=true:=rfl
    simp [zcU,hg.g5,zdH,zfl,h4,hgl])
  exact h
 ·cases hx
theorem zgo [Sym] {st:SS} (hg:Gd st) (s:ByteArray) (hs:s.size≤4294967296) (base:Int) (B:Nat) (hb:(base=10∧B=10)∨(base=16∧B=16)):
  ∃ e st',cc 49 [.string s,.int .i64 base,.int .i64 31] st=some (.tuple #[.int .u64 (puV (zaK B (bl s))).1,e],st')∧zdl e=some (puV (zaK B (bl s))).2.isNone∧Ext st st':=by
 have h:∃ st',cc 62 [.string s,.int .i64 base,.int .i64 31] st=some (.tuple #[.int .u64 (puV (zaK B (bl s))).1,puE (zaK B (bl s))],st')∧Ext st st':=by
  rcases hb with ⟨rfl,rfl⟩ | ⟨rfl,rfl⟩
  ·exact znp s hs st
  ·exact znq s hs st
 obtain ⟨st',h1,h2⟩:=h
 have hE:zdl (puE (zaK B (bl s)))=some (puV (zaK B (bl s))).2.isNone:=by
  rcases zaK B (bl s) with _ | _ | m<;>rfl
 cases hx:(puV (zaK B (bl s))).2.isNone with
 | true=>
   refine ⟨.nilIface,st',zdn s _ _ st ?_,rfl,h2⟩
   rw [hx] at hE
   simp [zcP,h1,zao,hE]
 | false=>
   refine ⟨.iface 137 (.pointer (some ⟨st'.next,0,none⟩)),st'.adv (st'.next+1),zdn s _ _ st ?_,rfl,h2.adv (Nat.le_succ _)⟩
   rw [hx] at hE
   simp [zcP,h1,zao,hE,zmG (hg.ext h2) _ s hs _ _ _ hx]
def ziz (l:List UInt8):Bool:=[48,120].isPrefixOf l
def zbX (l:List UInt8):Option (Option Nat):=if ziz l then zaK 16 (l.drop 2) else zaK 10 l
theorem zjD {B n m:Nat} {l:List UInt8} (h:zaZ B n l=some (some m)):Lib.indexByte l 95= -1:=by
 induction l generalizing n with
 | nil=>rfl
 | cons b r ih=>
   unfold zaZ at h
   split at h
   ·cases h
   ·rename_i d hd
    split at h
    ·cases h
    ·split at h
     ·cases h
     ·have hb:b≠95:=by
       rintro rfl
       have:zdo 95=none:=by decide
       rw [this] at hd;cases hd
      simp [Lib.indexByte,hb,ih h]
theorem ziY {B:Nat} {l:List UInt8} (h:(puV (zaK B l)).2.isNone=true):Lib.indexByte l 95= -1:=by
 unfold zaK at h
 split at h
 ·cases h
 ·cases hp:zaZ B 0 l with
  | none=>rw [hp] at h;cases h
  | some x=>cases x with
    | none=>rw [hp] at h;cases h
    | some m=>exact zjD hp
theorem zdR {B:Nat} {l:List UInt8}:0≤(puV (zaK B l)).1∧(puV (zaK B l)).1≤2147483647:=by
 have:∀ (l:List UInt8) (n m:Nat),n≤2147483647→zaZ B n l=some (some m)→m≤2147483647:=by
  intro l
  induction l with
  | nil=>intro n m hn h;cases h;exact hn
  | cons b r ih=>
    intro n m hn h
    unfold zaZ at h
    split at h
    ·cases h
    ·split at h
     ·cases h
     ·split at h
      ·cases h
      ·exact ih _ _ (by omega) h
 unfold zaK
 split
 ·simp [puV]
 ·cases hp:zaZ B 0 l with
  | none=>simp [puV]
  | some x=>cases x with
    | none=>simp [puV]
    | some m=>have:=this l 0 m (by omega) hp;simp only [puV];omega
theorem zlK [Sym] {st:SS} (hg:Gd st) (s:ByteArray) (hs:s.size≤4294967296):∃ n,st.next≤n∧cc 34 [.string s] st=some (.tuple #[.int .i64 (zdF (zbX (bl s))).1,.bool (zdF (zbX (bl s))).2],st.adv n):=by
 have hcut:=zjC s ⟨#[48,120]⟩ (st.ro st.next)
 have hp:(bl (⟨#[48,120]⟩:ByteArray))=[48,120]:=rfl
 have hsz:(⟨#[48,120]⟩:ByteArray).size=2:=rfl
 rw [hp,hsz] at hcut
 cases hh:ziz (bl s) with
 | true=>
   have hh':=hh
   unfold ziz at hh'
   rw [hh'] at hcut
   obtain ⟨e,st',h1,h2,h3⟩:=zgo (st:=st.ro st.next) (hg.ro) (mkS ((bl s).drop 2)) (by simp;omega) 16 16 (.inr ⟨rfl,rfl⟩)
   rw [zdm] at h1 h2
   refine ⟨st'.next,h3.next,ze9 s st ?_⟩
   have hw:=wrap64 (n:=(puV (zaK 16 ((bl s).drop 2))).1) (by have:=zdR (B:=16) (l:=(bl s).drop 2);omega) (by have:=zdR (B:=16) (l:=(bl s).drop 2);omega)
   have hi:=zet 95 (mkS ((bl s).drop 2)) st'
   cases hx:(puV (zaK 16 ((bl s).drop 2))).2.isNone with
   | true=>
     rw [hx] at h2
     have hu:=ziY hx
     have hi':cc 35 [.string (mkS ((bl s).drop 2)),.int .u8 95] st'=_:=hi
     rw [zdm,hu] at hi'
     simp [zcX,hcut,zao,h1,h2,hw,zbX,hh,zdF,hx,hi']
   | false=>
     rw [hx] at h2
     simp [zcX,hcut,zao,h1,h2,hw,zbX,hh,zdF,hx]
 | false=>
   have hh':=hh
   unfold ziz at hh'
   rw [hh'] at hcut
   obtain ⟨e,st',h1,h2,h3⟩:=zgo (st:=st.ro st.next) (hg.ro) s hs 10 10 (.inl ⟨rfl,rfl⟩)
   refine ⟨st'.next,h3.next,ze9 s st ?_⟩
   have hw:=wrap64 (n:=(puV (zaK 10 (bl s))).1) (by have:=zdR (B:=10) (l:=bl s);omega) (by have:=zdR (B:=10) (l:=bl s);omega)
   have hi:=zet 95 s st'
   cases hx:(puV (zaK 10 (bl s))).2.isNone with
   | true=>
     rw [hx] at h2
     have hu:=ziY hx
     have hi':cc 35 [.string s,.int .u8 95] st'=_:=hi
     rw [hu] at hi'
     simp [zcX,hcut,zao,h1,h2,hw,zbX,hh,zdF,hx,hi']
   | false=>
     rw [hx] at h2
     simp [zcX,hcut,zao,h1,h2,hw,zbX,hh,zdF,hx]
end Go.Proofs.YtifploedaacedaaDoorE
namespace Go.Proofs.YtifploedaacedaaDoorE
open Go Go.E Go.Proofs
structure Tok where
 kd:Nat
 tx:List UInt8
 nm:Int
 col:Nat
def zaM (at':Int) (t:Tok):List Value:=[.int .i64 t.kd,.string (mkS t.tx),.int .i64 t.nm,.int .i64 at',.int .i64 t.col]
def zbu (at':Int):List Tok→List Value
 | []=>[]
 | t::r=>zaM at' t++zbu at' r
theorem zgp (at':Int) (a b:List Tok):zbu at' (a++b)=zbu at' a++zbu at' b:=by
 induction a with
 | nil=>rfl
 | cons t r ih=>simp [zbu,ih]
theorem zlL (at':Int) (a:List Tok):(zbu at' a).all one=true:=by
 induction a with
 | nil=>rfl
 | cons t r ih=>simp [zbu,ih,zaM,one]
inductive Stp where
 | stop | blank | bad
 | tok (kd n:Nat) (x:Int)
def numO (x:Option (Option Nat)):Option Nat:=x.getD none
def zh2 (c:UInt8):Bool:=decide (0≤Lib.indexByte [58,61,46,43,45] c)
def stepT:List UInt8→Stp
 | []=>.stop
 | c::r=>if (c.toNat:Int)=59 then .stop
   else if (c.toNat:Int)=32∨(c.toNat:Int)=9∨(c.toNat:Int)=13 then .blank
   else if zbg c.toNat=true then (if 24<zaB (c::r) then .bad else .tok 1 (zaB (c::r)) 0)
   else if zbR c.toNat=true then (match numO (zbX ((c::r).take (zaB (c::r)))) with
    | some m=>.tok 2 (zaB (c::r)) m
    | none=>.bad)
   else if zh2 c=true then .tok 3 1 0 else .bad
def zgL (t:Tok):Except Nat (List Tok)→Except Nat (List Tok)
 | .ok ts=>.ok (t::ts)
 | .error e=>.error e
def zbL:Nat→Nat→List UInt8→Except Nat (List Tok)
 | 0,_,_=>.ok []
 | k+1,col,l=>match stepT l with
   | .stop=>.ok []
   | .blank=>zbL k (col+1) (l.drop 1)
   | .tok kd n x=>zgL ⟨kd,l.take n,x,col+1⟩ (zbL k (col+n) (l.drop n))
   | .bad=>.error (col+1)
structure TK (st stX:SS) (row:List Value):Prop where
 mem:stX.mem.get st.next=some (.cells row 0)
 ext:Ext st stX
 lt:st.next<stX.next
theorem TK.new {st:SS} {r row:List Value} (hl:st.lim≤st.next) (h1:row.all one=true) (hr:r.length=row.length):∃ stX,(st.new (.cells r 0)).st st.next 0 row=some stX∧TK st stX row:=by
 refine ⟨_,SS.st_cells SS.new_get hl h1 (c':=row) ?_,?_,?_,?_⟩
 ·rw [zb7 (by omega)]
  simp [hr]
 ·simp
 ·exact ((Ext.refl st).new _).set (zlr _) _
 ·simp
theorem TK.st {st stX:SS} {row row' vs:List Value} {k:Nat} (h:TK st stX row) (hl:st.lim≤st.next) (h1:vs.all one=true) (hs:zcl row k vs=some row'):∃ stY,stX.st st.next k vs=some stY∧TK st stY row'∧stY.next=stX.next:=
 ⟨_,SS.st_cells h.mem (by rw [h.ext.lim];exact hl) h1 hs,⟨by simp,h.ext.set (zlr _) _,h.lt⟩,rfl⟩
theorem TK.adv {st stX:SS} {row:List Value} {n:Nat} (h:TK st stX row) (hn:stX.next≤n):TK st (stX.adv n) row:=
 ⟨h.mem,h.ext.adv hn,zll h.lt hn⟩
theorem TK.ld {st stX:SS} {row:List Value} {k:Nat} (h:TK st stX row):stX.ld st.next k=row[k]?:=SS.ld_cells h.mem
theorem TK.ldN {st stX:SS} {row:List Value} {n:Nat} (h:TK st stX row) (hn:row.length=n):stX.ldN st.next 0 n=some (.agg row.toArray):=by
 rw [SS.ldN_cells h.mem,zc9 hn];rfl
theorem zh3 {row:List Value} {n:Nat} (hn:row.length=n):zbe (.agg row.toArray) n=some row:=by
 unfold zbe
 have:(Value.agg row.toArray).cells=row.toArray:=rfl
 rw [this]
 simp [hn]
theorem cells5 (a b c d e:Value):zbe (.agg [a,b,c,d,e].toArray) 5=some [a,b,c,d,e]:=rfl
theorem own_ne {b:Nat} {st:SS} {v:Value} {c:List Value} {z n j:Nat} (h:Own b st v c z n) (hj:st.next≤j):∀ q,v≠.slice (some ⟨j,0,none⟩) q q:=by
 obtain ⟨_,⟨rfl,_⟩ | ⟨i,rfl,_,_,_,hi⟩⟩:=h
 ·intro q h;cases h
 ·intro q h;cases h;omega
theorem TK.app {st0 st stX:SS} {row c:List Value} {out:Value} {n z bt:Nat} (h:TK st stX row) (he:Ext st0 st) (ho:Own st0.next st out c z n) (hr:row.length=z) (hz:0<z) (hl:st0.lim≤st0.next) (h1:row.all one=true) (hs:(n+2)*bt≤2^44) (hn:n+1≤2^44):
  ∃ v st',(stX.new (.cells row z)).app z bt out (.slice (some ⟨stX.next,0,none⟩) 1 1)=some (v,st')∧Ext st0 st'∧Own st0.next st' v (c++row) z (n+1)∧st'.mem.get st.next=some (.cells row 0):=by
 have e1:Ext st (stX.new (.cells row z)):=h.ext.new _
 have e0:Ext st0 (stX.new (.cells row z)):=he.trans e1
 obtain ⟨v,st',g1,g2,g3,g4,g5,g6⟩:=(ho.ext e1).app (Rd.new1 (st:=stX) hr) e0.next (by rw [e0.lim];exact hl) hz h1 (bt:=bt) (by simpa [Nat.add_assoc] using hs) hn
 refine ⟨v,st',g1,g5 st0 (zlr _) e0,g2,?_⟩
 rw [g6 st.next (by simp;have:=h.lt;omega) (own_ne ho (zlr _)),SS.new_old (by have:=h.lt;omega)]
 exact h.mem
theorem ziA (l:List UInt8):zaB l≤l.length:=by
 unfold zaB
 exact (List.takeWhile_sublist _).length_le
theorem zfK {c:UInt8} {r:List UInt8} (h:nameB c=true):0<zaB (c::r):=by rw [zda,if_pos h];omega
theorem zht {s:ByteArray} {col n:Nat} (h:col+n≤s.size):zcp s (col:Int) ((col+n:Nat):Int)=some (mkS (((bl s).drop col).take n)):=by
 rw [ze6 (by omega) (by omega) (by omega),zdL]
 simp only [Int.toNat_natCast]
 rw [List.drop_take,Nat.add_sub_cancel_left]
theorem zlM {s:ByteArray} {col:Nat} (h:col≤s.size):zcp s (col:Int) (s.size:Int)=some (mkS ((bl s).drop col)):=by
 rw [ze6 (by omega) (by omega) (by omega),zdL]
 simp only [Int.toNat_natCast]
 rw [List.take_of_length_le (by simp)]
def zcH (errv:Nat→List Value) (s:ByteArray) (at':Int) (st0:SS) (done:List Tok) (r:Option (Nat×List Value×SS)):Except Nat (List Tok)→Prop
 | .ok ts=>∃ v st',r=some (0,[.string s,.int .i64 at',v],st')∧Ext st0 st'∧Own st0.next st' v (zbu at' (done++ts)) 5 (done++ts).length∧(done++ts).length≤s.size
 | .error c=>∃ st',r=some (1,errv c,st')∧Ext st0 st'
theorem zcH.to {errv:Nat→List Value} {s:ByteArray} {at':Int} {st0:SS} {done:List Tok} {r r':Option (Nat×List Value×SS)} {x:Except Nat (List Tok)} (h:zcH errv s at' st0 done r x) (hr:∀ y,r=some y→r'=some y):zcH errv s at' st0 done r' x:=by
 cases x with
 | ok ts=>obtain ⟨v,st',a,b⟩:=h;exact ⟨v,st',hr _ a,b⟩
 | error c=>obtain ⟨st',a,b⟩:=h;exact ⟨st',hr _ a,b⟩
theorem zcH.cons {errv:Nat→List Value} {s:ByteArray} {at':Int} {st0:SS} {done:List Tok} {t:Tok} {r:Option (Nat×List Value×SS)} {x:Except Nat (List Tok)} (h:zcH errv s at' st0 (done++[t]) r x):zcH errv s at' st0 done r (zgL t x):=by
 cases x with
 | ok ts=>
   have e:done++[t]++ts=done++t::ts:=by simp
   obtain ⟨v,st',a,b,c,d⟩:=h
   rw [e] at c d
   exact ⟨v,st',a,b,c,d⟩
 | error c=>exact h
theorem zcH.tok {errv:Nat→List Value} {s:ByteArray} {at':Int} {st0 st stY:SS} {done:List Tok} {out:Value} {kd n col k:Nat} {x:Int} {lf:zah} (hs:s.size≤4294967296) (hl0:st0.lim≤st0.next) (hd:done.length≤col) (he:Ext st0 st) (ho:Own st0.next st out (zbu at' done) 5 done.length) (hn0:0<n) (hn:col+n≤s.size)
  (tk:TK st stY [.int .i64 kd,.string (mkS (((bl s).drop col).take n)),.int .i64 x,.int .i64 at',.int .i64 ((col+1:Nat):Int)])
  (ih:∀ (done:List Tok) (out:Value) (st:SS),done.length≤col+n→Ext st0 st→Own st0.next st out (zbu at' done) 5 done.length→zcH errv s at' st0 done (lf 3 [.string s,.int .i64 at',out,.int .i64 ((col+n:Nat):Int)] st) (zbL k (col+n) ((bl s).drop (col+n))))
  (step:∀ v stZ,(stY.new (.cells [.int .i64 kd,.string (mkS (((bl s).drop col).take n)),.int .i64 x,.int .i64 at',.int .i64 ((col+1:Nat):Int)] 5)).app 5 48 out (.slice (some ⟨stY.next,0,none⟩) 1 1)=some (v,stZ)→stZ.mem.get st.next=some (.cells [.int .i64 kd,.string (mkS (((bl s).drop col).take n)),.int .i64 x,.int .i64 at',.int .i64 ((col+1:Nat):Int)] 0)→
      ∀ y,lf 3 [.string s,.int .i64 at',v,.int .i64 ((col+n:Nat):Int)] stZ=some y→lf 3 [.string s,.int .i64 at',out,.int .i64 col] st=some y):
  zcH errv s at' st0 done (lf 3 [.string s,.int .i64 at',out,.int .i64 col] st) (zgL ⟨kd,((bl s).drop col).take n,x,col+1⟩ (zbL k (col+n) (((bl s).drop col).drop n))):=by
 obtain ⟨v,stZ,b1,b2,b3,b4⟩:=tk.app he ho rfl (by omega) hl0 (by rfl) (bt:=48) (by omega) (by omega)
 have hrow:zbu at' done++[.int .i64 kd,.string (mkS (((bl s).drop col).take n)),.int .i64 x,.int .i64 at',.int .i64 ((col+1:Nat):Int)]=zbu at' (done++[⟨kd,((bl s).drop col).take n,x,col+1⟩]):=by
  rw [zgp];rfl
 have hlen:done.length+1=(done++[(⟨kd,((bl s).drop col).take n,x,col+1⟩:Tok)]).length:=by simp
 rw [hrow,hlen] at b3
 rw [List.drop_drop]
 exact ((ih _ v stZ (by simp;omega) b2 b3).cons).to (step v stZ b1 b4)
theorem zfL {L r:List UInt8} {c:UInt8} (h:L=c::r):stepT L=if (c.toNat:Int)=59 then .stop
  else if (c.toNat:Int)=32∨(c.toNat:Int)=9∨(c.toNat:Int)=13 then .blank
  else if zbg c.toNat=true then (if 24<zaB L then .bad else .tok 1 (zaB L) 0)
  else if zbR c.toNat=true then (match numO (zbX (L.take (zaB L))) with
   | some m=>.tok 2 (zaB L) m
   | none=>.bad)
  else if zh2 c=true then .tok 3 1 0 else .bad:=by subst h;rfl
theorem zlN [Sym] (s:ByteArray) (at':Int) (hs:s.size≤4294967296) (st0:SS) (hg:Gd st0) (hl0:st0.lim≤st0.next):∀ (k col:Nat) (done:List Tok) (out:Value) (st:SS),s.size≤k+col→col≤s.size→done.length≤col→Ext st0 st→Own st0.next st out (zbu at' done) 5 done.length→
  zcH (fun c=>[.slice none 0 0,.int .i64 c,.bool false]) s at' st0 done (za3 3 [.string s,.int .i64 at',out,.int .i64 col] st) (zbL k col ((bl s).drop col)):=by
 intro k
 induction k with
 | zero=>
   intro col done out st hk hc hd he ho
   have:col=s.size:=by omega
   subst this
   refine ⟨out,st,zaO s _ out _ st ?_,he,by simpa using ho,by simpa using hd⟩
   simp [za4]
 | succ k ih=>
   intro col done out st hk hc hd he ho
   have hfin:∀ (stX:SS),za3 3 [.string s,.int .i64 at',out,.int .i64 s.size] stX=some (0,[.string s,.int .i64 at',out],stX):=by
    intro stX
    refine zaO s _ out _ stX ?_
    simp [za4]
   by_cases hlt:col<s.size
   ·obtain ⟨c,hb⟩:∃ c,(bl s)[col]?=some c:=⟨_,zge (by rw [zaV];exact hlt)⟩
    have hdc:=drop_cons hb
    have hix:(zeQ s (col:Int)).bind (asI .u8)=some (c.toNat:Int):=by
     obtain ⟨b',hb',hidx⟩:=zlD (s:=s) (i:=(col:Int)) (by omega) (by omega)
     have:b'=c:=by simp at hb';rw [hb] at hb';cases hb';rfl
     subst this
     rw [hidx];simp
    have hlt':(col:Int)<(s.size:Int):=by omega
    have hw1:IntKind.wrap .i64 ((col:Int)+1)=((col+1:Nat):Int):=by rw [wrap64 (by omega) (by omega)];omega
    have hl:st.lim≤st.next:=by rw [he.lim];have:=he.next;omega
    obtain ⟨st3,e3,t3⟩:=TK.new (st:=st) (r:=[.int .i64 0,.string ⟨#[]⟩,.int .i64 0,.int .i64 0,.int .i64 0]) (row:=[.int .i64 0,.string ⟨#[]⟩,.int .i64 0,.int .i64 at',.int .i64 ((col+1:Nat):Int)]) hl (by rfl) rfl
    have he3:Ext st0 st3:=he.trans t3.ext
    have ho3:=ho.ext t3.ext
    have hL:=zfL hdc
    have hrl:zaB ((bl s).drop col)≤s.size-col:=by
     have:=ziA ((bl s).drop col)
     simpa using this
    unfold zbL
    rw [hL]
    by_cases h59:(c.toNat:Int)=59
    ·rw [if_pos h59]
     refine ⟨out,st3,zaO s _ out _ st ?_,he3,by simpa using ho3,by simp;omega⟩
     simp only [za4,zdt hlt',zct,hw1,e3,zob,hix,zdt h59]
     exact hfin st3
    rw [if_neg h59]
    by_cases hbk:(c.toNat:Int)=32∨(c.toNat:Int)=9∨(c.toNat:Int)=13
    ·rw [if_pos hbk]
     simp only [List.drop_drop]
     refine (ih (col+1) done out st3 (by omega) (by omega) (by omega) he3 ho3).to ?_
     intro r hr
     refine zaO s _ out _ st ?_
     simp only [za4,zdt hlt',zct,hw1,e3,zob,hix,zdf h59,zcf]
     rcases hbk with h | h | h
     ·simp only [zdt h,zct,hr]
     ·have h':¬ (c.toNat:Int)=32:=by omega
      simp only [zdt h,zct,hr,zdf h',zcf]
     ·have h':¬ (c.toNat:Int)=32:=by omega
      have h'':¬ (c.toNat:Int)=9:=by omega
      simp only [zdt h,zct,hr,zdf h',zdf h'',zcf]
    rw [if_neg hbk]
    have h32:¬ (c.toNat:Int)=32:=fun h=>hbk (.inl h)
    have h9:¬ (c.toNat:Int)=9:=fun h=>hbk (.inr (.inl h))
    have h13:¬ (c.toNat:Int)=13:=fun h=>hbk (.inr (.inr h))
    have hsub:=zlM (s:=s) (col:=col) (by omega)
    have hlet:=zeK (c.toNat:Int)
    have hdig:=digit_ok (c.toNat:Int)
    by_cases hlt1:zbg c.toNat=true
    ·rw [if_pos hlt1]
     have hpos:0<zaB ((bl s).drop col):=by rw [hdc];exact zfK (by unfold nameB;rw [hlt1];rfl)
     obtain ⟨m,hm,hrun⟩:=zdP (mkS ((bl s).drop col)) st3
     rw [zdm] at hrun
     have t4:=t3.adv hm
     obtain ⟨st5,e5,t5,n5⟩:=t4.st (k:=0) (vs:=[.int .i64 1]) (row':=[.int .i64 1,.string ⟨#[]⟩,.int .i64 0,.int .i64 at',.int .i64 ((col+1:Nat):Int)]) hl (by rfl) rfl
     obtain ⟨st6,e6,t6,n6⟩:=t5.st (k:=1) (vs:=[.string (mkS (((bl s).drop col).take (zaB ((bl s).drop col))))]) (row':=[.int .i64 1,.string (mkS (((bl s).drop col).take (zaB ((bl s).drop col)))),.int .i64 0,.int .i64 at',.int .i64 ((col+1:Nat):Int)]) hl (by rfl) rfl
     have hw2:IntKind.wrap .i64 ((col:Int)+(zaB ((bl s).drop col):Nat))=((col+zaB ((bl s).drop col):Nat):Int):=by rw [wrap64 (by omega) (by omega)];omega
     have hmid:=zht (s:=s) (col:=col) (n:=zaB ((bl s).drop col)) (by omega)
     have hsz:(mkS (((bl s).drop col).take (zaB ((bl s).drop col)))).size=zaB ((bl s).drop col):=by simp;omega
     have common:za4 cc za3 s at' out col st=cond (decide ((24:Int)<(zaB ((bl s).drop col):Nat))) (some (1,[.slice none 0 0,.int .i64 ((col+1:Nat):Int),.bool false],st6))
       ((((st6.new (.cells [.int .i64 1,.string (mkS (((bl s).drop col).take (zaB ((bl s).drop col)))),.int .i64 0,.int .i64 at',.int .i64 ((col+1:Nat):Int)] 5)).app 5 48 out (.slice (some ⟨st6.next,0,none⟩) 1 1))).bind fun r24=>za3 3 [.string s,.int .i64 at',r24.1,.int .i64 ((col+zaB ((bl s).drop col):Nat):Int)] r24.2):=by
      simp only [za4,zdt hlt',zct,hw1,e3,zob,hix,zdf h59,zcf,zdf h32,zdf h9,zdf h13,hlet,hlt1,zai,hsub,hrun,zac,hw2,hmid,e5,e6,t6.ld,t6.ldN (n:=5) rfl,zgs,zgz,zab,hsz,cells5,List.append_nil]
     by_cases h24:24<zaB ((bl s).drop col)
     ·rw [if_pos h24]
      refine ⟨st6,zaO s _ out _ st ?_,he.trans t6.ext⟩
      rw [common,zdt (by omega)]
      rfl
     ·rw [if_neg h24]
      refine zcH.tok hs hl0 hd he ho hpos (by omega) t6 (fun done out st hd he ho=>ih _ done out st (by omega) (by omega) hd he ho) ?_
      intro v stZ hv _ y hy
      refine zaO s _ out _ st ?_
      rw [common,zdf (by omega),zcf]
      have hv':((st6.new (.cells [.int .i64 1,.string (mkS (((bl s).drop col).take (zaB ((bl s).drop col)))),.int .i64 0,.int .i64 at',.int .i64 ((col+1:Nat):Int)] 5)).app 5 48 out (.slice (some ⟨st6.next,0,none⟩) 1 1))=some (v,stZ):=hv
      rw [hv']
      exact hy
    rw [if_neg hlt1]
    have hlt1':zbg c.toNat=false:=Bool.eq_false_iff.2 hlt1
    by_cases hd1:zbR c.toNat=true
    ·rw [if_pos hd1]
     have hpos:0<zaB ((bl s).drop col):=by rw [hdc];exact zfK (by unfold nameB;rw [hd1];simp)
     obtain ⟨m,hm,hrun⟩:=zdP (mkS ((bl s).drop col)) st3
     rw [zdm] at hrun
     have t4:=t3.adv hm
     obtain ⟨st5,e5,t5,n5⟩:=t4.st (k:=0) (vs:=[.int .i64 2]) (row':=[.int .i64 2,.string ⟨#[]⟩,.int .i64 0,.int .i64 at',.int .i64 ((col+1:Nat):Int)]) hl (by rfl) rfl
     obtain ⟨st6,e6,t6,n6⟩:=t5.st (k:=1) (vs:=[.string (mkS (((bl s).drop col).take (zaB ((bl s).drop col))))]) (row':=[.int .i64 2,.string (mkS (((bl s).drop col).take (zaB ((bl s).drop col)))),.int .i64 0,.int .i64 at',.int .i64 ((col+1:Nat):Int)]) hl (by rfl) rfl
     obtain ⟨m2,hm2,hnum⟩:=zlK (hg.ext (he.trans t6.ext)) (mkS (((bl s).drop col).take (zaB ((bl s).drop col)))) (by simp;omega)
     rw [zdm] at hnum
     have t7:=t6.adv hm2
     obtain ⟨st8,e8,t8,n8⟩:=t7.st (k:=2) (vs:=[.int .i64 (zdF (zbX (((bl s).drop col).take (zaB ((bl s).drop col))))).1]) (row':=[.int .i64 2,.string (mkS (((bl s).drop col).take (zaB ((bl s).drop col)))),.int .i64 (zdF (zbX (((bl s).drop col).take (zaB ((bl s).drop col))))).1,.int .i64 at',.int .i64 ((col+1:Nat):Int)]) hl (by rfl) rfl
     have hw2:IntKind.wrap .i64 ((col:Int)+(zaB ((bl s).drop col):Nat))=((col+zaB ((bl s).drop col):Nat):Int):=by rw [wrap64 (by omega) (by omega)];omega
     have hmid:=zht (s:=s) (col:=col) (n:=zaB ((bl s).drop col)) (by omega)
     have hsz:(mkS (((bl s).drop col).take (zaB ((bl s).drop col)))).size=zaB ((bl s).drop col):=by simp;omega
     have common:za4 cc za3 s at' out col st=cond (!(zdF (zbX (((bl s).drop col).take (zaB ((bl s).drop col))))).2) (some (1,[.slice none 0 0,.int .i64 ((col+1:Nat):Int),.bool false],st8))
       ((((st8.new (.cells [.int .i64 2,.string (mkS (((bl s).drop col).take (zaB ((bl s).drop col)))),.int .i64 (zdF (zbX (((bl s).drop col).take (zaB ((bl s).drop col))))).1,.int .i64 at',.int .i64 ((col+1:Nat):Int)] 5)).app 5 48 out (.slice (some ⟨st8.next,0,none⟩) 1 1))).bind fun r24=>za3 3 [.string s,.int .i64 at',r24.1,.int .i64 ((col+zaB ((bl s).drop col):Nat):Int)] r24.2):=by
      simp only [za4,zdt hlt',zct,hw1,e3,zob,hix,zdf h59,zcf,zdf h32,zdf h9,zdf h13,hlet,hlt1',hdig,hd1,zai,hsub,hrun,zac,hw2,hmid,e5,e6,t6.ld,hnum,zao,e8,t8.ld,t8.ldN (n:=5) rfl,zgs,zgz,zab,hsz,cells5,List.append_nil,List.getElem?_toArray]
     cases hx:zbX (((bl s).drop col).take (zaB ((bl s).drop col))) with
     | some y=>cases y with
       | some w=>
         have hx2:zdF (zbX (((bl s).drop col).take (zaB ((bl s).drop col))))=((w:Int),true):=by rw [hx];rfl
         rw [hx2] at common t8
         simp only [numO,Option.getD_some]
         refine zcH.tok hs hl0 hd he ho hpos (by omega) t8 (fun done out st hd he ho=>ih _ done out st (by omega) (by omega) hd he ho) ?_
         intro v stZ hv _ y hy
         refine zaO s _ out _ st ?_
         rw [common,znt,zcf]
         have hv':((st8.new (.cells [.int .i64 2,.string (mkS (((bl s).drop col).take (zaB ((bl s).drop col)))),.int .i64 (w:Int),.int .i64 at',.int .i64 ((col+1:Nat):Int)] 5)).app 5 48 out (.slice (some ⟨st8.next,0,none⟩) 1 1))=some (v,stZ):=hv
         rw [hv']
         exact hy
       | none=>
         have hx2:(zdF (zbX (((bl s).drop col).take (zaB ((bl s).drop col))))).2=false:=by rw [hx];rfl
         rw [hx2] at common
         refine ⟨st8,zaO s _ out _ st ?_,he.trans t8.ext⟩
         rw [common]
         rfl
     | none=>
       have hx2:(zdF (zbX (((bl s).drop col).take (zaB ((bl s).drop col))))).2=false:=by rw [hx];rfl
       rw [hx2] at common
       refine ⟨st8,zaO s _ out _ st ?_,he.trans t8.ext⟩
       rw [common]
       rfl
    rw [if_neg hd1]
    have hd1':zbR c.toNat=false:=Bool.eq_false_iff.2 hd1
    have hsg:=zet c ⟨#[58,61,46,43,45]⟩ st3
    by_cases hs1:zh2 c=true
    ·rw [if_pos hs1]
     have hs1':(0:Int)≤Lib.indexByte (bl ⟨#[58,61,46,43,45]⟩) c:=of_decide_eq_true hs1
     obtain ⟨st5,e5,t5,n5⟩:=t3.st (k:=0) (vs:=[.int .i64 3]) (row':=[.int .i64 3,.string ⟨#[]⟩,.int .i64 0,.int .i64 at',.int .i64 ((col+1:Nat):Int)]) hl (by rfl) rfl
     obtain ⟨st6,e6,t6,n6⟩:=t5.st (k:=1) (vs:=[.string (mkS (((bl s).drop col).take 1))]) (row':=[.int .i64 3,.string (mkS (((bl s).drop col).take 1)),.int .i64 0,.int .i64 at',.int .i64 ((col+1:Nat):Int)]) hl (by rfl) rfl
     have hmid:=zht (s:=s) (col:=col) (n:=1) (by omega)
     have hsz:(mkS (((bl s).drop col).take 1)).size=1:=by simp;omega
     have hw2:IntKind.wrap .i64 ((col:Int)+((1:Nat):Int))=((col+1:Nat):Int):=hw1
     refine zcH.tok hs hl0 hd he ho (by omega) (by omega) t6 (fun done out st hd he ho=>ih _ done out st (by omega) (by omega) hd he ho) ?_
     intro v stZ hv _ y hy
     refine zaO s _ out _ st ?_
     have hv':((st6.new (.cells [.int .i64 3,.string (mkS (((bl s).drop col).take 1)),.int .i64 0,.int .i64 at',.int .i64 ((col+1:Nat):Int)] 5)).app 5 48 out (.slice (some ⟨st6.next,0,none⟩) 1 1))=some (v,stZ):=hv
     simp only [za4,zdt hlt',zct,hw1,e3,zob,hix,zdf h59,zcf,zdf h32,zdf h9,zdf h13,hlet,hlt1',hdig,hd1',zai,hsg,zac,zdt hs1',hmid,e5,e6,t6.ld,t6.ldN (n:=5) rfl,zgs,zgz,zab,hsz,hw2,cells5,List.append_nil,hv']
     exact hy
    ·rw [if_neg hs1]
     have hs1':¬ (0:Int)≤Lib.indexByte (bl ⟨#[58,61,46,43,45]⟩) c:=fun h=>hs1 (zdt h)
     refine ⟨st3,zaO s _ out _ st ?_,he3⟩
     simp only [za4,zdt hlt',zct,hw1,e3,zob,hix,zdf h59,zcf,zdf h32,zdf h9,zdf h13,hlet,hlt1',hdig,hd1',zai,hsg,zac,zdf hs1',t3.ld,zgs,zgz]
   ·have:col=s.size:=by omega
    subst this
    have hnil:(bl s).drop s.size=[]:=zg7 s
    rw [hnil]
    exact ⟨out,st,hfin st,he,by simpa [stepT] using ho,by simpa using hd⟩
end Go.Proofs.YtifploedaacedaaDoorE
namespace Go.Proofs.YtifploedaacedaaDoorE
open Go Go.E Go.Proofs
def zcr (l:List UInt8):Tok:=⟨0,[],0,l.length+1⟩
def zch (l:List UInt8):Except Nat (List Tok):=match zbL l.length 0 l with
 | .ok ts=>.ok (ts++[zcr l])
 | .error c=>.error c
def LineR (okv:Value→List Value) (errv:Nat→List Value) (s:ByteArray) (at':Int) (st:SS) (r:Option (Value×SS)):Except Nat (List Tok)→Prop
 | .ok ts=>∃ v st',r=some (.tuple (okv v).toArray,st')∧Ext st st'∧Own st.next st' v (zbu at' ts) 5 ts.length∧ts.length≤s.size+1
 | .error c=>∃ st',r=some (.tuple (errv c).toArray,st')∧Ext st st'
theorem znr {st st':SS} {v:Value} {at':Int} {ts:List Tok} (s:ByteArray) (hs:s.size≤4294967296) (hl:st.lim≤st.next) (he:Ext st st') (ho:Own st.next st' v (zbu at' ts) 5 ts.length) (hn:ts.length≤s.size):
  ∃ w st'',(st'.new (.cells [.int .i64 0,.string ⟨#[]⟩,.int .i64 0,.int .i64 at',.int .i64 ((s.size+1:Nat):Int)] 5)).app 5 48 v (.slice (some ⟨st'.next,0,none⟩) 1 1)=some (w,st'')∧Ext st st''∧
   Own st.next st'' w (zbu at' (ts++[zcr (bl s)])) 5 (ts++[zcr (bl s)]).length∧(ts++[zcr (bl s)]).length≤s.size+1:=by
 have e0:Ext st (st'.new (.cells [.int .i64 0,.string ⟨#[]⟩,.int .i64 0,.int .i64 at',.int .i64 ((s.size+1:Nat):Int)] 5)):=he.new _
 obtain ⟨w,st'',g1,g2,g3,g4,g5,g6⟩:=(ho.ext ((Ext.refl st').new (.cells [.int .i64 0,.string ⟨#[]⟩,.int .i64 0,.int .i64 at',.int .i64 ((s.size+1:Nat):Int)] 5))).app (Rd.new1 (st:=st') rfl) e0.next (by rw [e0.lim];exact hl) (by omega) (by rfl) (bt:=48) (by omega) (by omega)
 refine ⟨w,st'',g1,g5 st (zlr _) e0,?_,by simp;omega⟩
 have e1:zbu at' (ts++[zcr (bl s)])=zbu at' ts++[.int .i64 0,.string ⟨#[]⟩,.int .i64 0,.int .i64 at',.int .i64 ((s.size+1:Nat):Int)]:=by
  rw [zgp]
  show _++(zaM at' (zcr (bl s))++[])=_
  simp [zaM,zcr,mkS]
 rw [e1,List.length_append]
 exact g2
theorem zns [Sym] {st:SS} (hg:Gd st) (hl:st.lim≤st.next) (s:ByteArray) (hs:s.size≤4294967296) (at':Int):
  LineR (fun v=>[v,.int .i64 0,.bool true]) (fun c=>[.slice none 0 0,.int .i64 c,.bool false]) s at' st (cc 18 [.string s,.int .i64 at'] st) (zch (bl s)):=by
 have h:=zlN s at' hs st hg hl s.size 0 [] (.slice none 0 0) st (by omega) (by omega) (by simp) (.refl _) (Own.nil _ _ _)
 simp only [List.drop_zero] at h
 have hw:IntKind.wrap .i64 ((s.size:Int)+1)=((s.size+1:Nat):Int):=by rw [wrap64 (by omega) (by omega)];omega
 unfold zch
 rw [zaV]
 cases hx:zbL s.size 0 (bl s) with
 | ok ts=>
   rw [hx] at h
   obtain ⟨v,st',a,b,c,d⟩:=h
   obtain ⟨w,st'',e1,e2,e3,e4⟩:=znr s hs hl b c d
   refine ⟨w,st'',zgl s at' st ?_,e2,e3,e4⟩
   have a':za3 3 [.string s,.int .i64 at',.slice none 0 0,.int .i64 0] st=some (0,[.string s,.int .i64 at',v],st'):=a
   have hb0:Nat.beq 0 0=true:=rfl
   simp only [zgk,a',zob,hb0,zct,zgs,zgz,zab,zac,hw,e1]
 | error c=>
   rw [hx] at h
   obtain ⟨st',a,b⟩:=h
   refine ⟨st',zgl s at' st ?_,b⟩
   have a':za3 3 [.string s,.int .i64 at',.slice none 0 0,.int .i64 0] st=some (1,[.slice none 0 0,.int .i64 c,.bool false],st'):=a
   have hb0:Nat.beq 1 0=false:=rfl
   simp only [zgk,a',zob,hb0,zcf,zgs,zgz,zai,zac]
end Go.Proofs.YtifploedaacedaaDoorE
namespace Go.Proofs.YtifploedaacedaaDoorE
open Go Go.E Go.Proofs
def rowsL:List (Nat×Tok)→List Value
 | []=>[]
 | t::r=>zaM t.1 t.2++rowsL r
theorem zjE (a b:List (Nat×Tok)):rowsL (a++b)=rowsL a++rowsL b:=by
 induction a with
 | nil=>rfl
 | cons t r ih=>simp [rowsL,ih]
theorem zlO (i:Nat) (ts:List Tok):rowsL (ts.map fun t=>(i,t))=zbu i ts:=by
 induction ts with
 | nil=>rfl
 | cons t r ih=>simp [rowsL,zbu,ih]
def zkU (a:List (Nat×Tok)):Except (Nat×Nat) (List (Nat×Tok))→Except (Nat×Nat) (List (Nat×Tok))
 | .ok us=>.ok (a++us)
 | .error e=>.error e
def zdN:Nat→List (List UInt8)→Except (Nat×Nat) (List (Nat×Tok))
 | _,[]=>.ok []
 | i,p::r=>match zch p with
   | .error c=>.error (i+1,c)
   | .ok ts=>zkU (ts.map fun t=>(i+1,t)) (zdN (i+1) r)
def lexT (l:List UInt8):Except (Nat×Nat) (List (Nat×Tok)):=zdN 0 (pieces 10 l)
theorem zh4 (c:UInt8) (l:List UInt8):∀ p∈pieces c l,p.length≤l.length:=by
 induction l with
 | nil=>simp [pieces]
 | cons b r ih=>
   unfold pieces
   split
   ·intro p hp
    simp only [List.mem_cons] at hp
    rcases hp with rfl | hp
    ·simp
    ·have:=ih p hp;simp;omega
   ·cases hr:pieces c r with
    | nil=>exact absurd hr (zlH c r)
    | cons x y=>
      intro p hp
      simp only [List.mem_cons] at hp
      rcases hp with rfl | hp
      ·have:=ih x (by rw [hr];simp);simp;omega
      ·have:=ih p (by rw [hr];simp [hp]);simp;omega
def zeu (errv:List Value) (j:Nat) (st0 st1:SS) (done:List (Nat×Tok)) (r:Option (Nat×List Value×SS)):Except (Nat×Nat) (List (Nat×Tok))→Prop
 | .ok us=>∃ v st',r=some (0,[ptr j 0,v],st')∧Ext st1 st'∧Own st1.next st' v (rowsL (done++us)) 5 (done++us).length
 | .error e=>∃ st',r=some (1,errv,st')∧st'.mem.get j=some (.cells [.int .i64 e.1,.int .i64 e.2] 0)∧Ext st0 st'
theorem zeu.to {errv:List Value} {j:Nat} {st0 st1:SS} {done:List (Nat×Tok)} {r r':Option (Nat×List Value×SS)} {x:Except (Nat×Nat) (List (Nat×Tok))} (h:zeu errv j st0 st1 done r x) (hr:∀ y,r=some y→r'=some y):zeu errv j st0 st1 done r' x:=by
 cases x with
 | ok ts=>obtain ⟨v,st',a,b⟩:=h;exact ⟨v,st',hr _ a,b⟩
 | error c=>obtain ⟨st',a,b⟩:=h;exact ⟨st',hr _ a,b⟩
theorem zeu.cons {errv:List Value} {j:Nat} {st0 st1:SS} {done a:List (Nat×Tok)} {r:Option (Nat×List Value×SS)} {x:Except (Nat×Nat) (List (Nat×Tok))} (h:zeu errv j st0 st1 (done++a) r x):zeu errv j st0 st1 done r (zkU a x):=by
 cases x with
 | ok ts=>
   have e:done++a++ts=done++(a++ts):=by simp
   obtain ⟨v,st',p,b,c⟩:=h
   rw [e] at c
   exact ⟨v,st',p,b,c⟩
 | error c=>exact h
theorem strs_get (ps:List (List UInt8)) (i:Nat) (p:List UInt8) (h:ps[i]?=some p):((strs ps).drop (i*1)).take 1=[.string (mkS p)]:=by
 rw [Nat.mul_one]
 have:(strs ps)[i]?=some (.string (mkS p)):=by simp [strs,h]
 rw [drop_cons this]
 rfl
theorem zeu.add {errv:List Value} {j:Nat} {st0 st1 st st':SS} {done:List (Nat×Tok)} {ts:List Tok} {i N:Nat} {out v:Value} {x:Except (Nat×Nat) (List (Nat×Tok))} {r':Option (Nat×List Value×SS)}
  (hN:N≤131073) (hl1:st1.lim≤st1.next) (hi:i<N) (hd:done.length≤i*N) (hts:ts.length≤N) (he:Ext st1 st) (ho:Own st1.next st out (rowsL done) 5 done.length) (he2:Ext st st') (ho2:Own st.next st' v (zbu ((i+1:Nat):Int) ts) 5 ts.length)
  (h:∀ w st'',st'.app 5 48 out v=some (w,st'')→Ext st1 st''→Own st1.next st'' w (rowsL (done++ts.map fun t=>(i+1,t))) 5 (done++ts.map fun t=>(i+1,t)).length→(done++ts.map fun t=>(i+1,t)).length≤(i+1)*N→zeu errv j st0 st1 (done++ts.map fun t=>(i+1,t)) r' x):
  zeu errv j st0 st1 done r' (zkU (ts.map fun t=>(i+1,t)) x):=by
 have hmul:i*N≤131073*131073:=Nat.mul_le_mul (by omega) hN
 have e0:Ext st1 st':=he.trans he2
 have hN2:(i+1)*N=i*N+N:=by rw [Nat.add_mul,Nat.one_mul]
 have hN3:i*N+N≤131073*131073:=by rw [← hN2];exact Nat.mul_le_mul (by omega) hN
 obtain ⟨w,st'',g1,g2,g3,g4,g5,g6⟩:=(ho.ext he2).app (ho2.rd) e0.next (by rw [e0.lim];exact hl1) (by omega) (zlL _ _) (bt:=48) (by omega) (by omega)
 refine (h w st'' g1 (g5 st1 (zlr _) e0) ?_ ?_).cons
 ·rw [zjE,zlO,List.length_append,List.length_map]
  exact g2
 ·rw [List.length_append,List.length_map,hN2];omega
theorem zmH [Sym] (st0 st1:SS) (hg:Gd st1) (h01:Ext st0 st1) (hl1:st1.lim≤st1.next) (j:Nat) (hj0:st0.next≤j) (hj1:j<st1.next) (hjm:∃ r,st1.mem.get j=some (.cells r 0)∧r.length=2) (hjl:st1.lim≤j) (all:List (List UInt8)) (v:Value) (hv:Rd st1 v (strs all) 1 all.length) (N:Nat) (hN:N≤131073) (hall:all.length≤N) (hmem:∀ p∈all,p.length+1≤N):
  ∀ (ps:List (List UInt8)) (i:Nat) (done:List (Nat×Tok)) (out:Value) (st:SS),all.drop i=ps→i≤all.length→done.length≤i*N→Ext st1 st→Own st1.next st out (rowsL done) 5 done.length→
  zeu [.slice none 0 0,ptr j 0,.int .i64 4] j st0 st1 done (zco 5 [ptr j 0,out,v,.int .i64 all.length,.int .i64 i] st) (zdN i ps):=by
 intro ps
 induction ps with
 | nil=>
   intro i done out st hp hi hd he ho
   have:i=all.length:=by
    rw [List.drop_eq_nil_iff] at hp;omega
   subst this
   refine ⟨out,st,zdE _ out v _ _ st ?_,he,by simpa using ho⟩
   simp [zdM]
 | cons p r ih=>
   intro i done out st hp hi hd he ho
   have hgp:all[i]?=some p:=by
    have:=congrArg (·[0]?) hp
    simpa using this
   have hlt:i<all.length:=(List.getElem?_eq_some_iff.1 hgp).1
   have hpm:p∈all:=zmg hgp
   have hpl:=hmem p hpm
   have hr:all.drop (i+1)=r:=by
    have:=drop_cons hgp
    rw [hp] at this
    exact (List.cons.inj this).2.symm
   have hlt':(i:Int)<(all.length:Int):=by omega
   have hw:IntKind.wrap .i64 ((i:Int)+1)=((i+1:Nat):Int):=by rw [wrap64 (by omega) (by omega)];omega
   obtain ⟨q,hq1,hq2,hq3⟩:=(hv.ext he).load (j:=(i:Int)) (by omega) hlt' (strs_get all i p hgp) rfl
   have hld:(st.ld q.1 q.2).bind asS=some (mkS p):=by
    have:=hq3 0 (by omega)
    rw [Nat.add_zero] at this
    rw [this];rfl
   have hl:st.lim≤st.next:=by rw [he.lim];have:=he.next;omega
   have h:=zns (hg.ext he) hl (mkS p) (by simp;omega) ((i+1:Nat):Int)
   rw [zdm] at h
   unfold zdN
   cases hx:zch p with
   | error c=>
     rw [hx] at h
     obtain ⟨st',a,b⟩:=h
     obtain ⟨r0,hjm1,hjm2⟩:=hjm
     have e0:=he.trans b
     have hst:st'.st j 0 [.int .i64 ((i+1:Nat):Int),.int .i64 c]=some (st'.set j (some (.cells [.int .i64 ((i+1:Nat):Int),.int .i64 c] 0))):=
      SS.st_cells (e0.get hj1 hjm1) (by rw [e0.lim];exact hjl) (by rfl) (by rw [zb7 (by simp [hjm2])];simp [hjm2])
     refine ⟨st'.set j (some (.cells [.int .i64 ((i+1:Nat):Int),.int .i64 c] 0)),zdE _ out v _ _ st ?_,by simp,(h01.trans e0).set hj0 _⟩
     simp only [zdM,zdt hlt',zct,hq1,zob,hld,hw,a,zao,List.getElem?_toArray,zgs,zgz,zac,zai,znf,zaz,hst]
   | ok ts=>
     rw [hx] at h
     obtain ⟨w,st',a,b,c,d⟩:=h
     refine zeu.add hN hl1 (by omega) hd (by simp at d;omega) he ho b c ?_
     intro u st'' g1 g2 g3 g4
     refine (ih (i+1) _ u st'' hr (by omega) g4 g2 g3).to ?_
     intro y hy
     refine zdE _ out v _ _ st ?_
     simp only [zdM,zdt hlt',zct,hq1,zob,hld,hw,a,zao,List.getElem?_toArray,zgs,zgz,zac,zai,znt,zcf,g1]
     exact hy
def LexR (okv:Value→Nat×Nat→List Value) (errv:Nat×Nat→List Value) (st:SS) (r:Option (Value×SS)):Except (Nat×Nat) (List (Nat×Tok))→Prop
 | .ok us=>∃ v st',r=some (.tuple (okv v (0,0)).toArray,st')∧Ext st st'∧Own st.next st' v (rowsL us) 5 us.length
 | .error e=>∃ st',r=some (.tuple (errv e).toArray,st')∧Ext st st'
def zcv (e:Nat×Nat):Value:=.agg #[.int .i64 e.1,.int .i64 e.2]
theorem rdN2 {st:SS} {j:Nat} {a b:Value} {z:Nat} (h:st.mem.get j=some (.cells [a,b] z)):st.rdN j 0 2=some (.agg #[a,b]):=by
 rw [SS.rdN_cells h,zc9 (n:=2) rfl];rfl
theorem lex_ok [Sym] {st:SS} (hg:Gd st) (hl:st.lim≤st.next) (s:ByteArray) (hs:s.size≤131072):
  LexR (fun v e=>[v,zcv e,.int .i64 0]) (fun e=>[.slice none 0 0,zcv e,.int .i64 4]) st (cc 11 [.string s] st) (lexT (bl s)):=by
 obtain ⟨v,st2,h1,h2,h3⟩:=split_ok s 10 (by omega) (st.new (.cells [.int .i64 0,.int .i64 0] 0)) (by simp;omega)
 have hst1:(st.new (.cells [.int .i64 0,.int .i64 0] 0)).mem.get st.next=some (.cells [.int .i64 0,.int .i64 0] 0):=by simp
 have e01:Ext st st2:=((Ext.refl st).new _).trans h2
 have hm:=h2.get (by simp) hst1
 have hj1:st.next<st2.next:=by have:=h2.next;simp at this;omega
 have hl2:st2.lim≤st2.next:=by rw [e01.lim];have:=e01.next;omega
 have hlen:=pieces_len 10 (bl s)
 rw [zaV] at hlen
 have hmem:=zh4 10 (bl s)
 rw [zaV] at hmem
 have h:=zmH st st2 (hg.ext e01) e01 hl2 st.next (zlr _) hj1 ⟨_,hm,rfl⟩ (by rw [e01.lim];exact hl) (pieces 10 (bl s)) v h3 (s.size+1) (by omega) hlen (fun p hp=>by have:=hmem p hp;omega) (pieces 10 (bl s)) 0 [] (.slice none 0 0) st2 rfl (by omega) (by simp) (.refl _) (Own.nil _ _ _)
 have hbig:¬ (131072:Int)<(s.size:Int):=by omega
 have hb0:Nat.beq 0 0=true:=rfl
 have hb1:Nat.beq 1 0=false:=rfl
 have hlv:(lenV v).bind (asI .i64)=some ((pieces 10 (bl s)).length:Int):=by rw [h3.len];rfl
 unfold lexT
 cases hx:zdN 0 (pieces 10 (bl s)) with
 | ok us=>
   rw [hx] at h
   obtain ⟨w,st3,a,b,c⟩:=h
   have hm3:=b.get hj1 hm
   have hst:st3.st st.next 0 [.int .i64 0,.int .i64 0]=some (st3.set st.next (some (.cells [.int .i64 0,.int .i64 0] 0))):=
    SS.st_cells hm3 (by rw [b.lim,e01.lim];exact hl) (by rfl) (by rfl)
   have hlast:Ext st (st3.set st.next (some (.cells [.int .i64 0,.int .i64 0] 0))):=(e01.trans b).set (zlr _) _
   refine ⟨w,st3.set st.next (some (.cells [.int .i64 0,.int .i64 0] 0)),zhb s st ?_,hlast,?_⟩
   ·have a':zco 5 [ptr st.next 0,.slice none 0 0,v,.int .i64 ((pieces 10 (bl s)).length:Int),.int .i64 0] st2=some (0,[ptr st.next 0,w],st3):=a
    have hr:=rdN2 (a:=.int .i64 0) (b:=.int .i64 0) (z:=0) (st:=st3.set st.next (some (.cells [.int .i64 0,.int .i64 0] 0))) (j:=st.next) (by simp)
    simp only [zhs,zdf hbig,zcf,h1,zob,hlv,a',hb0,zct,zgs,zgz,zaz,hst,hr]
    rfl
   ·obtain ⟨c1,c2⟩:=c
    refine ⟨c1,c2.imp id ?_⟩
    rintro ⟨i,e,h0,hmi,hbi,hi⟩
    refine ⟨i,e,h0,?_,by omega,hi⟩
    rw [SS.set_old (by omega)]
    exact hmi
 | error e=>
   rw [hx] at h
   obtain ⟨st3,a,b,c⟩:=h
   refine ⟨st3,zhb s st ?_,c⟩
   have a':zco 5 [ptr st.next 0,.slice none 0 0,v,.int .i64 ((pieces 10 (bl s)).length:Int),.int .i64 0] st2=some (1,[.slice none 0 0,ptr st.next 0,.int .i64 4],st3):=a
   simp only [zhs,zdf hbig,zcf,h1,zob,hlv,a',hb1,zct,zgs,zgz,zaz,zac,rdN2 b]
   rfl
end Go.Proofs.YtifploedaacedaaDoorE
namespace Go.Proofs.YtifploedaacedaaDoorE
open Go Go.E Go.Proofs
theorem TK.newV {st:SS} {r:List Value} {v:Value} {n:Nat} (hl:st.lim≤st.next) (h1:v.cells.toList.all one=true) (hn:v.cells.size=n) (hr:r.length=n):∃ stX,(st.new (.cells r 0)).stV st.next 0 n v=some stX∧TK st stX v.cells.toList:=by
 obtain ⟨stX,h,t⟩:=TK.new (st:=st) (r:=r) (row:=v.cells.toList) hl h1 (by simp [hr,hn])
 refine ⟨stX,?_,t⟩
 unfold SS.stV
 have:Nat.beq v.cells.size n=true:=by rw [zan,hn];simp
 rw [this]
 exact h
theorem TK.pair {st:SS} {r:List Value} (e:Nat×Nat) (hl:st.lim≤st.next) (hr:r.length=2):∃ stX,(st.new (.cells r 0)).stV st.next 0 2 (zcv e)=some stX∧TK st stX [.int .i64 e.1,.int .i64 e.2]:=TK.newV (v:=zcv e) hl (by rfl) rfl hr
theorem ziZ (us:List (Nat×Tok)) (i:Nat) (t:Nat×Tok) (h:us[i]?=some t):((rowsL us).drop (i*5)).take 5=zaM t.1 t.2:=by
 induction us generalizing i with
 | nil=>simp at h
 | cons a r ih=>
   cases i with
   | zero=>
     simp at h
     subst h
     show ((zaM a.1 a.2++rowsL r).drop (0*5)).take 5=_
     rfl
   | succ i=>
     have:=ih i (by simpa using h)
     show ((zaM a.1 a.2++rowsL r).drop ((i+1)*5)).take 5=_
     have e:(i+1)*5=(zaM a.1 a.2).length+i*5:=by simp [zaM];omega
     rw [e,← List.drop_drop,List.drop_left]
     exact this
theorem zlP (ps:List (List UInt8)) (i N:Nat) (us:List (Nat×Tok)) (h:zdN i ps=.ok us) (hN:∀ p∈ps,∀ ts,zch p=.ok ts→ts.length≤N):us.length≤ps.length*N:=by
 induction ps generalizing i us with
 | nil=>cases h;simp
 | cons p r ih=>
   unfold zdN at h
   cases hx:zch p with
   | error c=>rw [hx] at h;cases h
   | ok ts=>
     rw [hx] at h
     cases hy:zdN (i+1) r with
     | error e=>rw [hy] at h;cases h
     | ok vs=>
       rw [hy] at h
       cases h
       have h1:=ih (i+1) vs hy (fun q hq=>hN q (List.mem_cons_of_mem _ hq))
       have h2:=hN p (List.mem_cons_self ..) ts hx
       rw [List.length_append,List.length_map,List.length_cons,Nat.add_mul]
       omega
theorem zmI (k col:Nat) (l:List UInt8) (ts:List Tok) (h:zbL k col l=.ok ts):ts.length≤k:=by
 induction k generalizing col l ts with
 | zero=>cases h;simp
 | succ k ih=>
   unfold zbL at h
   split at h
   ·cases h;simp
   ·have:=ih _ _ _ h;omega
   ·rename_i kd n x _
    cases hx:zbL k (col+n) (l.drop n) with
    | error e=>rw [hx] at h;cases h
    | ok us=>rw [hx] at h;cases h;have:=ih _ _ _ hx;simp;omega
   ·cases h
theorem zlQ (p:List UInt8) (ts:List Tok) (h:zch p=.ok ts):ts.length≤p.length+1:=by
 unfold zch at h
 split at h
 ·rename_i us hu;cases h;have:=zmI _ _ _ _ hu;simp;omega
 ·cases h
theorem zmJ (l:List UInt8) (us:List (Nat×Tok)) (h:lexT l=.ok us):us.length≤(l.length+1)*(l.length+1):=by
 have h1:=zlP (pieces 10 l) 0 (l.length+1) us h (fun p hp ts hts=>by have:=zh4 10 l p hp;have:=zlQ p ts hts;omega)
 exact zlt h1 (Nat.mul_le_mul_right _ (pieces_len 10 l))
theorem zj2 {st:SS} {b z n cap:Nat} {c:List Value} {l:List UInt8} (h:st.mem.get b=some (.cells c z)) (hn:c.length=n) (hc:zdi c=some l):st.bytes (.slice (some ⟨b,0,none⟩) n cap)=some (mkS l):=by
 unfold SS.bytes
 simp only [h,zob,zc9 hn,hc,Option.map_some]
 rfl
theorem zfa {a b:List UInt8} (h:a.length+b.length≤9223372036854775807):zaq (mkS a) (mkS b)=some (mkS (a++b)):=by
 unfold zaq
 have:Nat.ble ((mkS a).size+(mkS b).size) 9223372036854775807=true:=by rw [Nat.ble_eq];simpa using h
 rw [this,zct]
 congr 1
theorem ziB (l:List UInt8):eqT (mkS l) ⟨#[]⟩=decide (l=[]):=rfl
end Go.Proofs.YtifploedaacedaaDoorE
namespace Go.Proofs.YtifploedaacedaaDoorE
open Go Go.E Go.Proofs
def blankB (b:UInt8):Prop:=(b.toNat:Int)=32∨(b.toNat:Int)=9∨(b.toNat:Int)=13
theorem zh5 (c:UInt8) (r:List UInt8):stepT (c::r)=if (c.toNat:Int)=59 then .stop
  else if (c.toNat:Int)=32∨(c.toNat:Int)=9∨(c.toNat:Int)=13 then .blank
  else if zbg c.toNat=true then (if 24<zaB (c::r) then .bad else .tok 1 (zaB (c::r)) 0)
  else if zbR c.toNat=true then (match numO (zbX ((c::r).take (zaB (c::r)))) with
   | some m=>.tok 2 (zaB (c::r)) m
   | none=>.bad)
  else if zh2 c=true then .tok 3 1 0 else .bad:=rfl
theorem zlR {l:List UInt8} {kd n:Nat} {x:Int} (h:stepT l=.tok kd n x):0<n∧n≤l.length∧(kd=1∨kd=2∨kd=3):=by
 cases l with
 | nil=>cases h
 | cons c r=>
   rw [zh5] at h
   split at h
   ·cases h
   ·split at h
    ·cases h
    ·split at h
     ·rename_i hlet
      split at h
      ·cases h
      ·cases h
       exact ⟨zfK (by unfold nameB;rw [hlet];rfl),ziA _,.inl rfl⟩
     ·split at h
      ·rename_i hdig
       split at h
       ·cases h
        exact ⟨zfK (by unfold nameB;rw [hdig];simp),ziA _,.inr (.inl rfl)⟩
       ·cases h
      ·split at h
       ·cases h
        exact ⟨by omega,by simp,.inr (.inr rfl)⟩
       ·cases h
def View (c:Nat) (l:List UInt8) (ts:List Tok):Prop:=
 ∃ m,(∀ j b,j<m→l[j]?=some b→blankB b)∧((ts=[]∧m≤l.length∧∀ b,l[m]?=some b→(b.toNat:Int)=59)∨
  ∃ n kd x k' ts',m+n≤l.length∧0<n∧(kd=1∨kd=2∨kd=3)∧ts=⟨kd,(l.drop m).take n,x,c+m+1⟩::ts'∧(l.drop (m+n)).length≤k'∧zbL k' (c+m+n) (l.drop (m+n))=.ok ts')
end Go.Proofs.YtifploedaacedaaDoorE
namespace Go.Proofs.YtifploedaacedaaDoorE
open Go Go.E Go.Proofs
structure Val where
 nm:List UInt8
 x:Int
 col:Nat
structure Pr where
 fd:List UInt8
 col:Nat
 v:Val
structure PLine where
 ln:Nat
 lab:List UInt8
 dir:List UInt8
 args:List Val
 prs:List Pr
def zau (t:Tok) (s:List UInt8):Bool:=decide (t.kd=3)&&decide (t.tx=s)
def zdO:List Tok→Except Nat (Val×Nat)
 | []=>.error 0
 | t::r=>if t.kd=2 then .ok (⟨[],t.nm,t.col⟩,1) else if t.kd=1 then (match r with
   | []=>.error 0
   | s::u=>if zau s [43]=true then (match u with
     | n::_=>if n.kd=2 then .ok (⟨t.tx,n.nm,t.col⟩,3) else .error 2
     | []=>.error 2)
     else if zau s [45]=true then (match u with
      | n::_=>if n.kd=2 then .ok (⟨t.tx, -n.nm,t.col⟩,3) else .error 2
      | []=>.error 2)
     else .ok (⟨t.tx,0,t.col⟩,1)) else .error 0
def zbo:Nat→List Tok→Except Nat (List Val)
 | 0,_=>.ok []
 | _+1,[]=>.ok []
 | k+1,t::r=>if t.kd=0 then .ok [] else match zdO (t::r) with
   | .error o=>.error o
   | .ok (v,n)=>match zbo k ((t::r).drop n) with
     | .error o=>.error (n+o)
     | .ok vs=>.ok (v::vs)
def pairT (seen:List (List UInt8)):List Tok→Except Nat (Pr×Nat)
 | []=>.error 0
 | t::r=>if t.kd=1∧t.tx∉seen then (match r with
   | []=>.error 1
   | e::u=>if zau e [61]=true then (match zdO u with
     | .error o=>.error (2+o)
     | .ok (v,n)=>.ok (⟨t.tx,t.col,v⟩,2+n)) else .error 1)
   else .error 0
def zbp:Nat→List (List UInt8)→List Tok→Except Nat (List Pr)
 | 0,_,_=>.ok []
 | _+1,_,[]=>.ok []
 | k+1,seen,t::r=>if t.kd=0 then .ok [] else match pairT seen (t::r) with
   | .error o=>.error o
   | .ok (p,n)=>match zbp k (seen++[p.fd]) ((t::r).drop n) with
     | .error o=>.error (n+o)
     | .ok ps=>.ok (p::ps)
def zci (lab:List UInt8):List Tok→Except Nat PLine
 | []=>.error 0
 | t::r=>if zau t [46]=true then (match r with
   | []=>.error 1
   | d::u=>if d.kd=1 then (match zbo u.length u with
     | .error o=>.error (2+o)
     | .ok vs=>.ok ⟨0,lab,d.tx,vs,[]⟩) else .error 1)
   else match zbp (t::r).length [] (t::r) with
    | .error o=>.error o
    | .ok ps=>.ok ⟨0,lab,[],[],ps⟩
def readT:List Tok→Except Nat PLine
 | t::s::r=>if t.kd=1∧zau s [58]=true then (match zci t.tx r with
   | .error o=>.error (2+o)
   | .ok x=>.ok x) else zci [] (t::s::r)
 | l=>zci [] l
def zkV (l:List Tok) (o:Nat):Nat:=((l[o]?).map (·.col)).getD 0
def zb3:Nat→List (List Tok)→Except (Nat×Nat) (List PLine)
 | _,[]=>.ok []
 | i,ts::r=>match readT ts with
   | .error o=>.error (i+1,zkV ts o)
   | .ok x=>match zb3 (i+1) r with
     | .error e=>.error e
     | .ok xs=>.ok (if 1<ts.length then { x with ln:=i+1 }::xs else xs)
def zc1:Nat→List (List UInt8)→Except (Nat×Nat) (List (List Tok))
 | _,[]=>.ok []
 | i,p::r=>match zch p with
   | .error c=>.error (i+1,c)
   | .ok ts=>match zc1 (i+1) r with
     | .error e=>.error e
     | .ok tss=>.ok (ts::tss)
def zh6 (l:List UInt8):Except (Nat×Nat) (List PLine):=match zc1 0 (pieces 10 l) with
 | .error e=>.error e
 | .ok tss=>zb3 0 tss
def flat:Nat→List (List Tok)→List (Nat×Tok)
 | _,[]=>[]
 | i,ts::r=>ts.map (fun t=>(i+1,t))++flat (i+1) r
theorem zkW (ps:List (List UInt8)) (i:Nat):zdN i ps=match zc1 i ps with
  | .error e=>.error e
  | .ok tss=>.ok (flat i tss):=by
 induction ps generalizing i with
 | nil=>rfl
 | cons p r ih=>
   unfold zdN zc1
   cases hx:zch p with
   | error c=>rfl
   | ok ts=>
     simp only
     rw [ih (i+1)]
     cases hy:zc1 (i+1) r with
     | error e=>rfl
     | ok tss=>rfl
def Lin:List Tok→Prop
 | []=>False
 | t::r=>(t.kd=0∧r=[])∨(t.kd≠0∧Lin r)
theorem Lin.tail {t:Tok} {r:List Tok} (h:Lin (t::r)) (hk:t.kd≠0):Lin r:=h.elim (fun x=>absurd x.1 hk) (·.2)
theorem Lin.last {t:Tok} {r:List Tok} (h:Lin (t::r)) (hk:t.kd=0):r=[]:=h.elim (·.2) fun x=>absurd hk x.1
theorem Lin.ne {r:List Tok} (h:Lin r):∃ t u,r=t::u:=by
 cases r with
 | nil=>exact h.elim
 | cons t u=>exact ⟨t,u,rfl⟩
structure TokOk (t:Tok):Prop where
 kd:t.kd≤3
 tx:t.kd=1→t.tx≠[]
 nm0:0≤t.nm
 nm1:t.nm≤2147483647
theorem zkX {l:List UInt8} {m:Nat} (h:numO (zbX l)=some m):m≤2147483647:=by
 have key:∀ B q,numO (zaK B q)=some m→m≤2147483647:=by
  intro B q h
  have hr:=zdR (B:=B) (l:=q)
  cases hp:zaK B q with
  | none=>rw [hp] at h;cases h
  | some x=>cases x with
    | none=>rw [hp] at h;cases h
    | some k=>
      rw [hp] at h hr
      have:k=m:=by injection h
      subst this
      simp only [puV] at hr
      omega
 unfold zbX at h
 split at h
 ·exact key _ _ h
 ·exact key _ _ h
theorem zmK {l:List UInt8} {kd n:Nat} {x:Int} {c:Nat} (h:stepT l=.tok kd n x):TokOk ⟨kd,l.take n,x,c⟩∧kd≠0:=by
 obtain ⟨h1,h2,h3⟩:=zlR h
 have hne:l.take n≠[]:=by
  intro e
  have:=congrArg List.length e
  rw [List.length_take] at this
  simp at this
  rcases this with rfl | rfl
  ·omega
  ·simp at h2;omega
 have hx:0≤x∧x≤2147483647:=by
  cases l with
  | nil=>cases h
  | cons c r=>
    rw [zh5] at h
    split at h
    ·cases h
    ·split at h
     ·cases h
     ·split at h
      ·split at h
       ·cases h
       ·cases h;omega
      ·split at h
       ·split at h
        ·rename_i m hm
         cases h
         have:=zkX hm
         omega
        ·cases h
       ·split at h
        ·cases h;omega
        ·cases h
 exact ⟨⟨by show kd≤3;omega,fun _=>hne,hx.1,hx.2⟩,by omega⟩
theorem Lin.snoc {ts:List Tok} {e:Tok} (h:∀ t∈ts,t.kd≠0) (he:e.kd=0):Lin (ts++[e]):=by
 induction ts with
 | nil=>exact .inl ⟨he,rfl⟩
 | cons t r ih=>exact .inr ⟨h t (List.mem_cons_self ..),ih fun u hu=>h u (List.mem_cons_of_mem _ hu)⟩
theorem znu (k col:Nat) (l:List UInt8) (ts:List Tok) (h:zbL k col l=.ok ts):∀ t∈ts,TokOk t∧t.kd≠0:=by
 induction k generalizing col l ts with
 | zero=>cases h;intro t ht;cases ht
 | succ k ih=>
   unfold zbL at h
   split at h
   ·cases h;intro t ht;cases ht
   ·exact ih _ _ _ h
   ·rename_i kd n x hs
    cases hx:zbL k (col+n) (l.drop n) with
    | error e=>rw [hx] at h;cases h
    | ok us=>
      rw [hx] at h;cases h
      intro t ht
      rcases List.mem_cons.1 ht with rfl | ht
      ·exact zmK hs
      ·exact ih _ _ _ hx t ht
   ·cases h
theorem zmL {p:List UInt8} {ts:List Tok} (h:zch p=.ok ts):Lin ts∧∀ t∈ts,TokOk t:=by
 unfold zch at h
 split at h
 ·rename_i us hu
  cases h
  have h1:=znu _ _ _ _ hu
  refine ⟨Lin.snoc (fun t ht=>(h1 t ht).2) rfl,fun t ht=>?_⟩
  rcases List.mem_append.1 ht with ht | ht
  ·exact (h1 t ht).1
  ·have:t=zcr p:=by simpa using ht
   subst this
   exact ⟨by simp [zcr],fun h=>by simp [zcr] at h,by simp [zcr],by simp [zcr]⟩
 ·cases h
theorem zmM (ps:List (List UInt8)) (i:Nat) (tss:List (List Tok)) (h:zc1 i ps=.ok tss):∀ ts∈tss,Lin ts∧∀ t∈ts,TokOk t:=by
 induction ps generalizing i tss with
 | nil=>cases h;intro ts hts;cases hts
 | cons p r ih=>
   unfold zc1 at h
   cases hx:zch p with
   | error c=>rw [hx] at h;cases h
   | ok ts=>
     rw [hx] at h
     cases hy:zc1 (i+1) r with
     | error e=>rw [hy] at h;cases h
     | ok us=>
       rw [hy] at h;cases h
       intro ts' ht
       rcases List.mem_cons.1 ht with rfl | ht
       ·exact zmL hx
       ·exact ih _ _ hy ts' ht
theorem zbS {t:Tok} {s:List UInt8} (h:zau t s=true):t.kd=3:=by
 simp [zau] at h;exact h.1
theorem zfM (t:Tok) (r:List Tok):zdO (t::r)=(if t.kd=2 then .ok (⟨[],t.nm,t.col⟩,1) else if t.kd=1 then (match r with
   | []=>.error 0
   | s::u=>if zau s [43]=true then (match u with
     | n::_=>if n.kd=2 then .ok (⟨t.tx,n.nm,t.col⟩,3) else .error 2
     | []=>.error 2)
     else if zau s [45]=true then (match u with
      | n::_=>if n.kd=2 then .ok (⟨t.tx, -n.nm,t.col⟩,3) else .error 2
      | []=>.error 2)
     else .ok (⟨t.tx,0,t.col⟩,1)) else .error 0):=rfl
theorem zh7 (seen:List (List UInt8)) (t:Tok) (r:List Tok):pairT seen (t::r)=(if t.kd=1∧t.tx∉seen then (match r with
   | []=>.error 1
   | e::u=>if zau e [61]=true then (match zdO u with
     | .error o=>.error (2+o)
     | .ok (v,n)=>.ok (⟨t.tx,t.col,v⟩,2+n)) else .error 1)
  else .error 0):=rfl
theorem zgq {l:List Tok} (hl:Lin l):match zdO l with
  | .ok (_,n)=>Lin (l.drop n)∧0<n
  | .error o=>o<l.length:=by
 obtain ⟨t,r,rfl⟩:=hl.ne
 rw [zfM]
 by_cases h2:t.kd=2
 ·rw [if_pos h2]
  exact ⟨hl.tail (by omega),by omega⟩
 ·rw [if_neg h2]
  by_cases h1:t.kd=1
  ·rw [if_pos h1]
   have hr:=hl.tail (by omega)
   obtain ⟨s,u,rfl⟩:=hr.ne
   simp only
   by_cases hp:zau s [43]=true
   ·rw [if_pos hp]
    have hu:=hr.tail (by have:=zbS hp;omega)
    obtain ⟨n,w,rfl⟩:=hu.ne
    simp only
    by_cases hn:n.kd=2
    ·rw [if_pos hn];exact ⟨hu.tail (by omega),by omega⟩
    ·rw [if_neg hn];simp
   ·rw [if_neg hp]
    by_cases hm:zau s [45]=true
    ·rw [if_pos hm]
     have hu:=hr.tail (by have:=zbS hm;omega)
     obtain ⟨n,w,rfl⟩:=hu.ne
     simp only
     by_cases hn:n.kd=2
     ·rw [if_pos hn];exact ⟨hu.tail (by omega),by omega⟩
     ·rw [if_neg hn];simp
    ·rw [if_neg hm];exact ⟨hr,by omega⟩
  ·rw [if_neg h1];simp
theorem zi0 {seen:List (List UInt8)} {l:List Tok} (hl:Lin l):match pairT seen l with
  | .ok (_,n)=>Lin (l.drop n)∧0<n
  | .error o=>o<l.length:=by
 obtain ⟨t,r,rfl⟩:=hl.ne
 rw [zh7]
 by_cases h1:t.kd=1∧t.tx∉seen
 ·rw [if_pos h1]
  have hr:=hl.tail (by omega)
  obtain ⟨e,u,rfl⟩:=hr.ne
  simp only
  by_cases he:zau e [61]=true
  ·rw [if_pos he]
   have hu:=hr.tail (by have:=zbS he;omega)
   have h:=zgq hu
   cases hx:zdO u with
   | error o=>rw [hx] at h;simp only at h ⊢;simp;omega
   | ok y=>
     obtain ⟨v,n⟩:=y
     rw [hx] at h
     simp only at h ⊢
     rw [Nat.add_comm 2 n]
     exact ⟨h.1,by omega⟩
  ·rw [if_neg he];simp
 ·rw [if_neg h1];simp
theorem zlS (k:Nat) (l:List Tok) (hl:Lin l) (o:Nat) (h:zbo k l=.error o):o<l.length:=by
 induction k generalizing l o with
 | zero=>cases h
 | succ k ih=>
   obtain ⟨t,r,rfl⟩:=hl.ne
   unfold zbo at h
   split at h
   ·cases h
   ·have hx:=zgq hl
    cases hy:zdO (t::r) with
    | error o'=>rw [hy] at h hx;cases h;exact hx
    | ok y=>
      obtain ⟨v,n⟩:=y
      rw [hy] at h hx
      simp only at h hx
      cases hz:zbo k ((t::r).drop n) with
      | ok vs=>rw [hz] at h;cases h
      | error o'=>
        rw [hz] at h
        have:=ih _ hx.1 o' hz
        rw [List.length_drop] at this
        have h':n+o'=o:=by injection h
        omega
theorem zkY (k:Nat) (seen:List (List UInt8)) (l:List Tok) (hl:Lin l) (o:Nat) (h:zbp k seen l=.error o):o<l.length:=by
 induction k generalizing seen l o with
 | zero=>cases h
 | succ k ih=>
   obtain ⟨t,r,rfl⟩:=hl.ne
   unfold zbp at h
   split at h
   ·cases h
   ·have hx:=zi0 (seen:=seen) hl
    cases hy:pairT seen (t::r) with
    | error o'=>rw [hy] at h hx;cases h;exact hx
    | ok y=>
      obtain ⟨v,n⟩:=y
      rw [hy] at h hx
      simp only at h hx
      cases hz:zbp k (seen++[v.fd]) ((t::r).drop n) with
      | ok vs=>rw [hz] at h;cases h
      | error o'=>
        rw [hz] at h
        have:=ih _ _ hx.1 o' hz
        rw [List.length_drop] at this
        have h':n+o'=o:=by injection h
        omega
theorem zcI (lab:List UInt8) (t:Tok) (r:List Tok):zci lab (t::r)=if zau t [46]=true then (match r with
   | []=>.error 1
   | d::u=>if d.kd=1 then (match zbo u.length u with
     | .error o=>.error (2+o)
     | .ok vs=>.ok ⟨0,lab,d.tx,vs,[]⟩) else .error 1)
  else match zbp (t::r).length [] (t::r) with
   | .error o=>.error o
   | .ok ps=>.ok ⟨0,lab,[],[],ps⟩:=rfl
theorem zdS (t s:Tok) (r:List Tok):readT (t::s::r)=if t.kd=1∧zau s [58]=true then (match zci t.tx r with
   | .error o=>.error (2+o)
   | .ok x=>.ok x) else zci [] (t::s::r):=rfl
theorem zgr (lab:List UInt8) (l:List Tok) (hl:Lin l) (o:Nat) (h:zci lab l=.error o):o<l.length:=by
 obtain ⟨t,r,rfl⟩:=hl.ne
 rw [zcI] at h
 by_cases hs:zau t [46]=true
 ·rw [if_pos hs] at h
  have hr:=hl.tail (by have:=zbS hs;omega)
  obtain ⟨d,u,rfl⟩:=hr.ne
  simp only at h
  by_cases hd:d.kd=1
  ·rw [if_pos hd] at h
   have hu:=hr.tail (by omega)
   cases hx:zbo u.length u with
   | ok vs=>rw [hx] at h;cases h
   | error o'=>
     rw [hx] at h
     have:=zlS _ _ hu o' hx
     have h':2+o'=o:=by injection h
     simp;omega
  ·rw [if_neg hd] at h;cases h;simp
 ·rw [if_neg hs] at h
  cases hx:zbp (t::r).length [] (t::r) with
  | ok vs=>rw [hx] at h;cases h
  | error o'=>
    rw [hx] at h
    have:=zkY _ _ _ hl o' hx
    have h':o'=o:=by injection h
    omega
theorem zlT (l:List Tok) (hl:Lin l) (o:Nat) (h:readT l=.error o):o<l.length:=by
 obtain ⟨t,r,rfl⟩:=hl.ne
 cases r with
 | nil=>exact zgr [] _ hl o h
 | cons s r=>
   rw [zdS] at h
   split at h
   ·rename_i hc
    have hr:Lin r:=(hl.tail (by omega)).tail (by have:=zbS hc.2;omega)
    cases hx:zci t.tx r with
    | ok x=>rw [hx] at h;cases h
    | error o'=>
      rw [hx] at h
      have:=zgr _ _ hr o' hx
      have h':2+o'=o:=by injection h
      simp;omega
   ·exact zgr [] _ hl o h
end Go.Proofs.YtifploedaacedaaDoorE
namespace Go.E
open Go
structure Mod (S:List Nat) (a b:SS):Prop where
 next:a.next≤b.next
 lim:b.lim=a.lim
 keep:∀ j,j<a.next→j∉S→b.mem.get j=a.mem.get j
section
variable {S T : List Nat} {a b c : SS} {i n : Nat}
theorem Mod.refl (a:SS):Mod S a a:=⟨zlr _,rfl,fun _ _ _=>rfl⟩
theorem Mod.ofExt (h:Ext a b):Mod S a b:=⟨h.next,h.lim,fun j hj _=>h.keep j hj⟩
theorem Mod.trans (h:Mod S a b) (k:Mod T b c) (hT:∀ j,j∈T→j<a.next→j∈S):Mod S a c:=
 ⟨zlt h.next k.next,k.lim.trans h.lim,fun j hj hS=>(k.keep j (zll hj h.next) (fun hm=>hS (hT j hm hj))).trans (h.keep j hj hS)⟩
theorem Mod.then (h:Mod S a b) (k:Mod S b c):Mod S a c:=h.trans k fun _ hj _=>hj
theorem Mod.thenE (h:Mod S a b) (k:Mod [] b c):Mod S a c:=h.trans k fun _ hj _=>by cases hj
theorem Mod.thenX (h:Mod S a b) (k:Ext b c):Mod S a c:=h.thenE (.ofExt k)
theorem Mod.thenI (h:Mod S a b) (k:Mod [i] b c) (hi:a.next≤i∨i∈S):Mod S a c:=h.trans k fun j hj hlt=>by
 have:j=i:=by simpa using hj
 subst this
 rcases hi with hi | hi
 ·omega
 ·exact hi
theorem Mod.mono (h:Mod S a b) (hS:∀ j,j∈S→j∈T):Mod T a b:=⟨h.next,h.lim,fun j hj hT=>h.keep j hj fun hm=>hT (hS j hm)⟩
theorem Mod.fresh (h:Mod S a b) (hS:∀ j,j∈S→a.next≤j):Ext a b:=⟨h.next,h.lim,fun j hj=>h.keep j hj fun hm=>by have:=hS j hm;omega⟩
theorem Mod.ll (h:Mod S a b) (hl:a.lim≤a.next):b.lim≤b.next:=by rw [h.lim];exact zlt hl h.next
theorem Ext.ll (h:Ext a b) (hl:a.lim≤a.next):b.lim≤b.next:=by rw [h.lim];exact zlt hl h.next
theorem Ext.advR (a:SS) (hn:a.next≤n):Ext a (a.adv n):=(Ext.refl a).adv hn
theorem Mod.get {x:Option AObj} (h:Mod S a b) (hi:i<a.next) (hS:i∉S) (hx:a.mem.get i=x):b.mem.get i=x:=(h.keep i hi hS).trans hx
theorem Rd.mod {v:Value} {c:List Value} {z n:Nat} (h:Rd a v c z n) (m:Mod S a b) (hv:∀ j k l q,v=.slice (some ⟨j,k,none⟩) l q→j∉S):Rd b v c z n:=by
 obtain ⟨h1,h2⟩:=h
 refine ⟨h1,h2.imp id ?_⟩
 rintro ⟨i,cap,e,⟨z',hm⟩,hi⟩
 exact ⟨i,cap,e,⟨z',m.get hi (hv i 0 n cap e) hm⟩,zll hi m.next⟩
theorem Own.mod {B:Nat} {v:Value} {c:List Value} {z n:Nat} (h:Own B a v c z n) (m:Mod S a b) (hv:∀ j k l q,v=.slice (some ⟨j,k,none⟩) l q→j∉S):Own B b v c z n:=by
 obtain ⟨h1,h2⟩:=h
 refine ⟨h1,h2.imp id ?_⟩
 rintro ⟨i,e,h0,hm,hb,hi⟩
 exact ⟨i,e,h0,m.get hi (hv i 0 n n e) hm,hb,zll hi m.next⟩
end
def At (st:SS) (i:Nat) (row:List Value):Prop:=st.mem.get i=some (.cells row 0)∧i<st.next∧st.lim≤i
section
variable {S : List Nat} {st st' : SS} {i k n : Nat} {row row' vs : List Value}
theorem At.mem (h:At st i row):st.mem.get i=some (.cells row 0):=h.1
theorem At.lt (h:At st i row):i<st.next:=h.2.1
theorem At.mod (h:At st i row) (m:Mod S st st') (hi:i∉S):At st' i row:=⟨m.get h.lt hi h.1,zll h.lt m.next,by rw [m.lim];exact h.2.2⟩
theorem At.ext (h:At st i row) (m:Ext st st'):At st' i row:=h.mod (S:=[]) (.ofExt m) (by simp)
theorem At.adv (h:At st i row) (hn:st.next≤n):At (st.adv n) i row:=h.ext (.advR st hn)
theorem At.ld (h:At st i row):st.ld i k=row[k]?:=SS.ld_cells h.1
theorem At.rd (h:At st i row):st.rd i k=row[k]?:=SS.rd_cells h.1
theorem At.ldN (h:At st i row) (hn:row.length=n):st.ldN i 0 n=some (.agg row.toArray):=by rw [SS.ldN_cells h.1,zc9 hn];rfl
theorem At.rdN (h:At st i row) (hn:row.length=n):st.rdN i 0 n=some (.agg row.toArray):=by rw [SS.rdN_cells h.1,zc9 hn];rfl
theorem At.sto (h:At st i row) (h1:vs.all one=true) (hs:zcl row k vs=some row'):∃ st',st.st i k vs=some st'∧At st' i row'∧Mod [i] st st'∧st'.next=st.next:=
 ⟨_,SS.st_cells h.1 h.2.2 h1 hs,⟨by simp,h.2.1,h.2.2⟩,⟨zlr _,rfl,fun j hj hS=>SS.set_old (by simpa using hS)⟩,rfl⟩
theorem At.stV (h:At st i row) {v:Value} (hv:v.cells.toList=vs) (hn:vs.length=n) (h1:vs.all one=true) (hs:zcl row k vs=some row'):∃ st',st.stV i k n v=some st'∧At st' i row'∧Mod [i] st st'∧st'.next=st.next:=by
 obtain ⟨st',a,b,c,d⟩:=h.sto h1 hs
 refine ⟨st',?_,b,c,d⟩
 unfold SS.stV
 have e:v.cells.size=n:=by rw [← hn,← hv];simp
 rw [e,hv,a]
 simp
theorem At.new (hl:st.lim≤st.next) (row:List Value):At (st.new (.cells row 0)) st.next row:=⟨by simp,by simp,hl⟩
theorem Mod.new (ob:AObj):Mod [] st (st.new ob):=.ofExt ((Ext.refl st).new ob)
theorem zbP (hl:st.lim≤st.next) {r:List Value} {v:Value} (hv:v.cells.toList=row) (hn:row.length=n) (h1:row.all one=true) (hr:r.length=n):∃ st',(st.new (.cells r 0)).stV st.next 0 n v=some st'∧At st' st.next row∧Ext st st'∧st'.next=st.next+1:=by
 obtain ⟨st',a,b,c,d⟩:=(At.new hl r).stV (k:=0) hv hn h1 (row':=row) (by rw [zb7 (by omega)];simp [hn,hr])
 refine ⟨st',a,b,?_,d⟩
 exact (((Mod.new (.cells r 0)).mono (T:=[st.next]) (by simp)).then c).fresh (by simp)
theorem zh8 (hl:st.lim≤st.next) {r:List Value} (h1:row.all one=true) (hr:r.length=row.length):∃ st',(st.new (.cells r 0)).st st.next 0 row=some st'∧At st' st.next row∧Ext st st'∧st'.next=st.next+1:=by
 obtain ⟨st',a,b,c,d⟩:=(At.new hl r).sto (k:=0) (vs:=row) (row':=row) h1 (by rw [zb7 (by omega)];simp [hr])
 exact ⟨st',a,b,(((Mod.new (.cells r 0)).mono (T:=[st.next]) (by simp)).then c).fresh (by simp),d⟩
end
theorem zdp (row:List Value):(Value.agg row.toArray).cells.toList=row:=by simp [Value.cells]
theorem Own.modLt {S:List Nat} {a b:SS} {B:Nat} {v:Value} {c:List Value} {z n:Nat} (h:Own B a v c z n) (m:Mod S a b) (hS:∀ j,j∈S→j<B):Own B b v c z n:=by
 obtain ⟨h1,h2⟩:=h
 refine ⟨h1,h2.imp id ?_⟩
 rintro ⟨i,e,h0,hm,hb,hi⟩
 exact ⟨i,e,h0,m.get hi (fun hx=>by have:=hS i hx;omega) hm,hb,zll hi m.next⟩
theorem Rd.row1 {st:SS} {row:List Value} {z:Nat} (h:row.length=z):Rd (st.new (.cells row z)) (.slice (some ⟨st.next,0,none⟩) 1 1) row z 1:=
 ⟨by rw [h,Nat.one_mul],.inr ⟨st.next,1,rfl,⟨z,SS.new_get⟩,by simp⟩⟩
theorem Own.push {b:Nat} {st:SS} {v:Value} {c row:List Value} {z n bt:Nat} (h:Own b st v c z n) (hb:b≤st.next) (hl:st.lim≤b) (hr:row.length=z) (hz:0<z) (h1:row.all one=true) (hs:(n+2)*bt≤2^44) (hn:n+1≤2^44):
  ∃ v' st',(st.new (.cells row z)).app z bt v (.slice (some ⟨st.next,0,none⟩) 1 1)=some (v',st')∧Own b st' v' (c++row) z (n+1)∧(∀ st0,st0.next≤b→Ext st0 st→Ext st0 st')∧st'.lim=st.lim∧st.next≤st'.next∧
   ∀ j,j<st.next→(∀ q,v≠.slice (some ⟨j,0,none⟩) q q)→st'.mem.get j=st.mem.get j:=by
 obtain ⟨v',st',g1,g2,g3,g4,g5,g6⟩:=(h.ext ((Ext.refl st).new (.cells row z))).app (Rd.row1 (st:=st) hr) (zlt hb (Nat.le_succ _)) hl hz h1 (bt:=bt) (by simpa [Nat.add_assoc] using hs) hn
 exact ⟨v',st',g1,g2,fun st0 h0 he=>g5 st0 h0 (he.new _),g3,zlt (Nat.le_succ _) g4,fun j hj hv=>by rw [g6 j (by simp;omega) hv,SS.new_old (by omega)]⟩
theorem Own.pushM {b:Nat} {st:SS} {v:Value} {c row:List Value} {z n bt:Nat} (h:Own b st v c z n) (hb:b≤st.next) (hl:st.lim≤b) (hr:row.length=z) (hz:0<z) (h1:row.all one=true) (hs:(n+2)*bt≤2^44) (hn:n+1≤2^44):
  ∃ v' st',(st.new (.cells row z)).app z bt v (.slice (some ⟨st.next,0,none⟩) 1 1)=some (v',st')∧Own b st' v' (c++row) z (n+1)∧st'.lim=st.lim∧st.next≤st'.next∧(∀ j,j<b→st'.mem.get j=st.mem.get j):=by
 obtain ⟨v',st',g1,g2,g3,g4,g5,g6⟩:=h.push hb hl hr hz h1 hs hn
 refine ⟨v',st',g1,g2,g4,g5,fun j hj=>g6 j (by omega) fun q e=>?_⟩
 obtain ⟨_,⟨rfl,_⟩ | ⟨i,rfl,_,_,hbi,_⟩⟩:=h
 ·cases e
 ·cases e;omega
structure Keep (B:Nat) (S:List Nat) (a b:SS):Prop where
 next:a.next≤b.next
 lim:b.lim=a.lim
 keep:∀ j,j<B→j∉S→b.mem.get j=a.mem.get j
section
variable {S : List Nat} {a b c : SS} {B i : Nat}
theorem Keep.refl (a:SS):Keep B S a a:=⟨zlr _,rfl,fun _ _ _=>rfl⟩
theorem Keep.then (h:Keep B S a b) (k:Keep B S b c):Keep B S a c:=⟨zlt h.next k.next,k.lim.trans h.lim,fun j hj hS=>(k.keep j hj hS).trans (h.keep j hj hS)⟩
theorem Mod.keepB (h:Mod S a b) (hB:B≤a.next):Keep B S a b:=⟨h.next,h.lim,fun j hj hS=>h.keep j (by omega) hS⟩
theorem Ext.keepB (h:Ext a b) (hB:B≤a.next):Keep B S a b:=⟨h.next,h.lim,fun j hj _=>h.keep j (by omega)⟩
theorem Keep.mod (h:Keep B S a b) (hB:a.next≤B):Mod S a b:=⟨h.next,h.lim,fun j hj hS=>h.keep j (by omega) hS⟩
theorem Keep.mono {B':Nat} {T:List Nat} (h:Keep B S a b) (hB:B'≤B) (hS:∀ j,j∈S→j<B'→j∈T):Keep B' T a b:=⟨h.next,h.lim,fun j hj hT=>h.keep j (by omega) fun hm=>hT (hS j hm hj)⟩
theorem Keep.thenX (h:Keep B S a b) (k:Ext b c) (hB:B≤b.next):Keep B S a c:=h.then (k.keepB hB)
theorem Keep.thenM (h:Keep B S a b) (k:Mod S b c) (hB:B≤b.next):Keep B S a c:=h.then (k.keepB hB)
theorem Keep.thenI (h:Keep B S a b) (k:Mod [i] b c) (hB:B≤b.next) (hi:B≤i∨i∈S):Keep B S a c:=h.then ⟨k.next,k.lim,fun j hj hS=>k.keep j (by omega) fun hm=>by
 have:j=i:=by simpa using hm
 subst this
 rcases hi with hi | hi
 ·omega
 ·exact hS hi⟩
theorem Keep.ll (h:Keep B S a b) (hl:a.lim≤a.next):b.lim≤b.next:=by rw [h.lim];exact zlt hl h.next
theorem At.keepB {row:List Value} (h:At a i row) (k:Keep B S a b) (hB:i<B) (hi:i∉S):At b i row:=⟨(k.keep i hB hi).trans h.1,zll h.2.1 k.next,by rw [k.lim];exact h.2.2⟩
theorem Own.cell {v:Value} {c:List Value} {z n:Nat} (h:Own B a v c z n):v.cells.toList=[v]∧one v=true:=by
 obtain ⟨_,⟨rfl,_⟩ | ⟨i,rfl,_⟩⟩:=h<;>exact ⟨rfl,rfl⟩
theorem Own.pushK {b:Nat} {st:SS} {v:Value} {c row:List Value} {z n bt:Nat} (h:Own b st v c z n) (hb:b≤st.next) (hl:st.lim≤b) (hr:row.length=z) (hz:0<z) (h1:row.all one=true) (hs:(n+2)*bt≤2^44) (hn:n+1≤2^44):
  ∃ v' st',(st.new (.cells row z)).app z bt v (.slice (some ⟨st.next,0,none⟩) 1 1)=some (v',st')∧Own b st' v' (c++row) z (n+1)∧∀ S,Keep b S st st':=by
 obtain ⟨v',st',g1,g2,g3,g4,g5⟩:=h.pushM hb hl hr hz h1 hs hn
 exact ⟨v',st',g1,g2,fun S=>⟨g4,g3,fun j hj _=>g5 j hj⟩⟩
end
theorem Own.pushN {b:Nat} {st:SS} {v:Value} {c row:List Value} {z n bt:Nat} (h:Own b st v c z n) (hb:b≤st.next) (hl:st.lim≤b) (hr:row.length=z) (hz:0<z) (h1:row.all one=true) (hs:(n+2)*bt≤2^44) (hn:n+1≤2^44):
  ∃ k st',(st.new (.cells row z)).app z bt v (.slice (some ⟨st.next,0,none⟩) 1 1)=some (.slice (some ⟨k,0,none⟩) (n+1) (n+1),st')∧st.next≤k∧Own b st' (.slice (some ⟨k,0,none⟩) (n+1) (n+1)) (c++row) z (n+1)∧st'.lim=st.lim∧st.next≤st'.next∧
   ∀ j,j<st.next→(∀ q,v≠.slice (some ⟨j,0,none⟩) q q)→st'.mem.get j=st.mem.get j:=by
 obtain ⟨v',st',g1,g2,g3,g4,g5,g6⟩:=h.push hb hl hr hz h1 hs hn
 have key:∃ k,v'=.slice (some ⟨k,0,none⟩) (n+1) (n+1)∧st.next≤k:=by
  have hx:=Rd.row1 (st:=st) hr
  obtain ⟨e1,e2⟩:=hx.first
  unfold SS.app at g1
  rw [e1] at g1
  simp only [zob] at g1
  have hm0:Nat.beq 1 0=false:=rfl
  obtain ⟨h2,h3⟩:=h
  rcases h3 with ⟨rfl,rfl⟩ | ⟨i,rfl,h0,hmem,hbi,hi⟩
  ·have q:(Nat.ble ((1+1)*bt) (2^44)&&Nat.ble 1 (2^44))=true:=by
    simp only [zae,Nat.ble_eq]
    simp only [Nat.zero_add] at hs
    exact ⟨hs,by omega⟩
   simp only [hm0,zcf,q,zct,e2,zob] at g1
   cases g1
   exact ⟨_,rfl,by simp⟩
  ·have q:(Nat.ble ((n+1+1)*bt) (2^44)&&Nat.ble (n+1) (2^44)&&Nat.ble (st.new (.cells row z)).lim i)=true:=by
    simp only [zae,Nat.ble_eq]
    exact ⟨⟨hs,hn⟩,by simp;omega⟩
   have q2:(Nat.beq z z&&(Nat.blt n (n+1)||Nat.ble (0+n*z) c.length))=true:=by
    have a:Nat.beq z z=true:=by rw [zan];simp
    have b':Nat.blt n (n+1)=true:=by rw [Nat.blt_eq];omega
    rw [a,b'];rfl
   have hmem':(st.new (.cells row z)).mem.get i=some (.cells c z):=by rw [SS.new_old (by omega)];exact hmem
   simp only [hm0,zcf,q,zct,hmem',zob,q2,zc9 h2,e2,h1] at g1
   cases g1
   exact ⟨_,rfl,by simp⟩
 obtain ⟨k,rfl,hk⟩:=key
 exact ⟨k,st',g1,hk,g2,g4,g5,g6⟩
theorem zb4 {s:SS} {j0 j1 n:Nat} {row0 row1:List Value} (h0:At s j0 row0) (l0:row0.length=n) (h1:At s j1 row1) (l1:row1.length=n) (ho:row1.all one=true):
  ∃ s',s.ldN j1 0 n=some (.agg row1.toArray)∧s.stV j0 0 n (.agg row1.toArray)=some s'∧s'.rdN j0 0 n=some (.agg row1.toArray)∧Mod [j0] s s'∧At s' j0 row1:=by
 obtain ⟨s',e,a,m,_⟩:=h0.stV (k:=0) (zdp row1) l1 ho (row':=row1) (by rw [zb7 (by omega)];simp [l0,l1])
 exact ⟨s',h1.ldN l1,e,a.rdN l1,m,a⟩
def rowsF {α:Type} (f:α→List Value) (l:List α):List Value:=l.flatMap f
section
variable {α : Type} {f : α → List Value} {z : Nat}
theorem zev (a b:List α):rowsF f (a++b)=rowsF f a++rowsF f b:=by simp [rowsF]
theorem zh9 (a:α) (b:List α):rowsF f (a::b)=f a++rowsF f b:=by simp [rowsF]
theorem zgt (a:α):rowsF f [a]=f a:=by simp [rowsF]
theorem zlU (hz:∀ x,(f x).length=z) (l:List α):(rowsF f l).length=l.length*z:=by
 induction l with
 | nil=>simp [rowsF]
 | cons a l ih=>rw [zh9,List.length_append,ih,hz,List.length_cons,Nat.add_mul];omega
theorem zeM (hz:∀ x,(f x).length=z) (l:List α) (i:Nat) (x:α) (h:l[i]?=some x):((rowsF f l).drop (i*z)).take z=f x:=by
 induction l generalizing i with
 | nil=>cases h
 | cons a l ih=>
   rw [zh9]
   cases i with
   | zero=>
     have:a=x:=by simpa using h
     subst this
     rw [Nat.zero_mul,List.drop_zero,List.take_append_of_le_length (by rw [hz];omega),List.take_of_length_le (by rw [hz];omega)]
   | succ i=>
     have e:(i+1)*z=(f a).length+i*z:=by rw [hz,Nat.add_mul];omega
     rw [e,List.drop_append,List.drop_of_length_le (by omega),List.nil_append,Nat.add_sub_cancel_left]
     exact ih i (by simpa using h)
end
theorem wrapI {i k:Nat} (h:i≤1099511627776) (hk:k≤1099511627776):IntKind.wrap .i64 ((i:Int)+(k:Int))=((i+k:Nat):Int):=by rw [wrap64 (by omega) (by omega)];omega
theorem zew {i:Nat} (h:i≤1099511627776):IntKind.wrap .i64 ((i:Int)+1)=((i+1:Nat):Int):=wrapI h (k:=1) (by omega)
end Go.E
namespace Go.Proofs.YtifploedaacedaaDoorE
set_option maxRecDepth 20000
open Go Go.E Go.Proofs
noncomputable def zdU (cf:zav) (lf:zah) (p':Value) (st:SS):Option (Value×SS):=
 let a:SS:=(st.ro st.next).new (.cells [.int .i64 0,.string ⟨#[]⟩,.int .i64 0,.int .i64 0,.int .i64 0] 0)
 (zbE p').bind fun b=>
 (addr? b).bind fun c=>
 (a.ld c.1 c.2).bind fun d=>
 (zbE p').bind fun e=>
 (addr? e).bind fun f=>
 ((a.ld f.1 (f.2+1)).bind (asI .i64)).bind fun g=>
 (zaD d g 5).bind fun h=>
 (a.ldN h.1 h.2 5).bind fun i=>
 (a.stV ((st.ro st.next).next) 0 5 i).bind fun j=>
 (j.rdN ((st.ro st.next).next) 0 5).bind fun k=>
 cond (flat3 k) (some (k,st.adv j.next)) none
noncomputable abbrev zfN:zah:=lS Tryd.prog Lk0 Tryd.f13 zaY
theorem zfO:Lk0.func 13=some (13,Tryd.f13):=by kernel_rfl
theorem zfP [Sym] (p':Value) (st:SS) {r:Value×SS} (h:zdU cc zfN p' st=some r):cc 13 [p'] st=some r:=
 zas (li:=zaY) zat zaC zfO rfl (fun _=>rfl) (.trans (by kernel_rfl) h)
noncomputable def zcz (cf:zav) (lf:zah) (p':Value) (st:SS):Option (Value×SS):=
 let a:SS:=(st.ro st.next).new (.cells [.int .i64 0,.string ⟨#[]⟩,.int .i64 0,.int .i64 0,.int .i64 0] 0)
 (cf 13 [p'] a).bind fun b=>
 ((zca Lk0 57 0 b.1).bind (asI .i64)).bind fun c=>
 cond (decide (c=0)) (
 (cf 13 [p'] b.2).bind fun d=>
 (d.2.stV ((st.ro st.next).next) 0 5 d.1).bind fun e=>
 (e.rdN ((st.ro st.next).next) 0 5).bind fun f=>
 cond (flat3 f) (some (f,st.adv e.next)) none) (
 (zbE p').bind fun g=>
 (addr? g).bind fun h=>
 (b.2.ld h.1 h.2).bind fun i=>
 (zbE p').bind fun j=>
 (addr? j).bind fun k=>
 ((b.2.ld k.1 (k.2+1)).bind (asI .i64)).bind fun l=>
 let m:Int:=IntKind.wrap .i64 (l+1)
 (zaD i m 5).bind fun n=>
 (b.2.ldN n.1 n.2 5).bind fun o=>
 (b.2.stV ((st.ro st.next).next) 0 5 o).bind fun p=>
 (p.rdN ((st.ro st.next).next) 0 5).bind fun q=>
 cond (flat3 q) (some (q,st.adv p.next)) none)
noncomputable abbrev zfb:zah:=lS Tryd.prog Lk0 Tryd.f19 zaY
theorem zfc:Lk0.func 19=some (19,Tryd.f19):=by kernel_rfl
theorem zdc [Sym] (p':Value) (st:SS) {r:Value×SS} (h:zcz cc zfb p' st=some r):cc 19 [p'] st=some r:=
 zas (li:=zaY) zat zaC zfc rfl (fun _=>rfl) (.trans (by kernel_rfl) h)
noncomputable def zbM (cf:zav) (lf:zah) (p':Value) (sign':ByteArray) (st:SS):Option (Value×SS):=
 (cf 13 [p'] st).bind fun a=>
 let b:SS:=a.2.new (.cells [.int .i64 0,.string ⟨#[]⟩,.int .i64 0,.int .i64 0,.int .i64 0] 0)
 (b.stV a.2.next 0 5 a.1).bind fun c=>
 ((c.ld a.2.next 0).bind (asI .i64)).bind fun d=>
 cond (!(decide (d=3))) (
 some (.bool false,c)) (
 ((c.ld a.2.next 1).bind asS).bind fun e=>
 cond (!(eqT e sign')) (
 some (.bool false,c)) (
 (zbE p').bind fun f=>
 (addr? f).bind fun g=>
 ((c.ld g.1 (g.2+1)).bind (asI .i64)).bind fun h=>
 let i:Int:=IntKind.wrap .i64 (h+1)
 (zbE p').bind fun j=>
 (addr? j).bind fun k=>
 (c.st k.1 (k.2+1) [.int .i64 i]).bind fun l=>
 some (.bool true,l)))
noncomputable abbrev zeS:zah:=lS Tryd.prog Lk0 Tryd.f20 zaY
theorem zeT:Lk0.func 20=some (20,Tryd.f20):=by kernel_rfl
theorem zbY [Sym] (p':Value) (sign':ByteArray) (st:SS) {r:Value×SS} (h:zbM cc zeS p' sign' st=some r):cc 20 [p',.string sign'] st=some r:=
 zas (li:=zaY) zat zaC zeT rfl (fun _=>rfl) (.trans (by kernel_rfl) h)
noncomputable def zcA (cf:zav) (lf:zah) (p':Value) (st:SS):Option (Value×SS):=
 (cf 13 [p'] st).bind fun a=>
 let b:SS:=a.2.new (.cells [.int .i64 0,.string ⟨#[]⟩,.int .i64 0,.int .i64 0,.int .i64 0] 0)
 (b.stV a.2.next 0 5 a.1).bind fun c=>
 ((c.ld a.2.next 0).bind (asI .i64)).bind fun d=>
 cond (!(decide (d=1))) (
 some (.tuple #[.string ⟨#[]⟩,.bool false],c)) (
 (zbE p').bind fun e=>
 (addr? e).bind fun f=>
 ((c.ld f.1 (f.2+1)).bind (asI .i64)).bind fun g=>
 let h:Int:=IntKind.wrap .i64 (g+1)
 (zbE p').bind fun i=>
 (addr? i).bind fun j=>
 (c.st j.1 (j.2+1) [.int .i64 h]).bind fun k=>
 ((k.ld a.2.next 1).bind asS).bind fun l=>
 some (.tuple #[.string l,.bool true],k))
noncomputable abbrev zfd:zah:=lS Tryd.prog Lk0 Tryd.f21 zaY
theorem zfe:Lk0.func 21=some (21,Tryd.f21):=by kernel_rfl
theorem zdd [Sym] (p':Value) (st:SS) {r:Value×SS} (h:zcA cc zfd p' st=some r):cc 21 [p'] st=some r:=
 zas (li:=zaY) zat zaC zfe rfl (fun _=>rfl) (.trans (by kernel_rfl) h)
noncomputable def zcj (cf:zav) (lf:zah) (p':Value) (st:SS):Option (Value×SS):=
 (cf 13 [p'] st).bind fun a=>
 let b:SS:=a.2.new (.cells [.int .i64 0,.string ⟨#[]⟩,.int .i64 0,.int .i64 0,.int .i64 0] 0)
 (b.stV a.2.next 0 5 a.1).bind fun c=>
 ((c.ld a.2.next 0).bind (asI .i64)).bind fun d=>
 cond (!(decide (d=2))) (
 some (.tuple #[.int .i64 0,.bool false],c)) (
 (zbE p').bind fun e=>
 (addr? e).bind fun f=>
 ((c.ld f.1 (f.2+1)).bind (asI .i64)).bind fun g=>
 let h:Int:=IntKind.wrap .i64 (g+1)
 (zbE p').bind fun i=>
 (addr? i).bind fun j=>
 (c.st j.1 (j.2+1) [.int .i64 h]).bind fun k=>
 ((k.ld a.2.next 2).bind (asI .i64)).bind fun l=>
 some (.tuple #[.int .i64 l,.bool true],k))
noncomputable abbrev zeB:zah:=lS Tryd.prog Lk0 Tryd.f36 zaY
theorem zeC:Lk0.func 36=some (36,Tryd.f36):=by kernel_rfl
theorem zcL [Sym] (p':Value) (st:SS) {r:Value×SS} (h:zcj cc zeB p' st=some r):cc 36 [p'] st=some r:=
 zas (li:=zaY) zat zaC zeC rfl (fun _=>rfl) (.trans (by kernel_rfl) h)
noncomputable def zaS (cf:zav) (lf:zah) (p':Value) (st:SS):Option (Value×SS):=
 let a:SS:=st.new (.cells [.string ⟨#[]⟩,.int .i64 0,.int .i64 0] 0)
 (cf 13 [p'] a).bind fun b=>
 ((zca Lk0 57 4 b.1).bind (asI .i64)).bind fun c=>
 let d:SS:=b.2.new (.cells [.string ⟨#[]⟩,.int .i64 0,.int .i64 0] 0)
 (d.st b.2.next 0 [.string ⟨#[]⟩,.int .i64 0,.int .i64 c]).bind fun e=>
 (cf 36 [p'] e).bind fun f=>
 ((zao f.1 0).bind (asI .i64)).bind fun g=>
 ((zao f.1 1).bind asB).bind fun h=>
 (f.2.st b.2.next 1 [.int .i64 g]).bind fun i=>
 cond h (
 (i.ldN b.2.next 0 3).bind fun j=>
 (i.stV st.next 0 3 j).bind fun k=>
 (k.rdN st.next 0 3).bind fun l=>
 some (.tuple #[l,.bool true],k)) (
 (cf 21 [p'] i).bind fun m=>
 ((zao m.1 0).bind asS).bind fun n=>
 ((zao m.1 1).bind asB).bind fun o=>
 (m.2.st b.2.next 0 [.string n]).bind fun p=>
 cond (!o) (
 (p.ldN b.2.next 0 3).bind fun q=>
 (p.stV st.next 0 3 q).bind fun r=>
 (r.rdN st.next 0 3).bind fun s=>
 some (.tuple #[s,.bool false],r)) (
 (cf 20 [p',.string ⟨#[43]⟩] p).bind fun t=>
 ((some t.1).bind asB).bind fun u=>
 cond u (
 (cf 36 [p'] t.2).bind fun v=>
 ((zao v.1 0).bind (asI .i64)).bind fun w=>
 ((zao v.1 1).bind asB).bind fun x=>
 (v.2.st b.2.next 1 [.int .i64 w]).bind fun y=>
 (y.ldN b.2.next 0 3).bind fun z=>
 (y.stV st.next 0 3 z).bind fun A=>
 (A.rdN st.next 0 3).bind fun B=>
 some (.tuple #[B,.bool x],A)) (
 (cf 20 [p',.string ⟨#[45]⟩] t.2).bind fun C=>
 ((some C.1).bind asB).bind fun D=>
 cond D (
 (cf 36 [p'] C.2).bind fun E=>
 ((zao E.1 0).bind (asI .i64)).bind fun F=>
 ((zao E.1 1).bind asB).bind fun G=>
 (E.2.st b.2.next 1 [.int .i64 F]).bind fun H=>
 ((H.ld b.2.next 1).bind (asI .i64)).bind fun I=>
 let J:Int:=IntKind.wrap .i64 (0-I)
 (H.st b.2.next 1 [.int .i64 J]).bind fun K=>
 (K.ldN b.2.next 0 3).bind fun L=>
 (K.stV st.next 0 3 L).bind fun M=>
 (M.rdN st.next 0 3).bind fun N=>
 some (.tuple #[N,.bool G],M)) (
 (C.2.ldN b.2.next 0 3).bind fun O=>
 (C.2.stV st.next 0 3 O).bind fun P=>
 (P.rdN st.next 0 3).bind fun Q=>
 some (.tuple #[Q,.bool o],P)))))
noncomputable abbrev zeU:zah:=lS Tryd.prog Lk0 Tryd.f22 zaY
theorem zeV:Lk0.func 22=some (22,Tryd.f22):=by kernel_rfl
theorem zaP [Sym] (p':Value) (st:SS) {r:Value×SS} (h:zaS cc zeU p' st=some r):cc 22 [p'] st=some r:=
 zas (li:=zaY) zat zaC zeV rfl (fun _=>rfl) (.trans (by kernel_rfl) h)
noncomputable def zbh (cf:zav) (lf:zah) (p':Value) (l':Value) (st:SS):Option (Value×SS):=
 (cf 13 [p'] st).bind fun a=>
 ((zca Lk0 57 4 a.1).bind (asI .i64)).bind fun b=>
 let c:SS:=a.2.new (.cells [.string ⟨#[]⟩,.int .i64 0,.string ⟨#[]⟩,.int .i64 0,.int .i64 0] 0)
 (c.st a.2.next 0 [.string ⟨#[]⟩,.int .i64 b,.string ⟨#[]⟩,.int .i64 0,.int .i64 0]).bind fun d=>
 (cf 13 [p'] d).bind fun e=>
 ((zca Lk0 57 1 e.1).bind asS).bind fun f=>
 let g:SS:=e.2.new (.cells [.string ⟨#[]⟩] 0)
 (g.st e.2.next 0 [.string f]).bind fun h=>
 (cf 13 [p'] h).bind fun i=>
 ((zca Lk0 57 0 i.1).bind (asI .i64)).bind fun j=>
 cond (!(decide (j=1))) (
 some (.bool false,i.2)) (
 (zbE l').bind fun k=>
 (addr? k).bind fun l=>
 (i.2.ld l.1 (l.2+4)).bind fun m=>
 (cf 37 [m,.func (.func 38) #[] #[ptr e.2.next 0]] i.2).bind fun n=>
 ((some n.1).bind asB).bind fun o=>
 cond o (
 some (.bool false,n.2)) (
 ((n.2.ld e.2.next 0).bind asS).bind fun p=>
 (n.2.st a.2.next 0 [.string p]).bind fun q=>
 (zbE p').bind fun r=>
 (addr? r).bind fun s=>
 ((q.ld s.1 (s.2+1)).bind (asI .i64)).bind fun t=>
 let u:Int:=IntKind.wrap .i64 (t+1)
 (zbE p').bind fun v=>
 (addr? v).bind fun w=>
 (q.st w.1 (w.2+1) [.int .i64 u]).bind fun x=>
 (cf 20 [p',.string ⟨#[61]⟩] x).bind fun y=>
 ((some y.1).bind asB).bind fun z=>
 cond (!z) (
 some (.bool false,y.2)) (
 (cf 22 [p'] y.2).bind fun A=>
 (zao A.1 0).bind fun B=>
 ((zao A.1 1).bind asB).bind fun C=>
 (A.2.stV a.2.next 2 3 B).bind fun D=>
 cond (!C) (
 some (.bool false,D)) (
 (zbE l').bind fun E=>
 (addr? E).bind fun F=>
 (D.ld F.1 (F.2+4)).bind fun G=>
 (D.ldN a.2.next 0 5).bind fun H=>
 (zbe H 5).bind fun I=>
 let J:SS:=D.new (.cells (I++([])) 5)
 (J.app 5 56 G (.slice (some ⟨D.next,0,none⟩) 1 1)).bind fun K=>
 (zbE l').bind fun L=>
 (addr? L).bind fun M=>
 (K.2.stV M.1 (M.2+4) 1 K.1).bind fun N=>
 some (.bool true,N)))))
noncomputable abbrev zff:zah:=lS Tryd.prog Lk0 Tryd.f23 zaY
theorem zfg:Lk0.func 23=some (23,Tryd.f23):=by kernel_rfl
theorem zbj [Sym] (p':Value) (l':Value) (st:SS) {r:Value×SS} (h:zbh cc zff p' l' st=some r):cc 23 [p',l'] st=some r:=
 zas (li:=zaY) zat zaC zfg rfl (fun _=>rfl) (.trans (by kernel_rfl) h)
def zcM:LoopI:=⟨[(0,.any),(2,.any),(4,.any)],[(.exit 2,[(2,.any),(4,.any)]),(.ret,[(2,.any),(3,.bool)])]⟩
def zcN:LoopI:=⟨[(0,.any),(2,.any),(4,.any)],[(.exit 0,[(2,.any),(4,.any)]),(.ret,[(2,.any),(3,.bool)])]⟩
def zde (n:Nat):Option LoopI:=cond (Nat.beq n 11) (some zcN) (cond (Nat.beq n 17) (some zcM) (none))
noncomputable def zbx (cf:zav) (lf:zah) (p':Value) (st:SS):Option (Value×SS):=
 let a:SS:=st.new (.cells [.int .i64 0,.string ⟨#[]⟩,.string ⟨#[]⟩,.slice none 0 0,.slice none 0 0] 0)
 (cf 13 [p'] a).bind fun b=>
 ((zca Lk0 57 3 b.1).bind (asI .i64)).bind fun c=>
 let d:SS:=b.2.new (.cells [.int .i64 0,.string ⟨#[]⟩,.string ⟨#[]⟩,.slice none 0 0,.slice none 0 0] 0)
 (d.st b.2.next 0 [.int .i64 c,.string ⟨#[]⟩,.string ⟨#[]⟩,.slice none 0 0,.slice none 0 0]).bind fun e=>
 (cf 19 [p'] e).bind fun f=>
 let g:SS:=f.2.new (.cells [.int .i64 0,.string ⟨#[]⟩,.int .i64 0,.int .i64 0,.int .i64 0] 0)
 (g.stV f.2.next 0 5 f.1).bind fun h=>
 (cf 13 [p'] h).bind fun i=>
 ((zca Lk0 57 0 i.1).bind (asI .i64)).bind fun j=>
 cond (decide (j=1)) (
 ((i.2.ld f.2.next 0).bind (asI .i64)).bind fun k=>
 cond (decide (k=3)) (
 ((i.2.ld f.2.next 1).bind asS).bind fun l=>
 cond (eqT l ⟨#[58]⟩) (
 (cf 13 [p'] i.2).bind fun m=>
 ((zca Lk0 57 1 m.1).bind asS).bind fun n=>
 (m.2.st b.2.next 1 [.string n]).bind fun o=>
 (zbE p').bind fun p=>
 (addr? p).bind fun q=>
 ((o.ld q.1 (q.2+1)).bind (asI .i64)).bind fun r=>
 let s:Int:=IntKind.wrap .i64 (r+2)
 (zbE p').bind fun t=>
 (addr? t).bind fun u=>
 (o.st u.1 (u.2+1) [.int .i64 s]).bind fun v=>
 (cf 20 [p',.string ⟨#[46]⟩] v).bind fun w=>
 ((some w.1).bind asB).bind fun x=>
 cond x (
 (cf 21 [p'] w.2).bind fun y=>
 ((zao y.1 0).bind asS).bind fun z=>
 ((zao y.1 1).bind asB).bind fun A=>
 (y.2.st b.2.next 2 [.string z]).bind fun B=>
 cond (!A) (
 (B.ldN b.2.next 0 5).bind fun C=>
 (B.stV st.next 0 5 C).bind fun D=>
 (D.rdN st.next 0 5).bind fun E=>
 some (.tuple #[E,.bool false],D)) (
 (lf 11 [p',ptr st.next 0,ptr b.2.next 0] B).bind fun F=>
 cond (Nat.beq F.1 0) (
 (F.2.1[0]?).bind fun G=>
 (F.2.1[1]?).bind fun H=>
 (addr? H).bind fun I=>
 (F.2.2.ldN I.1 I.2 5).bind fun J=>
 (addr? G).bind fun K=>
 (F.2.2.stV K.1 K.2 5 J).bind fun L=>
 (addr? G).bind fun M=>
 (L.rdN M.1 M.2 5).bind fun N=>
 some (.tuple #[N,.bool true],L)) (
 (F.2.1[0]?).bind fun O=>
 ((F.2.1[1]?).bind asB).bind fun P=>
 (addr? O).bind fun Q=>
 (F.2.2.rdN Q.1 Q.2 5).bind fun R=>
 some (.tuple #[R,.bool P],F.2.2)))) (
 (lf 17 [p',ptr st.next 0,ptr b.2.next 0] w.2).bind fun S=>
 cond (Nat.beq S.1 0) (
 (S.2.1[0]?).bind fun T=>
 (S.2.1[1]?).bind fun U=>
 (addr? U).bind fun V=>
 (S.2.2.ldN V.1 V.2 5).bind fun W=>
 (addr? T).bind fun X=>
 (S.2.2.stV X.1 X.2 5 W).bind fun Y=>
 (addr? T).bind fun Z=>
 (Y.rdN Z.1 Z.2 5).bind fun aA=>
 some (.tuple #[aA,.bool true],Y)) (
 (S.2.1[0]?).bind fun aB=>
 ((S.2.1[1]?).bind asB).bind fun aC=>
 (addr? aB).bind fun aD=>
 (S.2.2.rdN aD.1 aD.2 5).bind fun aE=>
 some (.tuple #[aE,.bool aC],S.2.2)))) (
 (cf 20 [p',.string ⟨#[46]⟩] i.2).bind fun aF=>
 ((some aF.1).bind asB).bind fun aG=>
 cond aG (
 (cf 21 [p'] aF.2).bind fun aH=>
 ((zao aH.1 0).bind asS).bind fun aI=>
 ((zao aH.1 1).bind asB).bind fun aJ=>
 (aH.2.st b.2.next 2 [.string aI]).bind fun aK=>
 cond (!aJ) (
 (aK.ldN b.2.next 0 5).bind fun aL=>
 (aK.stV st.next 0 5 aL).bind fun aM=>
 (aM.rdN st.next 0 5).bind fun aN=>
 some (.tuple #[aN,.bool false],aM)) (
 (lf 11 [p',ptr st.next 0,ptr b.2.next 0] aK).bind fun aO=>
 cond (Nat.beq aO.1 0) (
 (aO.2.1[0]?).bind fun aP=>
 (aO.2.1[1]?).bind fun aQ=>
 (addr? aQ).bind fun aR=>
 (aO.2.2.ldN aR.1 aR.2 5).bind fun aS=>
 (addr? aP).bind fun aT=>
 (aO.2.2.stV aT.1 aT.2 5 aS).bind fun aU=>
 (addr? aP).bind fun aV=>
 (aU.rdN aV.1 aV.2 5).bind fun aW=>
 some (.tuple #[aW,.bool true],aU)) (
 (aO.2.1[0]?).bind fun aX=>
 ((aO.2.1[1]?).bind asB).bind fun aY=>
 (addr? aX).bind fun aZ=>
 (aO.2.2.rdN aZ.1 aZ.2 5).bind fun bA=>
 some (.tuple #[bA,.bool aY],aO.2.2)))) (
 (lf 17 [p',ptr st.next 0,ptr b.2.next 0] aF.2).bind fun bB=>
 cond (Nat.beq bB.1 0) (
 (bB.2.1[0]?).bind fun bC=>
 (bB.2.1[1]?).bind fun bD=>
 (addr? bD).bind fun bE=>
 (bB.2.2.ldN bE.1 bE.2 5).bind fun bF=>
 (addr? bC).bind fun bG=>
 (bB.2.2.stV bG.1 bG.2 5 bF).bind fun bH=>
 (addr? bC).bind fun bI=>
 (bH.rdN bI.1 bI.2 5).bind fun bJ=>
 some (.tuple #[bJ,.bool true],bH)) (
 (bB.2.1[0]?).bind fun bK=>
 ((bB.2.1[1]?).bind asB).bind fun bL=>
 (addr? bK).bind fun bM=>
 (bB.2.2.rdN bM.1 bM.2 5).bind fun bN=>
 some (.tuple #[bN,.bool bL],bB.2.2))))) (
 (cf 20 [p',.string ⟨#[46]⟩] i.2).bind fun bO=>
 ((some bO.1).bind asB).bind fun bP=>
 cond bP (
 (cf 21 [p'] bO.2).bind fun bQ=>
 ((zao bQ.1 0).bind asS).bind fun bR=>
 ((zao bQ.1 1).bind asB).bind fun bS=>
 (bQ.2.st b.2.next 2 [.string bR]).bind fun bT=>
 cond (!bS) (
 (bT.ldN b.2.next 0 5).bind fun bU=>
 (bT.stV st.next 0 5 bU).bind fun bV=>
 (bV.rdN st.next 0 5).bind fun bW=>
 some (.tuple #[bW,.bool false],bV)) (
 (lf 11 [p',ptr st.next 0,ptr b.2.next 0] bT).bind fun bX=>
 cond (Nat.beq bX.1 0) (
 (bX.2.1[0]?).bind fun bY=>
 (bX.2.1[1]?).bind fun bZ=>
 (addr? bZ).bind fun cA=>
 (bX.2.2.ldN cA.1 cA.2 5).bind fun cB=>
 (addr? bY).bind fun cC=>
 (bX.2.2.stV cC.1 cC.2 5 cB).bind fun cD=>
 (addr? bY).bind fun cE=>
 (cD.rdN cE.1 cE.2 5).bind fun cF=>
 some (.tuple #[cF,.bool true],cD)) (
 (bX.2.1[0]?).bind fun cG=>
 ((bX.2.1[1]?).bind asB).bind fun cH=>
 (addr? cG).bind fun cI=>
 (bX.2.2.rdN cI.1 cI.2 5).bind fun cJ=>
 some (.tuple #[cJ,.bool cH],bX.2.2)))) (
 (lf 17 [p',ptr st.next 0,ptr b.2.next 0] bO.2).bind fun cK=>
 cond (Nat.beq cK.1 0) (
 (cK.2.1[0]?).bind fun cL=>
 (cK.2.1[1]?).bind fun cM=>
 (addr? cM).bind fun cN=>
 (cK.2.2.ldN cN.1 cN.2 5).bind fun cO=>
 (addr? cL).bind fun cP=>
 (cK.2.2.stV cP.1 cP.2 5 cO).bind fun cQ=>
 (addr? cL).bind fun cR=>
 (cQ.rdN cR.1 cR.2 5).bind fun cS=>
 some (.tuple #[cS,.bool true],cQ)) (
 (cK.2.1[0]?).bind fun cT=>
 ((cK.2.1[1]?).bind asB).bind fun cU=>
 (addr? cT).bind fun cV=>
 (cK.2.2.rdN cV.1 cV.2 5).bind fun cW=>
 some (.tuple #[cW,.bool cU],cK.2.2))))) (
 (cf 20 [p',.string ⟨#[46]⟩] i.2).bind fun cX=>
 ((some cX.1).bind asB).bind fun cY=>
 cond cY (
 (cf 21 [p'] cX.2).bind fun cZ=>
 ((zao cZ.1 0).bind asS).bind fun dA=>
 ((zao cZ.1 1).bind asB).bind fun dB=>
 (cZ.2.st b.2.next 2 [.string dA]).bind fun dC=>
 cond (!dB) (
 (dC.ldN b.2.next 0 5).bind fun dD=>
 (dC.stV st.next 0 5 dD).bind fun dE=>
 (dE.rdN st.next 0 5).bind fun dF=>
 some (.tuple #[dF,.bool false],dE)) (
 (lf 11 [p',ptr st.next 0,ptr b.2.next 0] dC).bind fun dG=>
 cond (Nat.beq dG.1 0) (
 (dG.2.1[0]?).bind fun dH=>
 (dG.2.1[1]?).bind fun dI=>
 (addr? dI).bind fun dJ=>
 (dG.2.2.ldN dJ.1 dJ.2 5).bind fun dK=>
 (addr? dH).bind fun dL=>
 (dG.2.2.stV dL.1 dL.2 5 dK).bind fun dM=>
 (addr? dH).bind fun dN=>
 (dM.rdN dN.1 dN.2 5).bind fun dO=>
 some (.tuple #[dO,.bool true],dM)) (
 (dG.2.1[0]?).bind fun dP=>
 ((dG.2.1[1]?).bind asB).bind fun dQ=>
 (addr? dP).bind fun dR=>
 (dG.2.2.rdN dR.1 dR.2 5).bind fun dS=>
 some (.tuple #[dS,.bool dQ],dG.2.2)))) (
 (lf 17 [p',ptr st.next 0,ptr b.2.next 0] cX.2).bind fun dT=>
 cond (Nat.beq dT.1 0) (
 (dT.2.1[0]?).bind fun dU=>
 (dT.2.1[1]?).bind fun dV=>
 (addr? dV).bind fun dW=>
 (dT.2.2.ldN dW.1 dW.2 5).bind fun dX=>
 (addr? dU).bind fun dY=>
 (dT.2.2.stV dY.1 dY.2 5 dX).bind fun dZ=>
 (addr? dU).bind fun gA=>
 (dZ.rdN gA.1 gA.2 5).bind fun gB=>
 some (.tuple #[gB,.bool true],dZ)) (
 (dT.2.1[0]?).bind fun gC=>
 ((dT.2.1[1]?).bind asB).bind fun gD=>
 (addr? gC).bind fun gE=>
 (dT.2.2.rdN gE.1 gE.2 5).bind fun gF=>
 some (.tuple #[gF,.bool gD],dT.2.2))))
noncomputable abbrev zar:zah:=lS Tryd.prog Lk0 Tryd.f12 zde
theorem zfh:Lk0.func 12=some (12,Tryd.f12):=by kernel_rfl
theorem zdg [Sym] (p':Value) (st:SS) {r:Value×SS} (h:zbx cc zar p' st=some r):cc 12 [p'] st=some r:=
 zas (li:=zde) zat zaC zfh rfl (fun _=>rfl) (.trans (by kernel_rfl) h)
noncomputable def zbv (cf:zav) (lf:zah) (p':Value) (t2':Value) (l':Value) (st:SS):Option (Nat×List Value×SS):=
 (cf 13 [p'] st).bind fun a=>
 ((zca Lk0 57 0 a.1).bind (asI .i64)).bind fun b=>
 cond (!(decide (b=0))) (
 (cf 22 [p'] a.2).bind fun c=>
 (zao c.1 0).bind fun d=>
 ((zao c.1 1).bind asB).bind fun e=>
 let f:SS:=c.2.new (.cells [.string ⟨#[]⟩,.int .i64 0,.int .i64 0] 0)
 (f.stV c.2.next 0 3 d).bind fun g=>
 cond (!e) (
 (addr? l').bind fun h=>
 (g.ldN h.1 h.2 5).bind fun i=>
 (addr? t2').bind fun j=>
 (g.stV j.1 j.2 5 i).bind fun k=>
 some (1,[t2',.bool false],k)) (
 (addr? l').bind fun l=>
 (g.ld l.1 (l.2+3)).bind fun m=>
 (g.ldN c.2.next 0 3).bind fun n=>
 (zbe n 3).bind fun o=>
 let p:SS:=g.new (.cells (o++([])) 3)
 (p.app 3 32 m (.slice (some ⟨g.next,0,none⟩) 1 1)).bind fun q=>
 (addr? l').bind fun r=>
 (q.2.stV r.1 (r.2+3) 1 q.1).bind fun s=>
 lf 11 [p',t2',l'] s)) (
 some (0,[t2',l'],a.2))
theorem zbF [Sym] (p':Value) (t2':Value) (l':Value) (st:SS) {r:Nat×List Value×SS} (h:zbv cc zar p' t2' l' st=some r):zar 11 [p',t2',l'] st=some r:=
 za7 zat zaC (key:=11) (I:=zcN) rfl (by kernel_rfl) (by kernel_rfl) rfl rfl (.trans (by kernel_rfl) h)
noncomputable def zbw (cf:zav) (lf:zah) (p':Value) (t2':Value) (l':Value) (st:SS):Option (Nat×List Value×SS):=
 (cf 13 [p'] st).bind fun a=>
 ((zca Lk0 57 0 a.1).bind (asI .i64)).bind fun b=>
 cond (!(decide (b=0))) (
 (cf 23 [p',l'] a.2).bind fun c=>
 ((some c.1).bind asB).bind fun d=>
 cond (!d) (
 (addr? l').bind fun e=>
 (c.2.ldN e.1 e.2 5).bind fun f=>
 (addr? t2').bind fun g=>
 (c.2.stV g.1 g.2 5 f).bind fun h=>
 some (1,[t2',.bool false],h)) (
 lf 17 [p',t2',l'] c.2)) (
 some (0,[t2',l'],a.2))
theorem zbG [Sym] (p':Value) (t2':Value) (l':Value) (st:SS) {r:Nat×List Value×SS} (h:zbw cc zar p' t2' l' st=some r):zar 17 [p',t2',l'] st=some r:=
 za7 zat zaC (key:=17) (I:=zcM) rfl (by kernel_rfl) (by kernel_rfl) rfl rfl (.trans (by kernel_rfl) h)
def zex:LoopI:=⟨[(3,.any),(5,.any),(8,.any),(9,.any)],[(.exit 0,[(3,.any),(9,.any)]),(.ret,[(2,.any),(3,.any),(4,.int .i64)])]⟩
def zeN (n:Nat):Option LoopI:=cond (Nat.beq n 6) (some zex) (none)
noncomputable def zdq (cf:zav) (lf:zah) (text':ByteArray) (st:SS):Option (Value×SS):=
 let a:SS:=st.new (.cells [.int .i64 0,.int .i64 0] 0)
 (cf 11 [.string text'] a).bind fun b=>
 (zao b.1 0).bind fun c=>
 (zao b.1 1).bind fun d=>
 ((zao b.1 2).bind (asI .i64)).bind fun e=>
 let f:SS:=b.2.new (.cells [.int .i64 0,.int .i64 0] 0)
 (f.stV b.2.next 0 2 d).bind fun g=>
 cond (!(decide (e=0))) (
 (g.ldN b.2.next 0 2).bind fun h=>
 (g.stV st.next 0 2 h).bind fun i=>
 (i.rdN st.next 0 2).bind fun j=>
 some (.tuple #[.slice none 0 0,j,.int .i64 e],i)) (
 (zbe c 1).bind fun k=>
 let l:SS:=g.new (.cells (.agg ⟨spl [.slice none 0 0,.int .i64 0] 0 k⟩:Value).cells.toList 0)
 (lf 6 [ptr st.next 0,c,ptr g.next 0,.slice none 0 0] l).bind fun m=>
 cond (Nat.beq m.1 0) (
 (m.2.1[0]?).bind fun n=>
 (m.2.1[1]?).bind fun o=>
 (addr? n).bind fun p=>
 (m.2.2.st p.1 p.2 [.int .i64 0,.int .i64 0]).bind fun q=>
 (addr? n).bind fun r=>
 (q.rdN r.1 r.2 2).bind fun s=>
 some (.tuple #[o,s,.int .i64 0],q)) (
 (m.2.1[0]?).bind fun t=>
 (m.2.1[1]?).bind fun u=>
 ((m.2.1[2]?).bind (asI .i64)).bind fun v=>
 (addr? u).bind fun w=>
 (m.2.2.rdN w.1 w.2 2).bind fun x=>
 some (.tuple #[t,x,.int .i64 v],m.2.2)))
noncomputable abbrev zbc:zah:=lS Tryd.prog Lk0 Tryd.f8 zeN
theorem zia:Lk0.func 8=some (8,Tryd.f8):=by kernel_rfl
theorem zdr [Sym] (text':ByteArray) (st:SS) {r:Value×SS} (h:zdq cc zbc text' st=some r):cc 8 [.string text'] st=some r:=
 zas (li:=zeN) zat zaC zia rfl (fun _=>rfl) (.trans (by kernel_rfl) h)
noncomputable def zbq (cf:zav) (lf:zah) (t3':Value) (tokens':Value) (p':Value) (out':Value) (st:SS):Option (Nat×List Value×SS):=
 (zbE p').bind fun a=>
 (addr? a).bind fun b=>
 ((st.ld b.1 (b.2+1)).bind (asI .i64)).bind fun c=>
 ((lenV tokens').bind (asI .i64)).bind fun d=>
 cond (decide (c<d)) (
 (cf 12 [p'] st).bind fun e=>
 (zao e.1 0).bind fun f=>
 ((zao e.1 1).bind asB).bind fun g=>
 let h:SS:=e.2.new (.cells [.int .i64 0,.string ⟨#[]⟩,.string ⟨#[]⟩,.slice none 0 0,.slice none 0 0] 0)
 (h.stV e.2.next 0 5 f).bind fun i=>
 cond (!g) (
 (cf 13 [p'] i).bind fun j=>
 ((zca Lk0 57 3 j.1).bind (asI .i64)).bind fun k=>
 (cf 13 [p'] j.2).bind fun l=>
 ((zca Lk0 57 4 l.1).bind (asI .i64)).bind fun m=>
 (addr? t3').bind fun n=>
 (l.2.st n.1 n.2 [.int .i64 k,.int .i64 m]).bind fun o=>
 some (1,[.slice none 0 0,t3',.int .i64 4],o)) (
 (zbE p').bind fun p=>
 (addr? p).bind fun q=>
 ((i.ld q.1 (q.2+1)).bind (asI .i64)).bind fun r=>
 let s:Int:=IntKind.wrap .i64 (r+1)
 (zbE p').bind fun t=>
 (addr? t).bind fun u=>
 (i.st u.1 (u.2+1) [.int .i64 s]).bind fun v=>
 ((v.ld e.2.next 1).bind asS).bind fun w=>
 cond (!(eqT w ⟨#[]⟩)) (
 (v.ldN e.2.next 0 5).bind fun x=>
 (zbe x 5).bind fun y=>
 let z:SS:=v.new (.cells (y++([])) 5)
 (z.app 5 88 out' (.slice (some ⟨v.next,0,none⟩) 1 1)).bind fun A=>
 lf 6 [t3',tokens',p',A.1] A.2) (
 ((v.ld e.2.next 2).bind asS).bind fun B=>
 cond (!(eqT B ⟨#[]⟩)) (
 (v.ldN e.2.next 0 5).bind fun C=>
 (zbe C 5).bind fun D=>
 let E:SS:=v.new (.cells (D++([])) 5)
 (E.app 5 88 out' (.slice (some ⟨v.next,0,none⟩) 1 1)).bind fun F=>
 lf 6 [t3',tokens',p',F.1] F.2) (
 (v.ld e.2.next 4).bind fun G=>
 ((lenV G).bind (asI .i64)).bind fun H=>
 cond (decide (0<H)) (
 (v.ldN e.2.next 0 5).bind fun I=>
 (zbe I 5).bind fun J=>
 let K:SS:=v.new (.cells (J++([])) 5)
 (K.app 5 88 out' (.slice (some ⟨v.next,0,none⟩) 1 1)).bind fun L=>
 lf 6 [t3',tokens',p',L.1] L.2) (
 lf 6 [t3',tokens',p',out'] v))))) (
 some (0,[t3',out'],st))
theorem zbT [Sym] (t3':Value) (tokens':Value) (p':Value) (out':Value) (st:SS) {r:Nat×List Value×SS} (h:zbq cc zbc t3' tokens' p' out' st=some r):zbc 6 [t3',tokens',p',out'] st=some r:=
 za7 zat zaC (key:=6) (I:=zex) rfl (by kernel_rfl) (by kernel_rfl) rfl rfl (.trans (by kernel_rfl) h)
end Go.Proofs.YtifploedaacedaaDoorE
namespace Go.Proofs.YtifploedaacedaaDoorE
open Go Go.E Go.Proofs
theorem za9 (b k:Nat):zbE (ptr b k)=some (ptr b k):=rfl
structure PHas (st:SS) (b:Nat) (v:Value) (us:List (Nat×Tok)) (i:Nat):Prop where
 mem:st.mem.get b=some (.cells [v,.int .i64 i] 0)
 lt:b<st.next
 rd:Rd st v (rowsL us) 5 us.length
 sz:us.length≤1099511627776
theorem PHas.ext {st st':SS} {b i:Nat} {v:Value} {us:List (Nat×Tok)} (h:PHas st b v us i) (x:Ext st st'):PHas st' b v us i:=
 ⟨x.get h.lt h.mem,zll h.lt x.next,h.rd.ext x,h.sz⟩
theorem PHas.ro {st:SS} {b i n:Nat} {v:Value} {us:List (Nat×Tok)} (h:PHas st b v us i):PHas (st.ro n) b v us i:=⟨h.mem,h.lt,h.rd,h.sz⟩
structure PAt (st:SS) (b:Nat) (v:Value) (us:List (Nat×Tok)) (i:Nat):Prop where
 blk:At st b [v,.int .i64 i]
 rd:Rd st v (rowsL us) 5 us.length
 vb:∀ j k l q,v=.slice (some ⟨j,k,none⟩) l q→j<b
 sz:us.length≤1099511627776
 ll:st.lim≤st.next
section
variable {S : List Nat} {st st' : SS} {b i : Nat} {v : Value} {us : List (Nat × Tok)}
theorem PAt.has (h:PAt st b v us i):PHas st b v us i:=⟨h.blk.mem,h.blk.lt,h.rd,h.sz⟩
theorem PAt.mod (h:PAt st b v us i) (m:Mod S st st') (hS:∀ j,j∈S→b<j):PAt st' b v us i:=
 ⟨h.blk.mod m (fun hm=>by have:=hS b hm;omega),h.rd.mod m (fun j k l q e hm=>by have:=hS j hm;have:=h.vb j k l q e;omega),h.vb,h.sz,m.ll h.ll⟩
theorem PAt.ext (h:PAt st b v us i) (x:Ext st st'):PAt st' b v us i:=h.mod (S:=[]) (.ofExt x) (fun _ hj=>by cases hj)
theorem PAt.modI {j:Nat} (h:PAt st b v us i) (m:Mod [j] st st') (hj:b<j):PAt st' b v us i:=h.mod m fun k hk=>(show k=j by simpa using hk) ▸ hj
theorem PAt.move (h:PAt st b v us i) (i':Nat):∃ st',st.st b 1 [.int .i64 i']=some st'∧PAt st' b v us i'∧Mod [b] st st'∧st'.next=st.next:=by
 obtain ⟨st',e,a,m,n⟩:=h.blk.sto (k:=1) (vs:=[.int .i64 i']) (row':=[v,.int .i64 i']) rfl rfl
 exact ⟨st',e,⟨a,h.rd.mod m (fun j k l q e hm=>by have:j=b:=by simpa using hm
                                                  have:=h.vb j k l q e;omega),h.vb,h.sz,m.ll h.ll⟩,m,n⟩
end
abbrev Z5:List Value:=[.int .i64 0,.string ⟨#[]⟩,.int .i64 0,.int .i64 0,.int .i64 0]
theorem zbB [Sym] {st:SS} {b i:Nat} {v:Value} {us:List (Nat×Tok)} (h:PHas st b v us i) {t:Nat×Tok} (ht:us[i]?=some t):
  ∃ n,st.next≤n∧cc 13 [ptr b 0] st=some (.agg (zaM t.1 t.2).toArray,st.adv n):=by
 obtain ⟨st10,e10,a10,x10,_⟩:=zbP (st:=st.ro st.next) (zlr _) (r:=Z5) (zdp (zaM t.1 t.2)) (n:=5) rfl rfl rfl
 have h1:=(h.ro (n:=st.next)).ext ((Ext.refl (st.ro st.next)).new (.cells Z5 0))
 have hlt:(i:Int)<(us.length:Int):=by have:=(List.getElem?_eq_some_iff.1 ht).1;omega
 obtain ⟨q,b1,b2,_⟩:=h1.rd.load (j:=(i:Int)) (by omega) hlt (ziZ us i t ht) rfl
 have l0:((st.ro st.next).new (.cells Z5 0)).ld b 0=some v:=by rw [SS.ld_cells h1.mem];rfl
 have l1:((st.ro st.next).new (.cells Z5 0)).ld b 1=some (.int .i64 i):=by rw [SS.ld_cells h1.mem];rfl
 have hr:st10.rdN (st.ro st.next).next 0 5=some (.agg (zaM t.1 t.2).toArray):=a10.rdN rfl
 refine ⟨st10.next,x10.next,zfP _ st ?_⟩
 have e10':((st.ro st.next).new (.cells Z5 0)).stV st.next 0 5 (.agg (zaM t.1 t.2).toArray)=some st10:=e10
 have hr':st10.rdN st.next 0 5=some (.agg (zaM t.1 t.2).toArray):=hr
 simp only [zdU,SS.ro_next,za9,zob,zaz,l0,Nat.zero_add,l1,zac,b1,b2,e10',hr']
 rfl
theorem zbK {ln:Nat} {t:Tok}:(zca Lk0 57 0 (.agg (zaM ln t).toArray)).bind (asI .i64)=some (t.kd:Int)∧(zca Lk0 57 1 (.agg (zaM ln t).toArray)).bind asS=some (mkS t.tx)∧
  (zca Lk0 57 3 (.agg (zaM ln t).toArray)).bind (asI .i64)=some (ln:Int)∧(zca Lk0 57 4 (.agg (zaM ln t).toArray)).bind (asI .i64)=some (t.col:Int):=⟨by kernel_rfl,by kernel_rfl,by kernel_rfl,by kernel_rfl⟩
theorem znv [Sym] {st:SS} {b i:Nat} {v:Value} {us:List (Nat×Tok)} (h:PHas st b v us i) {t u:Nat×Tok} (ht:us[i]?=some t) (hu:us[if t.2.kd=0 then i else i+1]?=some u):
  ∃ n,st.next≤n∧cc 19 [ptr b 0] st=some (.agg (zaM u.1 u.2).toArray,st.adv n):=by
 have h1:=(h.ro (n:=st.next)).ext ((Ext.refl (st.ro st.next)).new (.cells Z5 0))
 obtain ⟨n,hn,c1⟩:=zbB h1 ht
 have a0:At ((st.ro st.next).new (.cells Z5 0)) st.next Z5:=At.new (st:=st.ro st.next) (zlr _) Z5
 have h2:=h1.ext (Ext.advR _ hn)
 have a2:=a0.adv hn
 by_cases hk:t.2.kd=0
 ·rw [if_pos hk,ht] at hu
  cases hu
  obtain ⟨m,hm,c2⟩:=zbB h2 ht
  have a3:=a2.adv hm
  obtain ⟨st5,e5,a5,m5,n5⟩:=a3.stV (k:=0) (zdp (zaM t.1 t.2)) (n:=5) rfl rfl (row':=zaM t.1 t.2) rfl
  have hr:st5.rdN st.next 0 5=some (.agg (zaM t.1 t.2).toArray):=a5.rdN rfl
  have hk':(t.2.kd:Int)=0:=by omega
  have hle:st.next≤st5.next:=by rw [n5];simp at hn hm ⊢;omega
  refine ⟨st5.next,hle,zdc _ st ?_⟩
  simp only [zcz,SS.ro_next,c1,c2,zob,zbK.1,zdt hk',zct,e5,hr]
  rfl
 ·rw [if_neg hk] at hu
  have hlt:((i+1:Nat):Int)<(us.length:Int):=by have:=(List.getElem?_eq_some_iff.1 hu).1;omega
  obtain ⟨q,b1,b2,_⟩:=h2.rd.load (j:=((i+1:Nat):Int)) (by omega) hlt (ziZ us (i+1) u hu) rfl
  have hk':¬ (t.2.kd:Int)=0:=by omega
  obtain ⟨st5,e5,a5,m5,n5⟩:=a2.stV (k:=0) (zdp (zaM u.1 u.2)) (n:=5) rfl rfl (row':=zaM u.1 u.2) rfl
  have hr:st5.rdN st.next 0 5=some (.agg (zaM u.1 u.2).toArray):=a5.rdN rfl
  have l0:(((st.ro st.next).new (.cells Z5 0)).adv n).ld b 0=some v:=by rw [SS.ld_cells h2.mem];rfl
  have l1:(((st.ro st.next).new (.cells Z5 0)).adv n).ld b 1=some (.int .i64 i):=by rw [SS.ld_cells h2.mem];rfl
  have hw:IntKind.wrap .i64 ((i:Int)+1)=((i+1:Nat):Int):=by have:=h.sz;rw [wrap64 (by omega) (by omega)];omega
  have hle:st.next≤st5.next:=by rw [n5];simp at hn ⊢;omega
  refine ⟨st5.next,hle,zdc _ st ?_⟩
  simp only [zcz,SS.ro_next,c1,zob,zbK.1,zdf hk',zcf,za9,zaz,l0,Nat.zero_add,l1,zac,hw,b1,b2,e5,hr]
  rfl
theorem ziC {st:SS} {n:Nat} (hl:st.lim≤n) (t:Nat×Tok):∃ st',((st.adv n).new (.cells Z5 0)).stV n 0 5 (.agg (zaM t.1 t.2).toArray)=some st'∧At st' n (zaM t.1 t.2)∧Ext (st.adv n) st':=by
 obtain ⟨st',a,b,c,_⟩:=zbP (st:=st.adv n) hl (r:=Z5) (zdp (zaM t.1 t.2)) (n:=5) rfl rfl rfl
 exact ⟨st',a,b,c⟩
theorem zfi (a b:List UInt8):eqT (mkS a) (mkS b)=decide (a=b):=by rw [zdD,zdm,zdm]
theorem zfQ [Sym] {st:SS} {b i:Nat} {v:Value} {us:List (Nat×Tok)} (h:PAt st b v us i) {t:Nat×Tok} (ht:us[i]?=some t) (sg:List UInt8):
  ∃ st',cc 20 [ptr b 0,.string (mkS sg)] st=some (.bool (zau t.2 sg),st')∧Mod [b] st st'∧PAt st' b v us (if zau t.2 sg=true then i+1 else i):=by
 obtain ⟨n,hn,h1⟩:=zbB h.has ht
 obtain ⟨st3,e3,a3,x3⟩:=ziC (st:=st) (n:=n) (zlt h.ll hn) t
 have x:Ext st st3:=(Ext.advR st hn).trans x3
 have hp:=h.ext x
 have k0:st3.ld n 0=some (.int .i64 t.2.kd):=a3.ld
 have k1:st3.ld n 1=some (.string (mkS t.2.tx)):=a3.ld
 have hi:=(List.getElem?_eq_some_iff.1 ht).1
 have hsz:=h.sz
 by_cases hk:t.2.kd=3
 ·have hk':(t.2.kd:Int)=3:=by omega
  by_cases hx:t.2.tx=sg
  ·have hs:zau t.2 sg=true:=by simp [zau,hk,hx]
   obtain ⟨st4,e4,p4,m4,_⟩:=hp.move (i+1)
   have hl1:st3.ld b 1=some (.int .i64 i):=hp.blk.ld
   rw [hs]
   refine ⟨st4,zbY _ _ st ?_,(Mod.ofExt x).then m4,p4⟩
   simp only [zbM,h1,zob,SS.adv_next,e3,k0,k1,zac,zab,zdt hk',znt,zcf,zfi,zdt hx,za9,zaz,Nat.zero_add,hl1,zew (show i≤1099511627776 by omega),e4]
  ·have hs:zau t.2 sg=false:=by simp [zau,hk,hx]
   rw [hs]
   refine ⟨st3,zbY _ _ st ?_,.ofExt x,hp⟩
   simp only [zbM,h1,zob,SS.adv_next,e3,k0,k1,zac,zab,zdt hk',znt,zcf,zfi,zdf hx,znf,zct]
 ·have hk':¬ (t.2.kd:Int)=3:=by omega
  have hs:zau t.2 sg=false:=by simp [zau,hk]
  rw [hs]
  refine ⟨st3,zbY _ _ st ?_,.ofExt x,hp⟩
  simp only [zbM,h1,zob,SS.adv_next,e3,k0,zac,zdf hk',znf,zct]
theorem zkm [Sym] {st:SS} {b i:Nat} {v:Value} {us:List (Nat×Tok)} (h:PAt st b v us i) {t:Nat×Tok} (ht:us[i]?=some t):
  ∃ st',cc 21 [ptr b 0] st=some (.tuple #[.string (mkS (if t.2.kd=1 then t.2.tx else [])),.bool (decide (t.2.kd=1))],st')∧Mod [b] st st'∧PAt st' b v us (if t.2.kd=1 then i+1 else i):=by
 obtain ⟨n,hn,h1⟩:=zbB h.has ht
 obtain ⟨st3,e3,a3,x3⟩:=ziC (st:=st) (n:=n) (zlt h.ll hn) t
 have x:Ext st st3:=(Ext.advR st hn).trans x3
 have hp:=h.ext x
 have k0:st3.ld n 0=some (.int .i64 t.2.kd):=a3.ld
 have hi:=(List.getElem?_eq_some_iff.1 ht).1
 have hsz:=h.sz
 by_cases hk:t.2.kd=1
 ·have hk':(t.2.kd:Int)=1:=by omega
  obtain ⟨st4,e4,p4,m4,_⟩:=hp.move (i+1)
  have hl1:st3.ld b 1=some (.int .i64 i):=hp.blk.ld
  have hne:n≠b:=by have:=h.blk.lt;omega
  have k1:st4.ld n 1=some (.string (mkS t.2.tx)):=(a3.mod m4 (by simpa using hne)).ld
  rw [if_pos hk,if_pos hk,zdt hk]
  refine ⟨st4,zdd _ st ?_,(Mod.ofExt x).then m4,p4⟩
  simp only [zcA,h1,zob,SS.adv_next,e3,k0,zac,zdt hk',znt,zcf,za9,zaz,Nat.zero_add,hl1,zew (show i≤1099511627776 by omega),e4,k1,zab]
 ·have hk':¬ (t.2.kd:Int)=1:=by omega
  rw [if_neg hk,if_neg hk,zdf hk]
  refine ⟨st3,zdd _ st ?_,.ofExt x,hp⟩
  simp only [zcA,h1,zob,SS.adv_next,e3,k0,zac,zdf hk',znf,zct]
  rfl
theorem zfR [Sym] {st:SS} {b i:Nat} {v:Value} {us:List (Nat×Tok)} (h:PAt st b v us i) {t:Nat×Tok} (ht:us[i]?=some t):
  ∃ st',cc 36 [ptr b 0] st=some (.tuple #[.int .i64 (if t.2.kd=2 then t.2.nm else 0),.bool (decide (t.2.kd=2))],st')∧Mod [b] st st'∧PAt st' b v us (if t.2.kd=2 then i+1 else i):=by
 obtain ⟨n,hn,h1⟩:=zbB h.has ht
 obtain ⟨st3,e3,a3,x3⟩:=ziC (st:=st) (n:=n) (zlt h.ll hn) t
 have x:Ext st st3:=(Ext.advR st hn).trans x3
 have hp:=h.ext x
 have k0:st3.ld n 0=some (.int .i64 t.2.kd):=a3.ld
 have hi:=(List.getElem?_eq_some_iff.1 ht).1
 have hsz:=h.sz
 by_cases hk:t.2.kd=2
 ·have hk':(t.2.kd:Int)=2:=by omega
  obtain ⟨st4,e4,p4,m4,_⟩:=hp.move (i+1)
  have hl1:st3.ld b 1=some (.int .i64 i):=hp.blk.ld
  have hne:n≠b:=by have:=h.blk.lt;omega
  have k1:st4.ld n 2=some (.int .i64 t.2.nm):=(a3.mod m4 (by simpa using hne)).ld
  rw [if_pos hk,if_pos hk,zdt hk]
  refine ⟨st4,zcL _ st ?_,(Mod.ofExt x).then m4,p4⟩
  simp only [zcj,h1,zob,SS.adv_next,e3,k0,zac,zdt hk',znt,zcf,za9,zaz,Nat.zero_add,hl1,zew (show i≤1099511627776 by omega),e4,k1]
 ·have hk':¬ (t.2.kd:Int)=2:=by omega
  rw [if_neg hk,if_neg hk,zdf hk]
  refine ⟨st3,zcL _ st ?_,.ofExt x,hp⟩
  simp only [zcj,h1,zob,SS.adv_next,e3,k0,zac,zdf hk',znf,zct]
structure LineAt (us:List (Nat×Tok)) (i ln:Nat) (l:List Tok):Prop where
 drop:∃ rest,us.drop i=(l.map fun t=>(ln,t))++rest
 lin:Lin l
 ok:∀ t∈l,TokOk t
theorem LineAt.head {us:List (Nat×Tok)} {i ln:Nat} {t:Tok} {r:List Tok} (h:LineAt us i ln (t::r)):us[i]?=some (ln,t):=by
 obtain ⟨rest,hr⟩:=h.drop
 have:=congrArg (·[0]?) hr
 simpa using this
theorem LineAt.tail {us:List (Nat×Tok)} {i ln:Nat} {t:Tok} {r:List Tok} (h:LineAt us i ln (t::r)) (hk:t.kd≠0):LineAt us (i+1) ln r:=by
 refine ⟨?_,h.lin.tail hk,fun u hu=>h.ok u (List.mem_cons_of_mem _ hu)⟩
 obtain ⟨rest,hr⟩:=h.drop
 refine ⟨rest,?_⟩
 have:=drop_cons h.head
 rw [hr] at this
 exact (List.cons.inj this).2.symm
theorem LineAt.tok {us:List (Nat×Tok)} {i ln:Nat} {t:Tok} {r:List Tok} (h:LineAt us i ln (t::r)):TokOk t:=h.ok t (List.mem_cons_self ..)
end Go.Proofs.YtifploedaacedaaDoorE
namespace Go.Proofs.YtifploedaacedaaDoorE
set_option maxRecDepth 20000
open Go Go.E Go.Proofs
noncomputable def zhu (cf:zav) (lf:zah) (s':Value) (q':Nat) (st:SS):Option (Value×SS):=
 (cf 51 [s',.func (.func 38) #[] #[ptr q' 0]] (st.ro st.next)).bind fun a=>
 ((some a.1).bind (asI .i64)).bind fun b=>
 some (.bool (decide (0≤b)),st.adv a.2.next)
noncomputable abbrev zj3:zah:=lS Tryd.prog Lk0 Tryd.f37 zaY
theorem zj4:Lk0.func 37=some (37,Tryd.f37):=by kernel_rfl
theorem zj5 [Sym] (s':Value) (q':Nat) (st:SS) {r:Value×SS} (h:zhu cc zj3 s' q' st=some r):cc 37 [s',.func (.func 38) #[] #[ptr q' 0]] st=some r:=
 zas (li:=zaY) zat zaC zj4 rfl (fun _=>rfl) (.trans (by kernel_rfl) h)
def zhc:LoopI:=⟨[(0,.any),(1,.any),(7,.int .i64),(8,.int .i64)],[(.exit 0,[]),(.ret,[(4,.int .i64)])]⟩
def zib (n:Nat):Option LoopI:=cond (Nat.beq n 2) (some zhc) (none)
noncomputable def ziD (cf:zav) (lf:zah) (s':Value) (q':Nat) (st:SS):Option (Value×SS):=
 ((lenV s').bind (asI .i64)).bind fun a=>
 (lf 2 [s',.func (.func 38) #[] #[ptr q' 0],.int .i64 a,.int .i64 0] (st.ro st.next)).bind fun b=>
 cond (Nat.beq b.1 0) (
 some (.int .i64 (-1),st.adv b.2.2.next)) (
 ((b.2.1[0]?).bind (asI .i64)).bind fun c=>
 some (.int .i64 c,st.adv b.2.2.next))
noncomputable abbrev zds:zah:=lS Tryd.prog Lk0 Tryd.f51 zib
theorem zkZ:Lk0.func 51=some (51,Tryd.f51):=by kernel_rfl
theorem zic [Sym] (s':Value) (q':Nat) (st:SS) {r:Value×SS} (h:ziD cc zds s' q' st=some r):cc 51 [s',.func (.func 38) #[] #[ptr q' 0]] st=some r:=
 zas (li:=zib) zat zaC zkZ rfl (fun _=>rfl) (.trans (by kernel_rfl) h)
noncomputable def zd8 (cf:zav) (lf:zah) (s':Value) (q':Nat) (t7':Int) (t8':Int) (st:SS):Option (Nat×List Value×SS):=
 cond (decide (t8'<t7')) (
 (zaD s' t8' 5).bind fun a=>
 (st.ldN a.1 a.2 5).bind fun b=>
 (cf 38 [b,ptr q' 0] st).bind fun c=>
 ((some c.1).bind asB).bind fun d=>
 cond d (
 some (1,[.int .i64 t8'],c.2)) (
 let e:Int:=IntKind.wrap .i64 (t8'+1)
 lf 2 [s',.func (.func 38) #[] #[ptr q' 0],.int .i64 t7',.int .i64 e] c.2)) (
 some (0,[],st))
theorem zdT [Sym] (s':Value) (q':Nat) (t7':Int) (t8':Int) (st:SS) {r:Nat×List Value×SS} (h:zd8 cc zds s' q' t7' t8' st=some r):zds 2 [s',.func (.func 38) #[] #[ptr q' 0],.int .i64 t7',.int .i64 t8'] st=some r:=
 za7 zat zaC (key:=2) (I:=zhc) rfl (by kernel_rfl) (by kernel_rfl) rfl rfl (.trans (by kernel_rfl) h)
noncomputable def zlV (cf:zav) (lf:zah) (y':Value) (x1':Value) (st:SS):Option (Value×SS):=
 let a:SS:=(st.ro st.next).new (.cells (y':Value).cells.toList 0)
 ((a.ld ((st.ro st.next).next) 0).bind asS).bind fun b=>
 (addr? x1').bind fun c=>
 ((a.ld c.1 c.2).bind asS).bind fun d=>
 some (.bool (eqT b d),st.adv a.next)
noncomputable abbrev zlW:zah:=lS Tryd.prog Lk0 Tryd.f38 zaY
theorem zlX:Lk0.func 38=some (38,Tryd.f38):=by kernel_rfl
theorem zlY [Sym] (y':Value) (x1':Value) (st:SS) {r:Value×SS} (h:zlV cc zlW y' x1' st=some r):cc 38 [y',x1'] st=some r:=
 zas (li:=zaY) zat zaC zlX rfl (fun _=>rfl) (.trans (by kernel_rfl) h)
end Go.Proofs.YtifploedaacedaaDoorE
namespace Go.Proofs.YtifploedaacedaaDoorE
open Go Go.E Go.Proofs
def zaG (x:Val):List Value:=[.string (mkS x.nm),.int .i64 x.x,.int .i64 x.col]
def zaX (p:Pr):List Value:=[.string (mkS p.fd),.int .i64 p.col,.string (mkS p.v.nm),.int .i64 p.v.x,.int .i64 p.v.col]
abbrev Z3:List Value:=[.string ⟨#[]⟩,.int .i64 0,.int .i64 0]
theorem LineAt.sz {st:SS} {b i ln:Nat} {v:Value} {us:List (Nat×Tok)} {l:List Tok} (h:PAt st b v us i) (hl:LineAt us i ln l):i≤1099511627776:=by
 obtain ⟨t,r,rfl⟩:=hl.lin.ne
 have:=(List.getElem?_eq_some_iff.1 hl.head).1
 have:=h.sz
 omega
theorem znw {n:Int} (h0:0≤n) (h1:n≤2147483647):IntKind.wrap .i64 (0-n)= -n:=by rw [wrap64 (by omega) (by omega)];omega
def ValR (b:Nat) (v:Value) (us:List (Nat×Tok)) (i:Nat) (st:SS) (r:Option (Value×SS)):Except Nat (Val×Nat)→Prop
 | .ok (x,n)=>∃ st',r=some (.tuple #[.agg (zaG x).toArray,.bool true],st')∧Mod [b] st st'∧PAt st' b v us (i+n)
 | .error o=>∃ w st',r=some (.tuple #[.agg (zaG w).toArray,.bool false],st')∧Mod [b] st st'∧PAt st' b v us (i+o)
theorem zjF [Sym] {st:SS} {b i ln:Nat} {v:Value} {us:List (Nat×Tok)} {l:List Tok} (h:PAt st b v us i) (hl:LineAt us i ln l):
  ValR b v us i st (cc 22 [ptr b 0] st) (zdO l):=by
 obtain ⟨t,r,rfl⟩:=hl.lin.ne
 have hb:=h.blk.lt
 have a1:At (st.new (.cells Z3 0)) st.next Z3:=At.new h.ll Z3
 have x1:Ext st (st.new (.cells Z3 0)):=(Ext.refl st).new _
 obtain ⟨n,hn,c1⟩:=zbB (h.ext x1).has hl.head
 have hn':st.next+1≤n:=hn
 obtain ⟨s5,e5,a5,x5,_⟩:=zh8 (st:=(st.new (.cells Z3 0)).adv n) (zlt h.ll (by simp;omega)) (r:=Z3) (row:=[.string ⟨#[]⟩,.int .i64 0,.int .i64 t.col]) rfl rfl
 have x05:Ext st s5:=x1.trans ((Ext.advR _ hn).trans x5)
 have b5:At s5 st.next Z3:=(a1.adv hn).ext x5
 obtain ⟨s6,c6,m6,p6⟩:=zfR (h.ext x05) hl.head
 have a6:=a5.mod m6 (by simp;omega)
 have b6:=b5.mod m6 (by simp;omega)
 have M6:Mod [b] st s6:=(Mod.ofExt x05).then m6
 have k4:=(zbK (ln:=ln) (t:=t)).2.2.2
 have cN:∀ row:List Value,row.length=3→∀ d:List Value,d=row→True:=fun _ _ _ _=>trivial
 by_cases h2:t.kd=2
 ·rw [if_pos h2,zdt h2] at c6
  rw [if_pos h2] at p6
  obtain ⟨s9,e9,a9,m9,_⟩:=a6.sto (k:=1) (vs:=[.int .i64 t.nm]) (row':=zaG ⟨[],t.nm,t.col⟩) rfl rfl
  have b9:=b6.mod m9 (by simp;omega)
  obtain ⟨s11,f1,f2,f3,f4,_⟩:=zb4 (n:=3) b9 rfl a9 rfl rfl
  rw [zfM,if_pos h2]
  refine ⟨s11,zaP _ st ?_,(M6.thenI m9 (.inl (by simp;omega))).thenI f4 (.inl (zlr _)),(p6.modI m9 (by simp;omega)).modI f4 hb⟩
  simp only [zaS,c1,zob,k4,e5,c6,zao,List.getElem?_toArray,zgs,zgz,zac,zai,e9,zct,f1,f2,f3]
 ·rw [if_neg h2,zdf h2] at c6
  rw [if_neg h2] at p6
  obtain ⟨s9,e9,a9,m9,_⟩:=a6.sto (k:=1) (vs:=[.int .i64 0]) (row':=zaG ⟨[],0,t.col⟩) rfl rfl
  have b9:=b6.mod m9 (by simp;omega)
  have p9:=p6.modI m9 (by simp;omega)
  have M9:=M6.thenI m9 (.inl (by simp;omega))
  obtain ⟨s13,c13,m13,p13⟩:=zkm p9 hl.head
  have a13:=a9.mod m13 (by simp;omega)
  have b13:=b9.mod m13 (by simp;omega)
  have M13:=M9.then m13
  rw [zfM,if_neg h2]
  by_cases h1:t.kd=1
  ·rw [if_pos h1,zdt h1] at c13
   rw [if_pos h1] at p13
   rw [if_pos h1]
   have hl1:=hl.tail (by omega)
   obtain ⟨s,u,rfl⟩:=hl1.lin.ne
   obtain ⟨s16,e16,a16,m16,_⟩:=a13.sto (k:=0) (vs:=[.string (mkS t.tx)]) (row':=zaG ⟨t.tx,0,t.col⟩) rfl rfl
   have b16:=b13.mod m16 (by simp;omega)
   have p16:=p13.modI m16 (by simp;omega)
   have M16:=M13.thenI m16 (.inl (by simp;omega))
   obtain ⟨s20,c20,m20,p20⟩:=zfQ p16 hl1.head [43]
   have c20':cc 20 [ptr b 0,.string ⟨#[43]⟩] s16=some (.bool (zau s [43]),s20):=c20
   have a20:=a16.mod m20 (by simp;omega)
   have b20:=b16.mod m20 (by simp;omega)
   have M20:=M16.then m20
   simp only
   by_cases hp:zau s [43]=true
   ·rw [hp] at c20'
    rw [if_pos hp] at p20
    rw [if_pos hp]
    have hl2:=hl1.tail (by have:=zbS hp;omega)
    obtain ⟨w,z,rfl⟩:=hl2.lin.ne
    obtain ⟨s22,c22,m22,p22⟩:=zfR p20 hl2.head
    have a22:=a20.mod m22 (by simp;omega)
    have b22:=b20.mod m22 (by simp;omega)
    have M22:=M20.then m22
    simp only
    by_cases hw:w.kd=2
    ·rw [if_pos hw,zdt hw] at c22
     rw [if_pos hw] at p22
     rw [if_pos hw]
     obtain ⟨s25,e25,a25,m25,_⟩:=a22.sto (k:=1) (vs:=[.int .i64 w.nm]) (row':=zaG ⟨t.tx,w.nm,t.col⟩) rfl rfl
     have b25:=b22.mod m25 (by simp;omega)
     obtain ⟨s27,f1,f2,f3,f4,_⟩:=zb4 (n:=3) b25 rfl a25 rfl rfl
     refine ⟨s27,zaP _ st ?_,(M22.thenI m25 (.inl (by simp;omega))).thenI f4 (.inl (zlr _)),(p22.modI m25 (by simp;omega)).modI f4 hb⟩
     simp only [zaS,c1,zob,k4,e5,c6,zao,List.getElem?_toArray,zgs,zgz,zac,zai,e9,zcf,c13,zab,e16,znt,c20',zct,c22,e25,f1,f2,f3]
    ·rw [if_neg hw,zdf hw] at c22
     rw [if_neg hw] at p22
     rw [if_neg hw]
     obtain ⟨s25,e25,a25,m25,_⟩:=a22.sto (k:=1) (vs:=[.int .i64 0]) (row':=zaG ⟨t.tx,0,t.col⟩) rfl rfl
     have b25:=b22.mod m25 (by simp;omega)
     obtain ⟨s27,f1,f2,f3,f4,_⟩:=zb4 (n:=3) b25 rfl a25 rfl rfl
     refine ⟨⟨t.tx,0,t.col⟩,s27,zaP _ st ?_,(M22.thenI m25 (.inl (by simp;omega))).thenI f4 (.inl (zlr _)),(p22.modI m25 (by simp;omega)).modI f4 hb⟩
     simp only [zaS,c1,zob,k4,e5,c6,zao,List.getElem?_toArray,zgs,zgz,zac,zai,e9,zcf,c13,zab,e16,znt,c20',zct,c22,e25,f1,f2,f3]
   ·rw [if_neg hp] at p20
    have hp':zau s [43]=false:=Bool.eq_false_iff.2 hp
    rw [hp'] at c20'
    rw [if_neg hp]
    obtain ⟨s29,c29,m29,p29⟩:=zfQ p20 hl1.head [45]
    have c29':cc 20 [ptr b 0,.string ⟨#[45]⟩] s20=some (.bool (zau s [45]),s29):=c29
    have a29:=a20.mod m29 (by simp;omega)
    have b29:=b20.mod m29 (by simp;omega)
    have M29:=M20.then m29
    by_cases hm:zau s [45]=true
    ·rw [hm] at c29'
     rw [if_pos hm] at p29
     rw [if_pos hm]
     have hl2:=hl1.tail (by have:=zbS hm;omega)
     obtain ⟨w,z,rfl⟩:=hl2.lin.ne
     obtain ⟨s31,c31,m31,p31⟩:=zfR p29 hl2.head
     have a31:=a29.mod m31 (by simp;omega)
     have b31:=b29.mod m31 (by simp;omega)
     have M31:=M29.then m31
     simp only
     by_cases hw:w.kd=2
     ·rw [if_pos hw,zdt hw] at c31
      rw [if_pos hw] at p31
      rw [if_pos hw]
      obtain ⟨s34,e34,a34,m34,_⟩:=a31.sto (k:=1) (vs:=[.int .i64 w.nm]) (row':=zaG ⟨t.tx,w.nm,t.col⟩) rfl rfl
      have b34:=b31.mod m34 (by simp;omega)
      have l34:s34.ld ((st.new (.cells Z3 0)).adv n).next 1=some (.int .i64 w.nm):=a34.ld
      obtain ⟨s37,e37,a37,m37,_⟩:=a34.sto (k:=1) (vs:=[.int .i64 (-w.nm)]) (row':=zaG ⟨t.tx, -w.nm,t.col⟩) rfl rfl
      have b37:=b34.mod m37 (by simp;omega)
      obtain ⟨s39,f1,f2,f3,f4,_⟩:=zb4 (n:=3) b37 rfl a37 rfl rfl
      have hneg:=znw hl2.tok.nm0 hl2.tok.nm1
      refine ⟨s39,zaP _ st ?_,((M31.thenI m34 (.inl (by simp;omega))).thenI m37 (.inl (by simp;omega))).thenI f4 (.inl (zlr _)),((p31.modI m34 (by simp;omega)).modI m37 (by simp;omega)).modI f4 hb⟩
      simp only [zaS,c1,zob,k4,e5,c6,zao,List.getElem?_toArray,zgs,zgz,zac,zai,e9,zcf,c13,zab,e16,znt,c20',c29',zct,c31,e34,l34,hneg,e37,f1,f2,f3]
     ·rw [if_neg hw,zdf hw] at c31
      rw [if_neg hw] at p31
      rw [if_neg hw]
      obtain ⟨s34,e34,a34,m34,_⟩:=a31.sto (k:=1) (vs:=[.int .i64 0]) (row':=zaG ⟨t.tx,0,t.col⟩) rfl rfl
      have b34:=b31.mod m34 (by simp;omega)
      have l34:s34.ld ((st.new (.cells Z3 0)).adv n).next 1=some (.int .i64 0):=a34.ld
      obtain ⟨s37,e37,a37,m37,_⟩:=a34.sto (k:=1) (vs:=[.int .i64 0]) (row':=zaG ⟨t.tx,0,t.col⟩) rfl rfl
      have b37:=b34.mod m37 (by simp;omega)
      obtain ⟨s39,f1,f2,f3,f4,_⟩:=zb4 (n:=3) b37 rfl a37 rfl rfl
      have hneg:IntKind.wrap .i64 (0-0)=0:=by decide
      refine ⟨⟨t.tx,0,t.col⟩,s39,zaP _ st ?_,((M31.thenI m34 (.inl (by simp;omega))).thenI m37 (.inl (by simp;omega))).thenI f4 (.inl (zlr _)),((p31.modI m34 (by simp;omega)).modI m37 (by simp;omega)).modI f4 hb⟩
      simp only [zaS,c1,zob,k4,e5,c6,zao,List.getElem?_toArray,zgs,zgz,zac,zai,e9,zcf,c13,zab,e16,znt,c20',c29',zct,c31,e34,l34,hneg,e37,f1,f2,f3]
    ·rw [if_neg hm] at p29
     have hm':zau s [45]=false:=Bool.eq_false_iff.2 hm
     rw [hm'] at c29'
     rw [if_neg hm]
     obtain ⟨s42,f1,f2,f3,f4,_⟩:=zb4 (n:=3) b29 rfl a29 rfl rfl
     refine ⟨s42,zaP _ st ?_,M29.thenI f4 (.inl (zlr _)),p29.modI f4 hb⟩
     simp only [zaS,c1,zob,k4,e5,c6,zao,List.getElem?_toArray,zgs,zgz,zac,zai,e9,zcf,c13,zab,e16,znt,c20',c29',f1,f2,f3]
  ·rw [if_neg h1,zdf h1] at c13
   rw [if_neg h1] at p13
   rw [if_neg h1]
   obtain ⟨s16,e16,a16,m16,_⟩:=a13.sto (k:=0) (vs:=[.string (mkS [])]) (row':=zaG ⟨[],0,t.col⟩) rfl rfl
   have b16:=b13.mod m16 (by simp;omega)
   obtain ⟨s18,f1,f2,f3,f4,_⟩:=zb4 (n:=3) b16 rfl a16 rfl rfl
   refine ⟨⟨[],0,t.col⟩,s18,zaP _ st ?_,(M13.thenI m16 (.inl (by simp;omega))).thenI f4 (.inl (zlr _)),(p13.modI m16 (by simp;omega)).modI f4 hb⟩
   simp only [zaS,c1,zob,k4,e5,c6,zao,List.getElem?_toArray,zgs,zgz,zac,zai,e9,zcf,c13,zab,e16,znf,zct,f1,f2,f3]
theorem zi1 (p:Pr):(zaX p).length=5:=rfl
theorem zk0 (p:Val):(zaG p).length=3:=rfl
theorem zlZ [Sym] (p:Pr) (f:List UInt8) (q:Nat) (st:SS) (hq:st.mem.get q=some (.cells [.string (mkS f)] 0)) (hlt:q<st.next):∃ n,st.next≤n∧cc 38 [.agg (zaX p).toArray,ptr q 0] st=some (.bool (decide (p.fd=f)),st.adv n):=by
 refine ⟨st.next+1,by omega,zlY _ _ st ?_⟩
 have l0:((st.ro st.next).new (.cells (zaX p) 0)).ld st.next 0=some (.string (mkS p.fd)):=by
  have hm:((st.ro st.next).new (.cells (zaX p) 0)).mem.get st.next=some (.cells (zaX p) 0):=SS.new_get (st:=st.ro st.next)
  rw [SS.ld_cells hm];rfl
 have l1:((st.ro st.next).new (.cells (zaX p) 0)).ld q 0=some (.string (mkS f)):=by
  rw [SS.ld_cells (c:=[.string (mkS f)]) (z:=0) (by rw [SS.new_old (by simp;omega)];exact hq)];rfl
 simp only [zlV,zdp,SS.ro_next,l0,zob,zab,zaz,l1,zfi]
 rfl
theorem zl0 [Sym] (ps:List Pr) (hsz:ps.length≤1099511627776) (f:List UInt8) (q:Nat) (v:Value) (st0:SS) (hv:Rd st0 v (rowsF zaX ps) 5 ps.length) (hq:st0.mem.get q=some (.cells [.string (mkS f)] 0)) (hlt:q<st0.next):
  ∀ (k j:Nat) (st:SS),ps.length=k+j→Ext st0 st→∃ e vs st',zds 2 [v,.func (.func 38) #[] #[ptr q 0],.int .i64 ps.length,.int .i64 j] st=some (e,vs,st')∧Ext st0 st'∧
   ((e=0∧vs=[]∧f∉(ps.drop j).map (·.fd))∨(e=1∧f∈(ps.drop j).map (·.fd)∧∃ m:Nat,vs=[.int .i64 m])):=by
 intro k
 induction k with
 | zero=>
   intro j st hk he
   refine ⟨0,[],st,zdT v q _ _ st ?_,he,.inl ⟨rfl,rfl,?_⟩⟩
   ·have:¬ (j:Int)<(ps.length:Int):=by omega
    simp only [zd8,zdf this,zcf]
   ·rw [List.drop_of_length_le (by omega)];simp
 | succ k ih=>
   intro j st hk he
   obtain ⟨p,hp⟩:∃ p,ps[j]?=some p:=⟨_,zge (by omega)⟩
   have hjl:(j:Int)<(ps.length:Int):=by omega
   obtain ⟨x,b1,b2,_⟩:=(hv.ext he).load (j:=(j:Int)) (by omega) hjl (zeM zi1 ps j p hp) rfl
   obtain ⟨n,hn,c1⟩:=zlZ p f q st (he.get hlt hq) (zll hlt he.next)
   have b2':st.ldN x.1 x.2 5=some (.agg (zaX p).toArray):=b2
   have hd:=drop_cons hp
   have hw:=zew (i:=j) (by omega)
   by_cases hf:p.fd=f
   ·refine ⟨1,[.int .i64 j],st.adv n,zdT v q _ _ st ?_,he.adv (by have:=he.next;omega),.inr ⟨rfl,?_,j,rfl⟩⟩
    ·rw [zdt hf] at c1
     simp only [zd8,zdt hjl,zct,b1,zob,b2',c1,zai]
    ·rw [hd];simp [hf]
   ·obtain ⟨e,vs,st',d1,d2,d3⟩:=ih (j+1) (st.adv n) (by omega) (he.adv (by have:=he.next;omega))
    rw [zdf hf] at c1
    refine ⟨e,vs,st',zdT v q _ _ st ?_,d2,?_⟩
    ·simp only [zd8,zdt hjl,zct,b1,zob,b2',c1,zai,zcf,hw]
     exact d1
    ·rw [hd]
     rcases d3 with ⟨e1,e2,e3⟩ | ⟨e1,e2,e3⟩
     ·exact .inl ⟨e1,e2,by simp only [List.map_cons,List.mem_cons,not_or];exact ⟨fun x=>hf x.symm,e3⟩⟩
     ·exact .inr ⟨e1,by simp only [List.map_cons,List.mem_cons];exact .inr e2,e3⟩
theorem znx [Sym] (ps:List Pr) (hsz:ps.length≤1099511627776) (f:List UInt8) (q:Nat) (v:Value) (st:SS) (hv:Rd st v (rowsF zaX ps) 5 ps.length) (hq:st.mem.get q=some (.cells [.string (mkS f)] 0)) (hlt:q<st.next):
  ∃ n,st.next≤n∧cc 37 [v,.func (.func 38) #[] #[ptr q 0]] st=some (.bool (decide (f∈ps.map (·.fd))),st.adv n):=by
 obtain ⟨e,vs,st',d1,d2,d3⟩:=zl0 ps hsz f q v ((st.ro st.next).ro (st.ro st.next).next) hv hq hlt ps.length 0 ((st.ro st.next).ro (st.ro st.next).next) (by omega) (.refl _)
 have d1':zds 2 [v,.func (.func 38) #[] #[ptr q 0],.int .i64 ps.length,.int .i64 0] ((st.ro st.next).ro (st.ro st.next).next)=some (e,vs,st'):=d1
 have hlen:(lenV v).bind (asI .i64)=some (ps.length:Int):=by rw [hv.len];rfl
 rw [List.drop_zero] at d3
 have hnx:=d2.next
 simp at hnx
 refine ⟨st'.next,hnx,zj5 _ _ st ?_⟩
 rcases d3 with ⟨rfl,rfl,e3⟩ | ⟨rfl,e2,m,rfl⟩
 ·have c:cc 51 [v,.func (.func 38) #[] #[ptr q 0]] (st.ro st.next)=some (.int .i64 (-1),(st.ro st.next).adv st'.next):=by
   refine zic _ _ _ ?_
   have hb0:Nat.beq 0 0=true:=rfl
   simp only [ziD,hlen,zob,d1',hb0,zct]
  have h0:¬ (0:Int)≤ -1:=by omega
  rw [zdf e3]
  simp only [zhu,c,zob,zac,zdf h0]
  rfl
 ·have c:cc 51 [v,.func (.func 38) #[] #[ptr q 0]] (st.ro st.next)=some (.int .i64 m,(st.ro st.next).adv st'.next):=by
   refine zic _ _ _ ?_
   have hb0:Nat.beq 1 0=false:=rfl
   simp only [ziD,hlen,zob,d1',hb0,zcf,zgz,zac]
  have h0:(0:Int)≤(m:Int):=by omega
  rw [zdt e2]
  simp only [zhu,c,zob,zac,zdt h0]
  rfl
end Go.Proofs.YtifploedaacedaaDoorE
namespace Go.Proofs.YtifploedaacedaaDoorE
open Go Go.E Go.Proofs
theorem PAt.keepB {S:List Nat} {st st':SS} {b i B:Nat} {v:Value} {us:List (Nat×Tok)} (h:PAt st b v us i) (k:Keep B S st st') (hB:b<B) (hS:∀ j,j∈S→b<j):PAt st' b v us i:=by
 refine ⟨h.blk.keepB k hB (fun hm=>by have:=hS b hm;omega),?_,h.vb,h.sz,k.ll h.ll⟩
 obtain ⟨h1,h2⟩:=h.rd
 refine ⟨h1,h2.imp id ?_⟩
 rintro ⟨j,cap,e,⟨z',hm⟩,hj⟩
 have hjb:=h.vb j 0 _ cap e
 exact ⟨j,cap,e,⟨z',(k.keep j (by omega) (fun hx=>by have:=hS j hx;omega)).trans hm⟩,zll hj k.next⟩
def PairR (B b lb:Nat) (w0 w1 w2 w3 pv v:Value) (us:List (Nat×Tok)) (i:Nat) (ps:List Pr) (st:SS) (r:Option (Value×SS)):Except Nat (Pr×Nat)→Prop
 | .ok (p,n)=>∃ st' pv',r=some (.bool true,st')∧Keep B [b,lb] st st'∧PAt st' b v us (i+n)∧At st' lb [w0,w1,w2,w3,pv']∧Own B st' pv' (rowsF zaX (ps++[p])) 5 (ps++[p]).length
 | .error o=>∃ st',r=some (.bool false,st')∧Keep B [b,lb] st st'∧PAt st' b v us (i+o)∧At st' lb [w0,w1,w2,w3,pv]∧Own B st' pv (rowsF zaX ps) 5 ps.length
theorem zny [Sym] {st:SS} {b i ln lb B:Nat} {v w0 w1 w2 w3 pv:Value} {us:List (Nat×Tok)} {l:List Tok} {ps:List Pr} (h:PAt st b v us i) (hl:LineAt us i ln l)
  (ha:At st lb [w0,w1,w2,w3,pv]) (hbl:b<lb) (hlB:lb<B) (hB:B≤st.next) (hps:ps.length≤1099511627776/8) (ho:Own B st pv (rowsF zaX ps) 5 ps.length):
  PairR B b lb w0 w1 w2 w3 pv v us i ps st (cc 23 [ptr b 0,ptr lb 0] st) (pairT (ps.map (·.fd)) l):=by
 obtain ⟨t,r,rfl⟩:=hl.lin.ne
 have hisz:=LineAt.sz h hl
 have hb:=h.blk.lt
 have hlim:st.lim≤B:=by have:=ha.2.2;omega
 obtain ⟨n1,hn1,c1⟩:=zbB h.has hl.head
 obtain ⟨s4,e4,a4,x4,_⟩:=zh8 (st:=st.adv n1) (zlt h.ll hn1) (r:=[.string ⟨#[]⟩,.int .i64 0,.string ⟨#[]⟩,.int .i64 0,.int .i64 0]) (row:=zaX ⟨[],t.col,⟨[],0,0⟩⟩) rfl rfl
 have x04:Ext st s4:=(Ext.advR st hn1).trans x4
 obtain ⟨n2,hn2,c2⟩:=zbB (h.ext x04).has hl.head
 obtain ⟨s8,e8,a8,x8,_⟩:=zh8 (st:=s4.adv n2) (zlt (x04.ll h.ll) hn2) (r:=[.string ⟨#[]⟩]) (row:=[.string (mkS t.tx)]) rfl rfl
 have x08:Ext st s8:=x04.trans ((Ext.advR s4 hn2).trans x8)
 have a48:=(a4.adv hn2).ext x8
 obtain ⟨n3,hn3,c3⟩:=zbB (h.ext x08).has hl.head
 have x03:Ext st (s8.adv n3):=x08.trans (.advR s8 hn3)
 have p3:=h.ext x03
 have la:=ha.ext x03
 have l4:(s8.adv n3).ld lb 4=some pv:=la.ld
 have k0:=(zbK (ln:=ln) (t:=t)).1
 have k1:=(zbK (ln:=ln) (t:=t)).2.1
 have k4:=(zbK (ln:=ln) (t:=t)).2.2.2
 have e4':((st.adv n1).new (.cells [.string ⟨#[]⟩,.int .i64 0,.string ⟨#[]⟩,.int .i64 0,.int .i64 0] 0)).st (st.adv n1).next 0 [.string ⟨#[]⟩,.int .i64 t.col,.string ⟨#[]⟩,.int .i64 0,.int .i64 0]=some s4:=e4
 rw [zh7]
 by_cases h1:t.kd=1
 case neg=>
  have h1':¬ (t.kd:Int)=1:=by omega
  rw [if_neg (fun x=>h1 x.1)]
  refine ⟨s8.adv n3,zbj _ _ st ?_,x03.keepB hB,p3,la,ho.ext x03⟩
  simp only [zbh,c1,zob,k4,e4',c2,k1,e8,c3,k0,zdf h1',znf,zct]
 have h1':(t.kd:Int)=1:=by omega
 obtain ⟨m,hm,c5⟩:=znx ps (by omega) t.tx (s4.adv n2).next pv (s8.adv n3) (ho.ext x03).rd (a8.adv hn3).mem (a8.adv hn3).lt
 have x05:Ext st ((s8.adv n3).adv m):=x03.trans (.advR _ hm)
 by_cases hk:t.tx∈ps.map (·.fd)
 ·rw [if_neg (fun x=>x.2 hk)]
  rw [zdt hk] at c5
  refine ⟨(s8.adv n3).adv m,zbj _ _ st ?_,x05.keepB hB,h.ext x05,ha.ext x05,ho.ext x05⟩
  simp only [zbh,c1,zob,k4,e4',c2,k1,e8,c3,k0,zdt h1',znt,zcf,za9,zaz,Nat.zero_add,l4,c5,zai,zct]
 rw [if_pos ⟨h1,hk⟩]
 rw [zdf hk] at c5
 have hl1:=hl.tail (by omega)
 obtain ⟨e,u,rfl⟩:=hl1.lin.ne
 have q8:=(a8.adv hn3).adv hm
 have l16:((s8.adv n3).adv m).ld (s4.adv n2).next 0=some (.string (mkS t.tx)):=q8.ld
 obtain ⟨s17,e17,a17,m17,_⟩:=((a48.adv hn3).adv hm).sto (k:=0) (vs:=[.string (mkS t.tx)]) (row':=zaX ⟨t.tx,t.col,⟨[],0,0⟩⟩) rfl rfl
 have hj1:B≤(st.adv n1).next:=zlt hB hn1
 have p17:=(h.ext x05).modI m17 (by omega)
 have la17:=(ha.ext x05).mod m17 (by simp;omega)
 have o17:=(ho.ext x05)
 have K17:Keep B [b,lb] st s17:=(x05.keepB hB).thenI m17 (zlt hB x05.next) (.inl hj1)
 have o17:Own B s17 pv (rowsF zaX ps) 5 ps.length:=by
  refine (ho.ext x05).mod m17 (fun j k l' q hv hm'=>?_)
  have hj:j=(st.adv n1).next:=by simpa using hm'
  obtain ⟨_,⟨ev,_⟩ | ⟨i',ev,_,_,_,hi'⟩⟩:=ho
  ·rw [ev] at hv;cases hv
  ·rw [ev] at hv;cases hv
   have:st.next≤(st.adv n1).next:=hn1
   omega
 have l17:s17.ld b 1=some (.int .i64 i):=p17.blk.ld
 obtain ⟨s24,e24,p24,m24,_⟩:=p17.move (i+1)
 have la24:=la17.mod m24 (by simp;omega)
 have a24:=a17.mod m24 (by simp;omega)
 have nx17:B≤s17.next:=zlt hB K17.next
 have K24:=K17.thenI m24 nx17 (.inr (by simp))
 have o24:=o17.modLt m24 (by simp;omega)
 have hw:=zew hisz
 obtain ⟨s25,c25,m25,p25⟩:=zfQ p24 hl1.head [61]
 have c25':cc 20 [ptr b 0,.string ⟨#[61]⟩] s24=some (.bool (zau e [61]),s25):=c25
 have la25:=la24.mod m25 (by simp;omega)
 have a25:=a24.mod m25 (by simp;omega)
 have nx24:B≤s24.next:=zlt hB K24.next
 have K25:=K24.thenI m25 nx24 (.inr (by simp))
 have o25:=o24.modLt m25 (by simp;omega)
 simp only
 by_cases he:zau e [61]=true
 case neg=>
  have he':zau e [61]=false:=Bool.eq_false_iff.2 he
  rw [he'] at c25'
  rw [if_neg he] at p25
  rw [if_neg he]
  refine ⟨s25,zbj _ _ st ?_,K25,p25,la25,o25⟩
  simp only [zbh,c1,zob,k4,e4',c2,k1,e8,c3,k0,zdt h1',znt,zcf,za9,zaz,Nat.zero_add,l4,c5,zai,l16,zab,e17,l17,zac,hw,e24,c25',znf,zct]
 rw [he] at c25'
 rw [if_pos he] at p25
 rw [if_pos he]
 have hl2:=hl1.tail (by have:=zbS he;omega)
 have nx25:B≤s25.next:=zlt hB K25.next
 have hval:=zjF p25 hl2
 cases hx:zdO u with
 | error o=>
   rw [hx] at hval
   obtain ⟨w,s27,c27,m27,p27⟩:=hval
   have la27:=la25.mod m27 (by simp;omega)
   have a27:=a25.mod m27 (by simp;omega)
   have K27:=K25.thenI m27 nx25 (.inr (by simp))
   have o27:=o25.modLt m27 (by simp;omega)
   obtain ⟨s30,e30,a30,m30,_⟩:=a27.stV (k:=2) (n:=3) (zdp (zaG w)) rfl rfl (row':=zaX ⟨t.tx,t.col,w⟩) rfl
   have la30:=la27.mod m30 (by simp;omega)
   have nx27:B≤s27.next:=zlt hB K27.next
   have K30:=K27.thenI m30 nx27 (.inl hj1)
   have p30:=p27.modI m30 (by omega)
   have o30:Own B s30 pv (rowsF zaX ps) 5 ps.length:=by
    refine o27.mod m30 (fun j k l' q hv hm'=>?_)
    have hj:j=(st.adv n1).next:=by simpa using hm'
    obtain ⟨_,⟨ev,_⟩ | ⟨i',ev,_,_,_,hi'⟩⟩:=ho
    ·rw [ev] at hv;cases hv
    ·rw [ev] at hv;cases hv
     have:st.next≤(st.adv n1).next:=hn1
     omega
   refine ⟨s30,zbj _ _ st ?_,K30,by have e':i+1+1+o=i+(2+o):=by omega
                                    rw [← e'];exact p30,la30,o30⟩
   simp only [zbh,c1,zob,k4,e4',c2,k1,e8,c3,k0,zdt h1',znt,zcf,za9,zaz,Nat.zero_add,l4,c5,zai,l16,zab,e17,l17,zac,hw,e24,c25',c27,zao,List.getElem?_toArray,zgs,zgz,e30,znf,zct]
 | ok y=>
   obtain ⟨x,n⟩:=y
   rw [hx] at hval
   obtain ⟨s27,c27,m27,p27⟩:=hval
   have la27:=la25.mod m27 (by simp;omega)
   have a27:=a25.mod m27 (by simp;omega)
   have K27:=K25.thenI m27 nx25 (.inr (by simp))
   have o27:=o25.modLt m27 (by simp;omega)
   obtain ⟨s30,e30,a30,m30,_⟩:=a27.stV (k:=2) (n:=3) (zdp (zaG x)) rfl rfl (row':=zaX ⟨t.tx,t.col,x⟩) rfl
   have la30:=la27.mod m30 (by simp;omega)
   have nx27:B≤s27.next:=zlt hB K27.next
   have K30:=K27.thenI m30 nx27 (.inl hj1)
   have p30:=p27.modI m30 (by omega)
   have o30:Own B s30 pv (rowsF zaX ps) 5 ps.length:=by
    refine o27.mod m30 (fun j k l' q hv hm'=>?_)
    have hj:j=(st.adv n1).next:=by simpa using hm'
    obtain ⟨_,⟨ev,_⟩ | ⟨i',ev,_,_,_,hi'⟩⟩:=ho
    ·rw [ev] at hv;cases hv
    ·rw [ev] at hv;cases hv
     have:st.next≤(st.adv n1).next:=hn1
     omega
   have l33:s30.ld lb 4=some pv:=la30.ld
   have l34:s30.ldN (st.adv n1).next 0 5=some (.agg (zaX ⟨t.tx,t.col,x⟩).toArray):=a30.ldN rfl
   have hc35:zbe (.agg (zaX ⟨t.tx,t.col,x⟩).toArray) 5=some (zaX ⟨t.tx,t.col,x⟩):=zh3 rfl
   have nx30:B≤s30.next:=zlt hB K30.next
   obtain ⟨pv',s37,g1,g2,g3⟩:=o30.pushK nx30 (by rw [K30.lim];exact hlim) (row:=zaX ⟨t.tx,t.col,x⟩) rfl (by omega) rfl (bt:=56) (by omega) (by omega)
   have la37:=la30.keepB (g3 []) hlB (by simp)
   have p37:=p30.keepB (g3 []) (by omega) (by simp)
   have K37:=K30.then (g3 _)
   obtain ⟨s40,e40,a40,m40,_⟩:=la37.stV (k:=4) (n:=1) g2.cell.1 rfl (by simp [g2.cell.2]) (row':=[w0,w1,w2,w3,pv']) rfl
   have nx37:B≤s37.next:=zlt hB K37.next
   have K40:=K37.thenI m40 nx37 (.inr (by simp))
   have p40:=p37.modI m40 hbl
   have o40:=g2.modLt m40 (by simp;omega)
   refine ⟨s40,pv',zbj _ _ st ?_,K40,by have e':i+1+1+n=i+(2+n):=by omega
                                        rw [← e'];exact p40,a40,?_⟩
   ·simp only [zbh,c1,zob,k4,e4',c2,k1,e8,c3,k0,zdt h1',znt,zcf,za9,zaz,Nat.zero_add,l4,c5,zai,l16,zab,e17,l17,zac,hw,e24,c25',c27,zao,List.getElem?_toArray,zgs,zgz,e30,l33,l34,hc35,List.append_nil,g1,e40]
   ·rw [zev,zgt,List.length_append];exact o40
end Go.Proofs.YtifploedaacedaaDoorE
namespace Go.Proofs.YtifploedaacedaaDoorE
open Go Go.E Go.Proofs
theorem LineAt.go {us:List (Nat×Tok)} {i ln n:Nat} {l:List Tok} (h:LineAt us i ln l) (hn:Lin (l.drop n)):LineAt us (i+n) ln (l.drop n):=by
 have hlt:n<l.length:=by
  obtain ⟨t,r,e⟩:=hn.ne
  have:=congrArg List.length e
  simp at this
  omega
 refine ⟨?_,hn,fun t ht=>h.ok t (List.mem_of_mem_drop ht)⟩
 obtain ⟨rest,hr⟩:=h.drop
 refine ⟨rest,?_⟩
 rw [← List.drop_drop,hr,List.drop_append_of_le_length (by simp;omega),List.map_drop]
theorem ziE {S:List Nat} {B:Nat} {st st':SS} {pv:Value} {c:List Value} {z n j:Nat} (ho:Own B st pv c z n) (m:Mod [j] st st') (hj:j<B∨st.next≤j):Own B st' pv c z n:=by
 refine ho.mod m (fun k k' l' q hv hm'=>?_)
 have hk:k=j:=by simpa using hm'
 obtain ⟨_,⟨ev,_⟩ | ⟨i',ev,_,_,hbi,hi'⟩⟩:=ho
 ·rw [ev] at hv;cases hv
 ·rw [ev] at hv;cases hv;omega
def zjG (B b lb j2:Nat) (w0 w1 w2 w3 v:Value) (us:List (Nat×Tok)) (i e:Nat) (ps:List Pr) (st:SS) (r:Option (Nat×List Value×SS)):Except Nat (List Pr)→Prop
 | .ok qs=>∃ st' pv',r=some (0,[ptr j2 0,ptr lb 0],st')∧Keep B [b,lb] st st'∧PAt st' b v us e∧At st' lb [w0,w1,w2,w3,pv']∧Own B st' pv' (rowsF zaX (ps++qs)) 5 (ps++qs).length
 | .error o=>∃ st' row,r=some (1,[ptr j2 0,.bool false],st')∧Keep B [b,lb,j2] st st'∧PAt st' b v us (i+o)∧At st' j2 row∧row.length=5∧row.all one=true
theorem zk1 [Sym] {ln lb B b j2:Nat} {v w0 w1 w2 w3:Value} {us:List (Nat×Tok)} (hbj:b<j2) (hjl:j2<lb) (hlB:lb<B) (hw:one w0=true∧one w1=true∧one w2=true∧one w3=true):∀ (k i:Nat) (l:List Tok) (ps:List Pr) (pv:Value) (st:SS),l.length≤k→ps.length+k≤1099511627776/8→PAt st b v us i→LineAt us i ln l→
  At st lb [w0,w1,w2,w3,pv]→(∃ r2,At st j2 r2∧r2.length=5)→B≤st.next→Own B st pv (rowsF zaX ps) 5 ps.length→
  zjG B b lb j2 w0 w1 w2 w3 v us i (i+(l.length-1)) ps st (zar 17 [ptr b 0,ptr j2 0,ptr lb 0] st) (zbp k (ps.map (·.fd)) l):=by
 intro k
 induction k with
 | zero=>
   intro i l ps pv st hk _ h hl
   obtain ⟨t,r,rfl⟩:=hl.lin.ne
   simp at hk
 | succ k ih=>
   intro i l ps pv st hk hps h hl ha hj2 hB ho
   obtain ⟨t,r,rfl⟩:=hl.lin.ne
   obtain ⟨n1,hn1,c1⟩:=zbB h.has hl.head
   have k0:=(zbK (ln:=ln) (t:=t)).1
   have x1:Ext st (st.adv n1):=.advR st hn1
   unfold zbp
   by_cases h0:t.kd=0
   ·rw [if_pos h0]
    have hr:=hl.lin.last h0
    subst hr
    have h0':(t.kd:Int)=0:=by omega
    refine ⟨st.adv n1,pv,zbG _ _ _ st ?_,x1.keepB hB,by simpa using h.ext x1,ha.ext x1,by simpa using ho.ext x1⟩
    simp only [zbw,c1,zob,k0,zdt h0',znt,zcf]
   ·rw [if_neg h0]
    have h0':¬ (t.kd:Int)=0:=by omega
    have hp:=zny (h.ext x1) hl (ha.ext x1) (by omega) hlB (zlt hB hn1) (by omega) (ho.ext x1)
    have hlin:=zi0 (seen:=ps.map (·.fd)) hl.lin
    cases hx:pairT (ps.map (·.fd)) (t::r) with
    | error o=>
      rw [hx] at hp
      obtain ⟨s3,c3,K3,p3,a3,o3⟩:=hp
      have K3':Keep B [b,lb] st s3:=(x1.keepB hB).then K3
      obtain ⟨r2,a2,l2⟩:=hj2
      have a23:=a2.keepB K3' (by omega) (by simp;omega)
      obtain ⟨s8,f1,f2,f3,f4,f5⟩:=zb4 (n:=5) a23 l2 a3 rfl (by simp [hw,o3.cell.2])
      have nx3:B≤s3.next:=zlt hB K3'.next
      refine ⟨s8,[w0,w1,w2,w3,pv],zbG _ _ _ st ?_,(K3'.mono (zlr _) (fun j hj _=>by simp at hj ⊢;omega)).thenI f4 nx3 (.inr (by simp)),p3.modI f4 hbj,f5,rfl,by simp [hw,o3.cell.2]⟩
      simp only [zbw,c1,zob,k0,zdf h0',znf,zct,c3,zai,zaz,f1,f2]
    | ok y=>
      obtain ⟨p,n⟩:=y
      rw [hx] at hp hlin
      obtain ⟨s3,pv',c3,K3,p3,a3,o3⟩:=hp
      simp only at hlin
      have K3':Keep B [b,lb] st s3:=(x1.keepB hB).then K3
      have hnl:n<(t::r).length:=by
       obtain ⟨t',r',e⟩:=hlin.1.ne
       have:=congrArg List.length e
       simp at this ⊢
       omega
      have hj23:∃ r2,At s3 j2 r2∧r2.length=5:=by
       obtain ⟨r2,a2,l2⟩:=hj2
       exact ⟨r2,a2.keepB K3' (by omega) (by simp;omega),l2⟩
      have next:=ih (i+n) ((t::r).drop n) (ps++[p]) pv' s3 (by rw [List.length_drop];omega) (by simp;omega) p3 (hl.go hlin.1) a3 hj23 (zlt hB K3'.next) o3
      have hend:i+n+(((t::r).drop n).length-1)=i+((t::r).length-1):=by rw [List.length_drop];omega
      rw [hend,List.map_append] at next
      have step:∀ y,zar 17 [ptr b 0,ptr j2 0,ptr lb 0] s3=some y→zar 17 [ptr b 0,ptr j2 0,ptr lb 0] st=some y:=fun y hy=>by
       refine zbG _ _ _ st ?_
       simp only [zbw,c1,zob,k0,zdf h0',znf,zct,c3,zai,znt,zcf]
       exact hy
      simp only
      have next':zjG B b lb j2 w0 w1 w2 w3 v us (i+n) (i+((t::r).length-1)) (ps++[p]) s3 (zar 17 [ptr b 0,ptr j2 0,ptr lb 0] s3) (zbp k (ps.map (·.fd)++[p.fd]) ((t::r).drop n)):=next
      cases hz:zbp k (ps.map (·.fd)++[p.fd]) ((t::r).drop n) with
      | error o=>
        rw [hz] at next'
        obtain ⟨st',row,d1,d2,d3,d4,d5,d6⟩:=next'
        exact ⟨st',row,step _ d1,(K3'.mono (zlr _) (fun j hj _=>by simp at hj ⊢;omega)).then d2,by rw [Nat.add_assoc] at d3;exact d3,d4,d5,d6⟩
      | ok qs=>
        rw [hz] at next'
        obtain ⟨st',pv2,d1,d2,d3,d4,d5⟩:=next'
        exact ⟨st',pv2,step _ d1,K3'.then d2,d3,d4,by simpa using d5⟩
def ArgsR (B b lb j2:Nat) (w0 w1 w2 w4 v:Value) (us:List (Nat×Tok)) (i e:Nat) (vs:List Val) (st:SS) (r:Option (Nat×List Value×SS)):Except Nat (List Val)→Prop
 | .ok qs=>∃ st' av',r=some (0,[ptr j2 0,ptr lb 0],st')∧Keep B [b,lb] st st'∧PAt st' b v us e∧At st' lb [w0,w1,w2,av',w4]∧Own B st' av' (rowsF zaG (vs++qs)) 3 (vs++qs).length
 | .error o=>∃ st' row,r=some (1,[ptr j2 0,.bool false],st')∧Keep B [b,lb,j2] st st'∧PAt st' b v us (i+o)∧At st' j2 row∧row.length=5∧row.all one=true
theorem zl1 [Sym] {ln lb B b j2:Nat} {v w0 w1 w2 w4:Value} {us:List (Nat×Tok)} (hbj:b<j2) (hjl:j2<lb) (hlB:lb<B) (hw:one w0=true∧one w1=true∧one w2=true∧one w4=true):∀ (k i:Nat) (l:List Tok) (vs:List Val) (av:Value) (st:SS),l.length≤k→vs.length+k≤1099511627776/8→PAt st b v us i→LineAt us i ln l→
  At st lb [w0,w1,w2,av,w4]→(∃ r2,At st j2 r2∧r2.length=5)→B≤st.next→Own B st av (rowsF zaG vs) 3 vs.length→
  ArgsR B b lb j2 w0 w1 w2 w4 v us i (i+(l.length-1)) vs st (zar 11 [ptr b 0,ptr j2 0,ptr lb 0] st) (zbo k l):=by
 intro k
 induction k with
 | zero=>
   intro i l vs av st hk _ h hl
   obtain ⟨t,r,rfl⟩:=hl.lin.ne
   simp at hk
 | succ k ih=>
   intro i l vs av st hk hvs h hl ha hj2 hB ho
   obtain ⟨t,r,rfl⟩:=hl.lin.ne
   obtain ⟨n1,hn1,c1⟩:=zbB h.has hl.head
   have k0:=(zbK (ln:=ln) (t:=t)).1
   have x1:Ext st (st.adv n1):=.advR st hn1
   have hlim:st.lim≤B:=by have:=ha.2.2;omega
   unfold zbo
   by_cases h0:t.kd=0
   ·rw [if_pos h0]
    have hr:=hl.lin.last h0
    subst hr
    have h0':(t.kd:Int)=0:=by omega
    refine ⟨st.adv n1,av,zbF _ _ _ st ?_,x1.keepB hB,by simpa using h.ext x1,ha.ext x1,by simpa using ho.ext x1⟩
    simp only [zbv,c1,zob,k0,zdt h0',znt,zcf]
   ·rw [if_neg h0]
    have h0':¬ (t.kd:Int)=0:=by omega
    have hp:=zjF (h.ext x1) hl
    have hlin:=zgq hl.lin
    have nx1:B≤(st.adv n1).next:=zlt hB hn1
    cases hx:zdO (t::r) with
    | error o=>
      rw [hx] at hp
      obtain ⟨w,s3,c3,m3,p3⟩:=hp
      have K3:Keep B [b,lb] st s3:=(x1.keepB hB).thenI m3 nx1 (.inr (by simp))
      have nx3:B≤s3.next:=zlt hB K3.next
      obtain ⟨s7,e7,a7,x7,_⟩:=zbP (st:=s3) p3.ll (r:=Z3) (zdp (zaG w)) (n:=3) rfl rfl rfl
      have K7:=K3.thenX x7 nx3
      have nx7:B≤s7.next:=zlt hB K7.next
      obtain ⟨r2,a2,l2⟩:=hj2
      have a27:=a2.keepB K7 (by omega) (by simp;omega)
      have la7:At s7 lb [w0,w1,w2,av,w4]:=(((ha.ext x1).mod m3 (by simp;omega))).ext x7
      have o7:=((ho.ext x1).modLt m3 (by simp;omega)).ext x7
      obtain ⟨s8,f1,f2,f3,f4,f5⟩:=zb4 (n:=5) a27 l2 la7 rfl (by simp [hw,o7.cell.2])
      refine ⟨s8,[w0,w1,w2,av,w4],zbF _ _ _ st ?_,(K7.mono (zlr _) (fun j hj _=>by simp at hj ⊢;omega)).thenI f4 nx7 (.inr (by simp)),(p3.ext x7).modI f4 hbj,f5,rfl,by simp [hw,o7.cell.2]⟩
      simp only [zbv,c1,zob,k0,zdf h0',znf,zct,c3,zao,List.getElem?_toArray,zgs,zgz,zai,e7,zaz,f1,f2]
    | ok y=>
      obtain ⟨x,n⟩:=y
      rw [hx] at hp hlin
      obtain ⟨s3,c3,m3,p3⟩:=hp
      simp only at hlin
      have K3:Keep B [b,lb] st s3:=(x1.keepB hB).thenI m3 nx1 (.inr (by simp))
      have nx3:B≤s3.next:=zlt hB K3.next
      obtain ⟨s7,e7,a7,x7,_⟩:=zbP (st:=s3) p3.ll (r:=Z3) (zdp (zaG x)) (n:=3) rfl rfl rfl
      have K7:=K3.thenX x7 nx3
      have nx7:B≤s7.next:=zlt hB K7.next
      have la7:At s7 lb [w0,w1,w2,av,w4]:=(((ha.ext x1).mod m3 (by simp;omega))).ext x7
      have o7:=((ho.ext x1).modLt m3 (by simp;omega)).ext x7
      have l13:s7.ld lb 3=some av:=la7.ld
      have l14:s7.ldN s3.next 0 3=some (.agg (zaG x).toArray):=a7.ldN rfl
      have hc15:zbe (.agg (zaG x).toArray) 3=some (zaG x):=zh3 rfl
      obtain ⟨av',s17,g1,g2,g3⟩:=o7.pushK nx7 (by rw [K7.lim];exact hlim) (row:=zaG x) rfl (by omega) rfl (bt:=32) (by omega) (by omega)
      have la17:=la7.keepB (g3 []) hlB (by simp)
      have p17:=(p3.ext x7).keepB (g3 []) (by omega) (by simp)
      have K17:=K7.then (g3 _)
      obtain ⟨s19,e19,a19,m19,_⟩:=la17.stV (k:=3) (n:=1) g2.cell.1 rfl (by simp [g2.cell.2]) (row':=[w0,w1,w2,av',w4]) rfl
      have nx17:B≤s17.next:=zlt hB K17.next
      have K19:=K17.thenI m19 nx17 (.inr (by simp))
      have p19:=p17.modI m19 (by omega)
      have o19:=g2.modLt m19 (by simp;omega)
      have o19':Own B s19 av' (rowsF zaG (vs++[x])) 3 (vs++[x]).length:=by rw [zev,zgt,List.length_append];exact o19
      have hnl:n<(t::r).length:=by
       obtain ⟨t',r',e⟩:=hlin.1.ne
       have:=congrArg List.length e
       simp at this ⊢
       omega
      have hj23:∃ r2,At s19 j2 r2∧r2.length=5:=by
       obtain ⟨r2,a2,l2⟩:=hj2
       exact ⟨r2,a2.keepB K19 (by omega) (by simp;omega),l2⟩
      have next:=ih (i+n) ((t::r).drop n) (vs++[x]) av' s19 (by rw [List.length_drop];omega) (by simp;omega) p19 (hl.go hlin.1) a19 hj23 (zlt hB K19.next) o19'
      have hend:i+n+(((t::r).drop n).length-1)=i+((t::r).length-1):=by rw [List.length_drop];omega
      rw [hend] at next
      have step:∀ y,zar 11 [ptr b 0,ptr j2 0,ptr lb 0] s19=some y→zar 11 [ptr b 0,ptr j2 0,ptr lb 0] st=some y:=fun y hy=>by
       refine zbF _ _ _ st ?_
       simp only [zbv,c1,zob,k0,zdf h0',znf,zct,c3,zao,List.getElem?_toArray,zgs,zgz,zai,znt,zcf,e7,zaz,l13,l14,hc15,List.append_nil,g1,e19]
       exact hy
      simp only
      cases hz:zbo k ((t::r).drop n) with
      | error o=>
        rw [hz] at next
        obtain ⟨st',row,d1,d2,d3,d4,d5,d6⟩:=next
        exact ⟨st',row,step _ d1,(K19.mono (zlr _) (fun j hj _=>by simp at hj ⊢;omega)).then d2,by rw [Nat.add_assoc] at d3;exact d3,d4,d5,d6⟩
      | ok qs=>
        rw [hz] at next
        obtain ⟨st',pv2,d1,d2,d3,d4,d5⟩:=next
        exact ⟨st',pv2,step _ d1,K19.then d2,d3,d4,by simpa using d5⟩
noncomputable def zdG (cf:zav) (lf:zah) (p':Value) (j2 lb:Nat) (s:SS):Option (Value×SS):=
 (cf 20 [p',.string ⟨#[46]⟩] s).bind fun a=>
  ((some a.1).bind asB).bind fun b=>
  cond b (
   (cf 21 [p'] a.2).bind fun c=>
   ((zao c.1 0).bind asS).bind fun d=>
   ((zao c.1 1).bind asB).bind fun e=>
   (c.2.st lb 2 [.string d]).bind fun f=>
   cond (!e) (
    (f.ldN lb 0 5).bind fun g=>
    (f.stV j2 0 5 g).bind fun h=>
    (h.rdN j2 0 5).bind fun i=>
    some (.tuple #[i,.bool false],h)) (
    (lf 11 [p',ptr j2 0,ptr lb 0] f).bind fun j=>
    cond (Nat.beq j.1 0) (
     (j.2.1[0]?).bind fun k=>
     (j.2.1[1]?).bind fun l=>
     (addr? l).bind fun m=>
     (j.2.2.ldN m.1 m.2 5).bind fun n=>
     (addr? k).bind fun o=>
     (j.2.2.stV o.1 o.2 5 n).bind fun p=>
     (addr? k).bind fun q=>
     (p.rdN q.1 q.2 5).bind fun r=>
     some (.tuple #[r,.bool true],p)) (
     (j.2.1[0]?).bind fun t=>
     ((j.2.1[1]?).bind asB).bind fun u=>
     (addr? t).bind fun v=>
     (j.2.2.rdN v.1 v.2 5).bind fun w=>
     some (.tuple #[w,.bool u],j.2.2)))) (
   (lf 17 [p',ptr j2 0,ptr lb 0] a.2).bind fun x=>
   cond (Nat.beq x.1 0) (
    (x.2.1[0]?).bind fun y=>
    (x.2.1[1]?).bind fun z=>
    (addr? z).bind fun A=>
    (x.2.2.ldN A.1 A.2 5).bind fun B=>
    (addr? y).bind fun C=>
    (x.2.2.stV C.1 C.2 5 B).bind fun D=>
    (addr? y).bind fun E=>
    (D.rdN E.1 E.2 5).bind fun F=>
    some (.tuple #[F,.bool true],D)) (
    (x.2.1[0]?).bind fun G=>
    ((x.2.1[1]?).bind asB).bind fun H=>
    (addr? G).bind fun I=>
    (x.2.2.rdN I.1 I.2 5).bind fun J=>
    some (.tuple #[J,.bool H],x.2.2)))
def zkn (ln:Nat) (x:PLine) (av pv:Value):Value:=.agg #[.int .i64 ln,.string (mkS x.lab),.string (mkS x.dir),av,pv]
def zey (B b:Nat) (v:Value) (us:List (Nat×Tok)) (i e ln:Nat) (st:SS) (r:Option (Value×SS)):Except Nat PLine→Prop
 | .ok x=>∃ st' av pv,r=some (.tuple #[zkn ln x av pv,.bool true],st')∧Keep B [b] st st'∧PAt st' b v us e∧Own B st' av (rowsF zaG x.args) 3 x.args.length∧Own B st' pv (rowsF zaX x.prs) 5 x.prs.length
 | .error o=>∃ (st':SS) (row:List Value),r=some (.tuple #[.agg row.toArray,.bool false],st')∧Keep B [b] st st'∧PAt st' b v us (i+o)∧row.length=5∧row.all one=true
theorem zko [Sym] {ln lb b j2 i B:Nat} {v:Value} {us:List (Nat×Tok)} {l:List Tok} {lab:List UInt8} {s:SS} (hBj:B≤j2) (hbB:b<B) (hjl:j2<lb) (hls:lb<s.next) (hsz:l.length≤1099511627776/8) (h:PAt s b v us i) (hl:LineAt us i ln l)
  (ha:At s lb [.int .i64 ln,.string (mkS lab),.string ⟨#[]⟩,.slice none 0 0,.slice none 0 0]) (hj2:∃ r2,At s j2 r2∧r2.length=5):
  zey B b v us i (i+(l.length-1)) ln s (zdG cc zar (ptr b 0) j2 lb s) (zci lab l):=by
 obtain ⟨t,r,rfl⟩:=hl.lin.ne
 have hb0:Nat.beq 0 0=true:=rfl
 have hb1:Nat.beq 1 0=false:=rfl
 have hBs:B≤s.next:=by omega
 have hbj:b<j2:=by omega
 obtain ⟨s23,c23,m23,p23⟩:=zfQ h hl.head [46]
 have c23':cc 20 [ptr b 0,.string ⟨#[46]⟩] s=some (.bool (zau t [46]),s23):=c23
 have a23:=ha.mod m23 (by simp;omega)
 have hj23:∃ r2,At s23 j2 r2∧r2.length=5:=by obtain ⟨r2,a,l2⟩:=hj2;exact ⟨r2,a.mod m23 (by simp;omega),l2⟩
 have K23:Keep B [b] s s23:=m23.keepB hBs
 have nx23:=m23.next
 rw [zcI]
 by_cases hs:zau t [46]=true
 ·rw [hs] at c23'
  rw [if_pos hs] at p23
  rw [if_pos hs]
  have hl1:=hl.tail (by have:=zbS hs;omega)
  obtain ⟨d,u,rfl⟩:=hl1.lin.ne
  obtain ⟨s25,c25,m25,p25⟩:=zkm p23 hl1.head
  have a25:=a23.mod m25 (by simp;omega)
  have hj25:∃ r2,At s25 j2 r2∧r2.length=5:=by obtain ⟨r2,a,l2⟩:=hj23;exact ⟨r2,a.mod m25 (by simp;omega),l2⟩
  have K25:=K23.thenM m25 (by omega)
  have nx25:=m25.next
  simp only
  by_cases hd:d.kd=1
  ·rw [if_pos hd,zdt hd] at c25
   rw [if_pos hd] at p25
   rw [if_pos hd]
   have hl2:=hl1.tail (by omega)
   obtain ⟨s28,e28,a28,m28,n28⟩:=a25.sto (k:=2) (vs:=[.string (mkS d.tx)]) (row':=[.int .i64 ln,.string (mkS lab),.string (mkS d.tx),.slice none 0 0,.slice none 0 0]) rfl rfl
   have hj28:∃ r2,At s28 j2 r2∧r2.length=5:=by obtain ⟨r2,a,l2⟩:=hj25;exact ⟨r2,a.mod m28 (by simp;omega),l2⟩
   have p28:=p25.modI m28 (by omega)
   have K28:=K25.thenI m28 (by omega) (.inl (by omega))
   have hloop:=zl1 (B:=s28.next) hbj hjl (by omega) ⟨rfl,rfl,rfl,rfl⟩ u.length (i+1+1) u [] (.slice none 0 0) s28 (zlr _) (by simp at hsz ⊢;omega) p28 hl2 a28 hj28 (zlr _) (Own.nil _ _ _)
   cases hx:zbo u.length u with
   | error o=>
     rw [hx] at hloop
     obtain ⟨s32,row,d1,d2,d3,d4,d5,d6⟩:=hloop
     have hr:=d4.rdN d5
     refine ⟨s32,row,?_,(K28.then (d2.mono (by omega) (fun j hj hlt=>by simp at hj ⊢;omega))),(by rw [show i+(2+o)=i+1+1+o by omega];exact d3),d5,d6⟩
     simp only [zdG,c23',zob,zai,zct,c25,zao,List.getElem?_toArray,zgs,zgz,zab,e28,znt,zcf,d1,hb1,zaz,hr]
   | ok vs=>
     rw [hx] at hloop
     obtain ⟨s32,av',d1,d2,d3,d4,d5⟩:=hloop
     obtain ⟨r2,a2,l2⟩:=hj28
     have a232:=a2.keepB d2 (by have:=a28.lt;omega) (by simp;omega)
     obtain ⟨s38,f1,f2,f3,f4,f5⟩:=zb4 (n:=5) a232 l2 d4 rfl (by simp only [List.all_cons,List.all_nil,d5.cell.2];rfl)
     have K32:Keep B [b] s s32:=K28.then (d2.mono (by omega) (fun j hj hlt=>by simp at hj ⊢;omega))
     have nx32:=d2.next
     refine ⟨s38,av',.slice none 0 0,?_,K32.thenI f4 (by omega) (.inl hBj),?_,((ziE (S:=[]) d5 f4 (.inl (by have:=a28.lt;omega))).low (by omega)),Own.nil _ _ _⟩
     ·simp only [zdG,c23',zob,zai,zct,c25,zao,List.getElem?_toArray,zgs,zgz,zab,e28,znt,zcf,d1,hb0,zaz,f1,f2,f3]
      rfl
     ·have e':i+1+1+(u.length-1)=i+((t::d::u).length-1):=by
       obtain ⟨z1,z2,rfl⟩:=hl2.lin.ne
       simp;omega
      rw [← e'];exact d3.modI f4 hbj
  ·rw [if_neg hd,zdf hd] at c25
   rw [if_neg hd] at p25
   rw [if_neg hd]
   obtain ⟨s28,e28,a28,m28,n28⟩:=a25.sto (k:=2) (vs:=[.string (mkS [])]) (row':=[.int .i64 ln,.string (mkS lab),.string (mkS []),.slice none 0 0,.slice none 0 0]) rfl rfl
   obtain ⟨r2,a2,l2⟩:=hj25
   have a228:=a2.mod m28 (by simp;omega)
   obtain ⟨s30,f1,f2,f3,f4,f5⟩:=zb4 (n:=5) a228 l2 a28 rfl rfl
   have K28:=K25.thenI m28 (by omega) (.inl (by omega))
   refine ⟨s30,[.int .i64 ln,.string (mkS lab),.string (mkS []),.slice none 0 0,.slice none 0 0],?_,K28.thenI f4 (by omega) (.inl hBj),(p25.modI m28 (by omega)).modI f4 hbj,rfl,rfl⟩
   simp only [zdG,c23',zob,zai,zct,c25,zao,List.getElem?_toArray,zgs,zgz,zab,e28,znf,f1,f2,f3]
 ·have hs':zau t [46]=false:=Bool.eq_false_iff.2 hs
  rw [hs'] at c23'
  rw [if_neg hs] at p23
  rw [if_neg hs]
  have hloop:=zk1 (B:=s23.next) hbj hjl (by omega) ⟨rfl,rfl,rfl,rfl⟩ (t::r).length i (t::r) [] (.slice none 0 0) s23 (zlr _) (by simp at hsz ⊢;omega) p23 hl a23 hj23 (zlr _) (Own.nil _ _ _)
  have hloop':zjG s23.next b lb j2 (.int .i64 ln) (.string (mkS lab)) (.string ⟨#[]⟩) (.slice none 0 0) v us i (i+((t::r).length-1)) [] s23 (zar 17 [ptr b 0,ptr j2 0,ptr lb 0] s23) (zbp (t::r).length [] (t::r)):=hloop
  cases hx:zbp (t::r).length [] (t::r) with
  | error o=>
    rw [hx] at hloop'
    obtain ⟨s32,row,d1,d2,d3,d4,d5,d6⟩:=hloop'
    have hr:=d4.rdN d5
    refine ⟨s32,row,?_,(K23.then (d2.mono (by omega) (fun j hj hlt=>by simp at hj ⊢;omega))),d3,d5,d6⟩
    simp only [zdG,c23',zob,zai,zcf,d1,hb1,zaz,hr,zgs,zgz]
  | ok ps=>
    rw [hx] at hloop'
    obtain ⟨s32,pv',d1,d2,d3,d4,d5⟩:=hloop'
    obtain ⟨r2,a2,l2⟩:=hj23
    have a232:=a2.keepB d2 (by have:=a23.lt;omega) (by simp;omega)
    obtain ⟨s38,f1,f2,f3,f4,f5⟩:=zb4 (n:=5) a232 l2 d4 rfl (by simp only [List.all_cons,List.all_nil,d5.cell.2];rfl)
    have K32:Keep B [b] s s32:=K23.then (d2.mono (by omega) (fun j hj hlt=>by simp at hj ⊢;omega))
    have nx32:=d2.next
    refine ⟨s38,.slice none 0 0,pv',?_,K32.thenI f4 (by omega) (.inl hBj),d3.modI f4 hbj,Own.nil _ _ _,((ziE (S:=[]) d5 f4 (.inl (by have:=a23.lt;omega))).low (by omega))⟩
    simp only [zdG,c23',zob,zai,zcf,d1,hb0,zct,zaz,f1,f2,f3,zgs,zgz]
    rfl
end Go.Proofs.YtifploedaacedaaDoorE
namespace Go.Proofs.YtifploedaacedaaDoorE
open Go Go.E Go.Proofs
theorem zey.to {B b i e ln:Nat} {v:Value} {us:List (Nat×Tok)} {st s:SS} {r r':Option (Value×SS)} {x:Except Nat PLine} (h:zey B b v us i e ln s r x) (K:Keep B [b] st s) (hr:∀ y,r=some y→r'=some y):zey B b v us i e ln st r' x:=by
 cases x with
 | ok x=>obtain ⟨st',av,pv,a,k,c⟩:=h;exact ⟨st',av,pv,hr _ a,K.then k,c⟩
 | error o=>obtain ⟨st',row,a,k,c⟩:=h;exact ⟨st',row,hr _ a,K.then k,c⟩
def offE (d:Nat):Except Nat PLine→Except Nat PLine
 | .error o=>.error (d+o)
 | .ok x=>.ok x
theorem zey.off {B b i d e ln:Nat} {v:Value} {us:List (Nat×Tok)} {s:SS} {r:Option (Value×SS)} {x:Except Nat PLine} (h:zey B b v us (i+d) e ln s r x):zey B b v us i e ln s r (offE d x):=by
 cases x with
 | ok x=>exact h
 | error o=>obtain ⟨st',row,a,k,c,dd⟩:=h;exact ⟨st',row,a,k,by rw [← Nat.add_assoc];exact c,dd⟩
abbrev L5:List Value:=[.int .i64 0,.string ⟨#[]⟩,.string ⟨#[]⟩,.slice none 0 0,.slice none 0 0]
theorem zgu (t:Tok):zau t [58]=(decide ((t.kd:Int)=3)&&decide (t.tx=[58])):=by
 unfold zau
 congr 1
 by_cases h:t.kd=3
 ·have:(t.kd:Int)=3:=by omega
  rw [zdt h,zdt this]
 ·have:¬ (t.kd:Int)=3:=by omega
  rw [zdf h,zdf this]
theorem zmN [Sym] {st:SS} {ln b i:Nat} {v:Value} {us:List (Nat×Tok)} {l:List Tok} (hsz:l.length≤1099511627776/8) (h:PAt st b v us i) (hl:LineAt us i ln l):
  zey st.next b v us i (i+(l.length-1)) ln st (cc 12 [ptr b 0] st) (readT l):=by
 obtain ⟨t,r,rfl⟩:=hl.lin.ne
 have hisz:=LineAt.sz h hl
 have hb:=h.blk.lt
 have a1:At (st.new (.cells L5 0)) st.next L5:=At.new h.ll L5
 have x1:Ext st (st.new (.cells L5 0)):=(Ext.refl st).new _
 obtain ⟨n1,hn1,c1⟩:=zbB (h.ext x1).has hl.head
 have hn1':st.next+1≤n1:=hn1
 obtain ⟨s5,e5,a5,x5,_⟩:=zh8 (st:=(st.new (.cells L5 0)).adv n1) (zlt h.ll (by simp;omega)) (r:=L5) (row:=[.int .i64 ln,.string (mkS []),.string ⟨#[]⟩,.slice none 0 0,.slice none 0 0]) rfl rfl
 have e5':(((st.new (.cells L5 0)).adv n1).new (.cells L5 0)).st ((st.new (.cells L5 0)).adv n1).next 0 [.int .i64 ln,.string ⟨#[]⟩,.string ⟨#[]⟩,.slice none 0 0,.slice none 0 0]=some s5:=e5
 have x05:Ext st s5:=x1.trans ((Ext.advR _ hn1).trans x5)
 have b5:=(a1.adv hn1).ext x5
 have p5:=h.ext x05
 have k3:=(zbK (ln:=ln) (t:=t)).2.2.1
 have k0:=(zbK (ln:=ln) (t:=t)).1
 have k1:=(zbK (ln:=ln) (t:=t)).2.1
 obtain ⟨u,hu,hread⟩:∃ u,us[if t.kd=0 then i else i+1]?=some (ln,u)∧((t.kd=1∧zau u [58]=true∧∃ r',r=u::r')∨(¬ (t.kd=1∧zau u [58]=true)∧readT (t::r)=zci [] (t::r))):=by
  by_cases h0:t.kd=0
  ·have hr:=hl.lin.last h0
   subst hr
   exact ⟨t,by rw [if_pos h0];exact hl.head,.inr ⟨fun x=>by omega,rfl⟩⟩
  ·have hl1:=hl.tail h0
   obtain ⟨u,r',rfl⟩:=hl1.lin.ne
   refine ⟨u,by rw [if_neg h0];exact hl1.head,?_⟩
   by_cases hc:t.kd=1∧zau u [58]=true
   ·exact .inl ⟨hc.1,hc.2,r',rfl⟩
   ·exact .inr ⟨hc,by rw [zdS,if_neg hc]⟩
 obtain ⟨n2,hn2,c2⟩:=znv p5.has hl.head hu
 obtain ⟨s8,e8,a8,x8,_⟩:=zbP (st:=s5.adv n2) (zlt (x05.ll h.ll) hn2) (r:=Z5) (zdp (zaM ln u)) (n:=5) rfl rfl rfl
 have x08:Ext st s8:=x05.trans ((Ext.advR _ hn2).trans x8)
 obtain ⟨n3,hn3,c3⟩:=zbB (h.ext x08).has hl.head
 have x58:Ext s5 (s8.adv n3):=((Ext.advR _ hn2).trans x8).trans (.advR _ hn3)
 have x09:Ext st (s8.adv n3):=x05.trans x58
 have p9:=h.ext x09
 have a9:=a5.ext x58
 have b9:=b5.ext x58
 have q9:=a8.ext (Ext.advR _ hn3)
 have l0:(s8.adv n3).ld (s5.adv n2).next 0=some (.int .i64 u.kd):=q9.ld
 have l1:(s8.adv n3).ld (s5.adv n2).next 1=some (.string (mkS u.tx)):=q9.ld
 have hlb:st.next<((st.new (.cells L5 0)).adv n1).next:=by simp;omega
 rcases hread with ⟨hk,hc,r',rfl⟩ | ⟨hc,hread⟩
 ·
  have hoff:readT (t::u::r')=offE 2 (zci t.tx r'):=by
   rw [zdS,if_pos ⟨hk,hc⟩]
   cases zci t.tx r'<;>rfl
  rw [hoff]
  rw [zgu,zae,decide_eq_true_eq,decide_eq_true_eq] at hc
  have hk':(t.kd:Int)=1:=by omega
  have hl2:=(hl.tail (by omega)).tail (by omega)
  obtain ⟨n4,hn4,c4⟩:=zbB p9.has hl.head
  have x010:Ext st ((s8.adv n3).adv n4):=x09.trans (.advR _ hn4)
  obtain ⟨s15,e15,a15,m15,_⟩:=(a9.adv hn4).sto (k:=1) (vs:=[.string (mkS t.tx)]) (row':=[.int .i64 ln,.string (mkS t.tx),.string ⟨#[]⟩,.slice none 0 0,.slice none 0 0]) rfl rfl
  have p15:=(h.ext x010).modI m15 (by omega)
  have b15:=(b9.adv hn4).mod m15 (by simp;omega)
  have M15:Mod [b] st s15:=(Mod.ofExt x010).thenI m15 (.inl (by omega))
  have l18:s15.ld b 1=some (.int .i64 i):=p15.blk.ld
  have hw:IntKind.wrap .i64 ((i:Int)+2)=((i+2:Nat):Int):=wrapI hisz (k:=2) (by omega)
  obtain ⟨s22,e22,p22,m22,n22⟩:=p15.move (i+2)
  have a22:=a15.mod m22 (by simp;omega)
  have b22:=b15.mod m22 (by simp;omega)
  have M22:=M15.then m22
  have ht:=zko (B:=st.next) (zlr _) hb hlb a22.lt (by simp at hsz ⊢;omega) p22 hl2 a22 ⟨_,b22,rfl⟩
  have hend:i+2+(r'.length-1)=i+((t::u::r').length-1):=by
   obtain ⟨z1,z2,rfl⟩:=hl2.lin.ne
   simp;omega
  rw [hend] at ht
  refine zey.to (zey.off (d:=2) ht) (M22.keepB (zlr _)) fun y hy=>?_
  refine zdg _ st ?_
  have hq:eqT (mkS u.tx) ⟨#[58]⟩=true:=by
   have:eqT (mkS u.tx) (mkS [58])=decide (u.tx=[58]):=zfi _ _
   rw [zdt hc.2] at this;exact this
  simp only [zbx,c1,zob,k3,e5',c2,e8,c3,k0,zdt hk',zct,l0,l1,zac,zab,zdt hc.1,hq,c4,k1,e15,za9,zaz,Nat.zero_add,l18,hw,e22]
  exact hy
 ·rw [hread]
  have ht:=zko (B:=st.next) (s:=s8.adv n3) (zlr _) hb hlb a9.lt hsz p9 hl a9 ⟨_,b9,rfl⟩
  refine zey.to ht (x09.keepB (zlr _)) fun y hy=>?_
  refine zdg _ st ?_
  by_cases hk:t.kd=1
  ·have hk':(t.kd:Int)=1:=by omega
   by_cases h3:(u.kd:Int)=3
   ·have hx:¬ u.tx=[58]:=fun e=>hc ⟨hk,by rw [zgu,zdt h3,zdt e];rfl⟩
    have hq:eqT (mkS u.tx) ⟨#[58]⟩=false:=by
     have:eqT (mkS u.tx) (mkS [58])=decide (u.tx=[58]):=zfi _ _
     rw [zdf hx] at this;exact this
    simp only [zbx,c1,zob,k3,e5',c2,e8,c3,k0,zdt hk',zct,l0,l1,zac,zab,zdt h3,hq,zcf]
    exact hy
   ·simp only [zbx,c1,zob,k3,e5',c2,e8,c3,k0,zdt hk',zct,l0,zac,zdf h3,zcf]
    exact hy
  ·have hk':¬ (t.kd:Int)=1:=by omega
   simp only [zbx,c1,zob,k3,e5',c2,e8,c3,k0,zdf hk',zcf]
   exact hy
theorem zl2 {lab:List UInt8} {l:List Tok} {x:PLine} (h:zci lab l=.ok x):x.lab=lab:=by
 cases l with
 | nil=>cases h
 | cons t r=>
   rw [zcI] at h
   repeat' (split at h)
   all_goals first
    | (cases h;done)
    | (cases h;rfl)
theorem zmO {k:Nat} {seen:List (List UInt8)} {t:Tok} {r:List Tok} {ps:List Pr} (hk:t.kd≠0) (h:zbp (k+1) seen (t::r)=.ok ps):ps≠[]:=by
 unfold zbp at h
 rw [if_neg hk] at h
 cases hx:pairT seen (t::r) with
 | error o=>rw [hx] at h;cases h
 | ok y=>
   obtain ⟨p,n⟩:=y
   rw [hx] at h
   simp only at h
   cases hz:zbp k (seen++[p.fd]) ((t::r).drop n) with
   | error o=>rw [hz] at h;cases h
   | ok qs=>rw [hz] at h;cases h;simp
theorem zl3 {l:List Tok} {x:PLine} (hl:Lin l) (hok:∀ t∈l,TokOk t) (h:readT l=.ok x):(x.lab≠[]∨x.dir≠[]∨x.prs≠[])↔1<l.length:=by
 obtain ⟨t,r,rfl⟩:=hl.ne
 cases r with
 | nil=>
   have h0:t.kd=0:=by
    rcases hl with h | h
    ·exact h.1
    ·exact h.2.elim
   have hs:zau t [46]=false:=by simp [zau,h0]
   have h':zci [] [t]=.ok x:=h
   rw [zcI,hs] at h'
   have e:zbp [t].length [] [t]=.ok []:=by
    show zbp 1 [] [t]=_
    unfold zbp
    rw [if_pos h0]
   rw [e] at h'
   cases h'
   simp
 | cons s r=>
   have hk:t.kd≠0:=by
    rcases hl with h | h
    ·exact absurd h.2 (by simp)
    ·exact h.1
   refine ⟨fun _=>by simp,fun _=>?_⟩
   rw [zdS] at h
   split at h
   ·rename_i hc
    cases hx:zci t.tx r with
    | error o=>rw [hx] at h;cases h
    | ok y=>
      rw [hx] at h;cases h
      left
      rw [zl2 hx]
      exact (hok t (List.mem_cons_self ..)).tx hc.1
   ·rw [zcI] at h
    split at h
    ·rename_i hs
     have hl1:=hl.tail hk
     simp only at h
     split at h
     ·rename_i hd
      split at h
      ·cases h
      ·cases h
       exact .inr (.inl ((hok s (by simp)).tx hd))
     ·cases h
    ·split at h
     ·cases h
     ·rename_i ps hp
      cases h
      exact .inr (.inr (zmO hk hp))
end Go.Proofs.YtifploedaacedaaDoorE
namespace Go.Proofs.YtifploedaacedaaDoorE
open Go Go.E Go.Proofs
def RdB (st:SS) (lo hi:Nat) (v:Value) (c:List Value) (z n:Nat):Prop:=Rd st v c z n∧∀ j k l q,v=.slice (some ⟨j,k,none⟩) l q→lo<j∧j<hi
theorem Own.rdB {B lo hi:Nat} {st:SS} {v:Value} {c:List Value} {z n:Nat} (h:Own B st v c z n) (hlo:lo<B) (hhi:st.next≤hi):RdB st lo hi v c z n:=by
 refine ⟨h.rd,fun j k l q hv=>?_⟩
 obtain ⟨_,⟨ev,_⟩ | ⟨i',ev,_,_,hbi,hi'⟩⟩:=h
 ·rw [ev] at hv;cases hv
 ·rw [ev] at hv;cases hv;omega
theorem RdB.go {st st':SS} {lo hi hi':Nat} {v:Value} {c:List Value} {z n:Nat} (h:RdB st lo hi v c z n) (hh:hi≤hi') (hn:st.next≤st'.next) (hk:∀ j,j<st.next→lo<j→j<hi→st'.mem.get j=st.mem.get j):RdB st' lo hi' v c z n:=by
 obtain ⟨⟨h1,h2⟩,h3⟩:=h
 refine ⟨⟨h1,h2.imp id ?_⟩,fun j k l q hv=>by have:=h3 j k l q hv;omega⟩
 rintro ⟨i,cap,e,⟨z',hm⟩,hi⟩
 have:=h3 i 0 n cap e
 exact ⟨i,cap,e,⟨z',(hk i hi this.1 this.2).trans hm⟩,zll hi hn⟩
abbrev Item:=PLine×Value×Value
def lnRow (x:Item):List Value:=[.int .i64 x.1.ln,.string (mkS x.1.lab),.string (mkS x.1.dir),x.2.1,x.2.2]
theorem zl4 (x:Item):(lnRow x).length=5:=rfl
def ItB (st:SS) (lo hi:Nat) (x:Item):Prop:=RdB st lo hi x.2.1 (rowsF zaG x.1.args) 3 x.1.args.length∧RdB st lo hi x.2.2 (rowsF zaX x.1.prs) 5 x.1.prs.length
structure Coll (st:SS) (lo m B:Nat) (v:Value) (its:List Item):Prop where
 own:Own B st v (rowsF lnRow its) 5 its.length
 blk:∀ j k l q,v=.slice (some ⟨j,k,none⟩) l q→m≤j
 it:∀ x∈its,ItB st lo m x
 lo:lo<B
 le:m≤st.next
def zez (st:SS) (v:Value) (xs:List PLine):Prop:=∃ its:List Item,its.map (·.1)=xs∧Rd st v (rowsF lnRow its) 5 its.length∧
 ∀ x∈its,Rd st x.2.1 (rowsF zaG x.1.args) 3 x.1.args.length∧Rd st x.2.2 (rowsF zaX x.1.prs) 5 x.1.prs.length
theorem zez.ext {st st':SS} {v:Value} {xs:List PLine} (h:zez st v xs) (x:Ext st st'):zez st' v xs:=by
 obtain ⟨its,a,b,c⟩:=h
 exact ⟨its,a,b.ext x,fun y hy=>⟨(c y hy).1.ext x,(c y hy).2.ext x⟩⟩
theorem Coll.lines {st:SS} {lo m B:Nat} {v:Value} {its:List Item} (h:Coll st lo m B v its):zez st v (its.map (·.1)):=⟨its,rfl,h.own.rd,fun x hx=>⟨(h.it x hx).1.1,(h.it x hx).2.1⟩⟩
theorem Coll.keep {st st':SS} {lo m B:Nat} {v:Value} {its:List Item} (h:Coll st lo m B v its) (k:Keep st.next [lo] st st'):Coll st' lo m B v its:=by
 refine ⟨?_,h.blk,fun x hx=>?_,h.lo,zlt h.le k.next⟩
 ·obtain ⟨h1,h2⟩:=h.own
  refine ⟨h1,h2.imp id ?_⟩
  rintro ⟨i,e,h0,hm,hb,hi⟩
  exact ⟨i,e,h0,(k.keep i hi (by have:=h.lo;simp;omega)).trans hm,hb,zll hi k.next⟩
 ·obtain ⟨h1,h2⟩:=h.it x hx
  exact ⟨h1.go (zlr _) k.next fun j hj h1 h2=>k.keep j hj (by simp;omega),h2.go (zlr _) k.next fun j hj h1 h2=>k.keep j hj (by simp;omega)⟩
theorem Coll.ext {st st':SS} {lo m B:Nat} {v:Value} {its:List Item} (h:Coll st lo m B v its) (x:Ext st st'):Coll st' lo m B v its:=h.keep (x.keepB (zlr _))
theorem Coll.push {st:SS} {lo m B:Nat} {v:Value} {its:List Item} (h:Coll st lo m B v its) (x:Item) (hB:B≤st.next) (hl:st.lim≤B) (hn:its.length≤1099511627776/8)
  (ho1:one x.2.1=true) (ho2:one x.2.2=true) (h1:RdB st lo st.next x.2.1 (rowsF zaG x.1.args) 3 x.1.args.length) (h2:RdB st lo st.next x.2.2 (rowsF zaX x.1.prs) 5 x.1.prs.length)
  (hne1:∀ j k l q k' l' q',v=.slice (some ⟨j,k,none⟩) l q→x.2.1≠.slice (some ⟨j,k',none⟩) l' q') (hne2:∀ j k l q k' l' q',v=.slice (some ⟨j,k,none⟩) l q→x.2.2≠.slice (some ⟨j,k',none⟩) l' q'):
  ∃ v' st',(st.new (.cells (lnRow x) 5)).app 5 88 v (.slice (some ⟨st.next,0,none⟩) 1 1)=some (v',st')∧Coll st' lo st.next B v' (its++[x])∧∀ S,Keep B S st st':=by
 obtain ⟨k,st',g1,gk,g2,g3,g4,g5⟩:=h.own.pushN hB hl (zl4 x) (by omega) (by simp only [lnRow,List.all_cons,List.all_nil,ho1,ho2];rfl) (bt:=88) (by omega) (by omega)
 have kept:∀ j,j<st.next→(∀ k l q,v≠.slice (some ⟨j,k,none⟩) l q)→st'.mem.get j=st.mem.get j:=fun j hj hv=>g5 j hj fun q=>hv 0 q q
 refine ⟨_,st',g1,⟨?_,?_,?_,h.lo,g4⟩,fun S=>⟨g4,g3,fun j hj _=>kept j (by omega) fun k l q hv=>?_⟩⟩
 ·rw [zev,zgt,List.length_append];exact g2
 ·intro j k' l q hv;cases hv;exact gk
 ·intro y hy
  rcases List.mem_append.1 hy with hy | hy
  ·obtain ⟨i1,i2⟩:=h.it y hy
   exact ⟨i1.go h.le g4 fun j hj _ hjm=>kept j hj fun k l q hv=>by have:=h.blk j k l q hv;omega,i2.go h.le g4 fun j hj _ hjm=>kept j hj fun k l q hv=>by have:=h.blk j k l q hv;omega⟩
  ·have:y=x:=by simpa using hy
   subst this
   refine ⟨?_,?_⟩
   ·obtain ⟨⟨c1,c2⟩,c3⟩:=h1
    refine ⟨⟨c1,c2.imp id ?_⟩,c3⟩
    rintro ⟨i,cap,e,⟨z',hm⟩,hi⟩
    exact ⟨i,cap,e,⟨z',(kept i hi fun k l q hv=>hne1 i k l q 0 _ cap hv e).trans hm⟩,zll hi g4⟩
   ·obtain ⟨⟨c1,c2⟩,c3⟩:=h2
    refine ⟨⟨c1,c2.imp id ?_⟩,c3⟩
    rintro ⟨i,cap,e,⟨z',hm⟩,hi⟩
    exact ⟨i,cap,e,⟨z',(kept i hi fun k l q hv=>hne2 i k l q 0 _ cap hv e).trans hm⟩,zll hi g4⟩
 ·obtain ⟨_,⟨ev,_⟩ | ⟨i',ev,_,_,hbi,hi'⟩⟩:=h.own
  ·rw [ev] at hv;cases hv
  ·rw [ev] at hv;cases hv;omega
theorem zl5 (k:Nat) (ts:List Tok) (r:List (List Tok)):flat k (ts::r)=ts.map (fun t=>(k+1,t))++flat (k+1) r:=rfl
theorem zl6 {us:List (Nat×Tok)} {i k:Nat} {ts:List Tok} {r:List (List Tok)} (h:us.drop i=flat k (ts::r)):us.drop (i+ts.length)=flat (k+1) r:=by
 rw [← List.drop_drop,h,zl5]
 rw [List.drop_append_of_le_length (by simp),List.drop_of_length_le (by simp),List.nil_append]
def zid (B lo b0:Nat) (st:SS) (its:List Item) (r:Option (Nat×List Value×SS)):Except (Nat×Nat) (List PLine)→Prop
 | .ok xs=>∃ v st' m its',r=some (0,[ptr b0 0,v],st')∧Keep B [lo] st st'∧its'.map (·.1)=its.map (·.1)++xs∧Coll st' lo m B v its'
 | .error e=>∃ st',r=some (1,[.slice none 0 0,ptr b0 0,.int .i64 4],st')∧Keep B [lo,b0] st st'∧At st' b0 [.int .i64 e.1,.int .i64 e.2]
theorem zid.to {B lo b0:Nat} {st s:SS} {its its':List Item} {x:PLine} {c:Bool} {r r':Option (Nat×List Value×SS)} {y:Except (Nat×Nat) (List PLine)} (h:zid B lo b0 s its' r y) (K:Keep B [lo] st s) (hr:∀ z,r=some z→r'=some z) (hi:its'.map (·.1)=its.map (·.1)++(if c=true then [x] else [])):
  zid B lo b0 st its r' (match y with
   | .error e=>.error e
   | .ok xs=>.ok (if c=true then x::xs else xs)):=by
 cases y with
 | error e=>
   obtain ⟨st',a,k,d⟩:=h
   exact ⟨st',hr _ a,(K.mono (zlr _) (fun j hj _=>by simp at hj ⊢;omega)).then k,d⟩
 | ok xs=>
   obtain ⟨v,st',m,its2,a,k,d,e⟩:=h
   refine ⟨v,st',m,its2,hr _ a,K.then k,?_,e⟩
   rw [d,hi]
   cases c<;>simp
theorem zk2 [Sym] {lo b0 B:Nat} {v:Value} {us:List (Nat×Tok)} (hb0:b0<lo) (hloB:lo<B) (hus:us.length≤1099511627776/64):∀ (tss:List (List Tok)) (i k m:Nat) (out:Value) (its:List Item) (st:SS),us.drop i=flat k tss→i≤us.length→(∀ ts∈tss,Lin ts∧∀ t∈ts,TokOk t)→
  PAt st lo v us i→Coll st lo m B out its→(∃ r,At st b0 r∧r.length=2)→B≤st.next→its.length≤i→
  zid B lo b0 st its (zbc 6 [ptr b0 0,v,ptr lo 0,out] st) (zb3 k tss):=by
 intro tss
 induction tss with
 | nil=>
   intro i k m out its st hd hi hok h hc ha hB hn
   have hil:i=us.length:=by
    have:us.drop i=[]:=hd
    rw [List.drop_eq_nil_iff] at this;omega
   have hlv:(lenV v).bind (asI .i64)=some (us.length:Int):=by rw [h.rd.len];rfl
   have l1:st.ld lo 1=some (.int .i64 i):=h.blk.ld
   have hlt:¬ (i:Int)<(us.length:Int):=by omega
   refine ⟨out,st,m,its,zbT _ v _ out st ?_,.refl _,by simp,hc⟩
   simp only [zbq,za9,zaz,zob,Nat.zero_add,l1,zac,hlv,zdf hlt,zcf]
 | cons ts r ih=>
   intro i k m out its st hd hi hok h hc ha hB hn
   obtain ⟨hlin,htok⟩:=hok ts (List.mem_cons_self ..)
   have hl:LineAt us i (k+1) ts:=⟨⟨flat (k+1) r,hd⟩,hlin,htok⟩
   have hlen:i+ts.length≤us.length:=by
    have:=congrArg List.length hd
    unfold flat at this
    simp at this
    omega
   have hpos:0<ts.length:=by obtain ⟨t,u,rfl⟩:=hlin.ne;simp
   have hlt:(i:Int)<(us.length:Int):=by omega
   have hlv:(lenV v).bind (asI .i64)=some (us.length:Int):=by rw [h.rd.len];rfl
   have l1:st.ld lo 1=some (.int .i64 i):=h.blk.ld
   have hline:=zmN (by omega) h hl
   have hlim:st.lim≤B:=by have:=h.blk.2.2;omega
   unfold zb3
   cases hx:readT ts with
   | error o=>
     rw [hx] at hline
     obtain ⟨s5,row,c5,K5,p5,hrow,hrow1⟩:=hline
     have hoff:=zlT ts hlin o hx
     obtain ⟨t,ht⟩:∃ t,ts[o]?=some t:=⟨_,zge hoff⟩
     have hu:us[i+o]?=some (k+1,t):=by
      obtain ⟨rest,hr⟩:=hl.drop
      have:=congrArg (·[o]?) hr
      simp only [List.getElem?_drop] at this
      rw [this,List.getElem?_append_left (by simp;omega),List.getElem?_map,ht]
      rfl
     obtain ⟨s9,e9,a9,x9,_⟩:=zbP (st:=s5) p5.ll (r:=L5) (zdp row) (n:=5) hrow hrow1 rfl
     have p9:=p5.ext x9
     obtain ⟨n1,hn1,c1⟩:=zbB p9.has hu
     have x1:Ext s9 (s9.adv n1):=.advR _ hn1
     obtain ⟨n2,hn2,c2⟩:=zbB (p9.ext x1).has hu
     have x2:Ext s9 ((s9.adv n1).adv n2):=x1.trans (.advR _ hn2)
     obtain ⟨ra,aa,hra⟩:=ha
     have aa2:=((aa.keepB K5 aa.lt (by simp;omega)).ext x9).ext x2
     obtain ⟨s15,e15,a15,m15,_⟩:=aa2.sto (k:=0) (vs:=[.int .i64 ((k+1:Nat):Int),.int .i64 t.col]) (row':=[.int .i64 ((k+1:Nat):Int),.int .i64 t.col]) rfl (by rw [zb7 (by simp;omega)];simp [hra])
     have k3:=(zbK (ln:=k+1) (t:=t)).2.2.1
     have k4:=(zbK (ln:=k+1) (t:=t)).2.2.2
     have hcol:zkV ts o=t.col:=by unfold zkV;rw [ht];rfl
     have K5':Keep B [lo,b0] st s5:=K5.mono hB (fun j hj _=>by simp at hj ⊢;omega)
     have nx5:B≤s5.next:=zlt hB K5'.next
     have nx9:B≤s9.next:=zlt nx5 x9.next
     refine ⟨s15,zbT _ v _ out st ?_,((K5'.thenX x9 nx5).thenX x2 nx9).thenI m15 (zlt nx9 x2.next) (.inr (by simp)),by rw [hcol];exact a15⟩
     simp only [zbq,za9,zaz,zob,Nat.zero_add,l1,zac,hlv,zdt hlt,zct,c5,zao,List.getElem?_toArray,zgs,zgz,zai,e9,znf,c1,k3,c2,k4,e15]
   | ok x=>
     rw [hx] at hline
     obtain ⟨s5,av,pv,c5,K5,p5,o1,o2⟩:=hline
     have hkept:=zl3 hlin htok hx
     obtain ⟨s9,e9,a9,x9,_⟩:=zbP (st:=s5) p5.ll (r:=L5) (zdp [.int .i64 ((k+1:Nat):Int),.string (mkS x.lab),.string (mkS x.dir),av,pv]) (n:=5) rfl (by simp only [List.all_cons,List.all_nil,o1.cell.2,o2.cell.2];rfl) rfl
     have e9':(s5.new (.cells L5 0)).stV s5.next 0 5 (zkn (k+1) x av pv)=some s9:=e9
     have p9:=p5.ext x9
     have hend:i+(ts.length-1)+1=i+ts.length:=by omega
     have l18:s9.ld lo 1=some (.int .i64 ((i+(ts.length-1):Nat):Int)):=p9.blk.ld
     have hw:IntKind.wrap .i64 (((i+(ts.length-1):Nat):Int)+1)=((i+ts.length:Nat):Int):=by rw [zew (by omega),hend]
     obtain ⟨s22,e22,p22,m22,n22⟩:=p9.move (i+ts.length)
     have hlo5:lo<s5.next:=p5.blk.lt
     have a22:=a9.mod m22 (by simp;omega)
     have K9:Keep st.next [lo] st s9:=K5.thenX x9 K5.next
     have K22:Keep st.next [lo] st s22:=K9.thenI m22 (zlt K5.next x9.next) (.inr (by simp))
     have hc22:=hc.keep K22
     have nx22:B≤s22.next:=zlt hB K22.next
     have ha22:∃ r,At s22 b0 r∧r.length=2:=by
      obtain ⟨ra,aa,hra⟩:=ha
      exact ⟨ra,aa.keepB K22 aa.lt (by simp;omega),hra⟩
     have hd':=zl6 hd
     have hok':∀ ts∈r,Lin ts∧∀ t∈ts,TokOk t:=fun q hq=>hok q (List.mem_cons_of_mem _ hq)
     have l23:s22.ld s5.next 1=some (.string (mkS x.lab)):=a22.ld
     have l28:s22.ld s5.next 2=some (.string (mkS x.dir)):=a22.ld
     have l33:s22.ld s5.next 4=some pv:=a22.ld
     have hq1:eqT (mkS x.lab) ⟨#[]⟩=decide (x.lab=[]):=ziB _
     have hq2:eqT (mkS x.dir) ⟨#[]⟩=decide (x.dir=[]):=ziB _
     have hlp:(lenV pv).bind (asI .i64)=some (x.prs.length:Int):=by rw [o2.len];rfl
     by_cases hkp:1<ts.length
     ·
      have w1:RdB s22 lo s22.next av (rowsF zaG x.args) 3 x.args.length:=by
       refine (Own.rdB o1 (lo:=lo) (hi:=s5.next) h.blk.lt (zlr _)).go (by have:=x9.next;omega) (by have:=x9.next;omega) fun j hj h1 _=>?_
       rw [m22.keep j (by have:=x9.next;omega) (by simp;omega),x9.keep j hj]
      have w2:RdB s22 lo s22.next pv (rowsF zaX x.prs) 5 x.prs.length:=by
       refine (Own.rdB o2 (lo:=lo) (hi:=s5.next) h.blk.lt (zlr _)).go (by have:=x9.next;omega) (by have:=x9.next;omega) fun j hj h1 _=>?_
       rw [m22.keep j (by have:=x9.next;omega) (by simp;omega),x9.keep j hj]
      have hnew:∀ w:Value,(∀ j k l q,w=.slice (some ⟨j,k,none⟩) l q→st.next≤j)→∀ j k l q k' l' q',out=.slice (some ⟨j,k,none⟩) l q→w≠.slice (some ⟨j,k',none⟩) l' q':=by
       intro w hw j k l q k' l' q' ho he
       have h1:=hw j k' l' q' he
       obtain ⟨_,⟨ev,_⟩ | ⟨i',ev,_,_,hbi,hi'⟩⟩:=hc.own
       ·rw [ev] at ho;cases ho
       ·rw [ev] at ho;cases ho;omega
      have hown:∀ {w:Value} {c:List Value} {z n:Nat},Own st.next s5 w c z n→∀ j k l q,w=.slice (some ⟨j,k,none⟩) l q→st.next≤j:=by
       intro w c z n ho j k l q hv
       obtain ⟨_,⟨ev,_⟩ | ⟨i',ev,_,_,hbi,hi'⟩⟩:=ho
       ·rw [ev] at hv;cases hv
       ·rw [ev] at hv;cases hv;exact hbi
      obtain ⟨out',s27,g1,g2,g3⟩:=hc22.push ({ x with ln:=k+1 },av,pv) nx22 (by rw [K22.lim];exact hlim) (by omega) o1.cell.2 o2.cell.2 w1 w2 (hnew av (hown o1)) (hnew pv (hown o2))
      have g1':(s22.new (.cells ([.int .i64 ((k+1:Nat):Int),.string (mkS x.lab),.string (mkS x.dir),av,pv]++[]) 5)).app 5 88 out (.slice (some ⟨s22.next,0,none⟩) 1 1)=some (out',s27):=g1
      have K27:Keep B [lo] st s27:=(K22.mono hB (fun _ hj _=>hj)).then (g3 _)
      have ha27:∃ r,At s27 b0 r∧r.length=2:=by
       obtain ⟨ra,aa,hra⟩:=ha22
       exact ⟨ra,aa.keepB (g3 []) (by omega) (by simp),hra⟩
      have next:=ih (i+ts.length) (k+1) s22.next out' (its++[({ x with ln:=k+1 },av,pv)]) s27 hd' (by omega) hok' (p22.keepB (g3 []) hloB (by simp)) g2 ha27 (zlt hB K27.next) (by simp;omega)
      have l24:s22.ldN s5.next 0 5=some (.agg [.int .i64 ((k+1:Nat):Int),.string (mkS x.lab),.string (mkS x.dir),av,pv].toArray):=a22.ldN rfl
      have hc25:zbe (.agg [.int .i64 ((k+1:Nat):Int),.string (mkS x.lab),.string (mkS x.dir),av,pv].toArray) 5=some [.int .i64 ((k+1:Nat):Int),.string (mkS x.lab),.string (mkS x.dir),av,pv]:=cells5 _ _ _ _ _
      have step:∀ z,zbc 6 [ptr b0 0,v,ptr lo 0,out'] s27=some z→zbc 6 [ptr b0 0,v,ptr lo 0,out] st=some z:=fun z hz=>by
       refine zbT _ v _ out st ?_
       by_cases h1:x.lab=[]
       ·by_cases h2:x.dir=[]
        ·have h3:x.prs≠[]:=by
          rcases hkept.2 hkp with h | h | h
          ·exact absurd h1 h
          ·exact absurd h2 h
          ·exact h
         have h4:(0:Int)<(x.prs.length:Int):=by
          have:=List.length_pos_iff.2 h3
          omega
         simp only [zbq,za9,zaz,zob,Nat.zero_add,l1,zac,hlv,zdt hlt,zct,c5,zao,List.getElem?_toArray,zgs,zgz,zai,e9',znt,zcf,l18,hw,e22,l23,zab,hq1,zdt h1,l28,hq2,zdt h2,l33,hlp,zdt h4,l24,hc25,g1']
         exact hz
        ·simp only [zbq,za9,zaz,zob,Nat.zero_add,l1,zac,hlv,zdt hlt,zct,c5,zao,List.getElem?_toArray,zgs,zgz,zai,e9',znt,zcf,l18,hw,e22,l23,zab,hq1,zdt h1,l28,hq2,zdf h2,znf,l24,hc25,g1']
         exact hz
       ·simp only [zbq,za9,zaz,zob,Nat.zero_add,l1,zac,hlv,zdt hlt,zct,c5,zao,List.getElem?_toArray,zgs,zgz,zai,e9',znt,zcf,l18,hw,e22,l23,zab,hq1,zdf h1,znf,l24,hc25,g1']
        exact hz
      simp only
      cases hy:zb3 (k+1) r with
      | error e=>
        rw [hy] at next
        obtain ⟨st',a,k',d⟩:=next
        exact ⟨st',step _ a,(K27.mono (zlr _) (fun j hj _=>by simp at hj ⊢;omega)).then k',d⟩
      | ok xs=>
        rw [hy] at next
        obtain ⟨v2,st',m',its2,a,k',d,e⟩:=next
        refine ⟨v2,st',m',its2,step _ a,K27.then k',?_,e⟩
        rw [d];simp [hkp]
     ·have hnone:¬ (x.lab≠[]∨x.dir≠[]∨x.prs≠[]):=fun hh=>hkp (hkept.1 hh)
      have h1:x.lab=[]:=Classical.byContradiction fun hh=>hnone (.inl hh)
      have h2:x.dir=[]:=Classical.byContradiction fun hh=>hnone (.inr (.inl hh))
      have h3:x.prs=[]:=Classical.byContradiction fun hh=>hnone (.inr (.inr hh))
      have h4:¬ (0:Int)<(x.prs.length:Int):=by rw [h3];simp
      have K22':Keep B [lo] st s22:=K22.mono hB (fun _ hj _=>hj)
      have next:=ih (i+ts.length) (k+1) m out its s22 hd' (by omega) hok' p22 hc22 ha22 nx22 (by omega)
      have step:∀ z,zbc 6 [ptr b0 0,v,ptr lo 0,out] s22=some z→zbc 6 [ptr b0 0,v,ptr lo 0,out] st=some z:=fun z hz=>by
       refine zbT _ v _ out st ?_
       simp only [zbq,za9,zaz,zob,Nat.zero_add,l1,zac,hlv,zdt hlt,zct,c5,zao,List.getElem?_toArray,zgs,zgz,zai,e9',znt,zcf,l18,hw,e22,l23,zab,hq1,zdt h1,l28,hq2,zdt h2,l33,hlp,zdf h4]
       exact hz
      simp only
      cases hy:zb3 (k+1) r with
      | error e=>
        rw [hy] at next
        obtain ⟨st',a,k',d⟩:=next
        exact ⟨st',step _ a,(K22'.mono (zlr _) (fun j hj _=>by simp at hj ⊢;omega)).then k',d⟩
      | ok xs=>
        rw [hy] at next
        obtain ⟨v2,st',m',its2,a,k',d,e⟩:=next
        refine ⟨v2,st',m',its2,step _ a,K22'.then k',?_,e⟩
        rw [d];simp [hkp]
def ParR (st:SS) (r:Option (Value×SS)):Except (Nat×Nat) (List PLine)→Prop
 | .ok xs=>∃ v st',r=some (.tuple #[v,zcv (0,0),.int .i64 0],st')∧Ext st st'∧zez st' v xs
 | .error e=>∃ st',r=some (.tuple #[.slice none 0 0,zcv e,.int .i64 4],st')∧Ext st st'
theorem zjH [Sym] {st:SS} (hg:Gd st) (hl:st.lim≤st.next) (s:ByteArray) (hs:s.size≤65536):ParR st (cc 8 [.string s] st) (zh6 (bl s)):=by
 have a1:At (st.new (.cells [.int .i64 0,.int .i64 0] 0)) st.next [.int .i64 0,.int .i64 0]:=At.new hl _
 have x1:Ext st (st.new (.cells [.int .i64 0,.int .i64 0] 0)):=(Ext.refl st).new _
 have hlex:=lex_ok (hg.ext x1) (x1.ll hl) s (by omega)
 have hlx:lexT (bl s)=match zc1 0 (pieces 10 (bl s)) with
  | .error e=>.error e
  | .ok tss=>.ok (flat 0 tss):=zkW _ _
 unfold zh6
 have hb0:Nat.beq 0 0=true:=rfl
 have hb1:Nat.beq 1 0=false:=rfl
 cases hy:zc1 0 (pieces 10 (bl s)) with
 | error e=>
   rw [hy] at hlx
   rw [hlx] at hlex
   obtain ⟨s2,c2,x2⟩:=hlex
   have c2':cc 11 [.string s] (st.new (.cells [.int .i64 0,.int .i64 0] 0))=some (.tuple #[.slice none 0 0,zcv e,.int .i64 4],s2):=c2
   obtain ⟨s7,e7,a7,x7,_⟩:=zbP (st:=s2) ((x1.trans x2).ll hl) (r:=[.int .i64 0,.int .i64 0]) (v:=zcv e) (row:=[.int .i64 e.1,.int .i64 e.2]) (n:=2) rfl rfl rfl rfl
   have a17:=(a1.ext x2).ext x7
   obtain ⟨s9,f1,f2,f3,f4,f5⟩:=zb4 (n:=2) a17 rfl a7 rfl rfl
   have h40:decide ((4:Int)=0)=false:=rfl
   refine ⟨s9,zdr s st ?_,((Mod.ofExt (S:=[st.next]) ((x1.trans x2).trans x7)).then f4).fresh (by simp)⟩
   simp only [zdq,c2',zob,zao,List.getElem?_toArray,zgs,zgz,zac,e7,h40,znf,zct,f1,f2,f3]
   rfl
 | ok tss=>
   rw [hy] at hlx
   have hlen:=zmJ _ _ hlx
   rw [zaV] at hlen
   have hlen2:(s.size+1)*(s.size+1)≤65537*65537:=Nat.mul_le_mul (by omega) (by omega)
   rw [hlx] at hlex
   obtain ⟨v,s2,c2,x2,o2⟩:=hlex
   have c2':cc 11 [.string s] (st.new (.cells [.int .i64 0,.int .i64 0] 0))=some (.tuple #[v,zcv (0,0),.int .i64 0],s2):=c2
   obtain ⟨s7,e7,a7,x7,_⟩:=zbP (st:=s2) ((x1.trans x2).ll hl) (r:=[.int .i64 0,.int .i64 0]) (v:=zcv (0,0)) (row:=[.int .i64 0,.int .i64 0]) (n:=2) rfl rfl rfl rfl
   have x07:=(x1.trans x2).trans x7
   have hc11:zbe v 1=some [v]:=by unfold zbe;obtain ⟨_,⟨rfl,_⟩ | ⟨i,rfl,_⟩⟩:=o2<;>rfl
   have hrow:(Value.agg ⟨spl [.slice none 0 0,.int .i64 0] 0 [v]⟩:Value).cells.toList=[v,.int .i64 0]:=by simp [spl,Value.cells]
   have ab:At (s7.new (.cells [v,.int .i64 0] 0)) s7.next [v,.int .i64 0]:=At.new (x07.ll hl) _
   have x12:Ext s7 (s7.new (.cells [v,.int .i64 0] 0)):=(Ext.refl s7).new _
   have hsn:st.next<s7.next:=by have:=x2.next;have:=x7.next;simp at*;omega
   have hp:PAt (s7.new (.cells [v,.int .i64 0] 0)) s7.next v (flat 0 tss) 0:=by
    refine ⟨ab,((o2.rd.ext x7).ext x12),fun j k l q hv=>?_,by omega,(x07.trans x12).ll hl⟩
    obtain ⟨_,⟨ev,_⟩ | ⟨i',ev,_,_,hbi,hi'⟩⟩:=o2
    ·rw [ev] at hv;cases hv
    ·rw [ev] at hv;cases hv
     have:=x7.next
     omega
   have hloop:=zk2 (lo:=s7.next) (b0:=st.next) (B:=s7.next+1) hsn (by omega) (by omega) tss 0 0 s7.next (.slice none 0 0) [] (s7.new (.cells [v,.int .i64 0] 0)) (by simp) (by omega) (zmM _ _ _ hy) hp
    ⟨Own.nil _ _ _,fun j k l q hv=>(by cases hv),fun x hx=>(by cases hx),by omega,by simp⟩ ⟨_,(((a1.ext x2).ext x7).ext x12),rfl⟩ (by simp) (by simp)
   show ParR st _ (zb3 0 tss)
   cases hz:zb3 0 tss with
   | error e=>
     rw [hz] at hloop
     obtain ⟨s13,d1,d2,d3⟩:=hloop
     have hr:=d3.rdN (n:=2) rfl
     have x13:Ext st s13:=((Mod.ofExt (S:=[s7.next,st.next]) (x07.trans x12)).then (d2.mod (by simp))).fresh (by simp;omega)
     refine ⟨s13,zdr s st ?_,x13⟩
     simp only [zdq,c2',zob,zao,List.getElem?_toArray,zgs,zgz,zac,e7,decide_true,znt,zcf,hc11,hrow,d1,hb1,zaz,hr]
     rfl
   | ok xs=>
     rw [hz] at hloop
     obtain ⟨w,s13,m,its,d1,d2,d3,d4⟩:=hloop
     have a13:=(((a1.ext x2).ext x7).ext x12).keepB d2 (by omega) (by simp;omega)
     obtain ⟨s17,e17,a17,m17,n17⟩:=a13.sto (k:=0) (vs:=[.int .i64 0,.int .i64 0]) (row':=[.int .i64 0,.int .i64 0]) rfl rfl
     have hr:=a17.rdN (n:=2) rfl
     have d4':Coll s17 s7.next m (s7.next+1) w its:=by
      refine ⟨ziE (S:=[]) d4.own m17 (.inl (by omega)),d4.blk,fun x hx=>?_,d4.lo,by rw [n17];exact d4.le⟩
      obtain ⟨i1,i2⟩:=d4.it x hx
      exact ⟨i1.go (zlr _) m17.next fun j hj h1 h2=>m17.keep j hj (by simp;omega),i2.go (zlr _) m17.next fun j hj h1 h2=>m17.keep j hj (by simp;omega)⟩
     have x17:Ext st s17:=(((Mod.ofExt (S:=[s7.next,st.next]) (x07.trans x12)).then ((d2.mod (by simp)).mono (by simp))).thenI m17 (.inr (by simp))).fresh (by simp;omega)
     refine ⟨w,s17,zdr s st ?_,x17,?_⟩
     ·simp only [zdq,c2',zob,zao,List.getElem?_toArray,zgs,zgz,zac,e7,decide_true,znt,zcf,hc11,hrow,d1,hb0,zct,zaz,e17,hr]
      rfl
     ·have:=d4'.lines
      rw [d3] at this
      simpa using this
end Go.Proofs.YtifploedaacedaaDoorE
namespace Go.Proofs.YtifploedaacedaaDoorE
open Go Go.E Go.Proofs
def zcs (B:Nat) (C:Nat→UInt8):Nat→Nat→List UInt8→List UInt8
 | 0,_,acc=>acc
 | f+1,k,acc=>if k=0∧acc≠[] then acc else zcs B C f (k/B) (C (k%B)::acc)
theorem zk3 (B:Nat) (C:Nat→UInt8) (hB:2≤B) (hC:∀ d,d<B→zdo (C d)=some d):∀ (f k:Nat) (acc:List UInt8),k<f→k≠0→(∀ n,n≤2147483647→∀ x,x∈acc→True)→
  zaZ B 0 (zcs B C f k acc)=if k≤2147483647 then zaZ B k acc else some none:=by
 intro f
 induction f with
 | zero=>intro k acc hk;omega
 | succ f ih=>
   intro k acc hk h0 _
   have hd:k%B<B:=Nat.mod_lt _ (by omega)
   have hkB:k/B*B+k%B=k:=by rw [Nat.mul_comm];exact Nat.div_add_mod k B
   have hlt:k/B<k:=Nat.div_lt_self (by omega) hB
   have step:∀ n,zaZ B n (C (k%B)::acc)=if 2147483647<n*B+k%B then some none else zaZ B (n*B+k%B) acc:=by
    intro n
    show (match zdo (C (k%B)) with
     | none=>none
     | some d=>if B≤d then none else if 2147483647<n*B+d then some none else zaZ B (n*B+d) acc)=_
    rw [hC _ hd]
    simp only [if_neg (Nat.not_le.2 hd)]
   unfold zcs
   rw [if_neg (fun h=>h0 h.1)]
   by_cases hz:k/B=0
   ·rw [hz]
    have e:zcs B C f 0 (C (k%B)::acc)=C (k%B)::acc:=by
     cases f with
     | zero=>rfl
     | succ f=>unfold zcs;rw [if_pos ⟨rfl,by simp⟩]
    rw [e,step 0]
    have:0*B+k%B=k:=by rw [← hz];exact hkB
    rw [this]
    by_cases hk2:k≤2147483647
    ·rw [if_neg (by omega),if_pos hk2]
    ·rw [if_pos (by omega),if_neg hk2]
   ·rw [ih (k/B) _ (by omega) hz (fun _ _ _ _=>trivial),step,hkB]
    by_cases hk2:k≤2147483647
    ·rw [if_pos (by omega),if_neg (by omega),if_pos hk2]
    ·rw [if_neg hk2]
     split
     ·rw [if_pos (by omega)]
     ·rfl
theorem zmP (B:Nat) (C:Nat→UInt8) (p:UInt8→Prop) (hB:0<B) (hC:∀ d,d<B→p (C d)):∀ (f k:Nat) (acc:List UInt8),(∀ x∈acc,p x)→∀ x∈zcs B C f k acc,p x:=by
 intro f
 induction f with
 | zero=>intro k acc h;exact h
 | succ f ih=>
   intro k acc h
   unfold zcs
   split
   ·exact h
   ·refine ih _ _ ?_
    intro x hx
    rcases List.mem_cons.1 hx with rfl | hx
    ·exact hC _ (Nat.mod_lt _ hB)
    ·exact h x hx
theorem znz (B:Nat) (C:Nat→UInt8):∀ (f k:Nat) (acc:List UInt8),acc≠[]→zcs B C f k acc≠[]:=by
 intro f
 induction f with
 | zero=>intro k acc h;exact h
 | succ f ih=>
   intro k acc h
   unfold zcs
   split
   ·exact h
   ·exact ih _ _ (by simp)
def zaL (B:Nat) (C:Nat→UInt8) (k:Nat):List UInt8:=zcs B C (k+2) k []
theorem ziF (B:Nat) (C:Nat→UInt8) (k:Nat):zaL B C k≠[]:=by
 unfold zaL zcs
 rw [if_neg (fun h=>h.2 rfl)]
 exact znz _ _ _ _ _ (by simp)
theorem zk4 (B:Nat) (C:Nat→UInt8) (hB:2≤B) (hC:∀ d,d<B→zdo (C d)=some d) (k:Nat):zaK B (zaL B C k)=if k≤2147483647 then some (some k) else some none:=by
 unfold zaK
 rw [if_neg (ziF B C k)]
 by_cases h0:k=0
 ·subst h0
  have:zaL B C 0=[C 0]:=by
   unfold zaL zcs
   rw [if_neg (fun h=>h.2 rfl)]
   simp [zcs]
  rw [this,if_pos (by omega)]
  show (match zdo (C 0) with
    | none=>none
    | some d=>if B≤d then none else if 2147483647<0*B+d then some none else zaZ B (0*B+d) [])=_
  rw [hC 0 (by omega)]
  simp only [if_neg (show ¬ B≤0 by omega)]
  simp [zaZ]
 ·unfold zaL
  rw [zk3 B C hB hC (k+2) k [] (by omega) h0 (fun _ _ _ _=>trivial)]
  rfl
def zaA (d:Nat):UInt8:=UInt8.ofNat (48+d)
theorem zmQ:∀ d,d<10→zdo (zaA d)=some d:=by decide
theorem zl7:∀ d,d<10→zbR (zaA d).toNat=true∧zbg (zaA d).toNat=false:=by decide
theorem zhv (k:Nat):∀ x∈zaL 10 zaA k,zbR x.toNat=true∧zbg x.toNat=false:=
 zmP 10 zaA (fun x=>zbR x.toNat=true∧zbg x.toNat=false) (by omega) zl7 (k+2) k [] (by simp)
theorem zmR (k:Nat) (hk:k≤2147483647):numO (zbX (zaL 10 zaA k))=some k:=by
 have hall:=zhv k
 have hhex:ziz (zaL 10 zaA k)=false:=by
  unfold ziz
  rw [Bool.eq_false_iff]
  intro hp
  rw [List.isPrefixOf_iff_prefix] at hp
  have:(120:UInt8)∈zaL 10 zaA k:=hp.subset (by simp)
  exact absurd (hall _ this).1 (by decide)
 unfold zbX
 rw [hhex,if_neg (by simp),zk4 10 zaA (by omega) zmQ k,if_pos hk]
 rfl
theorem zjI:∀ (f k j:Nat) (acc:List UInt8),k<10^j→acc≠[]∨0<j→(zcs 10 zaA f k acc).length≤acc.length+j
 | 0,k,j,acc,_,_=>by simp [zcs]
 | f+1,k,j,acc,h,hj=>by
   unfold zcs
   split
   ·omega
   ·rename_i hn
    cases j with
    | zero=>
      exfalso
      rcases hj with hj | hj
      ·exact hn ⟨by simpa using h,hj⟩
      ·omega
    | succ j=>
      have:=zjI f (k/10) j (zaA (k%10)::acc) (by rw [Nat.pow_succ] at h;omega) (.inl (by simp))
      simp only [List.length_cons] at this
      omega
theorem zeA {k:Nat} (h:k≤2147483647):(zaL 10 zaA k).length≤10:=by
 have:=zjI (k+2) k 10 [] (by omega) (.inr (by omega))
 simpa [zaL] using this
inductive Pc where
 | blank
 | word (w:List UInt8)
 | num (k:Nat)
 | sign (c:UInt8)
def pcB:Pc→List UInt8
 | .blank=>[32]
 | .word w=>w
 | .num k=>zaL 10 zaA k
 | .sign c=>[c]
def zaw (ps:List Pc):List UInt8:=ps.flatMap pcB
theorem zdu (p:Pc) (ps:List Pc):zaw (p::ps)=pcB p++zaw ps:=rfl
theorem zgv (a b:List Pc):zaw (a++b)=zaw a++zaw b:=List.flatMap_append
def isW (l:List UInt8):Bool:=l.all (fun x=>decide (97≤x.toNat)&&decide (x.toNat≤122))&&decide (0<l.length)&&decide (l.length≤24)
def nameP:Pc→Bool
 | .word _=>true
 | .num _=>true
 | _=>false
def pcOk:Pc→Prop
 | .blank=>True
 | .word w=>isW w=true
 | .num k=>k≤2147483647
 | .sign c=>c∈([58,61,46,43,45]:List UInt8)
def zgw:List Pc→Bool
 | []=>true
 | p::_=>!(nameP p)
def zgx:List Pc→Prop
 | []=>True
 | p::r=>pcOk p∧(nameP p=true→zgw r=true)∧zgx r
def zaQ:Nat→List Pc→List Tok
 | _,[]=>[]
 | col,.blank::r=>zaQ (col+1) r
 | col,.word w::r=>⟨1,w,0,col+1⟩::zaQ (col+w.length) r
 | col,.num k::r=>⟨2,zaL 10 zaA k,k,col+1⟩::zaQ (col+(zaL 10 zaA k).length) r
 | col,.sign c::r=>⟨3,[c],0,col+1⟩::zaQ (col+1) r
theorem zcJ {w:List UInt8}:isW w=true↔(∀ x∈w,97≤x.toNat∧x.toNat≤122)∧w≠[]∧w.length≤24:=by
 unfold isW
 simp only [zae,List.all_eq_true,decide_eq_true_eq,List.length_pos_iff,and_assoc]
theorem zmS {w:List UInt8} (h:isW w=true):∀ x∈w,nameB x=true∧zbg x.toNat=true:=fun x hx=>by
 have:=(zcJ.1 h).1 x hx
 have hl:zbg x.toNat=true:=by
  unfold zbg
  rw [zdt (by omega),zdt (by omega)]
  rfl
 exact ⟨by unfold nameB;rw [hl];rfl,hl⟩
theorem zjJ {a b:List UInt8} (h:∀ x∈a,nameB x=true) (hb:∀ x,b.head?=some x→nameB x=false):zaB (a++b)=a.length:=by
 induction a with
 | nil=>
   cases b with
   | nil=>rfl
   | cons x b=>
     rw [List.nil_append,zda,if_neg (by rw [hb x rfl];simp)];rfl
 | cons x a ih=>
   rw [List.cons_append,zda,if_pos (h x (by simp)),ih fun y hy=>h y (by simp [hy]),List.length_cons]
   omega
theorem zhd {ps:List Pc} (hs:zgx ps) (h:zgw ps=true):∀ x,(zaw ps).head?=some x→nameB x=false:=by
 intro x hx
 cases ps with
 | nil=>cases hx
 | cons p r=>
   obtain ⟨h1,_⟩:=hs
   rw [zdu] at hx
   cases p with
   | word w=>simp [zgw,nameP] at h
   | num k=>simp [zgw,nameP] at h
   | blank=>
     have:x=32:=by simpa [pcB] using hx.symm
     subst this;decide
   | sign c=>
     have:x=c:=by simpa [pcB] using hx.symm
     subst this
     have h1':x∈([58,61,46,43,45]:List UInt8):=h1
     simp only [List.mem_cons,List.not_mem_nil,or_false] at h1'
     rcases h1' with rfl | rfl | rfl | rfl | rfl<;>decide
theorem zl8 {w b:List UInt8} (h:isW w=true) (hb:∀ x,b.head?=some x→nameB x=false):stepT (w++b)=.tok 1 w.length 0:=by
 have hw:=zmS h
 obtain ⟨h1,h2,h3⟩:=zcJ.1 h
 have hr:=zjJ (fun x hx=>(hw x hx).1) hb
 cases w with
 | nil=>exact absurd rfl h2
 | cons c w=>
   have hc:=h1 c (by simp)
   rw [List.cons_append] at hr ⊢
   rw [zfL rfl,if_neg (by omega),if_neg (by omega),if_pos (hw c (by simp)).2,hr,if_neg (by omega)]
theorem zmT {k:Nat} {b:List UInt8} (hk:k≤2147483647) (hb:∀ x,b.head?=some x→nameB x=false):stepT (zaL 10 zaA k++b)=.tok 2 (zaL 10 zaA k).length k:=by
 have hw:=zhv k
 have hr:=zjJ (a:=zaL 10 zaA k) (b:=b) (fun x hx=>by unfold nameB;rw [(hw x hx).1];simp) hb
 have hn:=zmR k hk
 cases hc:zaL 10 zaA k with
 | nil=>exact absurd hc (ziF _ _ _)
 | cons c w=>
   rw [hc] at hw hr hn
   have h1:=hw c (by simp)
   have hd:=h1.1
   unfold zbR at hd
   simp only [zae,decide_eq_true_eq] at hd
   rw [List.cons_append] at hr ⊢
   have ht:(c::(w++b)).take (c::w).length=c::w:=by
    rw [← List.cons_append];exact List.take_left
   rw [zfL rfl,if_neg (by omega),if_neg (by omega),h1.2,if_neg (by simp),if_pos h1.1,hr,ht,hn]
theorem zl9 {c:UInt8} {b:List UInt8} (h:c∈([58,61,46,43,45]:List UInt8)):stepT (c::b)=.tok 3 1 0:=by
 have key:¬ (c.toNat:Int)=59∧¬ ((c.toNat:Int)=32∨(c.toNat:Int)=9∨(c.toNat:Int)=13)∧zbg c.toNat=false∧zbR c.toNat=false∧zh2 c=true:=by
  simp only [List.mem_cons,List.not_mem_nil,or_false] at h
  rcases h with rfl | rfl | rfl | rfl | rfl<;>decide
 obtain ⟨h1,h2,h3,h4,h5⟩:=key
 rw [zfL rfl,if_neg h1,if_neg h2,h3,if_neg (by simp),h4,if_neg (by simp),if_pos h5]
theorem zmU (k col:Nat):zbL k col []=.ok []:=by
 cases k with
 | zero=>rfl
 | succ k=>rfl
theorem zma (k col:Nat) (l:List UInt8):zbL (k+1) col l=match stepT l with
  | .stop=>.ok []
  | .blank=>zbL k (col+1) (l.drop 1)
  | .tok kd n x=>zgL ⟨kd,l.take n,x,col+1⟩ (zbL k (col+n) (l.drop n))
  | .bad=>.error (col+1):=rfl
theorem zhw {k col kd n:Nat} {x:Int} {a b:List UInt8} (h:stepT (a++b)=.tok kd n x) (hn:n=a.length):zbL (k+1) col (a++b)=zgL ⟨kd,a,x,col+1⟩ (zbL k (col+a.length) b):=by
 subst hn
 rw [zma,h]
 show zgL ⟨kd,(a++b).take a.length,x,col+1⟩ (zbL k (col+a.length) ((a++b).drop a.length))=_
 rw [List.take_left,List.drop_left]
theorem znA {p:Pc} (h:pcOk p):0<(pcB p).length:=by
 cases p with
 | blank=>show 0<1;omega
 | word w=>exact List.length_pos_iff.2 (zcJ.1 h).2.1
 | num k=>exact List.length_pos_iff.2 (ziF _ _ _)
 | sign c=>show 0<1;omega
theorem zjK:∀ (ps:List Pc) (k col:Nat),zgx ps→(zaw ps).length≤k→zbL k col (zaw ps)=.ok (zaQ col ps)
 | [],k,col,_,_=>zmU k col
 | p::r,k,col,hs,hk=>by
   obtain ⟨h1,h2,h3⟩:=hs
   have hp:=znA h1
   rw [zdu,List.length_append] at hk
   obtain ⟨k,rfl⟩:∃ j,k=j+1:=⟨k-1,by omega⟩
   have ih:=fun c=>zjK r k c h3 (by omega)
   rw [zdu]
   cases p with
   | blank=>exact ih (col+1)
   | word w=>
     rw [show pcB (.word w)=w from rfl,zhw (zl8 h1 (zhd h3 (h2 rfl))) rfl,ih];rfl
   | num n=>
     rw [show pcB (.num n)=zaL 10 zaA n from rfl,zhw (zmT h1 (zhd h3 (h2 rfl))) rfl,ih];rfl
   | sign c=>
     rw [show pcB (.sign c)=[c] from rfl,zhw (kd:=3) (x:=0) (n:=1) (zl9 h1) rfl,ih];rfl
theorem zmb {ps:List Pc} (hs:zgx ps):zch (zaw ps)=.ok (zaQ 0 ps++[zcr (zaw ps)]):=by
 unfold zch
 rw [zjK ps _ 0 hs (zlr _)]
theorem zjL:∀ {ps:List Pc},zgx ps→(10:UInt8)∉zaw ps
 | [],_=>by simp [zaw]
 | p::r,⟨h1,_,h3⟩=>by
   rw [zdu,List.mem_append,not_or]
   refine ⟨?_,zjL h3⟩
   cases p with
   | blank=>decide
   | word w=>
     intro hm
     have:=(zcJ.1 h1).1 10 hm
     exact absurd this.1 (by decide)
   | num k=>
     intro hm
     have:=(zhv k 10 hm).1
     exact absurd this (by decide)
   | sign c=>
     have h1':c∈([58,61,46,43,45]:List UInt8):=h1
     simp only [List.mem_cons,List.not_mem_nil,or_false] at h1'
     rcases h1' with rfl | rfl | rfl | rfl | rfl<;>decide
theorem zmV {c:UInt8} {l:List UInt8} (h:c∉l):pieces c l=[l]:=by
 induction l with
 | nil=>rfl
 | cons x l ih=>
   simp only [List.mem_cons,not_or] at h
   unfold pieces
   rw [if_neg (fun e=>h.1 e.symm),ih h.2]
theorem zmc {ps:List Pc} (hs:zgx ps) {x:PLine} (hr:readT (zaQ 0 ps++[zcr (zaw ps)])=.ok x) (hn:zaQ 0 ps≠[]):zh6 (zaw ps)=.ok [{ x with ln:=1 }]:=by
 have h1:zc1 0 (pieces 10 (zaw ps))=.ok [zaQ 0 ps++[zcr (zaw ps)]]:=by
  rw [zmV (zjL hs)]
  unfold zc1
  rw [zmb hs]
  rfl
 unfold zh6
 rw [h1]
 show zb3 0 [zaQ 0 ps++[zcr (zaw ps)]]=_
 unfold zb3
 rw [hr]
 have h2:1<(zaQ 0 ps++[zcr (zaw ps)]).length:=by
  have:=List.length_pos_iff.2 hn
  rw [List.length_append]
  simp;omega
 simp only [zb3,if_pos h2]
theorem zcB:∀ (a b:List Pc) (col:Nat),zaQ col (a++b)=zaQ col a++zaQ (col+(zaw a).length) b
 | [],b,col=>rfl
 | p::a,b,col=>by
   rw [List.cons_append,zdu,List.length_append]
   cases p with
   | blank=>
     show zaQ (col+1) (a++b)=zaQ (col+1) a++_
     rw [zcB a b,Nat.add_assoc];rfl
   | word w=>
     show _::zaQ _ (a++b)=(_::zaQ _ a)++_
     rw [zcB a b,Nat.add_assoc];rfl
   | num k=>
     show _::zaQ _ (a++b)=(_::zaQ _ a)++_
     rw [zcB a b,Nat.add_assoc];rfl
   | sign c=>
     show _::zaQ _ (a++b)=(_::zaQ _ a)++_
     rw [zcB a b,Nat.add_assoc];rfl
def zba (x:List UInt8×Int):List Pc:=.blank::(if x.1=[] then [.num x.2.toNat] else if x.2<0 then [.word x.1,.sign 45,.num (-x.2).toNat] else [.word x.1,.blank,.sign 43,.blank,.num x.2.toNat])
def vlV (v:Val):List UInt8×Int:=(v.nm,v.x)
theorem zi2 (e:Tok) (he:e.kd=0):∀ (l:List (List UInt8×Int)) (k col:Nat),l.length≤k→(∀ x∈l,x.1=[]→0≤x.2)→
  ∃ vs,zbo k (zaQ col (l.flatMap zba)++[e])=.ok vs∧vs.map vlV=l
 | [],k,col,_,_=>⟨[],by
   cases k with
   | zero=>rfl
   | succ k=>
     show zbo (k+1) [e]=_
     unfold zbo
     rw [if_pos he],rfl⟩
 | x::l,k,col,hk,hx=>by
   rw [List.length_cons] at hk
   obtain ⟨k,rfl⟩:∃ j,k=j+1:=⟨k-1,by omega⟩
   have ih:=fun c=>zi2 e he l k c (by omega) fun y hy=>hx y (by simp [hy])
   have hx0:=hx x (by simp)
   obtain ⟨n,m⟩:=x
   simp only at hx0
   rw [List.flatMap_cons]
   by_cases h1:n=[]
   ·subst h1
    have hv:zba ([],m)=[.blank,.num m.toNat]:=by simp [zba]
    rw [hv]
    obtain ⟨vs,a,b⟩:=ih (col+1+(zaL 10 zaA m.toNat).length)
    refine ⟨⟨[],m.toNat,col+1+1⟩::vs,?_,by rw [List.map_cons,b];simp only [vlV,Int.toNat_of_nonneg (hx0 rfl)]⟩
    show zbo (k+1) (⟨2,zaL 10 zaA m.toNat,m.toNat,col+1+1⟩::(zaQ (col+1+(zaL 10 zaA m.toNat).length) (l.flatMap zba)++[e]))=_
    unfold zbo
    rw [if_neg (by show ¬ (2:Nat)=0;omega)]
    show (match zbo k (zaQ _ (l.flatMap zba)++[e]) with
     | .error o=>.error _
     | .ok vs=>.ok (_::vs):Except Nat (List Val))=_
    rw [a]
   by_cases h2:m<0
   ·have hv:zba (n,m)=[.blank,.word n,.sign 45,.num (-m).toNat]:=by simp [zba,h1,h2]
    rw [hv]
    obtain ⟨vs,a,b⟩:=ih (col+1+n.length+1+(zaL 10 zaA (-m).toNat).length)
    refine ⟨⟨n, -((-m).toNat:Int),col+1+1⟩::vs,?_,by
     rw [List.map_cons,b]
     have: -((-m).toNat:Int)=m:=by omega
     simp only [vlV,this]⟩
    show zbo (k+1) (⟨1,n,0,col+1+1⟩::⟨3,[45],0,col+1+n.length+1⟩::⟨2,zaL 10 zaA (-m).toNat,(-m).toNat,col+1+n.length+1+1⟩::(zaQ (col+1+n.length+1+(zaL 10 zaA (-m).toNat).length) (l.flatMap zba)++[e]))=_
    unfold zbo
    rw [if_neg (by show ¬ (1:Nat)=0;omega)]
    show (match zbo k (zaQ _ (l.flatMap zba)++[e]) with
     | .error o=>.error _
     | .ok vs=>.ok (_::vs):Except Nat (List Val))=_
    rw [a]
   ·have hv:zba (n,m)=[.blank,.word n,.blank,.sign 43,.blank,.num m.toNat]:=by simp [zba,h1,h2]
    rw [hv]
    obtain ⟨vs,a,b⟩:=ih (col+1+n.length+1+1+1+(zaL 10 zaA m.toNat).length)
    refine ⟨⟨n,m.toNat,col+1+1⟩::vs,?_,by
     rw [List.map_cons,b]
     have:(m.toNat:Int)=m:=by omega
     simp only [vlV,this]⟩
    show zbo (k+1) (⟨1,n,0,col+1+1⟩::⟨3,[43],0,col+1+n.length+1+1⟩::⟨2,zaL 10 zaA m.toNat,m.toNat,col+1+n.length+1+1+1+1⟩::(zaQ (col+1+n.length+1+1+1+(zaL 10 zaA m.toNat).length) (l.flatMap zba)++[e]))=_
    unfold zbo
    rw [if_neg (by show ¬ (1:Nat)=0;omega)]
    show (match zbo k (zaQ _ (l.flatMap zba)++[e]) with
     | .error o=>.error _
     | .ok vs=>.ok (_::vs):Except Nat (List Val))=_
    rw [a]
end Go.Proofs.YtifploedaacedaaDoorE
namespace Go.E
open Go
def Rg (st:SS) (v:Value) (c:List Value) (z n:Nat):Prop:=
 c.length=n*z∧((v=.slice none 0 0∧n=0)∨∃ i cap C,v=.slice (some ⟨i,0,none⟩) n cap∧n≤cap∧i<st.next∧C.take (n*z)=c∧((∃ z',(z'=z∨z'=0)∧st.mem.get i=some (.cells C z'))∨st.mem.get i=some (.table C)))
section
variable {S : List Nat} {st st' : SS} {v : Value} {c : List Value} {z n B : Nat}
theorem Rg.len (h:Rg st v c z n):lenV v=some (.int .i64 (n:Int)):=by
 obtain ⟨_,⟨rfl,rfl⟩ | ⟨i,cap,C,rfl,_⟩⟩:=h<;>rfl
theorem Rg.lenI (h:Rg st v c z n):(lenV v).bind (asI .i64)=some (n:Int):=by rw [h.len];rfl
theorem Rg.sl (h:Rg st v c z n):sliceLen v=some (n:Int):=by
 obtain ⟨_,⟨rfl,rfl⟩ | ⟨i,cap,C,rfl,_⟩⟩:=h<;>rfl
theorem Rg.cell (h:Rg st v c z n):v.cells.toList=[v]∧one v=true:=by
 obtain ⟨_,⟨rfl,rfl⟩ | ⟨i,cap,C,rfl,_⟩⟩:=h<;>exact ⟨rfl,rfl⟩
theorem Own.rg (h:Own B st v c z n):Rg st v c z n:=by
 obtain ⟨h1,h2⟩:=h
 refine ⟨h1,h2.imp id ?_⟩
 rintro ⟨i,e,h0,hm,hb,hi⟩
 exact ⟨i,n,c,e,zlr _,hi,by rw [← h1,List.take_length],.inl ⟨z,.inl rfl,hm⟩⟩
theorem Rg.keep (h:Rg st v c z n) (hn:st.next≤st'.next) (hk:∀ i l cap,v=.slice (some ⟨i,0,none⟩) l cap→i<st.next→st'.mem.get i=st.mem.get i):Rg st' v c z n:=by
 obtain ⟨h1,h2⟩:=h
 refine ⟨h1,h2.imp id ?_⟩
 rintro ⟨i,cap,C,e,hc,hi,ht,hm⟩
 rw [← hk i _ _ e hi] at hm
 exact ⟨i,cap,C,e,hc,zll hi hn,ht,hm⟩
theorem Rg.ext (h:Rg st v c z n) (he:Ext st st'):Rg st' v c z n:=h.keep he.next fun i l cap e hi=>he.keep i hi
theorem Rg.mod (h:Rg st v c z n) (m:Mod S st st') (hv:∀ i l cap,v=.slice (some ⟨i,0,none⟩) l cap→i∉S):Rg st' v c z n:=h.keep m.next fun i l cap e hi=>m.keep i hi (hv i l cap e)
theorem zmW {C c:List Value} {n k z:Nat} (h:C.take n=c) (hk:k+z≤c.length):cut C k z=some ((c.drop k).take z):=by
 subst h
 rw [List.length_take] at hk
 refine zlE ?_ ?_
 ·rw [List.drop_take,List.take_take,Nat.min_eq_left (by omega)]
 ·simp;omega
theorem Rg.load (h:Rg st v c z n) {j:Int} (h0:0≤j) (h1:j<n) {row:List Value} (hr:(c.drop (j.toNat*z)).take z=row) (hz:row.length=z):
  ∃ p,zaD v j z=some p∧st.ldN p.1 p.2 z=some (.agg row.toArray)∧∀ k x,row[k]?=some x→st.ld p.1 (p.2+k)=some x:=by
 obtain ⟨hc,⟨rfl,rfl⟩ | ⟨i,cap,C,rfl,hcap,hi,ht,hm⟩⟩:=h
 ·omega
 have hb:j.toNat*z+z≤c.length:=by
  have h2:j.toNat+1≤n:=by omega
  have h3:=Nat.mul_le_mul_right z h2
  rw [Nat.add_mul,Nat.one_mul] at h3
  omega
 have e0:zaD (.slice (some ⟨i,0,none⟩) n cap) j z=some (i,0+j.toNat*z):=by
  unfold zaD
  simp only [zdt h0,zdt h1,Bool.and_self,zct]
 have hcut:=zmW (k:=j.toNat*z) (z:=z) ht hb
 rw [hr] at hcut
 have hget:∀ k x,row[k]?=some x→C[j.toNat*z+k]?=some x:=fun k x hx=>by
  rw [← hr,List.getElem?_take] at hx
  split at hx
  ·rw [List.getElem?_drop,← ht,List.getElem?_take] at hx
   split at hx
   ·exact hx
   ·cases hx
  ·cases hx
 refine ⟨_,e0,?_,fun k x hx=>?_⟩
 ·simp only [Nat.zero_add]
  rcases hm with ⟨z',_,hm⟩ | hm
  ·rw [SS.ldN_cells hm,hcut];rfl
  ·rw [SS.ldN_table hm,hcut];rfl
 ·simp only [Nat.zero_add]
  rcases hm with ⟨z',_,hm⟩ | hm
  ·rw [SS.ld_cells hm];exact hget k x hx
  ·rw [SS.ld_table hm];exact hget k x hx
theorem Rg.resl (h:Rg st v c z n) {m:Nat} (hm:m≤n):∃ v',st.resl v z 0 (m:Int)=some v'∧Rg st v' (c.take (m*z)) z m:=by
 obtain ⟨hc,⟨rfl,rfl⟩ | ⟨i,cap,C,rfl,hcap,hi,ht,hmm⟩⟩:=h
 ·have:m=0:=by omega
  subst this
  exact ⟨.slice none 0 0,rfl,by simp,.inl ⟨rfl,rfl⟩⟩
 have h1:decide ((m:Int)≤(cap:Int))=true:=zdt (by omega)
 have h2:decide ((0:Int)≤(m:Int))=true:=zdt (by omega)
 have h4:cond (Nat.beq cap 0) 0 (0+0*z)=0:=by cases Nat.beq cap 0<;>simp
 have hle:m*z≤n*z:=Nat.mul_le_mul_right z hm
 have hres:st.resl (.slice (some ⟨i,0,none⟩) n cap) z 0 (m:Int)=some (.slice (some ⟨i,0,none⟩) m cap):=by
  unfold SS.resl
  rcases hmm with ⟨z',hz',hmm⟩ | hmm
  ·have hq:(Nat.beq z' z||Nat.beq z' 0)=true:=by
    simp only [Bool.or_eq_true,zan,decide_eq_true_eq];exact hz'
   simp only [hmm,zob,hq,h1,h2,zct,Int.toNat_zero,h4,Int.toNat_natCast,Nat.sub_zero,Int.le_refl,decide_true,Bool.and_self]
  ·simp only [hmm,zob,h1,h2,zct,Int.toNat_zero,h4,Int.toNat_natCast,Nat.sub_zero,Int.le_refl,decide_true,Bool.and_self]
 exact ⟨_,hres,by rw [List.length_take];omega,.inr ⟨i,cap,C,rfl,by omega,hi,by rw [← ht,List.take_take,Nat.min_eq_left hle],hmm⟩⟩
theorem Tv.rg {α:Type} {f:α→List Value} {l:List α} {id:Nat} (hz:∀ x,(f x).length=z) (h:Tv id l.length v) (hm:st.mem.get id=some (.table (l.flatMap f))) (hi:id<st.next):Rg st v (rowsF f l) z l.length:=by
 have e:=zlU (f:=f) (z:=z) hz l
 refine ⟨e,h.imp (fun h=>h) fun ⟨cap,h1,h2,_⟩=>⟨_,cap,l.flatMap f,h1,h2,hi,?_,.inr hm⟩⟩
 have e':(l.flatMap f).length=l.length*z:=e
 rw [← e',List.take_length];rfl
end
end Go.E
