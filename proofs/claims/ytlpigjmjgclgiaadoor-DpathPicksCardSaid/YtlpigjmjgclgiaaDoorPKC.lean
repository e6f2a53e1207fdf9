/- Parts of the proof of DpathPicks, packed by a program: an evaluator over the given code, functions as plain texts, their laws. -/
import Derived.KernelRfl
import Derived.Test.YtlpigjmjgclgiaaDoorPKB
set_option linter.unusedVariables false
set_option linter.unusedSimpArgs false
namespace Go.E
open Go
def PT.vals {α:Type}:PT α→(Nat→Nat)→List (Nat×α)
 | .nil,_=>[]
 | .node l v r,f=>(match v with | some x=>[(f 0,x)] | none=>[])++(l.vals (fun k=>f (2*k+1))++r.vals (fun k=>f (2*k+2)))
theorem PT.all_vals {α:Type} {p:Nat→α→Prop}:∀ (t:PT α) (f:Nat→Nat),(∀ x∈t.vals f,p x.1 x.2)→t.All p f
 | .nil,_,_=>trivial
 | .node l v r,f,h=>⟨fun x hx=>by
   subst hx
   exact h (f 0,x) (by simp [PT.vals]),PT.all_vals l _ fun x hx=>h x (by simp [PT.vals,hx]),PT.all_vals r _ fun x hx=>h x (by simp [PT.vals,hx])⟩
theorem PT.all_map {α β:Type} {p:Nat→α→Prop} {g h:Nat×α→β} {t:PT α} (hp:∀ x:Nat×α,g x=h x→p x.1 x.2) (e:(t.vals fun k=>k).map g=(t.vals fun k=>k).map h):t.All p fun k=>k:=
 PT.all_vals t _ fun x hx=>hp x (List.map_inj_left.1 e x hx)
noncomputable def zL {α:Type} (x:α):PT α:=.node .nil (some x) .nil
noncomputable def zN {α:Type} (l:PT α) (x:α) (r:PT α):PT α:=.node l (some x) r
end Go.E
namespace Go.Proofs.YtlpigjmjgclgiaaDoorE
open Go Go.E Go.Proofs
set_option maxRecDepth 100000
open Tryd in
noncomputable def tyT:PT TypeInfo:=zN (zN (zN (zN (zN (zN (zN (zL t127) t63 .nil) t31 (zL t95)) t15 (zN (zL t79) t47 (zL t111))) t7 (zN (zN (zL t71) t39 (zL t103)) t23 (zN (zL t87) t55 (zL t119)))) t3 (zN (zN (zN (zL t67)
 t35 (zL t99)) t19 (zN (zL t83) t51 (zL t115))) t11 (zN (zN (zL t75) t43 (zL t107)) t27 (zN (zL t91) t59 (zL t123))))) t1 (zN (zN (zN (zN (zL t65) t33 (zL t97)) t17 (zN (zL t81) t49 (zL t113))) t9 (zN (zN (zL t73) t41 (zL t105)) t25 (zN (zL
 t89) t57 (zL t121)))) t5 (zN (zN (zN (zL t69) t37 (zL t101)) t21 (zN (zL t85) t53 (zL t117))) t13 (zN (zN (zL t77) t45 (zL t109)) t29 (zN (zL t93) t61 (zL t125)))))) t0 (zN (zN (zN (zN (zN (zN (zL t128) t64 .nil) t32 (zL t96)) t16 (zN (zL
 t80) t48 (zL t112))) t8 (zN (zN (zL t72) t40 (zL t104)) t24 (zN (zL t88) t56 (zL t120)))) t4 (zN (zN (zN (zL t68) t36 (zL t100)) t20 (zN (zL t84) t52 (zL t116))) t12 (zN (zN (zL t76) t44 (zL t108)) t28 (zN (zL t92) t60 (zL t124))))) t2 (zN
 (zN (zN (zN (zL t66) t34 (zL t98)) t18 (zN (zL t82) t50 (zL t114))) t10 (zN (zN (zL t74) t42 (zL t106)) t26 (zN (zL t90) t58 (zL t122)))) t6 (zN (zN (zN (zL t70) t38 (zL t102)) t22 (zN (zL t86) t54 (zL t118))) t14 (zN (zN (zL t78) t46 (zL
 t110)) t30 (zN (zL t94) t62 (zL t126))))))
open Tryd in
noncomputable def unT:PT TypeDesc:=zN (zN (zN (zN (zN (zN (zN (zL t126.desc) t63.desc .nil) t31.desc (zL t95.desc)) t15.desc (zN (zL t79.desc) t47.desc (zL t111.desc))) t7.desc (zN (zN (zL t71.desc) t39.desc (zL t103.desc))
 t23.desc (zN (zL t87.desc) t54.desc (zL t118.desc)))) t3.desc (zN (zN (zN (zL t67.desc) t35.desc (zL t99.desc)) t18.desc (zN (zL t83.desc) t51.desc (zL t115.desc))) t9.desc (zN (zN (zL t75.desc) t43.desc (zL t107.desc)) t27.desc (zN (zL
 t91.desc) t59.desc (zL t123.desc))))) t1.desc (zN (zN (zN (zN (zL t64.desc) t33.desc (zL t97.desc)) t17.desc (zN (zL t81.desc) t49.desc (zL t113.desc))) t9.desc (zN (zN (zL t73.desc) t41.desc (zL t105.desc)) t25.desc (zN (zL t89.desc)
 t57.desc (zL t5.desc)))) t5.desc (zN (zN (zN (zL t69.desc) t37.desc (zL t101.desc)) t21.desc (zN (zL t85.desc) t53.desc (zL t117.desc))) t13.desc (zN (zN (zL t77.desc) t45.desc (zL t108.desc)) t29.desc (zN (zL t93.desc) t61.desc (zL
 t21.desc)))))) t0.desc (zN (zN (zN (zN (zN (zN (zL t128.desc) t64.desc .nil) t32.desc (zL t96.desc)) t16.desc (zN (zL t80.desc) t48.desc (zL t112.desc))) t7.desc (zN (zN (zL t3.desc) t40.desc (zL t104.desc)) t24.desc (zN (zL t88.desc)
 t56.desc (zL t5.desc)))) t4.desc (zN (zN (zN (zL t68.desc) t36.desc (zL t100.desc)) t20.desc (zN (zL t84.desc) t52.desc (zL t115.desc))) t12.desc (zN (zN (zL t76.desc) t43.desc (zL t108.desc)) t28.desc (zN (zL t92.desc) t59.desc (zL
 t21.desc))))) t2.desc (zN (zN (zN (zN (zL t66.desc) t34.desc (zL t98.desc)) t18.desc (zN (zL t82.desc) t50.desc (zL t114.desc))) t9.desc (zN (zN (zL t74.desc) t41.desc (zL t106.desc)) t26.desc (zN (zL t89.desc) t57.desc (zL t122.desc))))
 t5.desc (zN (zN (zN (zL t70.desc) t38.desc (zL t102.desc)) t22.desc (zN (zL t86.desc) t54.desc (zL t118.desc))) t13.desc (zN (zN (zL t78.desc) t46.desc (zL t110.desc)) t29.desc (zN (zL t94.desc) t61.desc (zL t126.desc))))))
open Tryd in
noncomputable def fnT:PT (FuncId×Func):=(.node (.node (zN (zN (zN (zN (zL (63,f63)) (31,f31) .nil) (15,f15) (zL (47,f47))) (7,f7) (zN (zN (zL (71,f71)) (39,f39) .nil) (23,f23) (zL (55,f55)))) (3,f3) (zN (zN (zN
 (zL (67,f67)) (35,f35) .nil) (19,f19) (zL (51,f51))) (11,f11) (zN (zL (43,f43)) (27,f27) (zL (59,f59))))) none (zN (zN (zN (zN (zL (65,f65)) (33,f33) .nil) (17,f17) (zL (49,f49))) (9,f9) (zN (zN (zL (73,f73)) (41,f41) .nil)
 (25,f25) (zL (57,f57)))) (5,f5) (zN (zN (zN (zL (69,f69)) (37,f37) .nil) (21,f21) (zL (53,f53))) (13,f13) (zN (zL (45,f45)) (29,f29) (zN (zL (93,f93)) (61,f61) .nil))))) none (zN (zN (zN (zN (zN (zL (64,f64)) (32,f32) .nil)
 (16,f16) (zL (48,f48))) (8,f8) (zN (zN (zL (72,f72)) (40,f40) .nil) (24,f24) (zL (56,f56)))) (4,f4) (zN (zN (zN (zL (68,f68)) (36,f36) .nil) (20,f20) (zL (52,f52))) (12,f12) (zN (zL (44,f44)) (28,f28) (zL (60,f60))))) (2,
 f2) (zN (zN (zN (zN (zL (66,f66)) (34,f34) .nil) (18,f18) (zL (50,f50))) (10,f10) (zN (zL (42,f42)) (26,f26) (zL (58,f58)))) (6,f6) (zN (zN (zN (zL (70,f70)) (38,f38) .nil) (22,f22) (zL (54,f54))) (14,f14) (zN (zL (46,f46))
 (30,f30) (zL (62,f62)))))))
theorem tyT_ok:tyT.All (InfP Tryd.prog) (fun k=>k):=PT.all_map (g:=fun x=>Tryd.prog.info? x.1) (h:=fun x=>some x.2) (fun _ e=>e) (by kernel_rfl)
theorem unT_ok:unT.All (UndP Tryd.prog) (fun k=>k):=PT.all_map (g:=fun x=>Tryd.prog.underlying x.1) (h:=fun x=>some x.2) (fun _ e=>e) (by kernel_rfl)
theorem fnT_ok:fnT.All (FnP Tryd.prog) (fun k=>k):=PT.all_map (g:=fun x=>(fun args w=>(callFunc x.1 args).run Tryd.prog w,Tryd.prog.funcs[x.2.1]?)) (h:=fun x=>(fun args w=>.ok (.enter x.2.1 args) w,some x.2.2)) (fun _ e=>⟨fun args w=>congrFun (congrFun (congrArg Prod.fst e) args) w,congrArg Prod.snd e⟩) (by kernel_rfl)
def pureL:List Nat:=[31,33,35,20,19,34,42,51,70,32,57,43,50,59,72,66,65,67,68,69,73,44,45,46,47,60,62,48,49,63,64,56,61,13,36,16,52,22,30,25,11,14,6]
def deBr:List Value:=Lib.deBruijn32tab.map fun (z:Nat)=>.int .u8 (z:Int)
def ctzC (nx:Nat) (x:Int):Con:=⟨nx,nx,[(0,.table deBr)],[],.int .i64 (Lib.ctz 32 x.toNat)⟩
def conF (f:Nat) (vs:List Value) (nx:Nat):Option Con:=
 cond (Nat.beq f 71) (match vs with
  | [.int .u32 x]=>cond (decide (0≤x)&&decide (x<4294967296)) (some (ctzC nx x)) none
  | _=>none) none
noncomputable def Lk0:Lk where
 info t:=tyT.get t
 und t:=unT.get t
 func f:=fnT.get f
 glob g:=Nat.beq g 0
 ext _ _:=none
 con:=conF
 pureF f:=pureL.any (Nat.beq f)
 barF _:=false
theorem zau [Sym]:Lk0.Ok Tryd.prog where
 symOp _ _ _ _ _ h:=by cases h
 symLen _ _ h:=by cases h
 info t i h:=PT.all_get tyT _ tyT_ok t i h
 und t d h:=PT.all_get unT _ unT_ok t d h
 func f j fn h:=PT.all_get fnT _ fnT_ok f (j,fn) h
 mixed:=by kernel_rfl
 ext f vs v h:=by cases h
theorem zaF:LkS Lk0:=⟨fun _ _ _ _=>rfl⟩
theorem con0 [Sym]:zfQ Tryd.prog Lk0:=by
 intro f vs nx c h
 have h0:conF f vs nx=some c:=h
 clear h
 unfold conF at h0
 obtain ⟨hf,h1⟩:=zan h0
 clear h0
 have:=beq_true hf
 subst this
 split at h1
 ·rename_i x
  obtain ⟨hq,h2⟩:=zan h1
  clear h1
  cases h2
  simp only [zae,decide_eq_true_eq] at hq
  refine ⟨fun x hx=>by simp at hx;subst hx;rfl,71,Tryd.call71,fun w pl hob=>?_⟩
  obtain ⟨hb,hoo,obj,hobj,_,arr,T,fr,rfl,hcells⟩:=hob (0,.table deBr) (by simp [ctzC])
  have hT:TabAt 0 Lib.deBruijn32tab w:=fun j hj=>by
   have hx:deBr[j]?=some (.int .u8 (Lib.deBruijn32tab.getD j 0:Nat)):=by
    unfold deBr
    rw [List.getElem?_map,zge hj,List.getD_eq_getElem?_getD,zge hj];rfl
   obtain ⟨v',hv',hvr⟩:=hcells j _ hx
   have hv2:v'=.int .u8 (Lib.deBruijn32tab.getD j 0:Nat):=by cases hvr;rfl
   subst hv2
   unfold World.cell?
   simp only [hobj]
   rw [hoo,Nat.zero_add] at hv'
   simpa using hv'
  have hc:=Tryd.bits_TrailingZeros32 x.toNat (by omega) w (fun _=>hT)
  rw [Int.toNat_of_nonneg hq.1] at hc
  refine hc.mono fun e w' ⟨h1,h2⟩=>?_
  subst h2
  refine ⟨_,fun _=>none,h1,?_⟩
  exact ⟨.int _ _,⟨rfl,rfl,rfl,zlr _,fun _ _=>rfl⟩,fun i p hp=>(by cases hp),fun i p hp=>(by cases hp),fun i p ob hp ho=>(by cases hp),fun i j p q hp hq=>(by cases hp)⟩
 ·cases h1
noncomputable abbrev cc:zaw:=cS Tryd.prog Lk0
end Go.Proofs.YtlpigjmjgclgiaaDoorE
namespace Go.Proofs.YtlpigjmjgclgiaaDoorE
set_option maxRecDepth 20000
open Go Go.E Go.Proofs
noncomputable def ziG (cf:zaw) (lf:zak) (old':Int) (x':Int) (size':Int) (st:SS):Option (Value×SS):=
 (cf 57 [.int .i64 size'] (st.ro st.next)).bind fun a=>
 ((some a.1).bind (asI .u32)).bind fun b=>
 let c:Int:=zee .u32 old' b
 (cf 57 [.int .i64 size'] a.2).bind fun d=>
 ((some d.1).bind (asI .u32)).bind fun e=>
 let f:Int:=zb4 .u32 x' e
 let g:Int:=orI .u32 c f
 some (.int .u32 g,st.adv d.2.next)
noncomputable abbrev zi5:zak:=lS Tryd.prog Lk0 Tryd.f32 zaI
theorem zi6:Lk0.func 32=some (32,Tryd.f32):=by kernel_rfl
theorem zi7 [Sym] (old':Int) (x':Int) (size':Int) (st:SS) {r:Value×SS} (h:ziG cc zi5 old' x' size' st=some r):cc 32 [.int .u32 old',.int .u32 x',.int .i64 size'] st=some r:=
 zar (li:=zaI) zau zaF zi6 rfl (fun _=>rfl) (.trans (by kernel_rfl) h)
noncomputable def zc3 (cf:zaw) (lf:zak) (size':Int) (st:SS):Option (Value×SS):=
 cond (decide (size'=1)) (
 some (.int .u32 255,st.adv (st.ro st.next).next)) (
 cond (decide (size'=2)) (
 some (.int .u32 65535,st.adv (st.ro st.next).next)) (
 cond (decide (size'=4)) (
 some (.int .u32 4294967295,st.adv (st.ro st.next).next)) (
 some (.int .u32 0,st.adv (st.ro st.next).next))))
noncomputable abbrev ziH:zak:=lS Tryd.prog Lk0 Tryd.f57 zaI
theorem ziI:Lk0.func 57=some (57,Tryd.f57):=by kernel_rfl
theorem ziJ [Sym] (size':Int) (st:SS) {r:Value×SS} (h:zc3 cc ziH size' st=some r):cc 57 [.int .i64 size'] st=some r:=
 zar (li:=zaI) zau zaF ziI rfl (fun _=>rfl) (.trans (by kernel_rfl) h)
noncomputable def zcs (cf:zaw) (lf:zak) (x':Int) (st:SS):Option (Value×SS):=
 let a:Int:=zd6 .u32 x' 24
 ((zcy ⟨#[0,1,1,2,1,2,2,3,1,2,2,3,2,3,3,4,1,2,2,3,2,3,3,4,2,3,3,4,3,4,4,5,1,2,2,3,2,3,3,4,2,3,3,4,3,4,4,5,2,3,3,4,3,4,4,5,3,4,4,5,4,5,5,6,1,2,2,3,2,3,3,4,2,3,3,4,3,4,4,5,2,3,3,4,3,4,4,5,3,4,4,5,4,5,5,6,2,3,3,4,3,4,4,5,3,4,4,5,4,5,5,6,3,4,4,5,4,5,5,6,4,5,5,6,5,6,6,7,1,2,2,3,2,3,3,4,2,3,3,4,3,4,4,5,2,3,3,4,3,4,4,5,3,4,4,5,4,5,5,6,2,3,3,4,3,4,4,5,3,4,4,5,4,5,5,6,3,4,4,5,4,5,5,6,4,5,5,6,5,6,6,7,2,3,3,4,3,4,4,5,3,4,4,5,4,5,5,6,3,4,4,5,4,5,5,6,4,5,5,6,5,6,6,7,3,4,4,5,4,5,5,6,4,5,5,6,5,6,6,7,4,5,5,6,5,6,6,7,5,6,6,7,6,7,7,8]⟩ a).bind (asI .u8)).bind fun b=>
 let c:Int:=zd6 .u32 x' 16
 let d:Int:=zb4 .u32 c 255
 ((zcy ⟨#[0,1,1,2,1,2,2,3,1,2,2,3,2,3,3,4,1,2,2,3,2,3,3,4,2,3,3,4,3,4,4,5,1,2,2,3,2,3,3,4,2,3,3,4,3,4,4,5,2,3,3,4,3,4,4,5,3,4,4,5,4,5,5,6,1,2,2,3,2,3,3,4,2,3,3,4,3,4,4,5,2,3,3,4,3,4,4,5,3,4,4,5,4,5,5,6,2,3,3,4,3,4,4,5,3,4,4,5,4,5,5,6,3,4,4,5,4,5,5,6,4,5,5,6,5,6,6,7,1,2,2,3,2,3,3,4,2,3,3,4,3,4,4,5,2,3,3,4,3,4,4,5,3,4,4,5,4,5,5,6,2,3,3,4,3,4,4,5,3,4,4,5,4,5,5,6,3,4,4,5,4,5,5,6,4,5,5,6,5,6,6,7,2,3,3,4,3,4,4,5,3,4,4,5,4,5,5,6,3,4,4,5,4,5,5,6,4,5,5,6,5,6,6,7,3,4,4,5,4,5,5,6,4,5,5,6,5,6,6,7,4,5,5,6,5,6,6,7,5,6,6,7,6,7,7,8]⟩ d).bind (asI .u8)).bind fun e=>
 let f:Int:=IntKind.wrap .u8 (b+e)
 let g:Int:=zd6 .u32 x' 8
 let h:Int:=zb4 .u32 g 255
 ((zcy ⟨#[0,1,1,2,1,2,2,3,1,2,2,3,2,3,3,4,1,2,2,3,2,3,3,4,2,3,3,4,3,4,4,5,1,2,2,3,2,3,3,4,2,3,3,4,3,4,4,5,2,3,3,4,3,4,4,5,3,4,4,5,4,5,5,6,1,2,2,3,2,3,3,4,2,3,3,4,3,4,4,5,2,3,3,4,3,4,4,5,3,4,4,5,4,5,5,6,2,3,3,4,3,4,4,5,3,4,4,5,4,5,5,6,3,4,4,5,4,5,5,6,4,5,5,6,5,6,6,7,1,2,2,3,2,3,3,4,2,3,3,4,3,4,4,5,2,3,3,4,3,4,4,5,3,4,4,5,4,5,5,6,2,3,3,4,3,4,4,5,3,4,4,5,4,5,5,6,3,4,4,5,4,5,5,6,4,5,5,6,5,6,6,7,2,3,3,4,3,4,4,5,3,4,4,5,4,5,5,6,3,4,4,5,4,5,5,6,4,5,5,6,5,6,6,7,3,4,4,5,4,5,5,6,4,5,5,6,5,6,6,7,4,5,5,6,5,6,6,7,5,6,6,7,6,7,7,8]⟩ h).bind (asI .u8)).bind fun i=>
 let j:Int:=IntKind.wrap .u8 (f+i)
 let k:Int:=zb4 .u32 x' 255
 ((zcy ⟨#[0,1,1,2,1,2,2,3,1,2,2,3,2,3,3,4,1,2,2,3,2,3,3,4,2,3,3,4,3,4,4,5,1,2,2,3,2,3,3,4,2,3,3,4,3,4,4,5,2,3,3,4,3,4,4,5,3,4,4,5,4,5,5,6,1,2,2,3,2,3,3,4,2,3,3,4,3,4,4,5,2,3,3,4,3,4,4,5,3,4,4,5,4,5,5,6,2,3,3,4,3,4,4,5,3,4,4,5,4,5,5,6,3,4,4,5,4,5,5,6,4,5,5,6,5,6,6,7,1,2,2,3,2,3,3,4,2,3,3,4,3,4,4,5,2,3,3,4,3,4,4,5,3,4,4,5,4,5,5,6,2,3,3,4,3,4,4,5,3,4,4,5,4,5,5,6,3,4,4,5,4,5,5,6,4,5,5,6,5,6,6,7,2,3,3,4,3,4,4,5,3,4,4,5,4,5,5,6,3,4,4,5,4,5,5,6,4,5,5,6,5,6,6,7,3,4,4,5,4,5,5,6,4,5,5,6,5,6,6,7,4,5,5,6,5,6,6,7,5,6,6,7,6,7,7,8]⟩ k).bind (asI .u8)).bind fun l=>
 let m:Int:=IntKind.wrap .u8 (j+l)
 let n:Int:=IntKind.wrap .i64 m
 some (.int .i64 n,st.adv (st.ro st.next).next)
noncomputable abbrev zbW:zak:=lS Tryd.prog Lk0 Tryd.f56 zaI
theorem zdG:Lk0.func 56=some (56,Tryd.f56):=by kernel_rfl
theorem zdH [Sym] (x':Int) (st:SS) {r:Value×SS} (h:zcs cc zbW x' st=some r):cc 56 [.int .u32 x'] st=some r:=
 zar (li:=zaI) zau zaF zdG rfl (fun _=>rfl) (.trans (by kernel_rfl) h)
noncomputable def zjX (cf:zaw) (lf:zak) (x':Int) (st:SS):Option (Value×SS):=
 let n1:Int:=zb4 .u32 x' 16777216
 some (.bool (!(decide (n1=0))),st.adv (st.ro st.next).next)
noncomputable abbrev zh8:zak:=lS Tryd.prog Lk0 Tryd.f34 zaI
theorem zh9:Lk0.func 34=some (34,Tryd.f34):=by kernel_rfl
theorem zia [Sym] (x':Int) (st:SS) {r:Value×SS} (h:zjX cc zh8 x' st=some r):cc 34 [.int .u32 x'] st=some r:=
 zar (li:=zaI) zau zaF zh9 rfl (fun _=>rfl) (.trans (by kernel_rfl) h)
end Go.Proofs.YtlpigjmjgclgiaaDoorE
namespace Go.E
open Go
structure Mod (S:List Nat) (a b:SS):Prop where
 next:a.next≤b.next
 lim:b.lim=a.lim
 keep:∀ j,j<a.next→j∉S→b.mem.get j=a.mem.get j
section
variable {S T : List Nat} {a b c : SS} {i n : Nat}
theorem Mod.refl (a:SS):Mod S a a:=⟨zlr _,rfl,fun _ _ _=>rfl⟩
theorem Mod.ofExt (h:Ext a b):Mod S a b:=⟨h.next,h.lim,fun j hj _=>h.keep j hj⟩
theorem Mod.trans (h:Mod S a b) (k:Mod T b c) (hT:∀ j,j∈T→j<a.next→j∈S):Mod S a c:=
 ⟨zlt h.next k.next,k.lim.trans h.lim,fun j hj hS=>(k.keep j (zll hj h.next) (fun hm=>hS (hT j hm hj))).trans (h.keep j hj hS)⟩
theorem Mod.then (h:Mod S a b) (k:Mod S b c):Mod S a c:=h.trans k fun _ hj _=>hj
theorem Mod.mono (h:Mod S a b) (hS:∀ j,j∈S→j∈T):Mod T a b:=⟨h.next,h.lim,fun j hj hT=>h.keep j hj fun hm=>hT (hS j hm)⟩
theorem Mod.fresh (h:Mod S a b) (hS:∀ j,j∈S→a.next≤j):Ext a b:=⟨h.next,h.lim,fun j hj=>h.keep j hj fun hm=>by have:=hS j hm;omega⟩
theorem Mod.ll (h:Mod S a b) (hl:a.lim≤a.next):b.lim≤b.next:=by rw [h.lim];exact zlt hl h.next
theorem Ext.ll (h:Ext a b) (hl:a.lim≤a.next):b.lim≤b.next:=by rw [h.lim];exact zlt hl h.next
theorem Ext.advR (a:SS) (hn:a.next≤n):Ext a (a.adv n):=(Ext.refl a).adv hn
theorem Mod.get {x:Option AObj} (h:Mod S a b) (hi:i<a.next) (hS:i∉S) (hx:a.mem.get i=x):b.mem.get i=x:=(h.keep i hi hS).trans hx
theorem Rd.mod {v:Value} {c:List Value} {z n:Nat} (h:Rd a v c z n) (m:Mod S a b) (hv:∀ j k l q,v=.slice (some ⟨j,k,none⟩) l q→j∉S):Rd b v c z n:=by
 obtain ⟨h1,h2⟩:=h
 refine ⟨h1,h2.imp id ?_⟩
 rintro ⟨i,cap,e,⟨z',hm⟩,hi⟩
 exact ⟨i,cap,e,⟨z',m.get hi (hv i 0 n cap e) hm⟩,zll hi m.next⟩
theorem Own.mod {B:Nat} {v:Value} {c:List Value} {z n:Nat} (h:Own B a v c z n) (m:Mod S a b) (hv:∀ j k l q,v=.slice (some ⟨j,k,none⟩) l q→j∉S):Own B b v c z n:=by
 obtain ⟨h1,h2⟩:=h
 refine ⟨h1,h2.imp id ?_⟩
 rintro ⟨i,e,h0,hm,hb,hi⟩
 exact ⟨i,e,h0,m.get hi (hv i 0 n n e) hm,hb,zll hi m.next⟩
end
def At (st:SS) (i:Nat) (row:List Value):Prop:=st.mem.get i=some (.cells row 0)∧i<st.next∧st.lim≤i
section
variable {S : List Nat} {st st' : SS} {i k n : Nat} {row row' vs : List Value}
theorem At.mem (h:At st i row):st.mem.get i=some (.cells row 0):=h.1
theorem At.lt (h:At st i row):i<st.next:=h.2.1
theorem At.mod (h:At st i row) (m:Mod S st st') (hi:i∉S):At st' i row:=⟨m.get h.lt hi h.1,zll h.lt m.next,by rw [m.lim];exact h.2.2⟩
theorem At.ext (h:At st i row) (m:Ext st st'):At st' i row:=h.mod (S:=[]) (.ofExt m) (by simp)
theorem At.adv (h:At st i row) (hn:st.next≤n):At (st.adv n) i row:=h.ext (.advR st hn)
theorem At.ld (h:At st i row):st.ld i k=row[k]?:=SS.ld_cells h.1
theorem At.rd (h:At st i row):st.rd i k=row[k]?:=SS.rd_cells h.1
theorem At.ldN (h:At st i row) (hn:row.length=n):st.ldN i 0 n=some (.agg row.toArray):=by rw [SS.ldN_cells h.1,zcr hn];rfl
theorem At.rdN (h:At st i row) (hn:row.length=n):st.rdN i 0 n=some (.agg row.toArray):=by rw [SS.rdN_cells h.1,zcr hn];rfl
theorem At.sto (h:At st i row) (h1:vs.all one=true) (hs:zaA row k vs=some row'):∃ st',st.st i k vs=some st'∧At st' i row'∧Mod [i] st st'∧st'.next=st.next:=
 ⟨_,SS.st_cells h.1 h.2.2 h1 hs,⟨by simp,h.2.1,h.2.2⟩,⟨zlr _,rfl,fun j hj hS=>SS.set_old (by simpa using hS)⟩,rfl⟩
theorem At.stV (h:At st i row) {v:Value} (hv:v.cells.toList=vs) (hn:vs.length=n) (h1:vs.all one=true) (hs:zaA row k vs=some row'):∃ st',st.stV i k n v=some st'∧At st' i row'∧Mod [i] st st'∧st'.next=st.next:=by
 obtain ⟨st',a,b,c,d⟩:=h.sto h1 hs
 refine ⟨st',?_,b,c,d⟩
 unfold SS.stV
 have e:v.cells.size=n:=by rw [← hn,← hv];simp
 rw [e,hv,a]
 simp
theorem At.new (hl:st.lim≤st.next) (row:List Value):At (st.new (.cells row 0)) st.next row:=⟨by simp,by simp,hl⟩
theorem Mod.new (ob:AObj):Mod [] st (st.new ob):=.ofExt ((Ext.refl st).new ob)
theorem new_ok (hl:st.lim≤st.next) {r:List Value} (h1:row.all one=true) (hr:r.length=row.length):∃ st',(st.new (.cells r 0)).st st.next 0 row=some st'∧At st' st.next row∧Ext st st'∧st'.next=st.next+1:=by
 obtain ⟨st',a,b,c,d⟩:=(At.new hl r).sto (k:=0) (vs:=row) (row':=row) h1 (by rw [zbV (by omega)];simp [hr])
 exact ⟨st',a,b,(((Mod.new (.cells r 0)).mono (T:=[st.next]) (by simp)).then c).fresh (by simp),d⟩
end
theorem aggC (row:List Value):(Value.agg row.toArray).cells.toList=row:=by simp [Value.cells]
theorem Rd.row1 {st:SS} {row:List Value} {z:Nat} (h:row.length=z):Rd (st.new (.cells row z)) (.slice (some ⟨st.next,0,none⟩) 1 1) row z 1:=
 ⟨by rw [h,Nat.one_mul],.inr ⟨st.next,1,rfl,⟨z,SS.new_get⟩,by simp⟩⟩
theorem Own.push {b:Nat} {st:SS} {v:Value} {c row:List Value} {z n bt:Nat} (h:Own b st v c z n) (hb:b≤st.next) (hl:st.lim≤b) (hr:row.length=z) (hz:0<z) (h1:row.all one=true) (hs:(n+2)*bt≤2^44) (hn:n+1≤2^44):
  ∃ v' st',(st.new (.cells row z)).app z bt v (.slice (some ⟨st.next,0,none⟩) 1 1)=some (v',st')∧Own b st' v' (c++row) z (n+1)∧(∀ st0,st0.next≤b→Ext st0 st→Ext st0 st')∧st'.lim=st.lim∧st.next≤st'.next∧
   ∀ j,j<st.next→(∀ q,v≠.slice (some ⟨j,0,none⟩) q q)→st'.mem.get j=st.mem.get j:=by
 obtain ⟨v',st',g1,g2,g3,g4,g5,g6⟩:=(h.ext ((Ext.refl st).new (.cells row z))).app (Rd.row1 (st:=st) hr) (zlt hb (Nat.le_succ _)) hl hz h1 (bt:=bt) (by simpa [Nat.add_assoc] using hs) hn
 exact ⟨v',st',g1,g2,fun st0 h0 he=>g5 st0 h0 (he.new _),g3,zlt (Nat.le_succ _) g4,fun j hj hv=>by rw [g6 j (by simp;omega) hv,SS.new_old (by omega)]⟩
structure Keep (B:Nat) (S:List Nat) (a b:SS):Prop where
 next:a.next≤b.next
 lim:b.lim=a.lim
 keep:∀ j,j<B→j∉S→b.mem.get j=a.mem.get j
section
variable {S : List Nat} {a b c : SS} {B i : Nat}
theorem Keep.refl (a:SS):Keep B S a a:=⟨zlr _,rfl,fun _ _ _=>rfl⟩
theorem Keep.then (h:Keep B S a b) (k:Keep B S b c):Keep B S a c:=⟨zlt h.next k.next,k.lim.trans h.lim,fun j hj hS=>(k.keep j hj hS).trans (h.keep j hj hS)⟩
theorem Keep.mod (h:Keep B S a b) (hB:a.next≤B):Mod S a b:=⟨h.next,h.lim,fun j hj hS=>h.keep j (by omega) hS⟩
theorem Keep.mono {B':Nat} {T:List Nat} (h:Keep B S a b) (hB:B'≤B) (hS:∀ j,j∈S→j<B'→j∈T):Keep B' T a b:=⟨h.next,h.lim,fun j hj hT=>h.keep j (by omega) fun hm=>hT (hS j hm hj)⟩
theorem Keep.ll (h:Keep B S a b) (hl:a.lim≤a.next):b.lim≤b.next:=by rw [h.lim];exact zlt hl h.next
theorem Own.cell {v:Value} {c:List Value} {z n:Nat} (h:Own B a v c z n):v.cells.toList=[v]∧one v=true:=by
 obtain ⟨_,⟨rfl,_⟩ | ⟨i,rfl,_⟩⟩:=h<;>exact ⟨rfl,rfl⟩
end
def zcY {α:Type} (f:α→List Value) (l:List α):List Value:=l.flatMap f
section
variable {α : Type} {f : α → List Value} {z : Nat}
theorem zjY (a:α) (b:List α):zcY f (a::b)=f a++zcY f b:=by simp [zcY]
theorem zkH (hz:∀ x,(f x).length=z) (l:List α) (i:Nat) (x:α) (h:l[i]?=some x):((zcY f l).drop (i*z)).take z=f x:=by
 induction l generalizing i with
 | nil=>cases h
 | cons a l ih=>
   rw [zjY]
   cases i with
   | zero=>
     have:a=x:=by simpa using h
     subst this
     rw [Nat.zero_mul,List.drop_zero,List.take_append_of_le_length (by rw [hz];omega),List.take_of_length_le (by rw [hz];omega)]
   | succ i=>
     have e:(i+1)*z=(f a).length+i*z:=by rw [hz,Nat.add_mul];omega
     rw [e,List.drop_append,List.drop_of_length_le (by omega),List.nil_append,Nat.add_sub_cancel_left]
     exact ih i (by simpa using h)
end
end Go.E
namespace Go.E
open Go
def Rg (st:SS) (v:Value) (c:List Value) (z n:Nat):Prop:=
 c.length=n*z∧((v=.slice none 0 0∧n=0)∨∃ i cap C,v=.slice (some ⟨i,0,none⟩) n cap∧n≤cap∧i<st.next∧C.take (n*z)=c∧((∃ z',(z'=z∨z'=0)∧st.mem.get i=some (.cells C z'))∨st.mem.get i=some (.table C)))
section
variable {S : List Nat} {st st' : SS} {v : Value} {c : List Value} {z n B : Nat}
theorem Rg.len (h:Rg st v c z n):lenV v=some (.int .i64 (n:Int)):=by
 obtain ⟨_,⟨rfl,rfl⟩ | ⟨i,cap,C,rfl,_⟩⟩:=h<;>rfl
theorem Rg.lenI (h:Rg st v c z n):(lenV v).bind (asI .i64)=some (n:Int):=by rw [h.len];rfl
theorem Rg.sl (h:Rg st v c z n):sliceLen v=some (n:Int):=by
 obtain ⟨_,⟨rfl,rfl⟩ | ⟨i,cap,C,rfl,_⟩⟩:=h<;>rfl
theorem Rg.cell (h:Rg st v c z n):v.cells.toList=[v]∧one v=true:=by
 obtain ⟨_,⟨rfl,rfl⟩ | ⟨i,cap,C,rfl,_⟩⟩:=h<;>exact ⟨rfl,rfl⟩
theorem Rg.keep (h:Rg st v c z n) (hn:st.next≤st'.next) (hk:∀ i l cap,v=.slice (some ⟨i,0,none⟩) l cap→i<st.next→st'.mem.get i=st.mem.get i):Rg st' v c z n:=by
 obtain ⟨h1,h2⟩:=h
 refine ⟨h1,h2.imp id ?_⟩
 rintro ⟨i,cap,C,e,hc,hi,ht,hm⟩
 rw [← hk i _ _ e hi] at hm
 exact ⟨i,cap,C,e,hc,zll hi hn,ht,hm⟩
theorem Rg.ext (h:Rg st v c z n) (he:Ext st st'):Rg st' v c z n:=h.keep he.next fun i l cap e hi=>he.keep i hi
theorem Rg.mod (h:Rg st v c z n) (m:Mod S st st') (hv:∀ i l cap,v=.slice (some ⟨i,0,none⟩) l cap→i∉S):Rg st' v c z n:=h.keep m.next fun i l cap e hi=>m.keep i hi (hv i l cap e)
theorem zlb {C c:List Value} {n k z:Nat} (h:C.take n=c) (hk:k+z≤c.length):cut C k z=some ((c.drop k).take z):=by
 subst h
 rw [List.length_take] at hk
 refine zhp ?_ ?_
 ·rw [List.drop_take,List.take_take,Nat.min_eq_left (by omega)]
 ·simp;omega
theorem Rg.load (h:Rg st v c z n) {j:Int} (h0:0≤j) (h1:j<n) {row:List Value} (hr:(c.drop (j.toNat*z)).take z=row) (hz:row.length=z):
  ∃ p,zbH v j z=some p∧st.ldN p.1 p.2 z=some (.agg row.toArray)∧∀ k x,row[k]?=some x→st.ld p.1 (p.2+k)=some x:=by
 obtain ⟨hc,⟨rfl,rfl⟩ | ⟨i,cap,C,rfl,hcap,hi,ht,hm⟩⟩:=h
 ·omega
 have hb:j.toNat*z+z≤c.length:=by
  have h2:j.toNat+1≤n:=by omega
  have h3:=Nat.mul_le_mul_right z h2
  rw [Nat.add_mul,Nat.one_mul] at h3
  omega
 have e0:zbH (.slice (some ⟨i,0,none⟩) n cap) j z=some (i,0+j.toNat*z):=by
  unfold zbH
  simp only [zdt h0,zdt h1,Bool.and_self,zct]
 have hcut:=zlb (k:=j.toNat*z) (z:=z) ht hb
 rw [hr] at hcut
 have hget:∀ k x,row[k]?=some x→C[j.toNat*z+k]?=some x:=fun k x hx=>by
  rw [← hr,List.getElem?_take] at hx
  split at hx
  ·rw [List.getElem?_drop,← ht,List.getElem?_take] at hx
   split at hx
   ·exact hx
   ·cases hx
  ·cases hx
 refine ⟨_,e0,?_,fun k x hx=>?_⟩
 ·simp only [Nat.zero_add]
  rcases hm with ⟨z',_,hm⟩ | hm
  ·rw [SS.ldN_cells hm,hcut];rfl
  ·rw [SS.ldN_table hm,hcut];rfl
 ·simp only [Nat.zero_add]
  rcases hm with ⟨z',_,hm⟩ | hm
  ·rw [SS.ld_cells hm];exact hget k x hx
  ·rw [SS.ld_table hm];exact hget k x hx
theorem Rg.resl (h:Rg st v c z n) {m:Nat} (hm:m≤n):∃ v',st.resl v z 0 (m:Int)=some v'∧Rg st v' (c.take (m*z)) z m:=by
 obtain ⟨hc,⟨rfl,rfl⟩ | ⟨i,cap,C,rfl,hcap,hi,ht,hmm⟩⟩:=h
 ·have:m=0:=by omega
  subst this
  exact ⟨.slice none 0 0,rfl,by simp,.inl ⟨rfl,rfl⟩⟩
 have h1:decide ((m:Int)≤(cap:Int))=true:=zdt (by omega)
 have h2:decide ((0:Int)≤(m:Int))=true:=zdt (by omega)
 have h4:cond (Nat.beq cap 0) 0 (0+0*z)=0:=by cases Nat.beq cap 0<;>simp
 have hle:m*z≤n*z:=Nat.mul_le_mul_right z hm
 have hres:st.resl (.slice (some ⟨i,0,none⟩) n cap) z 0 (m:Int)=some (.slice (some ⟨i,0,none⟩) m cap):=by
  unfold SS.resl
  rcases hmm with ⟨z',hz',hmm⟩ | hmm
  ·have hq:(Nat.beq z' z||Nat.beq z' 0)=true:=by
    simp only [Bool.or_eq_true,zad,decide_eq_true_eq];exact hz'
   simp only [hmm,zob,hq,h1,h2,zct,Int.toNat_zero,h4,Int.toNat_natCast,Nat.sub_zero,Int.le_refl,decide_true,Bool.and_self]
  ·simp only [hmm,zob,h1,h2,zct,Int.toNat_zero,h4,Int.toNat_natCast,Nat.sub_zero,Int.le_refl,decide_true,Bool.and_self]
 exact ⟨_,hres,by rw [List.length_take];omega,.inr ⟨i,cap,C,rfl,by omega,hi,by rw [← ht,List.take_take,Nat.min_eq_left hle],hmm⟩⟩
end
theorem zlO {row:List Value} {k:Nat} (x:Value) (h:k<row.length):zaA row k [x]=some (row.set k x):=by
 rw [zbV (by simp;omega),List.set_eq_take_append_cons_drop]
 rw [if_pos h];rfl
theorem At.set1 {st:SS} {i k:Nat} {row:List Value} (h:At st i row) {x:Value} (hk:k<row.length) (h1:one x=true):∃ st',st.st i k [x]=some st'∧At st' i (row.set k x)∧Mod [i] st st'∧st'.next=st.next:=
 h.sto (by simp [h1]) (zlO x hk)
end Go.E
namespace Go.E
open Go
noncomputable def two (st:SS) (b c:Nat) (p f:List Value):SS:=(st.set b (some (.cells p 0))).set c (some (.cells f 0))
structure Ok2 (st:SS) (b c:Nat):Prop where
 ne:b≠c
 hb:b<st.next
 hc:c<st.next
 lb:st.lim≤b
 lc:st.lim≤c
 ll:st.lim≤st.next
section
variable {st : SS} {b c i k n : Nat} {p f p' f' vs : List Value} {ob : AObj}
end
section
variable {st : SS} {b c i k n : Nat} {p f p' f' vs : List Value} {ob : AObj}
theorem Ok2.new (h:Ok2 st b c):Ok2 (st.new ob) b c:=⟨h.ne,Nat.lt_succ_of_lt h.hb,Nat.lt_succ_of_lt h.hc,h.lb,h.lc,Nat.le_succ_of_le h.ll⟩
theorem Ok2.ext {st':SS} (h:Ok2 st b c) (x:Ext st st'):Ok2 st' b c:=⟨h.ne,zll h.hb x.next,zll h.hc x.next,by rw [x.lim];exact h.lb,by rw [x.lim];exact h.lc,x.ll h.ll⟩
end
end Go.E
namespace Go.E
open Go
section
variable {s : SS} {i j k n m z : Nat} {r r' vs : List Value} {v : Value} {ob : AObj}
theorem ziK:(s.adv n).st i k vs=(s.st i k vs).map fun t=>t.adv n:=by
 unfold SS.st
 show cond (Nat.ble s.lim i) _ _=_
 cases Nat.ble s.lim i with
 | false=>rfl
 | true=>
   simp only [zct,SS.adv_mem]
   cases s.mem.get i with
   | none=>rfl
   | some ob=>
     cases ob<;>try rfl
     simp only [zob]
     cases vs.all one with
     | false=>rfl
     | true=>
       simp only [zct]
       cases zaA _ k vs<;>rfl
theorem zhG:(s.adv n).stV i k m v=(s.stV i k m v).map fun t=>t.adv n:=by
 unfold SS.stV
 cases Nat.beq v.cells.size m with
 | false=>rfl
 | true=>exact ziK
theorem zkI:(s.adv n).ld i k=s.ld i k:=rfl
theorem zjr:(s.adv n).ldN i k m=s.ldN i k m:=rfl
theorem zjs:(s.adv n).rdN i k m=s.rdN i k m:=rfl
theorem zlP {x:AObj}:(s.new ob).set s.next (some x)=s.new x:=by
 unfold SS.new SS.set
 simp only [PT.upd_upd]
theorem zlc {x:Option AObj} (h:i≠s.next):(s.new ob).set i x=(s.set i x).new ob:=by
 unfold SS.new SS.set
 simp only
 rw [PT.upd_comm _ _ _ _ _ (fun e=>h e.symm)]
theorem zhH (hl:s.lim≤s.next) (h1:vs.all one=true):(s.new (.cells r z)).st s.next k vs=(zaA r k vs).map fun r'=>s.new (.cells r' z):=by
 unfold SS.st
 have:Nat.ble (s.new (.cells r z)).lim s.next=true:=by rw [Nat.ble_eq];exact hl
 rw [this]
 simp only [zct,SS.new_get,zob,h1]
 cases zaA r k vs with
 | none=>rfl
 | some r'=>simp only [Option.map_some,zlP]
theorem zlQ (h:i≠s.next):(s.new ob).st i k vs=(s.st i k vs).map fun t=>t.new ob:=by
 unfold SS.st
 rw [SS.new_old h]
 show cond (Nat.ble s.lim i) _ _=_
 cases Nat.ble s.lim i with
 | false=>rfl
 | true=>
   simp only [zct]
   cases s.mem.get i with
   | none=>rfl
   | some x=>
     cases x<;>try rfl
     simp only [zob]
     cases vs.all one with
     | false=>rfl
     | true=>
       simp only [zct]
       cases zaA _ k vs with
       | none=>rfl
       | some l=>simp only [Option.map_some,zlc h]
theorem zld (hl:s.lim≤s.next) (hv:v.cells.toList=vs) (hn:vs.length=n) (h1:vs.all one=true):(s.new (.cells r z)).stV s.next k n v=(zaA r k vs).map fun r'=>s.new (.cells r' z):=by
 unfold SS.stV
 have e:v.cells.size=n:=by rw [← hn,← hv];simp
 have e2:Nat.beq v.cells.size n=true:=by rw [e,zad];simp
 rw [e2,zct,hv,zhH hl h1]
theorem zle (h:i≠s.next):(s.new ob).stV i k n v=(s.stV i k n v).map fun t=>t.new ob:=by
 unfold SS.stV
 cases Nat.beq v.cells.size n with
 | false=>rfl
 | true=>exact zlQ h
theorem zdn:(s.new (.cells r z)).ld s.next k=r[k]?:=SS.ld_cells SS.new_get
theorem zgF:(s.new (.cells r z)).ldN s.next k n=(cut r k n).map fun d=>.agg d.toArray:=SS.ldN_cells SS.new_get
theorem zlf:(s.new (.cells r z)).rdN s.next k n=(cut r k n).map fun d=>.agg d.toArray:=SS.rdN_cells SS.new_get
theorem zlg (h:i≠s.next):(s.new ob).rdN i k n=s.rdN i k n:=by unfold SS.rdN;rw [SS.new_old h]
theorem zjt (hl:s.lim≤s.next) (h1:vs.all one=true) (hn:vs.length=n) (hr:r.length=n):(s.new (.cells r z)).stV s.next 0 n (.agg vs.toArray)=some (s.new (.cells vs z)):=by
 rw [zld hl (aggC vs) hn h1,zbV (by omega),List.drop_of_length_le (by omega)]
 simp
end
end Go.E
namespace Go.Proofs.YtlpigjmjgclgiaaDoorE
open Go Go.E Go.Proofs
def Pf [Sym] (f:Nat) (args:List Value) (v:Value):Prop:=∀ st:SS,∃ n,st.next≤n∧cc f args st=some (v,st.adv n)
structure Fl where
 n:Bool
 z:Bool
 v:Bool
 c:Bool
def Fl.row (f:Fl):List Value:=[.bool f.n,.bool f.z,.bool f.v,.bool f.c]
def Fl.val (f:Fl):Value:=.agg #[.bool f.n,.bool f.z,.bool f.v,.bool f.c]
theorem Fl.cells (f:Fl):f.val.cells.toList=f.row:=rfl
theorem Fl.one (f:Fl):f.row.all E.one=true:=rfl
theorem Fl.flat (f:Fl):flat3 f.val=true:=rfl
def fl0:List Value:=[.bool false,.bool false,.bool false,.bool false]
def zf4 (s:Int):Int:=if s=1 then 255 else if s=2 then 65535 else if s=4 then 4294967295 else 0
theorem zhI [Sym] (s:Int):Pf 57 [.int .i64 s] (.int .u32 (zf4 s)):=fun st=>by
 refine ⟨st.next,zlr _,ziJ s st ?_⟩
 unfold zf4
 by_cases h1:s=1
 ·simp only [zc3,h1,decide_true,zct,if_true];rfl
 by_cases h2:s=2
 ·simp only [zc3,h1,h2,decide_false,decide_true,zcf,zct,if_false,if_true];rfl
 by_cases h4:s=4
 ·simp only [zc3,h1,h2,h4,decide_false,decide_true,zcf,zct,if_false,if_true];rfl
 simp only [zc3,h1,h2,h4,decide_false,zcf,if_false];rfl
def putT (old x s:Int):Int:=orI .u32 (zee .u32 old (zf4 s)) (zb4 .u32 x (zf4 s))
theorem zkJ [Sym] (old x s:Int):Pf 32 [.int .u32 old,.int .u32 x,.int .i64 s] (.int .u32 (putT old x s)):=fun st=>by
 obtain ⟨n1,h1,e1⟩:=zhI s (st.ro st.next)
 obtain ⟨n2,h2,e2⟩:=zhI s ((st.ro st.next).adv n1)
 refine ⟨n2,zlt h1 h2,zi7 _ _ _ st ?_⟩
 simp only [ziG,e1,e2,zob,zaG];rfl
end Go.Proofs.YtlpigjmjgclgiaaDoorE
namespace Go.Proofs.YtlpigjmjgclgiaaDoorE
open Go Go.E Go.Proofs
section
variable {s : SS} {n m k j : Nat} {r g vs : List Value} {v : Value}
noncomputable abbrev V1 (s:SS) (r:List Value) (n:Nat):SS:=(s.new (.cells r 0)).adv n
noncomputable abbrev V2 (s:SS) (r:List Value) (n:Nat) (g:List Value) (m:Nat):SS:=(((s.new (.cells r 0)).adv n).new (.cells g 0)).adv m
theorem V1.st (hl:s.lim≤s.next) (h1:vs.all one=true):(V1 s r n).st s.next k vs=(zaA r k vs).map fun r'=>V1 s r' n:=by
 rw [ziK,zhH hl h1]
 cases zaA r k vs<;>rfl
theorem V1.stW (hl:s.lim≤s.next) (h1:vs.all one=true) (hn:vs.length=m) (hr:r.length=m):(V1 s r n).stV s.next 0 m (.agg vs.toArray)=some (V1 s vs n):=by
 rw [zhG,zjt hl h1 hn hr];rfl
theorem V1.ld:(V1 s r n).ld s.next k=r[k]?:=by rw [zkI,zdn]
theorem V1.rdN (h:r.length=m):(V1 s r n).rdN s.next 0 m=some (.agg r.toArray):=by rw [zjs,zlf,zcr h];rfl
theorem V1.ldN (h:r.length=m):(V1 s r n).ldN s.next 0 m=some (.agg r.toArray):=by rw [zjr,zgF,zcr h];rfl
theorem V2.st (hl:s.lim≤n) (h1:vs.all one=true):(V2 s r n g m).st n k vs=(zaA g k vs).map fun g'=>V2 s r n g' m:=by
 rw [ziK]
 have:=zhH (s:=V1 s r n) (r:=g) (z:=0) (k:=k) (vs:=vs) hl h1
 rw [show (V1 s r n).next=n from rfl] at this
 rw [this]
 cases zaA g k vs<;>rfl
theorem V2.stW (hl:s.lim≤n) (h1:vs.all one=true) (hn:vs.length=j) (hg:g.length=j):(V2 s r n g m).stV n 0 j (.agg vs.toArray)=some (V2 s r n vs m):=by
 rw [zhG]
 have:=zjt (s:=V1 s r n) (r:=g) (z:=0) (vs:=vs) (n:=j) hl h1 hn hg
 rw [show (V1 s r n).next=n from rfl] at this
 rw [this];rfl
theorem V2.ld:(V2 s r n g m).ld n k=g[k]?:=zdn (s:=V1 s r n)
theorem V2.ldN (h:g.length=j):(V2 s r n g m).ldN n 0 j=some (.agg g.toArray):=by
 rw [zjr]
 have:=zgF (s:=V1 s r n) (r:=g) (z:=0) (k:=0) (n:=j)
 rw [show (V1 s r n).next=n from rfl] at this
 rw [this,zcr h];rfl
theorem V2.stW1 (hn:s.next<n) (hl:s.lim≤s.next) (h1:vs.all one=true) (hv:vs.length=j) (hr:r.length=j):(V2 s r n g m).stV s.next 0 j (.agg vs.toArray)=some (V2 s vs n g m):=by
 rw [zhG,zle (s:=V1 s r n) (show s.next≠n by omega),V1.stW hl h1 hv hr];rfl
theorem V2.rdN1 (hn:s.next<n) (h:r.length=j):(V2 s r n g m).rdN s.next 0 j=some (.agg r.toArray):=by
 rw [zjs,zlg (s:=V1 s r n) (show s.next≠n by omega),V1.rdN h]
theorem V2.fin (hn:s.next<n) (hl:s.lim≤s.next) {f:Fl} (hr:r.length=4):(V2 s r n f.row m).ldN n 0 4=some f.val∧(V2 s r n f.row m).stV s.next 0 4 f.val=some (V2 s f.row n f.row m)∧(V2 s f.row n f.row m).rdN s.next 0 4=some f.val:=
 ⟨V2.ldN rfl,V2.stW1 hn hl (Fl.one f) rfl hr,V2.rdN1 hn rfl⟩
theorem Fl.spl (f:Fl) (b:Bool):zaA f.row 0 [.bool b]=some (Fl.row { f with n:=b })∧zaA f.row 1 [.bool b]=some (Fl.row { f with z:=b })∧zaA f.row 2 [.bool b]=some (Fl.row { f with v:=b })∧zaA f.row 3 [.bool b]=some (Fl.row { f with c:=b }):=⟨rfl,rfl,rfl,rfl⟩
theorem V2.fl (hl:s.lim≤n) (f:Fl) (b:Bool):(V2 s r n f.row m).st n 0 [.bool b]=some (V2 s r n (Fl.row { f with n:=b }) m)∧(V2 s r n f.row m).st n 2 [.bool b]=some (V2 s r n (Fl.row { f with v:=b }) m)∧(V2 s r n f.row m).st n 3 [.bool b]=some (V2 s r n (Fl.row { f with c:=b }) m):=by
 refine ⟨?_,?_,?_⟩<;>rw [V2.st hl rfl]
 ·rw [(Fl.spl f b).1];rfl
 ·rw [(Fl.spl f b).2.2.1];rfl
 ·rw [(Fl.spl f b).2.2.2];rfl
theorem V2.put (hl:s.lim≤n) (f:Fl):(V2 s r n fl0 (n+1)).stV n 0 4 f.val=some (V2 s r n f.row (n+1)):=V2.stW hl (Fl.one f) rfl rfl
end
end Go.Proofs.YtlpigjmjgclgiaaDoorE
namespace Go.Proofs.YtlpigjmjgclgiaaDoorE
open Go Go.E Go.Proofs
theorem bs {α β:Type} {x:Option α} {a:α} {f:α→Option β} {r:β} (h:x=some a) (k:f a=some r):x.bind f=some r:=by rw [h];exact k
end Go.Proofs.YtlpigjmjgclgiaaDoorE
namespace Go.Proofs.YtlpigjmjgclgiaaDoorE
open Go Go.E Go.Proofs
theorem zkK {k:IntKind} {a b:Int} (h:0≤b):aI .shl k a b=some (.int k (zgw k a b)):=by unfold aI;simp only;rw [zdf (by omega)];rfl
end Go.Proofs.YtlpigjmjgclgiaaDoorE
namespace Go.Proofs.YtlpigjmjgclgiaaDoorE
open Go Go.E Go.Proofs
def zbp (x:Int):Bool:=!decide (zb4 .u32 x 16777216=0)
theorem zc4 [Sym] (x:Int):Pf 34 [.int .u32 x] (.bool (zbp x)):=fun st=>⟨st.next,zlr _,zia _ st rfl⟩
end Go.Proofs.YtlpigjmjgclgiaaDoorE
namespace Go.Proofs.YtlpigjmjgclgiaaDoorE
set_option maxRecDepth 20000
open Go Go.E Go.Proofs
noncomputable def zlh (cf:zaw) (lf:zak) (st:SS):Option (Value×SS):=
 let st1:SS:=st.new (.cells [.int .u32 0,.int .u32 0,.int .u32 0,.int .u32 0,.int .u32 0,.int .u32 0,.int .u32 0,.int .u32 0,.int .u32 0,.int .u32 0,.int .u32 0,.int .u32 0,.int .u32 0,.int .u32 0,.int .u32 0,.int .u32 0,.int .u32 0,.int .u32 0,.int .u32 0,.slice none 0 0] 0)
 some (ptr st.next 0,st1)
noncomputable abbrev zi8:zak:=lS Tryd.prog Lk0 Tryd.f8 zaI
theorem zi9:Lk0.func 8=some (8,Tryd.f8):=by kernel_rfl
theorem zja [Sym] (st:SS) {r:Value×SS} (h:zlh cc zi8 st=some r):cc 8 [] st=some r:=
 zar (li:=zaI) zau zaF zi9 rfl (fun _=>rfl) (.trans (by kernel_rfl) h)
noncomputable def zeU (cf:zaw) (lf:zak) (f':Value) (n':Int) (st:SS):Option (Value×SS):=
 (((zbT f').bind fun r=>some (.bool r)).bind asB).bind fun a=>
 cond a (
 some (.int .u32 0,st.adv (st.ro st.next).next)) (
 cond (decide (n'<0)) (
 some (.int .u32 0,st.adv (st.ro st.next).next)) (
 cond (decide (15<n')) (
 some (.int .u32 0,st.adv (st.ro st.next).next)) (
 (zac f').bind fun b=>
 (addr? b).bind fun c=>
 (zaQ (ptr c.1 c.2) 16 n' 1).bind fun d=>
 (((st.ro st.next).ld d.1 d.2).bind (asI .u32)).bind fun e=>
 some (.int .u32 e,st.adv (st.ro st.next).next))))
noncomputable abbrev zgG:zak:=lS Tryd.prog Lk0 Tryd.f31 zaI
theorem zgH:Lk0.func 31=some (31,Tryd.f31):=by kernel_rfl
theorem zgI [Sym] (f':Value) (n':Int) (st:SS) {r:Value×SS} (h:zeU cc zgG f' n' st=some r):cc 31 [f',.int .i64 n'] st=some r:=
 zar (li:=zaI) zau zaF zgH rfl (fun _=>rfl) (.trans (by kernel_rfl) h)
noncomputable def zeV (cf:zaw) (lf:zak) (f':Value) (st:SS):Option (Value×SS):=
 (((zbT f').bind fun r=>some (.bool r)).bind asB).bind fun a=>
 cond a (
 some (.int .u32 0,st.adv (st.ro st.next).next)) (
 (zac f').bind fun b=>
 (addr? b).bind fun c=>
 (((st.ro st.next).ld c.1 (c.2+16)).bind (asI .u32)).bind fun d=>
 some (.int .u32 d,st.adv (st.ro st.next).next))
noncomputable abbrev zgJ:zak:=lS Tryd.prog Lk0 Tryd.f33 zaI
theorem zgK:Lk0.func 33=some (33,Tryd.f33):=by kernel_rfl
theorem zgL [Sym] (f':Value) (st:SS) {r:Value×SS} (h:zeV cc zgJ f' st=some r):cc 33 [f'] st=some r:=
 zar (li:=zaI) zau zaF zgK rfl (fun _=>rfl) (.trans (by kernel_rfl) h)
noncomputable def zdW (cf:zaw) (lf:zak) (f':Value) (user':Bool) (st:SS):Option (Value×SS):=
 (((zbT f').bind fun r=>some (.bool r)).bind asB).bind fun a=>
 cond a (
 some (.int .u32 0,st.adv (st.ro st.next).next)) (
 (zac f').bind fun b=>
 (addr? b).bind fun c=>
 (((st.ro st.next).ld c.1 (c.2+16)).bind (asI .u32)).bind fun d=>
 (cf 34 [.int .u32 d] (st.ro st.next)).bind fun e=>
 ((some e.1).bind asB).bind fun f=>
 cond (user'==f) (
 (zac f').bind fun g=>
 (addr? g).bind fun h=>
 (zaQ (ptr h.1 h.2) 16 14 1).bind fun i=>
 ((e.2.ld i.1 i.2).bind (asI .u32)).bind fun j=>
 some (.int .u32 j,st.adv e.2.next)) (
 cond user' (
 (zac f').bind fun k=>
 (addr? k).bind fun l=>
 ((e.2.ld l.1 (l.2+18)).bind (asI .u32)).bind fun m=>
 some (.int .u32 m,st.adv e.2.next)) (
 (zac f').bind fun n=>
 (addr? n).bind fun o=>
 ((e.2.ld o.1 (o.2+17)).bind (asI .u32)).bind fun p=>
 some (.int .u32 p,st.adv e.2.next))))
noncomputable abbrev zfA:zak:=lS Tryd.prog Lk0 Tryd.f35 zaI
theorem zfB:Lk0.func 35=some (35,Tryd.f35):=by kernel_rfl
theorem zfC [Sym] (f':Value) (user':Bool) (st:SS) {r:Value×SS} (h:zdW cc zfA f' user' st=some r):cc 35 [f',.bool user'] st=some r:=
 zar (li:=zaI) zau zaF zfB rfl (fun _=>rfl) (.trans (by kernel_rfl) h)
noncomputable def zcc (cf:zaw) (lf:zak) (f':Value) (x':Int) (st:SS):Option (Value×SS):=
 (((zbT f').bind fun r=>some (.bool r)).bind asB).bind fun a=>
 cond a (
 some (.tuple #[],st)) (
 (cf 34 [.int .u32 x'] (st.ro st.next)).bind fun b=>
 ((some b.1).bind asB).bind fun c=>
 (zac f').bind fun d=>
 (addr? d).bind fun e=>
 (((b.2.ro st.lim).ld e.1 (e.2+16)).bind (asI .u32)).bind fun f=>
 (cf 34 [.int .u32 f] (b.2.ro st.lim)).bind fun g=>
 ((some g.1).bind asB).bind fun h=>
 cond (!(c==h)) (
 (cf 34 [.int .u32 x'] g.2).bind fun i=>
 ((some i.1).bind asB).bind fun j=>
 cond j (
 (zac f').bind fun k=>
 (addr? k).bind fun l=>
 (zaQ (ptr l.1 l.2) 16 14 1).bind fun m=>
 ((i.2.ld m.1 m.2).bind (asI .u32)).bind fun n=>
 (zac f').bind fun o=>
 (addr? o).bind fun p=>
 ((i.2.ld p.1 (p.2+18)).bind (asI .u32)).bind fun q=>
 (zac f').bind fun s=>
 (addr? s).bind fun t=>
 (i.2.st t.1 (t.2+17) [.int .u32 n]).bind fun u=>
 (zac f').bind fun v=>
 (addr? v).bind fun w=>
 (zaQ (ptr w.1 w.2) 16 14 1).bind fun x=>
 (u.st x.1 x.2 [.int .u32 q]).bind fun y=>
 (zac f').bind fun z=>
 (addr? z).bind fun A=>
 (y.st A.1 (A.2+16) [.int .u32 x']).bind fun B=>
 some (.tuple #[],B)) (
 (zac f').bind fun C=>
 (addr? C).bind fun D=>
 (zaQ (ptr D.1 D.2) 16 14 1).bind fun E=>
 ((i.2.ld E.1 E.2).bind (asI .u32)).bind fun F=>
 (zac f').bind fun G=>
 (addr? G).bind fun H=>
 ((i.2.ld H.1 (H.2+17)).bind (asI .u32)).bind fun I=>
 (zac f').bind fun J=>
 (addr? J).bind fun K=>
 (i.2.st K.1 (K.2+18) [.int .u32 F]).bind fun L=>
 (zac f').bind fun M=>
 (addr? M).bind fun N=>
 (zaQ (ptr N.1 N.2) 16 14 1).bind fun O=>
 (L.st O.1 O.2 [.int .u32 I]).bind fun P=>
 (zac f').bind fun Q=>
 (addr? Q).bind fun R=>
 (P.st R.1 (R.2+16) [.int .u32 x']).bind fun S=>
 some (.tuple #[],S))) (
 (zac f').bind fun T=>
 (addr? T).bind fun U=>
 (g.2.st U.1 (U.2+16) [.int .u32 x']).bind fun V=>
 some (.tuple #[],V)))
noncomputable abbrev zgM:zak:=lS Tryd.prog Lk0 Tryd.f28 zaI
theorem zgN:Lk0.func 28=some (28,Tryd.f28):=by kernel_rfl
theorem zcl [Sym] (f':Value) (x':Int) (st:SS) {r:Value×SS} (h:zcc cc zgM f' x' st=some r):cc 28 [f',.int .u32 x'] st=some r:=
 zar (li:=zaI) zau zaF zgN rfl (fun _=>rfl) (.trans (by kernel_rfl) h)
noncomputable def zbN (cf:zaw) (lf:zak) (f':Value) (n':Int) (x':Int) (size':Int) (st:SS):Option (Value×SS):=
 (((zbT f').bind fun r=>some (.bool r)).bind asB).bind fun a=>
 cond a (
 some (.int .i64 2,st)) (
 cond (decide (n'<0)) (
 some (.int .i64 1,st)) (
 cond (decide (15<n')) (
 some (.int .i64 1,st)) (
 (cf 57 [.int .i64 size'] st).bind fun b=>
 ((some b.1).bind (asI .u32)).bind fun c=>
 cond (decide (c=0)) (
 some (.int .i64 1,b.2)) (
 (zac f').bind fun d=>
 (addr? d).bind fun e=>
 (zaQ (ptr e.1 e.2) 16 n' 1).bind fun f=>
 ((b.2.ld f.1 f.2).bind (asI .u32)).bind fun g=>
 (cf 32 [.int .u32 g,.int .u32 x',.int .i64 size'] b.2).bind fun h=>
 ((some h.1).bind (asI .u32)).bind fun i=>
 (zac f').bind fun j=>
 (addr? j).bind fun k=>
 (zaQ (ptr k.1 k.2) 16 n' 1).bind fun l=>
 (h.2.st l.1 l.2 [.int .u32 i]).bind fun m=>
 some (.int .i64 0,m)))))
noncomputable abbrev zgO:zak:=lS Tryd.prog Lk0 Tryd.f29 zaI
theorem zgP:Lk0.func 29=some (29,Tryd.f29):=by kernel_rfl
theorem zbL [Sym] (f':Value) (n':Int) (x':Int) (size':Int) (st:SS) {r:Value×SS} (h:zbN cc zgO f' n' x' size' st=some r):cc 29 [f',.int .i64 n',.int .u32 x',.int .i64 size'] st=some r:=
 zar (li:=zaI) zau zaF zgP rfl (fun _=>rfl) (.trans (by kernel_rfl) h)
noncomputable def zdI (cf:zaw) (lf:zak) (f':Value) (st:SS):Option (Value×SS):=
 (((zbT f').bind fun r=>some (.bool !r)).bind asB).bind fun a=>
 cond a (
 (zac f').bind fun b=>
 (addr? b).bind fun c=>
 (st.st c.1 (c.2+19) [.slice none 0 0]).bind fun d=>
 some (.tuple #[],d)) (
 some (.tuple #[],st))
noncomputable abbrev zeX:zak:=lS Tryd.prog Lk0 Tryd.f40 zaI
theorem zeY:Lk0.func 40=some (40,Tryd.f40):=by kernel_rfl
theorem zeZ [Sym] (f':Value) (st:SS) {r:Value×SS} (h:zdI cc zeX f' st=some r):cc 40 [f'] st=some r:=
 zar (li:=zaI) zau zaF zeY rfl (fun _=>rfl) (.trans (by kernel_rfl) h)
end Go.Proofs.YtlpigjmjgclgiaaDoorE
namespace Go.Proofs.YtlpigjmjgclgiaaDoorE
set_option maxRecDepth 20000
open Go Go.E Go.Proofs
noncomputable def zh3 (cf:zaw) (lf:zak) (file':Value) (st:SS):Option (Value×SS):=
 (zfs file' 1).bind fun a=>
 let b:SS:=st.new (.cells (.agg ⟨spl [.pointer none,.int .u32 0,.int .u32 0,.int .u32 0,.int .u32 0,.int .u32 0,.int .u32 0,.int .u32 0,.int .u32 0,.int .u32 0,.int .u32 0,.int .u32 0,.int .u32 0,.int .u32 0,.int .u32 0,.int .u32 0,.int .u32 0,.int .u32 0,.int .u32 0,.int .u32 0,.int .u32 0,.int .u32 0,.int .u32 0,.int .u32 0,.int .u32 0,.int .u32 0,.int .u32 0,.int .u32 0,.int .u32 0,.int .u32 0,.int .u32 0,.int .u32 0,.int .u32 0,.int .u32 0,.int .u32 0,.int .u32 0,.int .u32 0,.int .u32 0,.int .u32 0,.int .u32 0,.int .u32 0,.int .u32 0,.int .u32 0,.int .u32 0,.int .u32 0,.int .u32 0,.int .u32 0,.int .u32 0,.int .u32 0,.int .u32 0,.int .u32 0,.int .u32 0,.int .u32 0,.int .u32 0,.int .u32 0,.int .u32 0,.int .u32 0,.int .u32 0,.int .u32 0,.int .u32 0,.int .u32 0,.int .i64 0,.int .i64 0,.int .i64 0,.int .i64 0,.int .i64 0,.int .i64 0,.int .i64 0,.string ⟨#[]⟩,.int .i64 0,.int .i64 0,.slice none 0 0,.int .i64 0,.int .i64 0,.int .i64 0,.int .i64 0,.int .u64 0,.slice none 0 0,.bool false,.bool false,.bool false,.bool false,.bool false,.bool false,.int .u32 0,.int .i64 0,.int .u32 0,.int .i64 0] 0 a⟩:Value).cells.toList 0)
 (cf 21 [ptr st.next 0] b).bind fun c=>
 some (ptr st.next 0,c.2)
noncomputable abbrev ziL:zak:=lS Tryd.prog Lk0 Tryd.f7 zaI
theorem ziM:Lk0.func 7=some (7,Tryd.f7):=by kernel_rfl
theorem ziN [Sym] (file':Value) (st:SS) {r:Value×SS} (h:zh3 cc ziL file' st=some r):cc 7 [file'] st=some r:=
 zar (li:=zaI) zau zaF ziM rfl (fun _=>rfl) (.trans (by kernel_rfl) h)
def zb9:LoopI:=⟨[(0,.any),(3,.any),(4,.int .u32),(6,.any)],[(.normal,[])]⟩
def zcu:LoopI:=⟨[(0,.any),(3,.any),(4,.int .u32),(5,.int .u32)],[(.normal,[])]⟩
def zcI (n:Nat):Option LoopI:=cond (Nat.beq n 1000007) (some zcu) (cond (Nat.beq n 1000015) (some zb9) (none))
noncomputable def zdJ (cf:zaw) (lf:zak) (p':Value) (w':Value) (st:SS):Option (Value×SS):=
 let a:SS:=st.new (.cells (w':Value).cells.toList 0)
 ((a.ld st.next 1).bind (asI .i64)).bind fun b=>
 (cf 11 [p',.int .i64 b] (a.ro a.next)).bind fun c=>
 ((some c.1).bind (asI .u32)).bind fun d=>
 (((c.2.ro a.lim).ld st.next 2).bind (asI .i64)).bind fun e=>
 (cf 11 [p',.int .i64 e] (c.2.ro a.lim)).bind fun f=>
 ((some f.1).bind (asI .u32)).bind fun g=>
 ((f.2.ld st.next 1).bind (asI .i64)).bind fun h=>
 cond (decide (h=41)) (
 ((f.2.ld st.next 4).bind (asI .i64)).bind fun i=>
 let j:Int:=IntKind.wrap .u32 i
 ((f.2.ld st.next 2).bind (asI .i64)).bind fun k=>
 cond (decide (k=41)) (
 ((f.2.ld st.next 4).bind (asI .i64)).bind fun l=>
 let m:Int:=IntKind.wrap .u32 l
 (lf 1000007 [p',ptr st.next 0,.int .u32 j,.int .u32 m] f.2).bind fun n=>
 some (.tuple #[],n.2.2)) (
 (lf 1000007 [p',ptr st.next 0,.int .u32 j,.int .u32 g] f.2).bind fun o=>
 some (.tuple #[],o.2.2))) (
 ((f.2.ld st.next 2).bind (asI .i64)).bind fun p=>
 cond (decide (p=41)) (
 ((f.2.ld st.next 4).bind (asI .i64)).bind fun q=>
 let r:Int:=IntKind.wrap .u32 q
 (lf 1000007 [p',ptr st.next 0,.int .u32 d,.int .u32 r] f.2).bind fun s=>
 some (.tuple #[],s.2.2)) (
 (lf 1000007 [p',ptr st.next 0,.int .u32 d,.int .u32 g] f.2).bind fun t=>
 some (.tuple #[],t.2.2)))
noncomputable abbrev za4:zak:=lS Tryd.prog Lk0 Tryd.f9 zcI
theorem ze0:Lk0.func 9=some (9,Tryd.f9):=by kernel_rfl
theorem ze1 [Sym] (p':Value) (w':Value) (st:SS) {r:Value×SS} (h:zdJ cc za4 p' w' st=some r):cc 9 [p',w'] st=some r:=
 zar (li:=zcI) zau zaF ze0 rfl (fun _=>rfl) (.trans (by kernel_rfl) h)
noncomputable def zcJ (cf:zaw) (lf:zak) (p':Value) (w':Value) (a':Int) (b':Int) (st:SS):Option (Nat×List Value×SS):=
 (cf 17 [p'] st).bind fun a=>
 let b:SS:=a.2.new (.cells [.int .i64 0,.int .u32 0,.int .i64 0] 0)
 (b.st a.2.next 0 [.int .i64 (-1),.int .u32 0,.int .i64 0]).bind fun c=>
 (addr? w').bind fun d=>
 ((c.ld d.1 d.2).bind (asI .i64)).bind fun e=>
 cond (!(decide (e=0))) (
 (addr? w').bind fun f=>
 ((c.ld f.1 (f.2+5)).bind (asI .i64)).bind fun g=>
 (cf 22 [p',.int .i64 g] c).bind fun h=>
 ((some h.1).bind (asI .i64)).bind fun i=>
 (addr? w').bind fun j=>
 ((h.2.ld j.1 j.2).bind (asI .i64)).bind fun k=>
 (cf 23 [p',.int .i64 k,.int .u32 a',.int .u32 b',.int .i64 i] h.2).bind fun l=>
 ((tupG l.1 0).bind (asI .u32)).bind fun m=>
 (tupG l.1 1).bind fun n=>
 let o:SS:=l.2.new (.cells [.bool false,.bool false,.bool false,.bool false] 0)
 (o.stV l.2.next 0 4 n).bind fun p=>
 (p.ldN l.2.next 0 4).bind fun q=>
 (zac p').bind fun r=>
 (addr? r).bind fun s=>
 (p.stV s.1 (s.2+78) 4 q).bind fun t=>
 (t.ldN l.2.next 0 4).bind fun u=>
 (addr? w').bind fun v=>
 ((t.ld v.1 (v.2+6)).bind (asI .i64)).bind fun w=>
 (cf 24 [p',u,.int .i64 w] t).bind fun x=>
 (addr? w').bind fun y=>
 ((x.2.ld y.1 (y.2+3)).bind (asI .i64)).bind fun z=>
 (cf 25 [p',.int .i64 z] x.2).bind fun A=>
 ((some A.1).bind (asI .i64)).bind fun B=>
 (A.2.st a.2.next 0 [.int .i64 B,.int .u32 m,.int .i64 i]).bind fun C=>
 (lf 1000015 [p',w',.int .u32 a',ptr a.2.next 0] C).bind fun D=>
 some (0,[],D.2.2)) (
 (lf 1000015 [p',w',.int .u32 a',ptr a.2.next 0] c).bind fun E=>
 some (0,[],E.2.2))
theorem zd9 [Sym] (p':Value) (w':Value) (a':Int) (b':Int) (st:SS) {r:Nat×List Value×SS} (h:zcJ cc za4 p' w' a' b' st=some r):za4 1000007 [p',w',.int .u32 a',.int .u32 b'] st=some r:=
 zbK zau zaF (key:=1000007) (I:=zcu) rfl (by kernel_rfl) (by kernel_rfl) rfl rfl (.trans (by kernel_rfl) h)
noncomputable def zcB (cf:zaw) (lf:zak) (p':Value) (w':Value) (a':Int) (next':Value) (st:SS):Option (Nat×List Value×SS):=
 (addr? w').bind fun a=>
 (st.ldN a.1 a.2 12).bind fun b=>
 (cf 26 [p',b,.int .u32 a'] st).bind fun c=>
 (addr? w').bind fun d=>
 (c.2.ldN d.1 d.2 12).bind fun e=>
 (cf 27 [p',e,.int .u32 a'] c.2).bind fun f=>
 (addr? next').bind fun g=>
 ((f.2.ld g.1 g.2).bind (asI .i64)).bind fun h=>
 cond (decide (h=38)) (
 (zac p').bind fun i=>
 (addr? i).bind fun j=>
 (f.2.ld j.1 j.2).bind fun k=>
 (addr? next').bind fun l=>
 ((f.2.ld l.1 (l.2+1)).bind (asI .u32)).bind fun m=>
 (cf 28 [k,.int .u32 m] f.2).bind fun n=>
 some (0,[],n.2)) (
 (addr? next').bind fun o=>
 ((f.2.ld o.1 o.2).bind (asI .i64)).bind fun p=>
 cond (decide (0≤p)) (
 (addr? next').bind fun q=>
 (f.2.ldN q.1 q.2 3).bind fun r=>
 (zac p').bind fun s=>
 (addr? s).bind fun t=>
 (f.2.stV t.1 (t.2+85) 3 r).bind fun u=>
 some (0,[],u)) (
 some (0,[],f.2)))
theorem zdP [Sym] (p':Value) (w':Value) (a':Int) (next':Value) (st:SS) {r:Nat×List Value×SS} (h:zcB cc za4 p' w' a' next' st=some r):za4 1000015 [p',w',.int .u32 a',next'] st=some r:=
 zbK zau zaF (key:=1000015) (I:=zb9) rfl (by kernel_rfl) (by kernel_rfl) rfl rfl (.trans (by kernel_rfl) h)
def zcK:LoopI:=⟨[(0,.any),(1,.int .i64),(2,.int .u32),(3,.int .i64),(14,.bool)],[(.normal,[])]⟩
def zc9 (n:Nat):Option LoopI:=cond (Nat.beq n 1000003) (some zcK) (none)
noncomputable def zbh (cf:zaw) (lf:zak) (p':Value) (n':Int) (x':Int) (size':Int) (st:SS):Option (Value×SS):=
 cond (decide (n'<0)) (
 (lf 1000003 [p',.int .i64 n',.int .u32 x',.int .i64 size',.bool true] st).bind fun a=>
 some (.tuple #[],a.2.2)) (
 (lf 1000003 [p',.int .i64 n',.int .u32 x',.int .i64 size',.bool (decide (60≤n'))] st).bind fun b=>
 some (.tuple #[],b.2.2))
noncomputable abbrev zb5:zak:=lS Tryd.prog Lk0 Tryd.f10 zc9
theorem zf6:Lk0.func 10=some (10,Tryd.f10):=by kernel_rfl
theorem zbc [Sym] (p':Value) (n':Int) (x':Int) (size':Int) (st:SS) {r:Value×SS} (h:zbh cc zb5 p' n' x' size' st=some r):cc 10 [p',.int .i64 n',.int .u32 x',.int .i64 size'] st=some r:=
 zar (li:=zc9) zau zaF zf6 rfl (fun _=>rfl) (.trans (by kernel_rfl) h)
noncomputable def zbt (cf:zaw) (lf:zak) (p':Value) (n':Int) (x':Int) (size':Int) (t14':Bool) (st:SS):Option (Nat×List Value×SS):=
 cond t14' (
 some (0,[],st)) (
 cond (decide (n'<16)) (
 (zac p').bind fun a=>
 (addr? a).bind fun b=>
 (st.ld b.1 b.2).bind fun c=>
 (cf 29 [c,.int .i64 n',.int .u32 x',.int .i64 size'] st).bind fun d=>
 ((some d.1).bind (asI .i64)).bind fun e=>
 some (0,[],d.2)) (
 cond (decide (n'=38)) (
 (zac p').bind fun f=>
 (addr? f).bind fun g=>
 (st.ld g.1 g.2).bind fun h=>
 (cf 28 [h,.int .u32 x'] st).bind fun i=>
 some (0,[],i.2)) (
 (zac p').bind fun j=>
 (addr? j).bind fun k=>
 (zaQ (ptr k.1 (k.2+1)) 60 n' 1).bind fun l=>
 (st.st l.1 l.2 [.int .u32 x']).bind fun m=>
 some (0,[],m))))
theorem za2 [Sym] (p':Value) (n':Int) (x':Int) (size':Int) (t14':Bool) (st:SS) {r:Nat×List Value×SS} (h:zbt cc zb5 p' n' x' size' t14' st=some r):zb5 1000003 [p',.int .i64 n',.int .u32 x',.int .i64 size',.bool t14'] st=some r:=
 zbK zau zaF (key:=1000003) (I:=zcK) rfl (by kernel_rfl) (by kernel_rfl) rfl rfl (.trans (by kernel_rfl) h)
def zcC:LoopI:=⟨[(0,.any),(1,.int .i64),(99,.int .i64),(107,.bool)],[(.normal,[(0,.any),(1,.int .i64)]),(.ret,[(4,.int .u32)])]⟩
def zcD:LoopI:=⟨[(0,.any),(1,.int .i64)],[(.ret,[(4,.int .u32)])]⟩
def zcE:LoopI:=⟨[(0,.any),(1,.int .i64)],[(.ret,[(4,.int .u32)])]⟩
def zcL:LoopI:=⟨[(0,.any),(1,.int .i64),(6,.int .i64),(7,.bool)],[(.normal,[(0,.any),(1,.int .i64)]),(.ret,[(4,.int .u32)])]⟩
def zda (n:Nat):Option LoopI:=cond (Nat.beq n 1000007) (some zcL) (cond (Nat.beq n 1000018) (some zcE) (cond (Nat.beq n 1000025) (some zcD) (cond (Nat.beq n 1000030) (some zcC) (none))))
noncomputable def zbA (cf:zaw) (lf:zak) (p':Value) (n':Int) (st:SS):Option (Value×SS):=
 cond (decide (n'=39)) (
 (lf 1000007 [p',.int .i64 n',.int .i64 n',.bool (decide (n'=39))] (st.ro st.next)).bind fun a=>
 cond (Nat.beq a.1 0) (
 (a.2.1[0]?).bind fun b=>
 ((a.2.1[1]?).bind (asI .i64)).bind fun c=>
 (lf 1000018 [b,.int .i64 c] a.2.2).bind fun d=>
 ((d.2.1[0]?).bind (asI .u32)).bind fun e=>
 some (.int .u32 e,st.adv d.2.2.next)) (
 ((a.2.1[0]?).bind (asI .u32)).bind fun f=>
 some (.int .u32 f,st.adv a.2.2.next))) (
 cond (decide (n'=54)) (
 (lf 1000007 [p',.int .i64 n',.int .i64 n',.bool (decide (n'=54))] (st.ro st.next)).bind fun g=>
 cond (Nat.beq g.1 0) (
 (g.2.1[0]?).bind fun h=>
 ((g.2.1[1]?).bind (asI .i64)).bind fun i=>
 (lf 1000018 [h,.int .i64 i] g.2.2).bind fun j=>
 ((j.2.1[0]?).bind (asI .u32)).bind fun k=>
 some (.int .u32 k,st.adv j.2.2.next)) (
 ((g.2.1[0]?).bind (asI .u32)).bind fun l=>
 some (.int .u32 l,st.adv g.2.2.next))) (
 cond (decide (n'=55)) (
 (lf 1000007 [p',.int .i64 n',.int .i64 n',.bool (decide (n'=55))] (st.ro st.next)).bind fun m=>
 cond (Nat.beq m.1 0) (
 (m.2.1[0]?).bind fun n=>
 ((m.2.1[1]?).bind (asI .i64)).bind fun o=>
 (lf 1000018 [n,.int .i64 o] m.2.2).bind fun p=>
 ((p.2.1[0]?).bind (asI .u32)).bind fun q=>
 some (.int .u32 q,st.adv p.2.2.next)) (
 ((m.2.1[0]?).bind (asI .u32)).bind fun r=>
 some (.int .u32 r,st.adv m.2.2.next))) (
 (lf 1000007 [p',.int .i64 n',.int .i64 n',.bool (decide (n'=57))] (st.ro st.next)).bind fun s=>
 cond (Nat.beq s.1 0) (
 (s.2.1[0]?).bind fun t=>
 ((s.2.1[1]?).bind (asI .i64)).bind fun u=>
 (lf 1000018 [t,.int .i64 u] s.2.2).bind fun v=>
 ((v.2.1[0]?).bind (asI .u32)).bind fun w=>
 some (.int .u32 w,st.adv v.2.2.next)) (
 ((s.2.1[0]?).bind (asI .u32)).bind fun x=>
 some (.int .u32 x,st.adv s.2.2.next)))))
noncomputable abbrev zam:zak:=lS Tryd.prog Lk0 Tryd.f11 zda
theorem zf7:Lk0.func 11=some (11,Tryd.f11):=by kernel_rfl
theorem zbu [Sym] (p':Value) (n':Int) (st:SS) {r:Value×SS} (h:zbA cc zam p' n' st=some r):cc 11 [p',.int .i64 n'] st=some r:=
 zar (li:=zda) zau zaF zf7 rfl (fun _=>rfl) (.trans (by kernel_rfl) h)
noncomputable def zaR (cf:zaw) (lf:zak) (p':Value) (n':Int) (t6':Int) (t7':Bool) (st:SS):Option (Nat×List Value×SS):=
 cond t7' (
 (cf 25 [p',.int .i64 n'] st).bind fun a=>
 ((some a.1).bind (asI .i64)).bind fun b=>
 cond (decide (b<0)) (
 some (1,[.int .u32 0],a.2)) (
 some (0,[p',.int .i64 b],a.2))) (
 cond (decide (t6'=40)) (
 (zac p').bind fun c=>
 (addr? c).bind fun d=>
 ((st.ld d.1 (d.2+74)).bind (asI .i64)).bind fun e=>
 cond (decide (e<0)) (
 some (1,[.int .u32 0],st)) (
 some (0,[p',.int .i64 e],st))) (
 cond (decide (t6'=56)) (
 (cf 30 [p'] st).bind fun f=>
 ((some f.1).bind (asI .i64)).bind fun g=>
 let h:Int:=IntKind.wrap .i64 (30+g)
 some (0,[p',.int .i64 h],f.2)) (
 cond (decide (t6'=50)) (
 (zac p').bind fun i=>
 (addr? i).bind fun j=>
 (st.ld j.1 (j.2+67+4)).bind fun k=>
 ((lenV k).bind (asI .i64)).bind fun l=>
 let m:Int:=IntKind.wrap .i64 (l-1)
 let n:Int:=if 0>m then 0 else m
 let o:Int:=IntKind.wrap .i64 (24+n)
 some (0,[p',.int .i64 o],st)) (
 some (0,[p',.int .i64 n'],st)))))
theorem zaO [Sym] (p':Value) (n':Int) (t6':Int) (t7':Bool) (st:SS) {r:Nat×List Value×SS} (h:zaR cc zam p' n' t6' t7' st=some r):zam 1000007 [p',.int .i64 n',.int .i64 t6',.bool t7'] st=some r:=
 zbK zau zaF (key:=1000007) (I:=zcL) rfl (by kernel_rfl) (by kernel_rfl) rfl rfl (.trans (by kernel_rfl) h)
noncomputable def zaV (cf:zaw) (lf:zak) (p':Value) (n':Int) (st:SS):Option (Nat×List Value×SS):=
 cond (decide (n'<16)) (
 (zac p').bind fun a=>
 (addr? a).bind fun b=>
 (st.ld b.1 b.2).bind fun c=>
 (cf 31 [c,.int .i64 n'] st).bind fun d=>
 ((some d.1).bind (asI .u32)).bind fun e=>
 (zac p').bind fun f=>
 (addr? f).bind fun g=>
 ((d.2.ld g.1 (g.2+85)).bind (asI .i64)).bind fun h=>
 cond (decide (h=n')) (
 (zac p').bind fun i=>
 (addr? i).bind fun j=>
 ((d.2.ld j.1 (j.2+85+2)).bind (asI .i64)).bind fun k=>
 cond (decide (0<k)) (
 (zac p').bind fun l=>
 (addr? l).bind fun m=>
 ((d.2.ld m.1 (m.2+85+1)).bind (asI .u32)).bind fun n=>
 (zac p').bind fun o=>
 (addr? o).bind fun p=>
 ((d.2.ld p.1 (p.2+85+2)).bind (asI .i64)).bind fun q=>
 (cf 32 [.int .u32 e,.int .u32 n,.int .i64 q] d.2).bind fun r=>
 ((some r.1).bind (asI .u32)).bind fun s=>
 some (0,[.int .u32 s],r.2)) (
 some (0,[.int .u32 e],d.2))) (
 some (0,[.int .u32 e],d.2))) (
 (zac p').bind fun t=>
 (addr? t).bind fun u=>
 ((st.ld u.1 (u.2+85)).bind (asI .i64)).bind fun v=>
 cond (decide (v=n')) (
 (zac p').bind fun w=>
 (addr? w).bind fun x=>
 ((st.ld x.1 (x.2+85+2)).bind (asI .i64)).bind fun y=>
 cond (decide (0<y)) (
 (zac p').bind fun z=>
 (addr? z).bind fun A=>
 ((st.ld A.1 (A.2+85+1)).bind (asI .u32)).bind fun B=>
 some (0,[.int .u32 B],st)) (
 (lf 1000025 [p',.int .i64 n'] st).bind fun C=>
 ((C.2.1[0]?).bind (asI .u32)).bind fun D=>
 some (0,[.int .u32 D],C.2.2))) (
 (lf 1000025 [p',.int .i64 n'] st).bind fun E=>
 ((E.2.1[0]?).bind (asI .u32)).bind fun F=>
 some (0,[.int .u32 F],E.2.2)))
theorem zaU [Sym] (p':Value) (n':Int) (st:SS) {r:Nat×List Value×SS} (h:zaV cc zam p' n' st=some r):zam 1000018 [p',.int .i64 n'] st=some r:=
 zbK zau zaF (key:=1000018) (I:=zcE) rfl (by kernel_rfl) (by kernel_rfl) rfl rfl (.trans (by kernel_rfl) h)
noncomputable def zbq (cf:zaw) (lf:zak) (p':Value) (n':Int) (st:SS):Option (Nat×List Value×SS):=
 cond (decide (n'=38)) (
 (zac p').bind fun a=>
 (addr? a).bind fun b=>
 (st.ld b.1 b.2).bind fun c=>
 (cf 33 [c] st).bind fun d=>
 ((some d.1).bind (asI .u32)).bind fun e=>
 some (0,[.int .u32 e],d.2)) (
 cond (decide (n'=48)) (
 (lf 1000030 [p',.int .i64 n',.int .i64 n',.bool (decide (n'=48))] st).bind fun f=>
 cond (Nat.beq f.1 0) (
 (f.2.1[0]?).bind fun g=>
 ((f.2.1[1]?).bind (asI .i64)).bind fun h=>
 cond (decide (60≤h)) (
 some (0,[.int .u32 0],f.2.2)) (
 (zac g).bind fun i=>
 (addr? i).bind fun j=>
 (zaQ (ptr j.1 (j.2+1)) 60 h 1).bind fun k=>
 ((f.2.2.ld k.1 k.2).bind (asI .u32)).bind fun l=>
 some (0,[.int .u32 l],f.2.2))) (
 ((f.2.1[0]?).bind (asI .u32)).bind fun m=>
 some (0,[.int .u32 m],f.2.2))) (
 (lf 1000030 [p',.int .i64 n',.int .i64 n',.bool (decide (n'=49))] st).bind fun n=>
 cond (Nat.beq n.1 0) (
 (n.2.1[0]?).bind fun o=>
 ((n.2.1[1]?).bind (asI .i64)).bind fun p=>
 cond (decide (60≤p)) (
 some (0,[.int .u32 0],n.2.2)) (
 (zac o).bind fun q=>
 (addr? q).bind fun r=>
 (zaQ (ptr r.1 (r.2+1)) 60 p 1).bind fun s=>
 ((n.2.2.ld s.1 s.2).bind (asI .u32)).bind fun t=>
 some (0,[.int .u32 t],n.2.2))) (
 ((n.2.1[0]?).bind (asI .u32)).bind fun u=>
 some (0,[.int .u32 u],n.2.2))))
theorem zbB [Sym] (p':Value) (n':Int) (st:SS) {r:Nat×List Value×SS} (h:zbq cc zam p' n' st=some r):zam 1000025 [p',.int .i64 n'] st=some r:=
 zbK zau zaF (key:=1000025) (I:=zcD) rfl (by kernel_rfl) (by kernel_rfl) rfl rfl (.trans (by kernel_rfl) h)
noncomputable def zaJ (cf:zaw) (lf:zak) (p':Value) (n':Int) (t99':Int) (t107':Bool) (st:SS):Option (Nat×List Value×SS):=
 cond t107' (
 (zac p').bind fun a=>
 (addr? a).bind fun b=>
 (st.ld b.1 b.2).bind fun c=>
 (cf 33 [c] st).bind fun d=>
 ((some d.1).bind (asI .u32)).bind fun e=>
 (cf 34 [.int .u32 e] d.2).bind fun f=>
 ((some f.1).bind asB).bind fun g=>
 cond (g==(decide (n'=49))) (
 (cf 11 [p',.int .i64 14] f.2).bind fun h=>
 ((some h.1).bind (asI .u32)).bind fun i=>
 some (1,[.int .u32 i],h.2)) (
 (zac p').bind fun j=>
 (addr? j).bind fun k=>
 (f.2.ld k.1 k.2).bind fun l=>
 (cf 35 [l,.bool (decide (n'=49))] f.2).bind fun m=>
 ((some m.1).bind (asI .u32)).bind fun n=>
 some (1,[.int .u32 n],m.2))) (
 cond (decide (t99'=51)) (
 (zac p').bind fun o=>
 (addr? o).bind fun p=>
 ((st.ld p.1 (p.2+75)).bind (asI .i64)).bind fun q=>
 let r:Int:=IntKind.wrap .u32 q
 some (1,[.int .u32 r],st)) (
 cond (decide (t99'=52)) (
 (cf 11 [p',.int .i64 15] (st.ro st.next)).bind fun s=>
 ((some s.1).bind (asI .u32)).bind fun t=>
 (zac p').bind fun u=>
 (addr? u).bind fun v=>
 (zaQ (ptr v.1 (v.2+1)) 60 46 1).bind fun w=>
 (((s.2.ro st.lim).ld w.1 w.2).bind (asI .u32)).bind fun x=>
 let y:Int:=IntKind.wrap .u32 (t-x)
 some (1,[.int .u32 y],(s.2.ro st.lim))) (
 cond (decide (t99'=58)) (
 (zac p').bind fun z=>
 (addr? z).bind fun A=>
 (st.ld A.1 (A.2+77)).bind fun B=>
 ((lenV B).bind (asI .i64)).bind fun C=>
 let D:Int:=IntKind.wrap .u32 C
 some (1,[.int .u32 D],st)) (
 cond (decide (t99'=42)) (
 cond (decide (t99'=42)) (
 some (1,[.int .u32 0],st)) (
 some (0,[p',.int .i64 n'],st))) (
 cond (decide (t99'=41)) (
 some (1,[.int .u32 0],st)) (
 some (0,[p',.int .i64 n'],st)))))))
theorem zaH [Sym] (p':Value) (n':Int) (t99':Int) (t107':Bool) (st:SS) {r:Nat×List Value×SS} (h:zaJ cc zam p' n' t99' t107' st=some r):zam 1000030 [p',.int .i64 n',.int .i64 t99',.bool t107'] st=some r:=
 zbK zau zaF (key:=1000030) (I:=zcC) rfl (by kernel_rfl) (by kernel_rfl) rfl rfl (.trans (by kernel_rfl) h)
noncomputable def zb6 (cf:zaw) (lf:zak) (p':Value) (st:SS):Option (Value×SS):=
 (zac p').bind fun a=>
 (addr? a).bind fun b=>
 ((st.ld b.1 (b.2+85+2)).bind (asI .i64)).bind fun c=>
 cond (decide (0<c)) (
 (zac p').bind fun d=>
 (addr? d).bind fun e=>
 ((st.ld e.1 (e.2+85)).bind (asI .i64)).bind fun f=>
 (zac p').bind fun g=>
 (addr? g).bind fun h=>
 ((st.ld h.1 (h.2+85+1)).bind (asI .u32)).bind fun i=>
 (zac p').bind fun j=>
 (addr? j).bind fun k=>
 ((st.ld k.1 (k.2+85+2)).bind (asI .i64)).bind fun l=>
 (cf 10 [p',.int .i64 f,.int .u32 i,.int .i64 l] st).bind fun m=>
 (zac p').bind fun n=>
 (addr? n).bind fun o=>
 (m.2.st o.1 (o.2+85) [.int .i64 0,.int .u32 0,.int .i64 0]).bind fun p=>
 some (.tuple #[],p)) (
 (zac p').bind fun q=>
 (addr? q).bind fun r=>
 (st.st r.1 (r.2+85) [.int .i64 0,.int .u32 0,.int .i64 0]).bind fun s=>
 some (.tuple #[],s))
noncomputable abbrev zeM:zak:=lS Tryd.prog Lk0 Tryd.f17 zaI
theorem zeN:Lk0.func 17=some (17,Tryd.f17):=by kernel_rfl
theorem zcF [Sym] (p':Value) (st:SS) {r:Value×SS} (h:zb6 cc zeM p' st=some r):cc 17 [p'] st=some r:=
 zar (li:=zaI) zau zaF zeN rfl (fun _=>rfl) (.trans (by kernel_rfl) h)
noncomputable def zdK (cf:zaw) (lf:zak) (p':Value) (st:SS):Option (Value×SS):=
 (cf 17 [p'] st).bind fun a=>
 (zac p').bind fun b=>
 (addr? b).bind fun c=>
 (a.2.ld c.1 c.2).bind fun d=>
 (cf 40 [d] a.2).bind fun e=>
 (zac p').bind fun f=>
 (addr? f).bind fun g=>
 (e.2.ld g.1 g.2).bind fun h=>
 (cf 31 [h,.int .i64 15] (e.2.ro e.2.next)).bind fun i=>
 ((some i.1).bind (asI .u32)).bind fun j=>
 (zac p').bind fun k=>
 (addr? k).bind fun l=>
 ((i.2.ro e.2.lim).ld l.1 l.2).bind fun m=>
 (cf 33 [m] (i.2.ro e.2.lim)).bind fun n=>
 ((some n.1).bind (asI .u32)).bind fun o=>
 (zac p').bind fun p=>
 (addr? p).bind fun q=>
 (zaQ (ptr q.1 (q.2+1)) 60 46 1).bind fun r=>
 (n.2.st r.1 r.2 [.int .u32 j]).bind fun s=>
 (zac p').bind fun t=>
 (addr? t).bind fun u=>
 (s.st u.1 (u.2+84) [.int .u32 o]).bind fun v=>
 (cf 41 [p',.agg #[.int .i64 0,.string ⟨#[]⟩,.int .i64 0,.int .i64 0,.slice none 0 0]] v).bind fun w=>
 some (.tuple #[],w.2)
noncomputable abbrev ze2:zak:=lS Tryd.prog Lk0 Tryd.f21 zaI
theorem ze3:Lk0.func 21=some (21,Tryd.f21):=by kernel_rfl
theorem ze4 [Sym] (p':Value) (st:SS) {r:Value×SS} (h:zdK cc ze2 p' st=some r):cc 21 [p'] st=some r:=
 zar (li:=zaI) zau zaF ze3 rfl (fun _=>rfl) (.trans (by kernel_rfl) h)
noncomputable def zdX (cf:zaw) (lf:zak) (p':Value) (n':Int) (st:SS):Option (Value×SS):=
 cond (decide (n'=3)) (
 (zac p').bind fun a=>
 (addr? a).bind fun b=>
 (((st.ro st.next).ld b.1 (b.2+75)).bind (asI .i64)).bind fun c=>
 some (.int .i64 c,st.adv (st.ro st.next).next)) (
 ((aI .shl .i64 1 n').bind (asI .i64)).bind fun d=>
 some (.int .i64 d,st.adv (st.ro st.next).next))
noncomputable abbrev zfD:zak:=lS Tryd.prog Lk0 Tryd.f22 zaI
theorem zfE:Lk0.func 22=some (22,Tryd.f22):=by kernel_rfl
theorem zfF [Sym] (p':Value) (n':Int) (st:SS) {r:Value×SS} (h:zdX cc zfD p' n' st=some r):cc 22 [p',.int .i64 n'] st=some r:=
 zar (li:=zaI) zau zaF zfE rfl (fun _=>rfl) (.trans (by kernel_rfl) h)
noncomputable def zdL (cf:zaw) (lf:zak) (p':Value) (n':Int) (st:SS):Option (Value×SS):=
 cond (decide (n'=39)) (
 (zac p').bind fun a=>
 (addr? a).bind fun b=>
 (((st.ro st.next).ld b.1 (b.2+73)).bind (asI .i64)).bind fun c=>
 some (.int .i64 c,st.adv (st.ro st.next).next)) (
 cond (decide (n'=54)) (
 (cf 52 [p'] (st.ro st.next)).bind fun d=>
 ((some d.1).bind (asI .i64)).bind fun e=>
 let f:Int:=IntKind.wrap .i64 (24+e)
 some (.int .i64 f,st.adv d.2.next)) (
 cond (decide (n'=55)) (
 (cf 52 [p'] (st.ro st.next)).bind fun g=>
 ((some g.1).bind (asI .i64)).bind fun h=>
 let i:Int:=IntKind.wrap .i64 (30+h)
 some (.int .i64 i,st.adv g.2.next)) (
 cond (decide (n'=57)) (
 (cf 30 [p'] (st.ro st.next)).bind fun j=>
 ((some j.1).bind (asI .i64)).bind fun k=>
 (zac p').bind fun l=>
 (addr? l).bind fun m=>
 (zaQ (ptr m.1 (m.2+61)) 6 k 1).bind fun n=>
 ((j.2.ld n.1 n.2).bind (asI .i64)).bind fun o=>
 some (.int .i64 o,st.adv j.2.next)) (
 cond (decide (n'<36)) (
 some (.int .i64 n',st.adv (st.ro st.next).next)) (
 cond (decide (n'=36)) (
 some (.int .i64 n',st.adv (st.ro st.next).next)) (
 cond (decide (n'=37)) (
 some (.int .i64 n',st.adv (st.ro st.next).next)) (
 cond (decide (n'=38)) (
 some (.int .i64 n',st.adv (st.ro st.next).next)) (
 cond (decide (43≤n')) (
 cond (decide (n'≤45)) (
 some (.int .i64 n',st.adv (st.ro st.next).next)) (
 cond (decide (n'=53)) (
 some (.int .i64 n',st.adv (st.ro st.next).next)) (
 cond (decide (n'=59)) (
 some (.int .i64 n',st.adv (st.ro st.next).next)) (
 some (.int .i64 (-1),st.adv (st.ro st.next).next))))) (
 cond (decide (n'=53)) (
 some (.int .i64 n',st.adv (st.ro st.next).next)) (
 cond (decide (n'=59)) (
 some (.int .i64 n',st.adv (st.ro st.next).next)) (
 some (.int .i64 (-1),st.adv (st.ro st.next).next))))))))))))
noncomputable abbrev ze5:zak:=lS Tryd.prog Lk0 Tryd.f25 zaI
theorem ze6:Lk0.func 25=some (25,Tryd.f25):=by kernel_rfl
theorem ze7 [Sym] (p':Value) (n':Int) (st:SS) {r:Value×SS} (h:zdL cc ze5 p' n' st=some r):cc 25 [p',.int .i64 n'] st=some r:=
 zar (li:=zaI) zau zaF ze6 rfl (fun _=>rfl) (.trans (by kernel_rfl) h)
def zen:LoopI:=⟨[(0,.any),(141,.int .u32),(142,.int .u32)],[(.exit 7,[])]⟩
def zeo:LoopI:=⟨[(0,.any),(11,.int .i64)],[(.exit 5,[])]⟩
def zep:LoopI:=⟨[(0,.any),(6,.int .i64),(8,.int .u32),(64,.any),(65,.int .i64),(66,.int .i64)],[(.exit 3,[(0,.any),(6,.int .i64),(8,.int .u32)])]⟩
def zeO:LoopI:=⟨[(0,.any),(21,.int .i64),(22,.int .i64)],[(.exit 1,[])]⟩
def zcM (n:Nat):Option LoopI:=cond (Nat.beq n 5) (some zeO) (cond (Nat.beq n 14) (some zep) (cond (Nat.beq n 24) (some zeo) (cond (Nat.beq n 30) (some zen) (none))))
noncomputable def zdM (cf:zaw) (lf:zak) (p':Value) (w':Value) (a':Int) (st:SS):Option (Value×SS):=
 let a:SS:=st.new (.cells (w':Value).cells.toList 0)
 ((a.ld st.next 5).bind (asI .i64)).bind fun b=>
 (cf 22 [p',.int .i64 b] a).bind fun c=>
 ((some c.1).bind (asI .i64)).bind fun d=>
 ((c.2.ld st.next 7).bind (asI .i64)).bind fun e=>
 cond (decide (e=6)) (
 (lf 5 [p',.int .i64 d,.int .i64 0] c.2).bind fun f=>
 some (.tuple #[],f.2.2)) (
 cond (decide (e=7)) (
 (zac p').bind fun g=>
 (addr? g).bind fun h=>
 (c.2.ld h.1 (h.2+77)).bind fun i=>
 ((lenV i).bind (asI .i64)).bind fun j=>
 let k:Int:=if j<d then j else d
 (zac p').bind fun l=>
 (addr? l).bind fun m=>
 (c.2.ld m.1 (m.2+77)).bind fun n=>
 (c.2.resl n 1 0 k).bind fun o=>
 ((lenV o).bind (asI .i64)).bind fun p=>
 (lf 14 [p',.int .i64 k,.int .u32 0,o,.int .i64 p,.int .i64 0] c.2).bind fun q=>
 (q.2.1[0]?).bind fun r=>
 ((q.2.1[1]?).bind (asI .i64)).bind fun s=>
 ((q.2.1[2]?).bind (asI .u32)).bind fun t=>
 (zac r).bind fun u=>
 (addr? u).bind fun v=>
 (q.2.2.ld v.1 (v.2+77)).bind fun w=>
 (sliceLen w).bind fun x=>
 (q.2.2.resl w 1 s x).bind fun y=>
 (zac r).bind fun z=>
 (addr? z).bind fun A=>
 (zaQ (ptr A.1 (A.2+1)) 60 36 1).bind fun B=>
 ((q.2.2.ro q.2.2.next).st B.1 B.2 [.int .u32 t]).bind fun C=>
 (zac r).bind fun D=>
 (addr? D).bind fun E=>
 ((C.ro q.2.2.lim).stV E.1 (E.2+77) 1 y).bind fun F=>
 some (.tuple #[],F)) (
 cond (decide (e=8)) (
 (zac p').bind fun G=>
 (addr? G).bind fun H=>
 (c.2.st H.1 (H.2+77) [.slice none 0 0]).bind fun I=>
 some (.tuple #[],I)) (
 cond (decide (e=12)) (
 (zac p').bind fun J=>
 (addr? J).bind fun K=>
 (c.2.st K.1 (K.2+76) [.int .u64 0]).bind fun L=>
 (lf 24 [p',.int .i64 0] L).bind fun M=>
 some (.tuple #[],M.2.2)) (
 cond (decide (e=13)) (
 (zac p').bind fun N=>
 (addr? N).bind fun O=>
 (c.2.st O.1 (O.2+77) [.slice none 0 0]).bind fun P=>
 (zac p').bind fun Q=>
 (addr? Q).bind fun R=>
 (zaQ (ptr R.1 (R.2+1)) 60 23 1).bind fun S=>
 ((P.ld S.1 S.2).bind (asI .u32)).bind fun T=>
 let U:Int:=if 8<T then 8 else T
 (lf 30 [p',.int .u32 U,.int .u32 0] P).bind fun V=>
 some (.tuple #[],V.2.2)) (
 cond (decide (e=14)) (
 let W:Int:=IntKind.wrap .u64 a'
 (zac p').bind fun X=>
 (addr? X).bind fun Y=>
 (c.2.st Y.1 (Y.2+76) [.int .u64 W]).bind fun Z=>
 some (.tuple #[],Z)) (
 some (.tuple #[],c.2)))))))
noncomputable abbrev ze8:zak:=lS Tryd.prog Lk0 Tryd.f26 zcM
theorem ze9:Lk0.func 26=some (26,Tryd.f26):=by kernel_rfl
theorem zfa [Sym] (p':Value) (w':Value) (a':Int) (st:SS) {r:Value×SS} (h:zdM cc ze8 p' w' a' st=some r):cc 26 [p',w',.int .u32 a'] st=some r:=
 zar (li:=zcM) zau zaF ze9 rfl (fun _=>rfl) (.trans (by kernel_rfl) h)
noncomputable def zcm (cf:zaw) (lf:zak) (p':Value) (w':Value) (a':Int) (st:SS):Option (Value×SS):=
 let a:SS:=st.new (.cells (w':Value).cells.toList 0)
 ((a.ld st.next 11).bind (asI .i64)).bind fun b=>
 cond (decide (b=1)) (
 (zac p').bind fun c=>
 (addr? c).bind fun d=>
 (a.ld d.1 d.2).bind fun e=>
 (zac p').bind fun f=>
 (addr? f).bind fun g=>
 ((a.ld g.1 (g.2+73)).bind (asI .i64)).bind fun h=>
 (cf 53 [e,.int .i64 h,.int .u32 a'] a).bind fun i=>
 ((some i.1).bind (asI .i64)).bind fun j=>
 some (.tuple #[],i.2)) (
 cond (decide (b=2)) (
 (zac p').bind fun k=>
 (addr? k).bind fun l=>
 (a.ld l.1 l.2).bind fun m=>
 (cf 54 [m] a).bind fun n=>
 (zac p').bind fun o=>
 (addr? o).bind fun p=>
 (n.2.ld p.1 p.2).bind fun q=>
 (zac p').bind fun r=>
 (addr? r).bind fun s=>
 ((n.2.ld s.1 (s.2+84)).bind (asI .u32)).bind fun t=>
 (cf 28 [q,.int .u32 t] n.2).bind fun u=>
 some (.tuple #[],u.2)) (
 cond (decide (b=3)) (
 (zac p').bind fun v=>
 (addr? v).bind fun w=>
 (a.ld w.1 w.2).bind fun x=>
 (zac p').bind fun y=>
 (addr? y).bind fun z=>
 (a.ld z.1 z.2).bind fun A=>
 (cf 33 [A] (a.ro a.next)).bind fun B=>
 ((some B.1).bind (asI .u32)).bind fun C=>
 let D:Int:=orI .u32 C 134217728
 (cf 28 [x,.int .u32 D] (B.2.ro a.lim)).bind fun E=>
 some (.tuple #[],E.2)) (
 cond (decide (b=4)) (
 (zac p').bind fun F=>
 (addr? F).bind fun G=>
 (a.ld G.1 G.2).bind fun H=>
 (zac p').bind fun I=>
 (addr? I).bind fun J=>
 (a.ld J.1 J.2).bind fun K=>
 (cf 33 [K] (a.ro a.next)).bind fun L=>
 ((some L.1).bind (asI .u32)).bind fun M=>
 let N:Int:=zee .u32 M 134217728
 (cf 28 [H,.int .u32 N] (L.2.ro a.lim)).bind fun O=>
 some (.tuple #[],O.2)) (
 cond (decide (b=6)) (
 (cf 52 [p'] (a.ro a.next)).bind fun P=>
 ((some P.1).bind (asI .i64)).bind fun Q=>
 (zac p').bind fun R=>
 (addr? R).bind fun S=>
 (((P.2.ro a.lim).ld S.1 (S.2+73)).bind (asI .i64)).bind fun T=>
 (zac p').bind fun U=>
 (addr? U).bind fun V=>
 (zaQ (ptr V.1 (V.2+61)) 6 Q 1).bind fun W=>
 ((P.2.ro a.lim).st W.1 W.2 [.int .i64 T]).bind fun X=>
 some (.tuple #[],X)) (
 cond (decide (b=7)) (
 (zac p').bind fun Y=>
 (addr? Y).bind fun Z=>
 ((a.ld Z.1 (Z.2+73)).bind (asI .i64)).bind fun aA=>
 (zac p').bind fun aB=>
 (addr? aB).bind fun aC=>
 (a.st aC.1 (aC.2+74) [.int .i64 aA]).bind fun aD=>
 some (.tuple #[],aD)) (
 cond (decide (b=15)) (
 let aE:Int:=zb4 .u32 a' 15
 let aF:Int:=IntKind.wrap .i64 aE
 (zac p').bind fun aG=>
 (addr? aG).bind fun aH=>
 (a.st aH.1 (aH.2+73) [.int .i64 aF]).bind fun aI=>
 some (.tuple #[],aI)) (
 cond (decide (b=16)) (
 ((a.ld st.next 4).bind (asI .i64)).bind fun aJ=>
 let aK:Int:=if 5<aJ then 5 else aJ
 (zac p').bind fun aL=>
 (addr? aL).bind fun aM=>
 (zaQ (ptr aM.1 (aM.2+61)) 6 aK 1).bind fun aN=>
 ((a.ld aN.1 aN.2).bind (asI .i64)).bind fun aO=>
 let aP:Int:=if 0>aO then 0 else aO
 (zac p').bind fun aQ=>
 (addr? aQ).bind fun aR=>
 (a.st aR.1 (aR.2+73) [.int .i64 aP]).bind fun aS=>
 some (.tuple #[],aS)) (
 cond (decide (b=17)) (
 (zac p').bind fun aT=>
 (addr? aT).bind fun aU=>
 (a.ld aU.1 (aU.2+67+4)).bind fun aV=>
 ((lenV aV).bind (asI .i64)).bind fun aW=>
 cond (decide (0<aW)) (
 (zac p').bind fun aX=>
 (addr? aX).bind fun aY=>
 (a.ld aY.1 (aY.2+67+4)).bind fun aZ=>
 (cf 30 [p'] (a.ro a.next)).bind fun bA=>
 ((some bA.1).bind (asI .i64)).bind fun bB=>
 (zbH aZ bB 2).bind fun bC=>
 (((bA.2.ro a.lim).ld bC.1 (bC.2+1)).bind (asI .i64)).bind fun bD=>
 (zac p').bind fun bE=>
 (addr? bE).bind fun bF=>
 ((bA.2.ro a.lim).st bF.1 (bF.2+75) [.int .i64 bD]).bind fun bG=>
 some (.tuple #[],bG)) (
 some (.tuple #[],a))) (
 cond (decide (b=18)) (
 (cf 55 [p'] a).bind fun bH=>
 some (.tuple #[],bH.2)) (
 cond (decide (b=20)) (
 ((a.ld st.next 4).bind (asI .i64)).bind fun bI=>
 let bJ:Int:=IntKind.wrap .u32 bI
 (zac p').bind fun bK=>
 (addr? bK).bind fun bL=>
 (zaQ (ptr bL.1 (bL.2+1)) 60 59 1).bind fun bM=>
 (a.st bM.1 bM.2 [.int .u32 bJ]).bind fun bN=>
 some (.tuple #[],bN)) (
 cond (decide (b=21)) (
 (zac p').bind fun bO=>
 (addr? bO).bind fun bP=>
 (zaQ (ptr bP.1 (bP.2+1)) 60 21 1).bind fun bQ=>
 ((a.ld bQ.1 bQ.2).bind (asI .u32)).bind fun bR=>
 (cf 56 [.int .u32 bR] a).bind fun bS=>
 ((some bS.1).bind (asI .i64)).bind fun bT=>
 let bU:Int:=IntKind.wrap .i64 (4*bT)
 let bV:Int:=IntKind.wrap .u32 bU
 (zac p').bind fun bW=>
 (addr? bW).bind fun bX=>
 (zaQ (ptr bX.1 (bX.2+1)) 60 23 1).bind fun bY=>
 (bS.2.st bY.1 bY.2 [.int .u32 bV]).bind fun bZ=>
 some (.tuple #[],bZ)) (
 some (.tuple #[],a)))))))))))))
noncomputable abbrev zfb:zak:=lS Tryd.prog Lk0 Tryd.f27 zaI
theorem zfc:Lk0.func 27=some (27,Tryd.f27):=by kernel_rfl
theorem zcN [Sym] (p':Value) (w':Value) (a':Int) (st:SS) {r:Value×SS} (h:zcm cc zfb p' w' a' st=some r):cc 27 [p',w',.int .u32 a'] st=some r:=
 zar (li:=zaI) zau zaF zfc rfl (fun _=>rfl) (.trans (by kernel_rfl) h)
def zcv:LoopI:=⟨[(0,.any),(3,.int .i64)],[(.exit 0,[]),(.ret,[(2,.int .i64)])]⟩
def zcG (n:Nat):Option LoopI:=cond (Nat.beq n 2) (some zcv) (none)
noncomputable def zdb (cf:zaw) (lf:zak) (p':Value) (st:SS):Option (Value×SS):=
 (zac p').bind fun a=>
 (addr? a).bind fun b=>
 ((st.ro st.next).ld b.1 (b.2+67+4)).bind fun c=>
 ((lenV c).bind (asI .i64)).bind fun d=>
 let e:Int:=IntKind.wrap .i64 (d-1)
 (lf 2 [p',.int .i64 e] (st.ro st.next)).bind fun f=>
 cond (Nat.beq f.1 0) (
 some (.int .i64 0,st.adv f.2.2.next)) (
 ((f.2.1[0]?).bind (asI .i64)).bind fun g=>
 some (.int .i64 g,st.adv f.2.2.next))
noncomputable abbrev zbe:zak:=lS Tryd.prog Lk0 Tryd.f30 zcG
theorem zeP:Lk0.func 30=some (30,Tryd.f30):=by kernel_rfl
theorem zeQ [Sym] (p':Value) (st:SS) {r:Value×SS} (h:zdb cc zbe p' st=some r):cc 30 [p'] st=some r:=
 zar (li:=zcG) zau zaF zeP rfl (fun _=>rfl) (.trans (by kernel_rfl) h)
noncomputable def zbf (cf:zaw) (lf:zak) (p':Value) (i':Int) (st:SS):Option (Nat×List Value×SS):=
 cond (decide (0≤i')) (
 (zac p').bind fun a=>
 (addr? a).bind fun b=>
 (st.ld b.1 (b.2+67+4)).bind fun c=>
 (zbH c i' 2).bind fun d=>
 ((st.ld d.1 d.2).bind (asI .u8)).bind fun e=>
 cond (!(decide (e=98))) (
 some (1,[.int .i64 i'],st)) (
 let f:Int:=IntKind.wrap .i64 (i'-1)
 lf 2 [p',.int .i64 f] st)) (
 some (0,[],st))
theorem zbl [Sym] (p':Value) (i':Int) (st:SS) {r:Nat×List Value×SS} (h:zbf cc zbe p' i' st=some r):zbe 2 [p',.int .i64 i'] st=some r:=
 zho zau zaF (key:=2) (I:=zcv) rfl (by kernel_rfl) (by kernel_rfl) rfl rfl (.trans (by kernel_rfl) h)
noncomputable def zdY (cf:zaw) (lf:zak) (p':Value) (op':Value) (st:SS):Option (Value×SS):=
 let a:SS:=st.new (.cells (op':Value).cells.toList 0)
 (a.ldN st.next 0 5).bind fun b=>
 (zac p').bind fun c=>
 (addr? c).bind fun d=>
 (a.stV d.1 (d.2+67) 5 b).bind fun e=>
 (zac p').bind fun f=>
 (addr? f).bind fun g=>
 (e.st g.1 (g.2+72) [.int .i64 (-1)]).bind fun h=>
 (zac p').bind fun i=>
 (addr? i).bind fun j=>
 (h.st j.1 (j.2+73) [.int .i64 0]).bind fun k=>
 (zac p').bind fun l=>
 (addr? l).bind fun m=>
 (k.st m.1 (m.2+74) [.int .i64 (-1)]).bind fun n=>
 (zac p').bind fun o=>
 (addr? o).bind fun p=>
 (n.st p.1 (p.2+75) [.int .i64 4]).bind fun q=>
 (zac p').bind fun r=>
 (addr? r).bind fun s=>
 (q.st s.1 (s.2+61) [.int .i64 (-1),.int .i64 (-1),.int .i64 (-1),.int .i64 (-1),.int .i64 (-1),.int .i64 (-1)]).bind fun t=>
 (zac p').bind fun u=>
 (addr? u).bind fun v=>
 (t.st v.1 (v.2+82) [.bool false]).bind fun w=>
 (zac p').bind fun x=>
 (addr? x).bind fun y=>
 (w.st y.1 (y.2+83) [.bool false]).bind fun z=>
 (zac p').bind fun A=>
 (addr? A).bind fun B=>
 (zhe B.1 (B.2+1) 60 1 24 36).bind fun C=>
 (z.clr [.int .u32 0] C).bind fun D=>
 (cf 58 [p'] D).bind fun E=>
 some (.tuple #[],E.2)
noncomputable abbrev zfG:zak:=lS Tryd.prog Lk0 Tryd.f41 zaI
theorem zfH:Lk0.func 41=some (41,Tryd.f41):=by kernel_rfl
theorem zfI [Sym] (p':Value) (op':Value) (st:SS) {r:Value×SS} (h:zdY cc zfG p' op' st=some r):cc 41 [p',op'] st=some r:=
 zar (li:=zaI) zau zaF zfH rfl (fun _=>rfl) (.trans (by kernel_rfl) h)
noncomputable def zeW (cf:zaw) (lf:zak) (p':Value) (st:SS):Option (Value×SS):=
 (zac p').bind fun a=>
 (addr? a).bind fun b=>
 (((st.ro st.next).ld b.1 (b.2+72)).bind (asI .i64)).bind fun c=>
 let d:Int:=if 0>c then 0 else c
 let e:Int:=if 5<d then 5 else d
 some (.int .i64 e,st.adv (st.ro st.next).next)
noncomputable abbrev zgQ:zak:=lS Tryd.prog Lk0 Tryd.f52 zaI
theorem zgR:Lk0.func 52=some (52,Tryd.f52):=by kernel_rfl
theorem zgS [Sym] (p':Value) (st:SS) {r:Value×SS} (h:zeW cc zgQ p' st=some r):cc 52 [p'] st=some r:=
 zar (li:=zaI) zau zaF zgR rfl (fun _=>rfl) (.trans (by kernel_rfl) h)
noncomputable def zcH (cf:zaw) (lf:zak) (p':Value) (st:SS):Option (Value×SS):=
 (zac p').bind fun a=>
 (addr? a).bind fun b=>
 (zaQ (ptr b.1 (b.2+1)) 60 21 1).bind fun c=>
 ((st.ld c.1 c.2).bind (asI .u32)).bind fun d=>
 (zac p').bind fun e=>
 (addr? e).bind fun f=>
 (st.st f.1 (f.2+83) [.bool (decide (d=0))]).bind fun g=>
 cond (!(decide (d=0))) (
 (cf 71 [.int .u32 d] g).bind fun h=>
 ((some h.1).bind (asI .i64)).bind fun i=>
 let j:Int:=IntKind.wrap .u32 i
 (zac p').bind fun k=>
 (addr? k).bind fun l=>
 (zaQ (ptr l.1 (l.2+1)) 60 22 1).bind fun m=>
 (h.2.st m.1 m.2 [.int .u32 j]).bind fun n=>
 let o:Int:=IntKind.wrap .u32 (d-1)
 let p:Int:=zb4 .u32 d o
 (zac p').bind fun q=>
 (addr? q).bind fun r=>
 (zaQ (ptr r.1 (r.2+1)) 60 21 1).bind fun s=>
 (n.st s.1 s.2 [.int .u32 p]).bind fun t=>
 some (.tuple #[],t)) (
 some (.tuple #[],g))
noncomputable abbrev zfJ:zak:=lS Tryd.prog Lk0 Tryd.f55 zaI
theorem zfK:Lk0.func 55=some (55,Tryd.f55):=by kernel_rfl
theorem zc5 [Sym] (p':Value) (st:SS) {r:Value×SS} (h:zcH cc zfJ p' st=some r):cc 55 [p'] st=some r:=
 zar (li:=zaI) zau zaF zfK rfl (fun _=>rfl) (.trans (by kernel_rfl) h)
noncomputable def zcn (cf:zaw) (lf:zak) (p':Value) (st:SS):Option (Value×SS):=
 (zac p').bind fun a=>
 (addr? a).bind fun b=>
 (st.st b.1 (b.2+75) [.int .i64 4]).bind fun c=>
 (zac p').bind fun d=>
 (addr? d).bind fun e=>
 (c.ld e.1 (e.2+67+4)).bind fun f=>
 ((lenV f).bind (asI .i64)).bind fun g=>
 cond (decide (0<g)) (
 (zac p').bind fun h=>
 (addr? h).bind fun i=>
 (c.ld i.1 (i.2+67+4)).bind fun j=>
 (zbH j 0 2).bind fun k=>
 ((c.ld k.1 (k.2+1)).bind (asI .i64)).bind fun l=>
 (zac p').bind fun m=>
 (addr? m).bind fun n=>
 (c.st n.1 (n.2+75) [.int .i64 l]).bind fun o=>
 some (.tuple #[],o)) (
 some (.tuple #[],c))
noncomputable abbrev zfd:zak:=lS Tryd.prog Lk0 Tryd.f58 zaI
theorem zfe:Lk0.func 58=some (58,Tryd.f58):=by kernel_rfl
theorem zcO [Sym] (p':Value) (st:SS) {r:Value×SS} (h:zcn cc zfd p' st=some r):cc 58 [p'] st=some r:=
 zar (li:=zaI) zau zaF zfe rfl (fun _=>rfl) (.trans (by kernel_rfl) h)
noncomputable def zdZ (cf:zaw) (lf:zak) (p':Value) (st:SS):Option (Value×SS):=
 (zac p').bind fun a=>
 (addr? a).bind fun b=>
 (((st.ro st.next).ld b.1 (b.2+83)).bind asB).bind fun c=>
 some (.bool c,st.adv (st.ro st.next).next)
noncomputable abbrev zfL:zak:=lS Tryd.prog Lk0 Tryd.f14 zaI
theorem zfM:Lk0.func 14=some (14,Tryd.f14):=by kernel_rfl
theorem zfN [Sym] (p':Value) (st:SS) {r:Value×SS} (h:zdZ cc zfL p' st=some r):cc 14 [p'] st=some r:=
 zar (li:=zaI) zau zaF zfM rfl (fun _=>rfl) (.trans (by kernel_rfl) h)
end Go.Proofs.YtlpigjmjgclgiaaDoorE
namespace Go.Proofs.YtlpigjmjgclgiaaDoorE
set_option maxRecDepth 100000
open Go Go.E Go.Proofs
def up (r:Nat→Int) (i:Nat) (x:Int):Nat→Int:=fun j=>if j=i then x else r j
def nums (k:IntKind) (n:Nat) (r:Nat→Int):List Value:=(List.range n).map fun i=>Value.int k (r i)
theorem zao (k:IntKind) (n:Nat) (r:Nat→Int):(nums k n r).length=n:=by simp [nums]
theorem zdN (k:IntKind) {n i:Nat} (r:Nat→Int) (h:i<n):(nums k n r)[i]?=some (.int k (r i)):=by simp [nums,h]
theorem ziO (k:IntKind) {n i:Nat} (r:Nat→Int) (h:i<n) (x:Int):(nums k n r).set i (.int k x)=nums k n (up r i x):=by
 apply List.ext_getElem?
 intro j
 by_cases hj:j<n
 ·rw [zdN k _ hj,List.getElem?_set]
  unfold up
  by_cases hi:i=j
  ·subst hi;simp [zao,h]
  ·rw [if_neg hi,zdN k _ hj,if_neg (fun e=>hi e.symm)]
 ·rw [List.getElem?_eq_none (by simp [zao];omega),List.getElem?_eq_none (by simp [zao];omega)]
theorem zli (k:IntKind) (n:Nat) (r:Nat→Int):(nums k n r).all one=true:=by
 rw [List.all_eq_true];intro x hx;simp [nums] at hx;obtain ⟨i,_,rfl⟩:=hx;rfl
structure FM where
 r:Nat→Int
 psl:Int
 ksp:Int
 usp:Int
 steps:Value
def FM.row (f:FM):List Value:=nums .u32 16 f.r++[.int .u32 f.psl,.int .u32 f.ksp,.int .u32 f.usp,f.steps]
theorem FM.len (f:FM):f.row.length=20:=by unfold FM.row;rw [List.length_append,zao];rfl
theorem FM.get (f:FM) {i:Nat} (h:i<16):f.row[i]?=some (.int .u32 (f.r i)):=by unfold FM.row;rw [List.getElem?_append_left (by rw [zao];exact h),zdN _ _ h]
theorem FM.set (f:FM) {i:Nat} (h:i<16) (x:Int):f.row.set i (.int .u32 x)=FM.row { f with r:=up f.r i x }:=by unfold FM.row;rw [List.set_append_left _ _ (by rw [zao];exact h),ziO _ _ h]
theorem FM.g16 (f:FM):f.row[16]?=some (.int .u32 f.psl):=rfl
theorem FM.g17 (f:FM):f.row[17]?=some (.int .u32 f.ksp):=rfl
theorem FM.g19 (f:FM):f.row[19]?=some f.steps:=rfl
theorem FM.s16 (f:FM) (x:Int):f.row.set 16 (.int .u32 x)=FM.row { f with psl:=x }:=rfl
theorem FM.s17 (f:FM) (x:Int):f.row.set 17 (.int .u32 x)=FM.row { f with ksp:=x }:=rfl
theorem FM.s18 (f:FM) (x:Int):f.row.set 18 (.int .u32 x)=FM.row { f with usp:=x }:=rfl
theorem FM.s19 (f:FM) (x:Value):f.row.set 19 x=FM.row { f with steps:=x }:=rfl
structure PM where
 fp:Nat
 r:Nat→Int
 k:Nat→Int
 code:Int
 name:ByteArray
 cls:Int
 alu:Int
 ops:Value
 cur:Int
 rn:Int
 rx:Int
 own:Int
 row:Int
 buf:Value
 u:Fl
 div:Bool
 fl:Bool
 was:Int
 wt:Int
 wx:Int
 ws:Int
def PM.tl (m:PM):List Value:=[.int .i64 m.code,.string m.name,.int .i64 m.cls,.int .i64 m.alu,m.ops,.int .i64 m.cur,.int .i64 m.rn,.int .i64 m.rx,.int .i64 m.own,.int .u64 m.row,m.buf,.bool m.u.n,.bool m.u.z,.bool m.u.v,.bool m.u.c,.bool m.div,.bool m.fl,.int .u32 m.was,.int .i64 m.wt,.int .u32 m.wx,.int .i64 m.ws]
def PM.rw (m:PM):List Value:=ptr m.fp 0::(nums .u32 60 m.r++(nums .i64 6 m.k++m.tl))
theorem PM.len (m:PM):m.rw.length=88:=by unfold PM.rw;simp only [List.length_cons,List.length_append,zao];rfl
theorem PM.g0 (m:PM):m.rw[0]?=some (ptr m.fp 0):=rfl
theorem PM.getR (m:PM) {i:Nat} (h:i<60):m.rw[1+i]?=some (.int .u32 (m.r i)):=by
 unfold PM.rw;rw [Nat.add_comm,zgs,List.getElem?_append_left (by rw [zao];exact h),zdN _ _ h]
theorem PM.setR (m:PM) {i:Nat} (h:i<60) (x:Int):m.rw.set (1+i) (.int .u32 x)=PM.rw { m with r:=up m.r i x }:=by
 unfold PM.rw;rw [Nat.add_comm,List.set_cons_succ,List.set_append_left _ _ (by rw [zao];exact h),ziO _ _ h];rfl
theorem PM.getK (m:PM) {i:Nat} (h:i<6):m.rw[61+i]?=some (.int .i64 (m.k i)):=by
 unfold PM.rw
 rw [show 61+i=(60+i)+1 by omega,zgs,List.getElem?_append_right (by rw [zao];omega),zao,Nat.add_sub_cancel_left,List.getElem?_append_left (by rw [zao];exact h),zdN _ _ h]
theorem PM.getT (m:PM) (j:Nat):m.rw[67+j]?=m.tl[j]?:=by
 unfold PM.rw
 rw [show 67+j=(66+j)+1 by omega,zgs,List.getElem?_append_right (by rw [zao];omega),zao,show 66+j-60=6+j by omega,List.getElem?_append_right (by rw [zao];omega),zao,Nat.add_sub_cancel_left]
theorem PM.setT (m:PM) (j:Nat) (v:Value):m.rw.set (67+j) v=ptr m.fp 0::(nums .u32 60 m.r++(nums .i64 6 m.k++m.tl.set j v)):=by
 unfold PM.rw
 rw [show 67+j=(66+j)+1 by omega,List.set_cons_succ,List.set_append_right _ _ (by rw [zao];omega),zao,show 66+j-60=6+j by omega,List.set_append_right _ _ (by rw [zao];omega),zao,Nat.add_sub_cancel_left]
theorem PM.g71 (m:PM):m.rw[71]?=some m.ops:=m.getT 4
theorem PM.g72 (m:PM):m.rw[72]?=some (.int .i64 m.cur):=m.getT 5
theorem PM.g73 (m:PM):m.rw[73]?=some (.int .i64 m.rn):=m.getT 6
theorem PM.g74 (m:PM):m.rw[74]?=some (.int .i64 m.rx):=m.getT 7
theorem PM.g75 (m:PM):m.rw[75]?=some (.int .i64 m.own):=m.getT 8
theorem PM.g77 (m:PM):m.rw[77]?=some m.buf:=m.getT 10
theorem PM.g83 (m:PM):m.rw[83]?=some (.bool m.fl):=m.getT 16
theorem PM.g85 (m:PM):m.rw[85]?=some (.int .i64 m.wt):=m.getT 18
theorem PM.g86 (m:PM):m.rw[86]?=some (.int .u32 m.wx):=m.getT 19
theorem PM.g87 (m:PM):m.rw[87]?=some (.int .i64 m.ws):=m.getT 20
theorem PM.s72 (m:PM) (x:Int):m.rw.set 72 (.int .i64 x)=PM.rw { m with cur:=x }:=m.setT 5 _
theorem PM.s73 (m:PM) (x:Int):m.rw.set 73 (.int .i64 x)=PM.rw { m with rn:=x }:=m.setT 6 _
theorem PM.s74 (m:PM) (x:Int):m.rw.set 74 (.int .i64 x)=PM.rw { m with rx:=x }:=m.setT 7 _
theorem PM.s75 (m:PM) (x:Int):m.rw.set 75 (.int .i64 x)=PM.rw { m with own:=x }:=m.setT 8 _
theorem PM.s82 (m:PM) (x:Bool):m.rw.set 82 (.bool x)=PM.rw { m with div:=x }:=m.setT 15 _
theorem PM.s83 (m:PM) (x:Bool):m.rw.set 83 (.bool x)=PM.rw { m with fl:=x }:=m.setT 16 _
theorem PM.s84 (m:PM) (x:Int):m.rw.set 84 (.int .u32 x)=PM.rw { m with was:=x }:=m.setT 17 _
end Go.Proofs.YtlpigjmjgclgiaaDoorE
namespace Go.E
open Go
def SL (B:Nat) (s:SS) (z:Nat) (v:Value) (c:List Value) (n:Nat):Prop:=
 c.length=n*z∧((v=.slice none 0 0∧n=0)∨∃ j o cap C,v=.slice (some ⟨j,o,none⟩) n cap∧n≤cap∧s.mem.get j=some (.cells C z)∧o+cap*z≤C.length∧(C.drop o).take (n*z)=c∧B≤j∧j<s.next)
section
variable {B : Nat} {s s' : SS} {z n m : Nat} {v : Value} {c row : List Value}
theorem SL.nil:SL B s z (.slice none 0 0) [] 0:=⟨by simp,.inl ⟨rfl,rfl⟩⟩
theorem SL.cell (h:SL B s z v c n):v.cells.toList=[v]∧one v=true:=by
 obtain ⟨_,⟨rfl,_⟩ | ⟨j,o,cap,C,rfl,_⟩⟩:=h<;>exact ⟨rfl,rfl⟩
theorem SL.len (h:SL B s z v c n):lenV v=some (.int .i64 (n:Int)):=by
 obtain ⟨_,⟨rfl,rfl⟩ | ⟨j,o,cap,C,rfl,_⟩⟩:=h<;>rfl
theorem SL.lenI (h:SL B s z v c n):(lenV v).bind (asI .i64)=some (n:Int):=by rw [h.len];rfl
theorem SL.sl (h:SL B s z v c n):sliceLen v=some (n:Int):=by
 obtain ⟨_,⟨rfl,rfl⟩ | ⟨j,o,cap,C,rfl,_⟩⟩:=h<;>rfl
theorem SL.blk (h:SL B s z v c n):∀ i o l q,v=.slice (some ⟨i,o,none⟩) l q→B≤i∧i<s.next:=fun i o l q e=>by
 obtain ⟨_,⟨rfl,_⟩ | ⟨j,o',cap,C,rfl,_,_,_,_,h5,h6⟩⟩:=h
 ·cases e
 ·cases e;exact ⟨h5,h6⟩
theorem SL.keep (h:SL B s z v c n) (hn:s.next≤s'.next) (hk:∀ i o l q,v=.slice (some ⟨i,o,none⟩) l q→s'.mem.get i=s.mem.get i):SL B s' z v c n:=by
 refine ⟨h.1,h.2.imp (fun h=>h) ?_⟩
 rintro ⟨j,o,cap,C,e,h1,h2,h3,h4,h5,h6⟩
 exact ⟨j,o,cap,C,e,h1,(hk j o _ _ e).trans h2,h3,h4,h5,by omega⟩
theorem SL.ext (h:SL B s z v c n) (x:Ext s s'):SL B s' z v c n:=h.keep x.next fun i o l q e=>x.keep i (h.blk i o l q e).2
theorem SL.mod {S:List Nat} (h:SL B s z v c n) (m:Mod S s s') (hS:∀ j,j∈S→j<B):SL B s' z v c n:=h.keep m.next fun i o l q e=>m.keep i (h.blk i o l q e).2 fun hm=>by have:=hS i hm;have:=(h.blk i o l q e).1;omega
theorem SL.up {B':Nat} (h:SL B s z v c n) (hb:∀ i o l q,v=.slice (some ⟨i,o,none⟩) l q→B'≤i):SL B' s z v c n:=by
 refine ⟨h.1,h.2.imp (fun h=>h) ?_⟩
 rintro ⟨j,o,cap,C,e,h1,h2,h3,h4,h5,h6⟩
 exact ⟨j,o,cap,C,e,h1,h2,h3,h4,hb j o _ _ e,h6⟩
theorem SL.push {by':Nat} (h:SL B s z v c n) (hb:B≤s.next) (hl:s.lim≤B) (hr:row.length=z) (hz:0<z) (h1:row.all one=true) (hs:(n+2)*by'≤2^44) (hn:n+1≤2^44):
  ∃ s',(s.new (.cells row z)).app z by' v (.slice (some ⟨s.next,0,none⟩) 1 1)=some (.slice (some ⟨s.next+1,0,none⟩) (n+1) (n+1),s')∧s'.next=s.next+2∧s'.lim=s.lim∧SL B s' z (.slice (some ⟨s.next+1,0,none⟩) (n+1) (n+1)) (c++row) (n+1)∧
   ∀ i,i<s.next→(∀ o l q,v≠.slice (some ⟨i,o,none⟩) l q)→s'.mem.get i=s.mem.get i:=by
 have hx:(s.new (.cells row z)).first z 1 (.slice (some ⟨s.next,0,none⟩) 1 1)=some row:=by
  unfold SS.first
  simp only [SS.new_get,zob]
  exact zcr (by omega)
 have e1:zce (.slice (some ⟨s.next,0,none⟩) 1 1)=some 1:=rfl
 have m0:Nat.beq 1 0=false:=rfl
 have hlen:(c++row).length=(n+1)*z:=by rw [List.length_append,h.1,hr,Nat.add_mul];omega
 obtain ⟨hc,⟨rfl,rfl⟩ | ⟨j,o,cap,C,rfl,h1',h2,h3,h4,h5,h6⟩⟩:=h
 ·have:c=[]:=by simpa using hc
  subst this
  refine ⟨(s.new (.cells row z)).new (.cells row z),?_,rfl,rfl,⟨hlen,.inr ⟨s.next+1,0,1,row,rfl,zlr _,SS.new_get (st:=s.new (.cells row z)),by omega,?_,by omega,by show s.next+1<s.next+1+1;omega⟩⟩,fun i hi _=>?_⟩
  ·unfold SS.app
   rw [e1]
   simp only [zob,m0,zcf]
   have q:(Nat.ble ((1+1)*by') (2^44)&&Nat.ble 1 (2^44))=true:=by
    simp only [zae,Nat.ble_eq];exact ⟨by simpa using hs,by omega⟩
   rw [q,hx]
   rfl
  ·rw [List.drop_zero,Nat.zero_add,Nat.one_mul,List.take_of_length_le (by omega)];rfl
  ·rw [SS.new_old (by simp;omega),SS.new_old (by omega)]
 ·have hj:(s.new (.cells row z)).mem.get j=some (.cells C z):=by rw [SS.new_old (by omega)];exact h2
  have hcut:cut C o (n*z)=some c:=zhp h4 hc
  refine ⟨((s.new (.cells row z)).set j none).new (.cells (c++row) z),?_,rfl,rfl,⟨hlen,.inr ⟨s.next+1,0,n+1,c++row,rfl,zlr _,SS.new_get (st:=(s.new (.cells row z)).set j none),by omega,?_,by omega,by show s.next+1<s.next+1+1;omega⟩⟩,fun i hi hne=>?_⟩
  ·unfold SS.app
   rw [e1]
   simp only [zob,m0,zcf]
   have q:(Nat.ble ((n+1+1)*by') (2^44)&&Nat.ble (n+1) (2^44)&&Nat.ble (s.new (.cells row z)).lim j)=true:=by
    simp only [zae,Nat.ble_eq]
    exact ⟨⟨hs,hn⟩,by show s.lim≤j;omega⟩
   have q2:(Nat.beq z z&&(Nat.blt cap (n+1)||Nat.ble (o+cap*z) C.length))=true:=by
    have a1:Nat.ble (o+cap*z) C.length=true:=by rw [Nat.ble_eq];omega
    have a2:Nat.beq z z=true:=by rw [zad];simp
    rw [a1,a2,Bool.or_true];rfl
   rw [q]
   simp only [zct,hj,zob,q2,hcut,hx,h1]
   rfl
  ·rw [List.drop_zero,List.take_of_length_le (by omega)]
  ·rw [SS.new_old (by simp;omega),SS.set_old (fun e=>hne o _ _ (by rw [e])),SS.new_old (by omega)]
theorem SL.resl (h:SL B s z v c n) {l k:Nat} (hl:l≤k) (hk:k≤n):∃ v',s.resl v z (l:Int) (k:Int)=some v'∧SL B s z v' ((c.drop (l*z)).take ((k-l)*z)) (k-l)∧∀ i o q r,v'=.slice (some ⟨i,o,none⟩) q r→∃ o' q' r',v=.slice (some ⟨i,o',none⟩) q' r':=by
 have hle:=Nat.mul_le_mul_right z hk
 have hle2:=Nat.mul_le_mul_right z hl
 have hlen:((c.drop (l*z)).take ((k-l)*z)).length=(k-l)*z:=by
  rw [List.length_take,List.length_drop,h.1,Nat.sub_mul];omega
 obtain ⟨hc,⟨rfl,rfl⟩ | ⟨j,o,cap,C,rfl,h1,h2,h3,h4,h5,h6⟩⟩:=h
 ·have e0:k=0:=by omega
  have e1:l=0:=by omega
  subst e0;subst e1
  exact ⟨.slice none 0 0,rfl,⟨hlen,.inl ⟨rfl,rfl⟩⟩,fun i o q r e=>by cases e⟩
 ·have hcap:=Nat.mul_le_mul_right z h1
  have e1:decide ((l:Int)≤(k:Int))=true:=zdt (by omega)
  have e2:decide ((k:Int)≤(cap:Int))=true:=zdt (by omega)
  have e0:decide ((0:Int)≤(l:Int))=true:=zdt (by omega)
  have q:(Nat.beq z z||Nat.beq z 0)=true:=by
   have:Nat.beq z z=true:=by rw [zad];simp
   rw [this];rfl
  have hsub:(cap-l)*z=cap*z-l*z:=Nat.sub_mul _ _ _
  have hsub2:(k-l)*z=k*z-l*z:=Nat.sub_mul _ _ _
  by_cases hcl:cap=l
  ·have e3:Nat.beq cap l=true:=by rw [zad];exact zdt hcl
   have hk0:k-l=0:=by omega
   refine ⟨.slice (some ⟨j,o,none⟩) (k-l) (cap-l),?_,⟨hlen,.inr ⟨j,o,cap-l,C,rfl,by omega,h2,by omega,?_,h5,h6⟩⟩,fun i o' q' r e=>by cases e;exact ⟨_,_,_,rfl⟩⟩
   ·unfold SS.resl
    simp only [e0,e1,e2,Bool.and_self,zct,h2,zob,q,Int.toNat_natCast,e3]
   ·rw [hk0];simp
  ·have e3:Nat.beq cap l=false:=by rw [zad];exact zdf hcl
   refine ⟨.slice (some ⟨j,o+l*z,none⟩) (k-l) (cap-l),?_,⟨hlen,.inr ⟨j,o+l*z,cap-l,C,rfl,by omega,h2,by omega,?_,h5,h6⟩⟩,fun i o' q' r e=>by cases e;exact ⟨_,_,_,rfl⟩⟩
   ·unfold SS.resl
    simp only [e0,e1,e2,Bool.and_self,zct,h2,zob,q,Int.toNat_natCast,e3,zcf]
   ·rw [← h4,← List.drop_drop,List.drop_take,List.take_take,Nat.min_eq_left (by omega)]
theorem SL.load (h:SL B s z v c n) {j:Nat} (hj:j<n):∃ p,zbH v (j:Int) z=some p∧s.ldN p.1 p.2 z=some (.agg ((c.drop (j*z)).take z).toArray)∧∀ k x,((c.drop (j*z)).take z)[k]?=some x→s.ld p.1 (p.2+k)=some x:=by
 have hle:(j+1)*z≤n*z:=Nat.mul_le_mul_right z hj
 rw [Nat.add_mul,Nat.one_mul] at hle
 obtain ⟨hc,⟨rfl,rfl⟩ | ⟨i,o,cap,C,rfl,h1,h2,h3,h4,h5,h6⟩⟩:=h
 ·omega
 have e0:zbH (.slice (some ⟨i,o,none⟩) n cap) (j:Int) z=some (i,o+j*z):=by
  unfold zbH
  simp only [zdt (show (0:Int)≤(j:Int) by omega),zdt (show (j:Int)<(n:Int) by omega),Bool.and_self,zct,Int.toNat_natCast]
 have hd:(C.drop (o+j*z)).take z=(c.drop (j*z)).take z:=by
  rw [← h4,← List.drop_drop,List.drop_take,List.take_take,Nat.min_eq_left (by omega)]
 have hlen:((c.drop (j*z)).take z).length=z:=by rw [List.length_take,List.length_drop,hc];omega
 refine ⟨_,e0,?_,fun k x hx=>?_⟩
 ·rw [SS.ldN_cells h2,zhp hd hlen];rfl
 ·rw [SS.ld_cells h2]
  rw [← hd,List.getElem?_take] at hx
  split at hx
  ·rw [List.getElem?_drop] at hx;exact hx
  ·cases hx
end
theorem zal (i k:Nat):zac (ptr i k)=some (ptr i k):=rfl
theorem At.w {st:SS} {c k:Nat} {row row':List Value} {x:Value} (h:At st c row) (hk:k<row.length) (h1:one x=true) (e:row.set k x=row'):∃ st',st.st c k [x]=some st'∧At st' c row'∧Mod [c] st st'∧st'.next=st.next:=by
 subst e;exact h.set1 hk h1
end Go.E
namespace Go.Proofs.YtlpigjmjgclgiaaDoorE
open Go Go.E Go.Proofs
theorem za3 (i k:Nat):zbT (ptr i k)=some false:=rfl
theorem zaP {i k len z:Nat} {n:Nat} (h:n<len):zaQ (ptr i k) len (n:Int) z=some (i,k+n*z):=by
 unfold zaQ ptr
 simp only [zdt (show (0:Int)≤(n:Int) by omega),zdt (show (n:Int)<(len:Int) by omega),Bool.and_self,zct,Int.toNat_natCast]
def zhJ (f:FM) (n:Int):Int:=if n<0∨15<n then 0 else f.r n.toNat
section
variable {st : SS} {c : Nat} {f : FM}
theorem zju [Sym] (h:st.mem.get c=some (.cells f.row 0)) (n:Int):cc 31 [ptr c 0,.int .i64 n] st=some (.int .u32 (zhJ f n),st):=by
 refine zgI _ _ st ?_
 unfold zeU zhJ
 simp only [za3,zob,zaC,zcf]
 by_cases h0:n<0
 ·simp only [h0,decide_true,zct,true_or,if_true];rfl
 by_cases h1:15<n
 ·simp only [h0,h1,decide_false,decide_true,zcf,zct,or_true,if_true];rfl
 obtain ⟨k,rfl⟩:∃ k:Nat,n=(k:Int):=⟨n.toNat,by omega⟩
 simp only [h0,h1,decide_false,zcf,or_self,if_false,zal,zai,zob]
 refine bs (zaP (n:=k) (by omega)) (bs (show (((st.ro st.next).ld c (0+k*1)).bind (asI .u32))=some (f.r k) from ?_) rfl)
 show (st.ld c (0+k*1)).bind (asI .u32)=_
 rw [SS.ld_cells h,Nat.zero_add,Nat.mul_one,f.get (by omega)];rfl
theorem zf5 [Sym] (h:st.mem.get c=some (.cells f.row 0)):cc 33 [ptr c 0] st=some (.int .u32 f.psl,st):=by
 refine zgL _ st ?_
 unfold zeV
 simp only [za3,zob,zaC,zcf,zal,zai]
 refine bs (show (((st.ro st.next).ld c (0+16)).bind (asI .u32))=some f.psl from ?_) rfl
 show (st.ld c 16).bind (asI .u32)=_
 rw [SS.ld_cells h,f.g16];rfl
def ziP (f:FM) (u:Bool):Int:=cond (u==zbp f.psl) (f.r 14) (cond u f.usp f.ksp)
theorem zkL [Sym] (h:st.mem.get c=some (.cells f.row 0)) (u:Bool):∃ n,st.next≤n∧cc 35 [ptr c 0,.bool u] st=some (.int .u32 (ziP f u),st.adv n):=by
 obtain ⟨n,hn,e⟩:=zc4 f.psl (st.ro st.next)
 have ld:∀ k,((st.ro st.next).adv n).ld c k=f.row[k]?:=fun k=>SS.ld_cells h
 refine ⟨n,hn,zfC _ _ st ?_⟩
 unfold zdW ziP
 simp only [za3,zob,zaC,zcf,zal,zai]
 refine bs (show (((st.ro st.next).ld c (0+16)).bind (asI .u32))=some f.psl from by show (st.ld c 16).bind (asI .u32)=_;rw [SS.ld_cells h,f.g16];rfl) ?_
 refine bs e ?_
 simp only [zob,zaC]
 cases hu:(u==zbp f.psl) with
 | true=>
   simp only [zct]
   refine bs (zaP (n:=14) (by omega)) ?_
   refine bs (show (((st.ro st.next).adv n).ld c (0+14*1)).bind (asI .u32)=some (f.r 14) from by rw [ld];rw [show 0+14*1=14 from rfl,f.get (by omega)];rfl) rfl
 | false=>
   simp only [zcf]
   cases u with
   | true=>simp only [zct];refine bs (show (((st.ro st.next).adv n).ld c (0+18)).bind (asI .u32)=some f.usp from by rw [ld];rfl) rfl
   | false=>simp only [zcf];refine bs (show (((st.ro st.next).adv n).ld c (0+17)).bind (asI .u32)=some f.ksp from by rw [ld];rfl) rfl
def zfO (f:FM) (x:Int):FM:=if zbp x=zbp f.psl then { f with psl:=x } else if zbp x=true then { f with ksp:=f.r 14,r:=up f.r 14 f.usp,psl:=x } else { f with usp:=f.r 14,r:=up f.r 14 f.ksp,psl:=x }
theorem zlR [Sym] (h:At st c f.row) (x:Int):∃ st',cc 28 [ptr c 0,.int .u32 x] st=some (.tuple #[],st')∧At st' c (zfO f x).row∧Mod [c] st st':=by
 obtain ⟨n1,h1,e1⟩:=zc4 x (st.ro st.next)
 have h1':st.next≤n1:=h1
 obtain ⟨n2,h2,e2⟩:=zc4 f.psl (st.adv n1)
 have h2':n1≤n2:=h2
 have a2:At (st.adv n2) c f.row:=h.adv (by omega)
 have m2:Mod [c] st (st.adv n2):=.ofExt (Ext.advR st (by omega))
 have ld:∀ k,(st.adv n1).ld c k=f.row[k]?:=fun k=>h.ld
 by_cases hu:zbp x=zbp f.psl
 ·obtain ⟨s4,e4,a4,m4,_⟩:=a2.w (k:=0+16) (x:=.int .u32 x) (by rw [f.len];omega) rfl (f.s16 x)
  have hP:zfO f x={ f with psl:=x }:=by unfold zfO;rw [if_pos hu]
  rw [hP]
  refine ⟨s4,zcl _ _ st ?_,a4,m2.then m4⟩
  unfold zcc
  simp only [za3,zob,zaC,zcf]
  refine bs e1 ?_
  simp only [zob,zaC,zal,zai]
  refine bs (show ((st.adv n1).ld c (0+16)).bind (asI .u32)=some f.psl from by rw [ld];rfl) (bs e2 ?_)
  simp only [zob,zaC,hu,beq_self_eq_true,znt,zcf]
  exact bs e4 rfl
 ·obtain ⟨n9,h9,e9⟩:=zc4 x (st.adv n2)
  have h9':n2≤n9:=h9
  have a9:At (st.adv n9) c f.row:=h.adv (by omega)
  have m9:Mod [c] st (st.adv n9):=.ofExt (Ext.advR st (by omega))
  have l14:((st.adv n9).ld c (0+14*1)).bind (asI .u32)=some (f.r 14):=by rw [a9.ld,show 0+14*1=14 from rfl,f.get (by omega)];rfl
  have hb:(!(zbp x==zbp f.psl))=true:=by simpa using hu
  cases hx:zbp x with
  | true=>
    have l17:((st.adv n9).ld c (0+18)).bind (asI .u32)=some f.usp:=by rw [a9.ld];rfl
    obtain ⟨s20,e20,a20,m20,_⟩:=a9.w (k:=0+17) (x:=.int .u32 (f.r 14)) (by rw [f.len];omega) rfl (f.s17 _)
    obtain ⟨s24,e24,a24,m24,_⟩:=a20.w (k:=0+14*1) (x:=.int .u32 f.usp) (by rw [FM.len];omega) rfl (FM.set _ (i:=14) (by omega) _)
    obtain ⟨s27,e27,a27,m27,_⟩:=a24.w (k:=0+16) (x:=.int .u32 x) (by rw [FM.len];omega) rfl (FM.s16 _ x)
    have hP:zfO f x={ f with ksp:=f.r 14,r:=up f.r 14 f.usp,psl:=x }:=by unfold zfO;rw [if_neg hu,if_pos hx]
    rw [hP]
    refine ⟨s27,zcl _ _ st ?_,a27,((m9.then m20).then m24).then m27⟩
    unfold zcc
    simp only [za3,zob,zaC,zcf]
    refine bs e1 ?_
    simp only [zob,zaC,zal,zai]
    refine bs (show ((st.adv n1).ld c (0+16)).bind (asI .u32)=some f.psl from by rw [ld];rfl) (bs e2 ?_)
    simp only [zob,zaC,hb,zct]
    refine bs e9 ?_
    simp only [zob,zaC,hx,zct]
    refine bs (zaP (n:=14) (by omega)) (bs l14 (bs l17 (bs e20 (bs (zaP (n:=14) (by omega)) (bs e24 (bs e27 rfl))))))
  | false=>
    have l17:((st.adv n9).ld c (0+17)).bind (asI .u32)=some f.ksp:=by rw [a9.ld];rfl
    obtain ⟨s20,e20,a20,m20,_⟩:=a9.w (k:=0+18) (x:=.int .u32 (f.r 14)) (by rw [f.len];omega) rfl (f.s18 _)
    obtain ⟨s24,e24,a24,m24,_⟩:=a20.w (k:=0+14*1) (x:=.int .u32 f.ksp) (by rw [FM.len];omega) rfl (FM.set _ (i:=14) (by omega) _)
    obtain ⟨s27,e27,a27,m27,_⟩:=a24.w (k:=0+16) (x:=.int .u32 x) (by rw [FM.len];omega) rfl (FM.s16 _ x)
    have hP:zfO f x={ f with usp:=f.r 14,r:=up f.r 14 f.ksp,psl:=x }:=by unfold zfO;rw [if_neg hu,if_neg (by rw [hx];simp)]
    rw [hP]
    refine ⟨s27,zcl _ _ st ?_,a27,((m9.then m20).then m24).then m27⟩
    unfold zcc
    simp only [za3,zob,zaC,zcf]
    refine bs e1 ?_
    simp only [zob,zaC,zal,zai]
    refine bs (show ((st.adv n1).ld c (0+16)).bind (asI .u32)=some f.psl from by rw [ld];rfl) (bs e2 ?_)
    simp only [zob,zaC,hb,zct]
    refine bs e9 ?_
    simp only [zob,zaC,hx,zcf]
    refine bs (zaP (n:=14) (by omega)) (bs l14 (bs l17 (bs e20 (bs (zaP (n:=14) (by omega)) (bs e24 (bs e27 rfl))))))
def setF (f:FM) (n x s:Int):FM:=if n<0∨15<n∨zf4 s=0 then f else { f with r:=up f.r n.toNat (putT (f.r n.toNat) x s) }
theorem zlS [Sym] (h:At st c f.row) (n x s:Int):∃ st' e,cc 29 [ptr c 0,.int .i64 n,.int .u32 x,.int .i64 s] st=some (.int .i64 e,st')∧At st' c (setF f n x s).row∧Mod [c] st st':=by
 unfold setF
 by_cases h0:n<0
 ·refine ⟨st,1,zbL _ _ _ _ st ?_,by rw [if_pos (.inl h0)];exact h,.refl _⟩
  simp only [zbN,za3,zob,zaC,zcf,h0,decide_true,zct]
 by_cases h1:15<n
 ·refine ⟨st,1,zbL _ _ _ _ st ?_,by rw [if_pos (.inr (.inl h1))];exact h,.refl _⟩
  simp only [zbN,za3,zob,zaC,zcf,h0,h1,decide_false,decide_true,zct]
 obtain ⟨n2,g2,e2⟩:=zhI s st
 by_cases hm:zf4 s=0
 ·refine ⟨st.adv n2,1,zbL _ _ _ _ st ?_,by rw [if_pos (.inr (.inr hm))];exact h.adv g2,.ofExt (Ext.advR st g2)⟩
  unfold zbN
  simp only [za3,zob,zaC,zcf,h0,h1,decide_false]
  refine bs e2 ?_
  simp only [zob,zaG,hm,decide_true,zct]
 obtain ⟨k,rfl⟩:∃ k:Nat,n=(k:Int):=⟨n.toNat,by omega⟩
 rw [if_neg (by omega),Int.toNat_natCast]
 obtain ⟨n8,g8,e8⟩:=zkJ (f.r k) x s (st.adv n2)
 have g8':n2≤n8:=g8
 have a8:At (st.adv n8) c f.row:=h.adv (by omega)
 obtain ⟨s13,e13,a13,m13,_⟩:=a8.w (k:=0+k*1) (row':=FM.row { f with r:=up f.r k (putT (f.r k) x s) }) (x:=.int .u32 (putT (f.r k) x s)) (by rw [f.len];omega) rfl (by rw [Nat.zero_add,Nat.mul_one];exact f.set (by omega) _)
 refine ⟨s13,0,zbL _ _ _ _ st ?_,a13,(Mod.ofExt (Ext.advR st (by omega))).then m13⟩
 unfold zbN
 simp only [za3,zob,zaC,zcf,h0,h1,decide_false]
 refine bs e2 ?_
 simp only [zob,zaG,hm,decide_false,zcf,zal,zai]
 refine bs (zaP (n:=k) (by omega)) ?_
 refine bs (show ((st.adv n2).ld c (0+k*1)).bind (asI .u32)=some (f.r k) from by rw [zkI,h.ld,Nat.zero_add,Nat.mul_one,f.get (by omega)];rfl) (bs e8 ?_)
 simp only [zob,zaG]
 exact bs (zaP (n:=k) (by omega)) (bs e13 rfl)
theorem zjZ [Sym] (h:At st c f.row):∃ st',cc 40 [ptr c 0] st=some (.tuple #[],st')∧At st' c (FM.row { f with steps:=.slice none 0 0 })∧Mod [c] st st':=by
 obtain ⟨s4,e4,a4,m4,_⟩:=h.w (k:=0+19) (x:=.slice none 0 0) (by rw [f.len];omega) rfl (f.s19 _)
 refine ⟨s4,zeZ _ st ?_,a4,m4⟩
 unfold zdI
 simp only [za3,zob,zaC,znf,zct,zal,zai]
 exact bs e4 rfl
end
end Go.Proofs.YtlpigjmjgclgiaaDoorE
namespace Go.Proofs.YtlpigjmjgclgiaaDoorE
open Go Go.E Go.Proofs
def Blk (v w:Value):Prop:=∀ i o l q,w=.slice (some ⟨i,o,none⟩) l q→∃ o' l' q',v=.slice (some ⟨i,o',none⟩) l' q'
theorem Blk.refl (v:Value):Blk v v:=fun i o l q e=>⟨o,l,q,e⟩
theorem Blk.trans {u v w:Value} (h:Blk u v) (k:Blk v w):Blk u w:=fun i o l q e=>by
 obtain ⟨o',l',q',e'⟩:=k i o l q e
 exact h i o' l' q' e'
structure StM where
 r:Nat→Int
 psl:Int
 ksp:Int
 usp:Int
 t0:Int
 t1:Int
 t2:Int
 t3:Int
 t4:Int
 scbb:Int
 halt:Int
def StM.row (s:StM):List Value:=nums .u32 16 s.r++[.int .u32 s.psl,.int .u32 s.ksp,.int .u32 s.usp,.int .u32 s.t0,.int .u32 s.t1,.int .u32 s.t2,.int .u32 s.t3,.int .u32 s.t4,.int .u32 s.scbb,.int .i64 s.halt]
def StM.val (s:StM):Value:=.agg s.row.toArray
theorem StM.len (s:StM):s.row.length=26:=by unfold StM.row;rw [List.length_append,zao];rfl
theorem StM.one (s:StM):s.row.all E.one=true:=by unfold StM.row;rw [List.all_append,zli];rfl
theorem zkM (k:IntKind) (n:Nat) (r:Nat→Int):(nums k n r).all zaL=true:=by
 rw [List.all_eq_true];intro x hx;simp [nums] at hx;obtain ⟨i,_,rfl⟩:=hx;rfl
end Go.Proofs.YtlpigjmjgclgiaaDoorE
namespace Go.Proofs.YtlpigjmjgclgiaaDoorE
open Go Go.E Go.Proofs
theorem StM.flat (s:StM):flat3 s.val=true:=by
 show (s.row.toArray.toList.all zaL)=true
 rw [List.toList_toArray]
 unfold StM.row
 rw [List.all_append,zkM];rfl
end Go.Proofs.YtlpigjmjgclgiaaDoorE
namespace Go.Proofs.YtlpigjmjgclgiaaDoorE
open Go Go.E Go.Proofs
structure Rw (st:SS) (b c:Nat) (m:PM) (f:FM):Prop where
 p:st.mem.get b=some (.cells m.rw 0)
 f:st.mem.get c=some (.cells f.row 0)
 fp:m.fp=c
theorem Rw.adv {st:SS} {b c:Nat} {m:PM} {f:FM} (h:Rw st b c m f) (n:Nat):Rw (st.adv n) b c m f:=⟨h.p,h.f,h.fp⟩
theorem Rw.ro {st:SS} {b c:Nat} {m:PM} {f:FM} (h:Rw st b c m f) (n:Nat):Rw (st.ro n) b c m f:=⟨h.p,h.f,h.fp⟩
theorem Rw.ld {st:SS} {b c k:Nat} {m:PM} {f:FM} (h:Rw st b c m f):st.ld b k=m.rw[k]?:=SS.ld_cells h.p
theorem Rw.ld0 {st:SS} {b c:Nat} {m:PM} {f:FM} (h:Rw st b c m f):st.ld b 0=some (ptr c 0):=by rw [h.ld,m.g0,h.fp]
theorem Rw.ldR {st:SS} {b c i:Nat} {m:PM} {f:FM} (h:Rw st b c m f) (hi:i<60):(st.ld b (0+1+i*1)).bind (asI .u32)=some (m.r i):=by rw [h.ld,show 0+1+i*1=1+i by omega,m.getR hi];rfl
theorem Rw.ldK {st:SS} {b c i:Nat} {m:PM} {f:FM} (h:Rw st b c m f) (hi:i<6):(st.ld b (0+61+i*1)).bind (asI .i64)=some (m.k i):=by rw [h.ld,show 0+61+i*1=61+i by omega,m.getK hi];rfl
def opR (x:Int×Int):List Value:=[.int .u8 x.1,.int .i64 x.2]
theorem zjv (x:Int×Int):(opR x).length=2:=rfl
def Os (st:SS) (m:PM) (OL:List (Int×Int)):Prop:=Rg st m.ops (zcY opR OL) 2 OL.length∧OL.length≤6
def atT (m:PM):Int:=if 5<(if 0>m.cur then 0 else m.cur) then 5 else if 0>m.cur then 0 else m.cur
theorem atT_b (m:PM):0≤atT m∧atT m≤5:=by unfold atT;split<;>split<;>omega
def zea:List (Int×Int)→Nat→Nat
 | _,0=>0
 | OL,k+1=>match OL[k]? with
   | none=>0
   | some x=>if x.1=98 then zea OL k else k
def resT (OL:List (Int×Int)):Nat:=zea OL OL.length
theorem zjw (OL:List (Int×Int)):∀ k,k≤OL.length→0<OL.length→zea OL k<OL.length
 | 0,_,h=>by unfold zea;exact h
 | k+1,hk,h=>by
   unfold zea
   rw [zge (by omega)]
   simp only
   split
   ·exact zjw OL k (by omega) h
   ·omega
theorem zlT {OL:List (Int×Int)} (h:0<OL.length):resT OL<OL.length:=zjw OL _ (zlr _) h
theorem ziQ {OL:List (Int×Int)} (h:OL.length≤6):resT OL<6:=by
 by_cases h0:0<OL.length
 ·have:=zlT h0;omega
 ·have:OL=[]:=List.length_eq_zero_iff.1 (by omega)
  subst this
  show 0<6
  omega
section
variable {st : SS} {b c : Nat} {m : PM} {f : FM} {OL : List (Int × Int)}
theorem zkN [Sym] (h:Rw st b c m f):cc 52 [ptr b 0] st=some (.int .i64 (atT m),st):=by
 refine zgS _ st ?_
 unfold zeW
 simp only [zal,zai,zob]
 exact bs (show ((st.ro st.next).ld b (0+72)).bind (asI .i64)=some m.cur from by rw [(h.ro _).ld,show 0+72=72 from rfl,m.g72];rfl) rfl
theorem ziR [Sym] (h:Rw st b c m f) (ho:Os st m OL):∀ (k:Nat),k≤OL.length→
  ∃ e vs,zbe 2 [ptr b 0,.int .i64 ((k:Int)-1)] st=some (e,vs,st)∧(e=0∧zea OL k=0∨e=1∧vs=[.int .i64 (zea OL k:Int)])
 | 0,hk=>by
   refine ⟨0,[],zbl _ _ st ?_,.inl ⟨rfl,rfl⟩⟩
   have:¬ (0:Int)≤((0:Nat):Int)-1:=by omega
   simp only [zbf,this,decide_false,zcf]
 | k+1,hk=>by
   have h0:(0:Int)≤((k+1:Nat):Int)-1:=by omega
   have hk1:((k+1:Nat):Int)-1=(k:Int):=by omega
   have hw:IntKind.wrap .i64 ((k:Int)-1)=(k:Int)-1:=wrap64 (by omega) (by have:=ho.2;omega)
   obtain ⟨x,hx⟩:∃ x,OL[k]?=some x:=⟨_,zge (by omega)⟩
   obtain ⟨p,b1,b2,b3⟩:=ho.1.load (j:=(k:Int)) (by omega) (by omega) (zkH zjv OL k x hx) (zjv x)
   have l6:(st.ld p.1 p.2).bind (asI .u8)=some x.1:=by rw [show p.2=p.2+0 from rfl,b3 0 _ rfl];rfl
   have hr:zea OL (k+1)=if x.1=98 then zea OL k else k:=by conv=>lhs;unfold zea;rw [hx]
   obtain ⟨e,vs,ih,h2⟩:=ziR h ho k (by omega)
   have lo:st.ld b (0+67+4)=some m.ops:=by rw [h.ld];exact m.g71
   rw [hr]
   by_cases hb:x.1=98
   ·refine ⟨e,vs,zbl _ _ st ?_,by rw [if_pos hb];exact h2⟩
    unfold zbf
    rw [zdt h0]
    simp only [zct,zal,zai,zob]
    rw [hk1]
    refine bs lo (bs b1 (bs l6 ?_))
    simp only [hb,decide_true,znt,zcf,hw]
    exact ih
   ·refine ⟨1,[.int .i64 (k:Int)],zbl _ _ st ?_,by rw [if_neg hb];exact .inr ⟨rfl,rfl⟩⟩
    unfold zbf
    rw [zdt h0]
    simp only [zct,zal,zai,zob]
    rw [hk1]
    refine bs lo (bs b1 (bs l6 ?_))
    simp only [hb,decide_false,znf,zct]
theorem Os.ro {n:Nat} (ho:Os st m OL):Os (st.ro n) m OL:=⟨ho.1,ho.2⟩
theorem Os.adv {n:Nat} (ho:Os st m OL) (hn:st.next≤n):Os (st.adv n) m OL:=⟨ho.1.ext ((Ext.refl _).adv hn),ho.2⟩
theorem zkO [Sym] (h:Rw st b c m f) (ho:Os st m OL):cc 30 [ptr b 0] st=some (.int .i64 (resT OL:Int),st):=by
 obtain ⟨e,vs,hl,h2⟩:=ziR (h.ro st.next) ho.ro OL.length (zlr _)
 have hw:IntKind.wrap .i64 ((OL.length:Int)-1)=(OL.length:Int)-1:=wrap64 (by omega) (by have:=ho.2;omega)
 refine zeQ _ st ?_
 unfold zdb
 simp only [zal,zai,zob]
 refine bs (show (st.ro st.next).ld b (0+67+4)=some m.ops from by rw [(h.ro _).ld];exact m.g71) (bs ho.1.lenI ?_)
 rw [hw]
 refine bs hl ?_
 rcases h2 with ⟨rfl,h2⟩ | ⟨rfl,rfl⟩
 ·unfold resT;rw [h2];rfl
 ·rfl
def zfP (m:PM) (OL:List (Int×Int)) (n:Int):Int:=
 if n=39 then m.rn else if n=54 then 24+atT m else if n=55 then 30+atT m else if n=57 then m.k (resT OL)
 else if n<36∨n=36∨n=37∨n=38∨(43≤n∧n≤45)∨n=53∨n=59 then n else -1
theorem zlj [Sym] (h:Rw st b c m f) (ho:Os st m OL) (n:Int):cc 25 [ptr b 0,.int .i64 n] st=some (.int .i64 (zfP m OL n),st):=by
 have ha:=atT_b m
 refine ze7 _ _ st ?_
 unfold zdL zfP
 by_cases h1:n=39
 ·rw [if_pos h1]
  simp only [h1,decide_true,zct,zal,zai,zob]
  exact bs (show ((st.ro st.next).ld b (0+73)).bind (asI .i64)=some m.rn from by rw [(h.ro _).ld,show 0+73=73 from rfl,m.g73];rfl) rfl
 rw [if_neg h1]
 simp only [h1,decide_false,zcf]
 by_cases h2:n=54
 ·rw [if_pos h2]
  simp only [h2,decide_true,zct]
  refine bs (zkN (h.ro st.next)) ?_
  simp only [zob,zaG]
  rw [wrap64 (by omega) (by omega)];rfl
 rw [if_neg h2]
 simp only [h2,decide_false,zcf]
 by_cases h3:n=55
 ·rw [if_pos h3]
  simp only [h3,decide_true,zct]
  refine bs (zkN (h.ro st.next)) ?_
  simp only [zob,zaG]
  rw [wrap64 (by omega) (by omega)];rfl
 rw [if_neg h3]
 simp only [h3,decide_false,zcf]
 by_cases h4:n=57
 ·rw [if_pos h4]
  simp only [h4,decide_true,zct]
  refine bs (zkO (h.ro st.next) ho.ro) ?_
  simp only [zob,zaG,zal,zai]
  refine bs (zaP (ziQ ho.2)) (bs ((h.ro st.next).ldK (ziQ ho.2)) rfl)
 rw [if_neg h4]
 simp only [h4,decide_false,zcf]
 by_cases h5:n<36
 ·simp only [h5,decide_true,zct,true_or,if_true];rfl
 by_cases h6:n=36
 ·simp only [h5,h6,decide_false,decide_true,zcf,zct,true_or,or_true,if_true];rfl
 by_cases h7:n=37
 ·simp only [h5,h6,h7,decide_false,decide_true,zcf,zct,true_or,or_true,if_true];rfl
 by_cases h8:n=38
 ·simp only [h5,h6,h7,h8,decide_false,decide_true,zcf,zct,true_or,or_true,if_true];rfl
 simp only [h5,h6,h7,h8,decide_false,zcf,false_or]
 by_cases h9:43≤n
 ·by_cases h10:n≤45
  ·simp only [h9,h10,decide_true,zct,and_self,true_or,if_true];rfl
  ·by_cases h11:n=53
   ·simp only [h9,h10,h11,decide_false,decide_true,zcf,zct,and_false,false_or,true_or,if_true];rfl
   ·by_cases h12:n=59
    ·simp only [h9,h10,h11,h12,decide_false,decide_true,zcf,zct,and_false,false_or,if_true];rfl
    ·simp only [h9,h10,h11,h12,decide_false,decide_true,zcf,zct,and_false,or_self,if_false];rfl
 ·by_cases h11:n=53
  ·simp only [h9,h11,decide_false,decide_true,zcf,zct,false_and,false_or,true_or,if_true];rfl
  ·by_cases h12:n=59
   ·simp only [h9,h11,h12,decide_false,decide_true,zcf,zct,false_and,false_or,if_true];rfl
   ·simp only [h9,h11,h12,decide_false,zcf,false_and,or_self,if_false];rfl
def sizeT (m:PM) (n:Int):Int:=if n=3 then m.own else zgw .i64 1 n
theorem zlU [Sym] (h:Rw st b c m f) {n:Int} (hn:0≤n):cc 22 [ptr b 0,.int .i64 n] st=some (.int .i64 (sizeT m n),st):=by
 refine zfF _ _ st ?_
 unfold zdX sizeT
 by_cases h1:n=3
 ·rw [if_pos h1]
  simp only [h1,decide_true,zct,zal,zai,zob]
  exact bs (show ((st.ro st.next).ld b (0+75)).bind (asI .i64)=some m.own from by rw [(h.ro _).ld,show 0+75=75 from rfl,m.g75];rfl) rfl
 ·rw [if_neg h1]
  simp only [h1,decide_false,zcf]
  exact bs (show (aI .shl .i64 1 n).bind (asI .i64)=some (zgw .i64 1 n) from by rw [zkK hn];rfl) rfl
end
end Go.Proofs.YtlpigjmjgclgiaaDoorE
namespace Go.Proofs.YtlpigjmjgclgiaaDoorE
open Go Go.E Go.Proofs
def zhK (m:PM) (f:FM) (n:Int):Int:=if m.wt=n∧0<m.ws then putT (zhJ f n) m.wx m.ws else zhJ f n
def zd0 (m:PM) (OL:List (Int×Int)) (n:Int):Option Int:=
 if n=39∨n=54∨n=55∨n=57 then (if zfP m OL n<0 then none else some (zfP m OL n))
 else if n=40 then (if m.rx<0 then none else some m.rx)
 else if n=56 then some (30+resT OL) else if n=50 then some (24+((OL.length-1:Nat):Int)) else some n
def zd1 (m:PM) (f:FM) (U:Nat) (n:Int):Int:=
 if n=38 then f.psl else if n=48∨n=49 then (if zbp f.psl=decide (n=49) then zhK m f 14 else ziP f (decide (n=49)))
 else if n=51 then IntKind.wrap .u32 m.own else if n=52 then IntKind.wrap .u32 (zhK m f 15-m.r 46) else if n=58 then IntKind.wrap .u32 (U:Int)
 else if n=42 then 0 else if n=41 then 0 else if 60≤n then 0 else m.r n.toNat
def zhL (m:PM) (f:FM) (U:Nat) (n:Int):Int:=if n<16 then zhK m f n else if m.wt=n∧0<m.ws then m.wx else zd1 m f U n
def getT (m:PM) (f:FM) (OL:List (Int×Int)) (U:Nat) (n:Int):Int:=match zd0 m OL n with
 | none=>0
 | some k=>zhL m f U k
section
variable {st : SS} {b c : Nat} {m : PM} {f : FM} {OL : List (Int × Int)} {U : Nat}
theorem Rw.l85 (h:Rw st b c m f):(st.ld b (0+85)).bind (asI .i64)=some m.wt:=by rw [h.ld,show 0+85=85 from rfl,m.g85];rfl
theorem Rw.l86 (h:Rw st b c m f):(st.ld b (0+85+1)).bind (asI .u32)=some m.wx:=by rw [h.ld,show 0+85+1=86 from rfl,m.g86];rfl
theorem Rw.l87 (h:Rw st b c m f):(st.ld b (0+85+2)).bind (asI .i64)=some m.ws:=by rw [h.ld,show 0+85+2=87 from rfl,m.g87];rfl
theorem zh4 [Sym] (h:Rw st b c m f) {n:Int} (hn:n<16):∃ k,st.next≤k∧zam 1000018 [ptr b 0,.int .i64 n] st=some (0,[.int .u32 (zhK m f n)],st.adv k):=by
 have e4:=zju h.f n
 unfold zhK
 by_cases hw:m.wt=n
 ·by_cases hs:0<m.ws
  ·obtain ⟨k,hk,e⟩:=zkJ (zhJ f n) m.wx m.ws st
   rw [if_pos ⟨hw,hs⟩]
   refine ⟨k,hk,zaU _ _ st ?_⟩
   unfold zaV
   simp only [hn,decide_true,zct,zal,zai,zob]
   refine bs h.ld0 (bs e4 ?_)
   simp only [zob,zaG]
   refine bs h.l85 ?_
   simp only [hw,decide_true,zct]
   refine bs h.l87 ?_
   simp only [hs,decide_true,zct]
   exact bs h.l86 (bs h.l87 (bs e rfl))
  ·rw [if_neg (fun e=>hs e.2)]
   refine ⟨st.next,zlr _,zaU _ _ st ?_⟩
   unfold zaV
   simp only [hn,decide_true,zct,zal,zai,zob]
   refine bs h.ld0 (bs e4 ?_)
   simp only [zob,zaG]
   refine bs h.l85 ?_
   simp only [hw,decide_true,zct]
   refine bs h.l87 ?_
   simp only [hs,decide_false,zcf]
   rfl
 ·rw [if_neg (fun e=>hw e.1)]
  refine ⟨st.next,zlr _,zaU _ _ st ?_⟩
  unfold zaV
  simp only [hn,decide_true,zct,zal,zai,zob]
  refine bs h.ld0 (bs e4 ?_)
  simp only [zob,zaG]
  refine bs h.l85 ?_
  simp only [hw,decide_false,zcf]
  rfl
theorem get7 [Sym] (h:Rw st b c m f) (ho:Os st m OL) (n:Int) (is:Bool) (his:is=true↔n=39∨n=54∨n=55∨n=57):
  zam 1000007 [ptr b 0,.int .i64 n,.int .i64 n,.bool is] st=match zd0 m OL n with
   | none=>some (1,[.int .u32 0],st)
   | some k=>some (0,[ptr b 0,.int .i64 k],st):=by
 have hlen:=ho.2
 unfold zd0
 cases is with
 | true=>
   have hx:=his.1 rfl
   rw [if_pos hx]
   have e1:=zlj h ho n
   by_cases hw:zfP m OL n<0
   ·rw [if_pos hw]
    refine zaO _ _ _ _ st ?_
    unfold zaR
    simp only [zct]
    refine bs e1 ?_
    simp only [zob,zaG,hw,decide_true,zct]
   ·rw [if_neg hw]
    refine zaO _ _ _ _ st ?_
    unfold zaR
    simp only [zct]
    refine bs e1 ?_
    simp only [zob,zaG,hw,decide_false,zcf]
 | false=>
   have hx:¬ (n=39∨n=54∨n=55∨n=57):=fun e=>by have:=his.2 e;cases this
   rw [if_neg hx]
   by_cases h40:n=40
   ·rw [if_pos h40]
    have l74:(st.ld b (0+74)).bind (asI .i64)=some m.rx:=by rw [h.ld,show 0+74=74 from rfl,m.g74];rfl
    by_cases hr:m.rx<0
    ·rw [if_pos hr]
     refine zaO _ _ _ _ st ?_
     unfold zaR
     simp only [zcf,h40,decide_true,zct,zal,zai,zob]
     refine bs l74 ?_
     simp only [hr,decide_true,zct]
    ·rw [if_neg hr]
     refine zaO _ _ _ _ st ?_
     unfold zaR
     simp only [zcf,h40,decide_true,zct,zal,zai,zob]
     refine bs l74 ?_
     simp only [hr,decide_false,zcf]
   rw [if_neg h40]
   by_cases h56:n=56
   ·rw [if_pos h56]
    have hr:=ziQ hlen
    refine zaO _ _ _ _ st ?_
    unfold zaR
    simp only [zcf,h40,h56,decide_false,decide_true,zct]
    refine bs (zkO h ho) ?_
    simp only [zob,zaG]
    rw [wrap64 (by omega) (by omega)]
   rw [if_neg h56]
   by_cases h50:n=50
   ·rw [if_pos h50]
    have lo:st.ld b (0+67+4)=some m.ops:=by rw [h.ld];exact m.g71
    have hw:IntKind.wrap .i64 ((OL.length:Int)-1)=(OL.length:Int)-1:=wrap64 (by omega) (by omega)
    have hm:(if 0>(OL.length:Int)-1 then 0 else (OL.length:Int)-1)=((OL.length-1:Nat):Int):=by split<;>omega
    refine zaO _ _ _ _ st ?_
    unfold zaR
    simp only [zcf,h40,h56,h50,decide_false,decide_true,zct,zal,zai,zob]
    refine bs lo (bs ho.1.lenI ?_)
    rw [hw,hm,wrap64 (by omega) (by omega)]
   rw [if_neg h50]
   refine zaO _ _ _ _ st ?_
   unfold zaR
   simp only [zcf,h40,h56,h50,decide_false]
theorem ziS [Sym] (h:Rw st b c m f) (ho:Os st m OL) (n:Int) {v:Int}
  (hv:∀ k,zd0 m OL n=some k→∃ j,st.next≤j∧zam 1000018 [ptr b 0,.int .i64 k] (st.ro st.next)=some (0,[.int .u32 v],(st.ro st.next).adv j)) (h0:zd0 m OL n=none→v=0):
  ∃ k,st.next≤k∧cc 11 [ptr b 0,.int .i64 n] st=some (.int .u32 v,st.adv k):=by
 have go:∀ is:Bool,(is=true↔n=39∨n=54∨n=55∨n=57)→∃ k,st.next≤k∧∀ (F:Nat×List Value×SS→Option (Value×SS)),(∀ r,F r=cond (Nat.beq r.1 0) ((r.2.1[0]?).bind fun v2=>((r.2.1[1]?).bind (asI .i64)).bind fun n3=>(zam 1000018 [v2,.int .i64 n3] r.2.2).bind fun r4=>((r4.2.1[0]?).bind (asI .u32)).bind fun n5=>some (.int .u32 n5,st.adv r4.2.2.next)) (((r.2.1[0]?).bind (asI .u32)).bind fun n6=>some (.int .u32 n6,st.adv r.2.2.next)))→
   (zam 1000007 [ptr b 0,.int .i64 n,.int .i64 n,.bool is] (st.ro st.next)).bind F=some (.int .u32 v,st.adv k):=fun is his=>by
  have e7:=get7 (h.ro st.next) ho.ro n is his
  cases hk:zd0 m OL n with
  | none=>
    rw [hk] at e7
    refine ⟨st.next,zlr _,fun F hF=>?_⟩
    rw [e7,zob,hF,h0 hk];rfl
  | some k=>
    rw [hk] at e7
    obtain ⟨j,hj,e⟩:=hv k hk
    refine ⟨j,hj,fun F hF=>?_⟩
    rw [e7,zob,hF]
    show (zam 1000018 [ptr b 0,.int .i64 k] (st.ro st.next)).bind _=_
    rw [e];rfl
 by_cases h1:n=39
 ·obtain ⟨k,hk,g⟩:=go true (by simp [h1])
  refine ⟨k,hk,zbu _ _ st ?_⟩
  unfold zbA
  rw [zdt h1]
  exact g _ fun r=>rfl
 by_cases h2:n=54
 ·obtain ⟨k,hk,g⟩:=go true (by simp [h2])
  refine ⟨k,hk,zbu _ _ st ?_⟩
  unfold zbA
  rw [zdf h1,zdt h2]
  exact g _ fun r=>rfl
 by_cases h3:n=55
 ·obtain ⟨k,hk,g⟩:=go true (by simp [h3])
  refine ⟨k,hk,zbu _ _ st ?_⟩
  unfold zbA
  rw [zdf h1,zdf h2,zdt h3]
  exact g _ fun r=>rfl
 obtain ⟨k,hk,g⟩:=go (decide (n=57)) (by simp [h1,h2,h3])
 refine ⟨k,hk,zbu _ _ st ?_⟩
 unfold zbA
 rw [zdf h1,zdf h2,zdf h3]
 exact g _ fun r=>rfl
theorem zeb {n:Int} (h:n<39):zd0 m OL n=some n:=by
 unfold zd0
 rw [if_neg (by omega),if_neg (by omega),if_neg (by omega),if_neg (by omega)]
theorem zjx [Sym] (h:Rw st b c m f) (ho:Os st m OL) {n:Int} (hn:n<16):∃ k,st.next≤k∧cc 11 [ptr b 0,.int .i64 n] st=some (.int .u32 (zhK m f n),st.adv k):=by
 refine ziS h ho n (fun k hk=>?_) (fun hk=>by rw [zeb (by omega)] at hk;cases hk)
 rw [zeb (by omega)] at hk;cases hk
 exact zh4 (h.ro st.next) hn
theorem get30 [Sym] (h:Rw st b c m f) (ho:Os st m OL) (hU:lenV m.buf=some (.int .i64 (U:Int))) (n:Int) (is:Bool) (his:is=true↔n=48∨n=49) (hn38:n≠38) (h16:16≤n):
  ∃ k,st.next≤k∧(zam 1000030 [ptr b 0,.int .i64 n,.int .i64 n,.bool is] st=some (1,[.int .u32 (zd1 m f U n)],st.adv k)∨
   (zam 1000030 [ptr b 0,.int .i64 n,.int .i64 n,.bool is] st=some (0,[ptr b 0,.int .i64 n],st.adv k)∧zd1 m f U n=if 60≤n then 0 else m.r n.toNat)):=by
 unfold zd1
 rw [if_neg hn38]
 cases is with
 | true=>
   have hx:=his.1 rfl
   rw [if_pos hx]
   obtain ⟨k6,g6,e6⟩:=zc4 f.psl st
   by_cases hu:zbp f.psl=decide (n=49)
   ·obtain ⟨k8,g8,e8⟩:=zjx (h.adv k6) (ho.adv g6) (n:=14) (by omega)
    have g8':k6≤k8:=g8
    rw [if_pos hu]
    refine ⟨k8,by omega,.inl (zaH _ _ _ _ st ?_)⟩
    unfold zaJ
    simp only [zct,zal,zai,zob]
    refine bs h.ld0 (bs (zf5 h.f) ?_)
    simp only [zob,zaG]
    refine bs e6 ?_
    simp only [zob,zaC,hu,beq_self_eq_true,zct]
    refine bs e8 rfl
   ·obtain ⟨k13,g13,e13⟩:=zkL (st:=st.adv k6) h.f (decide (n=49))
    have g13':k6≤k13:=g13
    have hb:(zbp f.psl==decide (n=49))=false:=by simpa using hu
    rw [if_neg hu]
    refine ⟨k13,by omega,.inl (zaH _ _ _ _ st ?_)⟩
    unfold zaJ
    simp only [zct,zal,zai,zob]
    refine bs h.ld0 (bs (zf5 h.f) ?_)
    simp only [zob,zaG]
    refine bs e6 ?_
    simp only [zob,zaC,hb,zcf]
    refine bs (h.adv k6).ld0 (bs e13 rfl)
 | false=>
   have hx:¬ (n=48∨n=49):=fun e=>by have:=his.2 e;cases this
   rw [if_neg hx]
   by_cases h51:n=51
   ·rw [if_pos h51]
    refine ⟨st.next,zlr _,.inl (zaH _ _ _ _ st ?_)⟩
    unfold zaJ
    simp only [zcf,h51,decide_true,zct,zal,zai,zob]
    exact bs (show (st.ld b (0+75)).bind (asI .i64)=some m.own from by rw [h.ld,show 0+75=75 from rfl,m.g75];rfl) rfl
   rw [if_neg h51]
   by_cases h52:n=52
   ·rw [if_pos h52]
    obtain ⟨k,g,e⟩:=zjx (h.ro st.next) ho.ro (n:=15) (by omega)
    refine ⟨k,g,.inl (zaH _ _ _ _ st ?_)⟩
    unfold zaJ
    simp only [zcf,h51,h52,decide_false,decide_true,zct]
    refine bs e ?_
    simp only [zob,zaG,zal,zai]
    refine bs (zaP (n:=46) (by omega)) (bs (((h.ro st.next).adv k).ro st.lim |>.ldR (i:=46) (by omega)) rfl)
   rw [if_neg h52]
   by_cases h58:n=58
   ·rw [if_pos h58]
    refine ⟨st.next,zlr _,.inl (zaH _ _ _ _ st ?_)⟩
    unfold zaJ
    simp only [zcf,h51,h52,h58,decide_false,decide_true,zct,zal,zai,zob]
    refine bs (show st.ld b (0+77)=some m.buf from by rw [h.ld];exact m.g77) ?_
    rw [hU];rfl
   rw [if_neg h58]
   by_cases h42:n=42
   ·rw [if_pos h42]
    refine ⟨st.next,zlr _,.inl (zaH _ _ _ _ st ?_)⟩
    simp only [zaJ,zcf,h51,h52,h58,h42,decide_false,decide_true,zct]
    rfl
   rw [if_neg h42]
   by_cases h41:n=41
   ·rw [if_pos h41]
    refine ⟨st.next,zlr _,.inl (zaH _ _ _ _ st ?_)⟩
    simp only [zaJ,zcf,h51,h52,h58,h42,h41,decide_false,decide_true,zct]
    rfl
   rw [if_neg h41]
   refine ⟨st.next,zlr _,.inr ⟨zaH _ _ _ _ st ?_,rfl⟩⟩
   simp only [zaJ,zcf,h51,h52,h58,h42,h41,decide_false]
   rfl
theorem get25 [Sym] (h:Rw st b c m f) (ho:Os st m OL) (hU:lenV m.buf=some (.int .i64 (U:Int))) {n:Int} (h16:16≤n):∃ k,st.next≤k∧zam 1000025 [ptr b 0,.int .i64 n] st=some (0,[.int .u32 (zd1 m f U n)],st.adv k):=by
 by_cases h38:n=38
 ·refine ⟨st.next,zlr _,zbB _ _ st ?_⟩
  unfold zbq zd1
  rw [if_pos h38]
  simp only [h38,decide_true,zct,zal,zai,zob]
  exact bs h.ld0 (bs (zf5 h.f) rfl)
 have fin:∀ is:Bool,(is=true↔n=48∨n=49)→∃ k,st.next≤k∧∀ (F:Nat×List Value×SS→Option (Nat×List Value×SS)),(∀ r,F r=cond (Nat.beq r.1 0) ((r.2.1[0]?).bind fun v7=>((r.2.1[1]?).bind (asI .i64)).bind fun n8=>cond (decide (60≤n8)) (some (0,[.int .u32 0],r.2.2)) ((zac v7).bind fun v9=>(addr? v9).bind fun p10=>(zaQ (ptr p10.1 (p10.2+1)) 60 n8 1).bind fun p11=>((r.2.2.ld p11.1 p11.2).bind (asI .u32)).bind fun n12=>some (0,[.int .u32 n12],r.2.2))) (((r.2.1[0]?).bind (asI .u32)).bind fun n13=>some (0,[.int .u32 n13],r.2.2)))→
   (zam 1000030 [ptr b 0,.int .i64 n,.int .i64 n,.bool is] st).bind F=some (0,[.int .u32 (zd1 m f U n)],st.adv k):=fun is his=>by
  obtain ⟨k,hk,e⟩:=get30 h ho hU n is his h38 h16
  refine ⟨k,hk,fun F hF=>?_⟩
  rcases e with e | ⟨e,hb⟩
  ·rw [e,zob,hF];rfl
  ·rw [e,zob,hF,hb]
   show cond (decide (60≤n)) _ _=_
   by_cases h60:60≤n
   ·rw [zdt h60,if_pos h60];rfl
   ·rw [zdf h60,if_neg h60]
    simp only [zcf,zal,zai,zob]
    obtain ⟨j,rfl⟩:∃ j:Nat,n=(j:Int):=⟨n.toNat,by omega⟩
    exact bs (zaP (n:=j) (by omega)) (bs ((h.adv k).ldR (by omega)) rfl)
 by_cases h48:n=48
 ·obtain ⟨k,hk,g⟩:=fin true (by simp [h48])
  refine ⟨k,hk,zbB _ _ st ?_⟩
  unfold zbq
  rw [zdf h38,zdt h48]
  exact g _ fun r=>rfl
 ·obtain ⟨k,hk,g⟩:=fin (decide (n=49)) (by simp [h48])
  refine ⟨k,hk,zbB _ _ st ?_⟩
  unfold zbq
  rw [zdf h38,zdf h48]
  exact g _ fun r=>rfl
theorem get18 [Sym] (h:Rw st b c m f) (ho:Os st m OL) (hU:lenV m.buf=some (.int .i64 (U:Int))) (n:Int):∃ k,st.next≤k∧zam 1000018 [ptr b 0,.int .i64 n] st=some (0,[.int .u32 (zhL m f U n)],st.adv k):=by
 unfold zhL
 by_cases hn:n<16
 ·rw [if_pos hn];exact zh4 h hn
 rw [if_neg hn]
 obtain ⟨k,hk,e⟩:=get25 h ho hU (n:=n) (by omega)
 by_cases hw:m.wt=n
 ·by_cases hs:0<m.ws
  ·rw [if_pos ⟨hw,hs⟩]
   refine ⟨st.next,zlr _,zaU _ _ st ?_⟩
   unfold zaV
   simp only [hn,decide_false,zcf,zal,zai,zob]
   refine bs h.l85 ?_
   simp only [hw,decide_true,zct]
   refine bs h.l87 ?_
   simp only [hs,decide_true,zct]
   exact bs h.l86 rfl
  ·rw [if_neg (fun e=>hs e.2)]
   refine ⟨k,hk,zaU _ _ st ?_⟩
   unfold zaV
   simp only [hn,decide_false,zcf,zal,zai,zob]
   refine bs h.l85 ?_
   simp only [hw,decide_true,zct]
   refine bs h.l87 ?_
   simp only [hs,decide_false,zcf]
   exact bs e rfl
 ·rw [if_neg (fun e=>hw e.1)]
  refine ⟨k,hk,zaU _ _ st ?_⟩
  unfold zaV
  simp only [hn,decide_false,zcf,zal,zai,zob]
  refine bs h.l85 ?_
  simp only [hw,decide_false,zcf]
  exact bs e rfl
theorem zhq [Sym] (h:Rw st b c m f) (ho:Os st m OL) (hU:lenV m.buf=some (.int .i64 (U:Int))) (n:Int):∃ k,st.next≤k∧cc 11 [ptr b 0,.int .i64 n] st=some (.int .u32 (getT m f OL U n),st.adv k):=by
 refine ziS h ho n (fun k hk=>?_) (fun hk=>by unfold getT;rw [hk])
 have:getT m f OL U n=zhL m f U k:=by unfold getT;rw [hk]
 rw [this]
 exact get18 (h.ro st.next) ho.ro hU k
end
end Go.Proofs.YtlpigjmjgclgiaaDoorE
namespace Go.Proofs.YtlpigjmjgclgiaaDoorE
open Go Go.E Go.Proofs
structure Tw (st:SS) (b c:Nat) (m:PM) (f:FM):Prop where
 p:At st b m.rw
 f:At st c f.row
 fp:m.fp=c
 ne:b≠c
 ll:st.lim≤st.next
section
variable {st st' : SS} {b c : Nat} {m m' : PM} {f f' : FM} {OL : List (Int × Int)}
theorem Tw.rw (h:Tw st b c m f):Rw st b c m f:=⟨h.p.mem,h.f.mem,h.fp⟩
theorem Tw.adv (h:Tw st b c m f) {n:Nat} (hn:st.next≤n):Tw (st.adv n) b c m f:=⟨h.p.adv hn,h.f.adv hn,h.fp,h.ne,zlt h.ll hn⟩
theorem Tw.modC (h:Tw st b c m f) (a:At st' c f'.row) (k:Mod [c] st st'):Tw st' b c m f':=⟨h.p.mod k (by simpa using h.ne),a,h.fp,h.ne,k.ll h.ll⟩
theorem Tw.modB (h:Tw st b c m f) (a:At st' b m'.rw) (k:Mod [b] st st') (e:m'.fp=m.fp):Tw st' b c m' f:=⟨a,h.f.mod k (by simpa using h.ne.symm),e.trans h.fp,h.ne,k.ll h.ll⟩
theorem Tw.ext (h:Tw st b c m f) (k:Ext st st'):Tw st' b c m f:=⟨h.p.ext k,h.f.ext k,h.fp,h.ne,k.ll h.ll⟩
theorem Tw.new (h:Tw st b c m f) (ob:AObj):Tw (st.new ob) b c m f:=h.ext ((Ext.refl st).new ob)
theorem inB (k:Mod [b] st st'):Mod [b,c] st st':=k.mono (by simp)
theorem inC (k:Mod [c] st st'):Mod [b,c] st st':=k.mono (by simp)
theorem Tw.setR (h:Tw st b c m f) {i:Nat} (hi:i<60) (x:Int):∃ st',st.st b (0+1+i*1) [.int .u32 x]=some st'∧Tw st' b c { m with r:=up m.r i x } f∧Mod [b,c] st st'∧st'.next=st.next:=by
 obtain ⟨s,e,a,k,n⟩:=h.p.w (k:=0+1+i*1) (row':=PM.rw { m with r:=up m.r i x }) (x:=.int .u32 x) (by rw [m.len];omega) rfl (by rw [show 0+1+i*1=1+i by omega];exact m.setR hi x)
 exact ⟨s,e,h.modB a k rfl,inB k,n⟩
theorem Tw.w (h:Tw st b c m f) {k:Nat} {x:Value} (m':PM) (hk:k<88) (h1:one x=true) (e:m.rw.set k x=m'.rw) (hf:m'.fp=m.fp):∃ st',st.st b k [x]=some st'∧Tw st' b c m' f∧Mod [b,c] st st'∧st'.next=st.next:=by
 obtain ⟨s,e,a,k,n⟩:=h.p.w (row':=m'.rw) (by rw [m.len];exact hk) h1 e
 exact ⟨s,e,h.modB a k hf,inB k,n⟩
theorem Tw.ws (h:Tw st b c m f) {k:Nat} {vs:List Value} (m':PM) (h1:vs.all one=true) (e:zaA m.rw k vs=some m'.rw) (hf:m'.fp=m.fp):∃ st',st.st b k vs=some st'∧Tw st' b c m' f∧Mod [b,c] st st'∧st'.next=st.next:=by
 obtain ⟨s,e,a,k,n⟩:=h.p.sto h1 e
 exact ⟨s,e,h.modB a k hf,inB k,n⟩
def zc8 (m:PM) (n x:Int):PM:=if 16≤n∧n<60∧n≠38 then { m with r:=up m.r n.toNat x } else m
def zeR (f:FM) (n x s:Int):FM:=if n=38 then zfO f x else setF f n x s
theorem zeS {n:Int} (h:n<0∨15<n) (f:FM) (x s:Int):setF f n x s=f:=by unfold setF;rw [if_pos (by omega)]
theorem zjy [Sym] (h:Tw st b c m f) (n x s:Int):∃ st',cc 10 [ptr b 0,.int .i64 n,.int .u32 x,.int .i64 s] st=some (.tuple #[],st')∧Tw st' b c (zc8 m n x) (zeR f n x s)∧Mod [b,c] st st':=by
 by_cases h0:n<0
 ·refine ⟨st,zbc _ _ _ _ st ?_,?_,.refl _⟩
  ·unfold zbh
   rw [zdt h0]
   exact bs (za2 _ _ _ _ _ st rfl) rfl
  ·unfold zc8 zeR;rw [if_neg (by omega),if_neg (by omega),zeS (by omega)];exact h
 by_cases h60:60≤n
 ·refine ⟨st,zbc _ _ _ _ st ?_,?_,.refl _⟩
  ·unfold zbh
   rw [zdf h0,zdt h60]
   exact bs (za2 _ _ _ _ _ st rfl) rfl
  ·unfold zc8 zeR;rw [if_neg (by omega),if_neg (by omega),zeS (by omega)];exact h
 by_cases h16:n<16
 ·obtain ⟨s',e,g1,g2,g3⟩:=zlS h.f n x s
  refine ⟨s',zbc _ _ _ _ st ?_,?_,inC g3⟩
  ·unfold zbh
   rw [zdf h0,zdf h60]
   refine bs (za2 _ _ _ _ _ st (r:=(0,[],s')) ?_) rfl
   unfold zbt
   simp only [zcf,h16,decide_true,zct,zal,zai,zob]
   exact bs h.rw.ld0 (bs g1 rfl)
  ·unfold zc8 zeR;rw [if_neg (by omega),if_neg (by omega)];exact h.modC g2 g3
 by_cases h38:n=38
 ·obtain ⟨s',g1,g2,g3⟩:=zlR h.f x
  refine ⟨s',zbc _ _ _ _ st ?_,?_,inC g3⟩
  ·unfold zbh
   rw [zdf h0,zdf h60]
   refine bs (za2 _ _ _ _ _ st (r:=(0,[],s')) ?_) rfl
   unfold zbt
   simp only [zcf,h16,h38,decide_false,decide_true,zct,zal,zai,zob]
   exact bs h.rw.ld0 (bs g1 rfl)
  ·unfold zc8 zeR;rw [if_neg (by omega),if_pos h38];exact h.modC g2 g3
 obtain ⟨k,rfl⟩:∃ k:Nat,n=(k:Int):=⟨n.toNat,by omega⟩
 obtain ⟨s',g1,g2,g3,_⟩:=h.setR (i:=k) (by omega) x
 refine ⟨s',zbc _ _ _ _ st ?_,?_,g3⟩
 ·unfold zbh
  rw [zdf h0,zdf h60]
  refine bs (za2 _ _ _ _ _ st (r:=(0,[],s')) ?_) rfl
  unfold zbt
  simp only [zcf,h16,h38,decide_false,zal,zai,zob]
  exact bs (zaP (n:=k) (by omega)) (bs g1 rfl)
 ·unfold zc8 zeR;rw [if_pos (by omega),if_neg h38,zeS (by omega),Int.toNat_natCast];exact g2
def zb2 (m:PM):PM:={ (if 0<m.ws then zc8 m m.wt m.wx else m) with wt:=0,wx:=0,ws:=0 }
def zbM (m:PM) (f:FM):FM:=if 0<m.ws then zeR f m.wt m.wx m.ws else f
theorem PM.s85 (m:PM) (t x s:Int):zaA m.rw (0+85) [.int .i64 t,.int .u32 x,.int .i64 s]=some (PM.rw { m with wt:=t,wx:=x,ws:=s }):=by
 rw [zbV (by rw [m.len];exact zlr _)]
 refine congrArg some ?_
 have e:m.rw.take (0+85)=ptr m.fp 0::(nums .u32 60 m.r++(nums .i64 6 m.k++m.tl.take 18)):=by
  unfold PM.rw
  rw [show 0+85=84+1 by rfl,List.take_succ_cons,List.take_append,zao,List.take_append,zao,List.take_of_length_le (by rw [zao];omega),List.take_of_length_le (by rw [zao];omega)]
 rw [e,List.drop_of_length_le (by rw [m.len];exact zlr _)]
 unfold PM.rw PM.tl
 simp
theorem zh5 [Sym] (h:Tw st b c m f):∃ st',cc 17 [ptr b 0] st=some (.tuple #[],st')∧Tw st' b c (zb2 m) (zbM m f)∧Mod [b,c] st st':=by
 by_cases hs:0<m.ws
 ·obtain ⟨s1,e1,t1,k1⟩:=zjy h m.wt m.wx m.ws
  obtain ⟨s2,e2,t2,k2,_⟩:=t1.ws (k:=0+85) (zb2 m) rfl (by rw [PM.s85];unfold zb2;rw [if_pos hs]) (by unfold zb2;rw [if_pos hs])
  refine ⟨s2,zcF _ st ?_,by unfold zbM;rw [if_pos hs];exact t2,k1.then k2⟩
  unfold zb6
  simp only [zal,zai,zob]
  refine bs h.rw.l87 ?_
  simp only [hs,decide_true,zct]
  exact bs h.rw.l85 (bs h.rw.l86 (bs h.rw.l87 (bs e1 (bs e2 rfl))))
 ·obtain ⟨s2,e2,t2,k2,_⟩:=h.ws (k:=0+85) (zb2 m) rfl (by rw [PM.s85];unfold zb2;rw [if_neg hs]) (by unfold zb2;rw [if_neg hs])
  refine ⟨s2,zcF _ st ?_,by unfold zbM;rw [if_neg hs];exact t2,k2⟩
  unfold zb6
  simp only [zal,zai,zob]
  refine bs h.rw.l87 ?_
  simp only [hs,decide_false,zcf]
  exact bs e2 rfl
def ownT (OL:List (Int×Int)):Int:=match OL with
 | []=>4
 | x::_=>x.2
theorem zlk [Sym] (h:Tw st b c m f) (ho:Os st m OL) (hb:∀ i o l q,m.ops=.slice (some ⟨i,o,none⟩) l q→i≠b∧i≠c):∃ st',cc 58 [ptr b 0] st=some (.tuple #[],st')∧Tw st' b c { m with own:=ownT OL } f∧Mod [b,c] st st':=by
 obtain ⟨s1,e1,t1,k1,_⟩:=h.w (k:=0+75) (x:=.int .i64 4) { m with own:=4 } (by omega) rfl (m.s75 4) rfl
 have ho1:Rg s1 m.ops (zcY opR OL) 2 OL.length:=ho.1.mod k1 (by intro i l q e;have:=hb i 0 l q e;simp;exact this)
 have l1:s1.ld b (0+67+4)=some m.ops:=by rw [t1.rw.ld];exact PM.g71 _
 cases OL with
 | nil=>
   refine ⟨s1,zcO _ st ?_,t1,k1⟩
   unfold zcn
   simp only [zal,zai,zob]
   refine bs e1 (bs l1 ?_)
   rw [ho1.len]
   rfl
 | cons x r=>
   obtain ⟨p,ep,_,hl⟩:=ho1.load (j:=0) (by omega) (by simp) (row:=opR x) (by simp [zcY,opR]) rfl
   obtain ⟨s2,e2,t2,k2,_⟩:=t1.w (k:=0+75) (x:=.int .i64 x.2) { m with own:=x.2 } (by omega) rfl (PM.s75 _ _) rfl
   refine ⟨s2,zcO _ st ?_,t2,k1.then k2⟩
   unfold zcn
   simp only [zal,zai,zob]
   refine bs e1 (bs l1 ?_)
   rw [ho1.len]
   simp only [zaG,zob,List.length_cons]
   rw [zdt (by omega),zct]
   refine bs l1 (bs ep (bs (a:=x.2) ?_ (bs e2 rfl)))
   rw [hl 1 (.int .i64 x.2) rfl];rfl
end
end Go.Proofs.YtlpigjmjgclgiaaDoorE
namespace Go.Proofs.YtlpigjmjgclgiaaDoorE
open Go Go.E Go.Proofs
structure OpM where
 code:Int
 name:ByteArray
 cls:Int
 alu:Int
 ops:Value
def OpM.row (o:OpM):List Value:=[.int .i64 o.code,.string o.name,.int .i64 o.cls,.int .i64 o.alu,o.ops]
def OpM.val (o:OpM):Value:=.agg #[.int .i64 o.code,.string o.name,.int .i64 o.cls,.int .i64 o.alu,o.ops]
def op0:OpM:=⟨0,⟨#[]⟩,0,0,.slice none 0 0⟩
def PM.withOp (m:PM) (o:OpM):PM:={ m with code:=o.code,name:=o.name,cls:=o.cls,alu:=o.alu,ops:=o.ops }
def clrV (r:Nat→Int):Nat→Int:=fun i=>if 24≤i∧i<36 then 0 else r i
theorem PM.s67 (m:PM) (o:OpM):zaA m.rw (0+67) o.row=some (m.withOp o).rw:=by
 rw [zbV (by rw [m.len];show 0+67+5≤88;omega)]
 refine congrArg some ?_
 have e:m.rw.take (0+67)=ptr m.fp 0::(nums .u32 60 m.r++nums .i64 6 m.k):=by
  unfold PM.rw
  rw [show 0+67=66+1 by rfl,List.take_succ_cons,List.take_append,zao,List.take_append,zao,List.take_of_length_le (by rw [zao];omega),List.take_of_length_le (by rw [zao];omega),show 66-60-6=0 by rfl,List.take_zero,List.append_nil]
 have d:m.rw.drop (0+67+o.row.length)=m.tl.drop 5:=by
  unfold PM.rw
  rw [show 0+67+o.row.length=71+1 by rfl,List.drop_succ_cons,List.drop_append,zao,List.drop_append,zao,List.drop_of_length_le (by rw [zao];omega),List.drop_of_length_le (by rw [zao];omega)];rfl
 rw [e,d]
 unfold PM.rw PM.tl OpM.row PM.withOp
 simp
theorem PM.s61 (m:PM):zaA m.rw (0+61) [.int .i64 (-1),.int .i64 (-1),.int .i64 (-1),.int .i64 (-1),.int .i64 (-1),.int .i64 (-1)]=some (PM.rw { m with k:=fun _=> -1 }):=by
 rw [zbV (by rw [m.len];decide+kernel)]
 refine congrArg some ?_
 have e:m.rw.take (0+61)=ptr m.fp 0::nums .u32 60 m.r:=by
  unfold PM.rw
  rw [show 0+61=60+1 by rfl,List.take_succ_cons,List.take_append,zao,List.take_of_length_le (by rw [zao];omega),Nat.sub_self,List.take_zero,List.append_nil]
 have d:m.rw.drop (0+61+6)=m.tl:=by
  unfold PM.rw
  rw [show 0+61+6=66+1 by rfl,List.drop_succ_cons,List.drop_append,zao,List.drop_append,zao,List.drop_of_length_le (by rw [zao];omega),List.drop_of_length_le (by rw [zao];omega)];rfl
 show m.rw.take (0+61)++(_++m.rw.drop (0+61+6))=_
 rw [e,d]
 rfl
theorem zlm (r:Nat→Int):(nums .u32 60 r).take 24++(List.replicate 12 (.int .u32 0)++(nums .u32 60 r).drop 36)=nums .u32 60 (clrV r):=by kernel_rfl
theorem PM.s25 (m:PM):zaA m.rw (0+1+24*1) (List.replicate 12 (.int .u32 0))=some (PM.rw { m with r:=clrV m.r }):=by
 rw [zbV (by rw [m.len];decide+kernel)]
 refine congrArg some ?_
 have e:m.rw.take (0+1+24*1)=ptr m.fp 0::(nums .u32 60 m.r).take 24:=by
  unfold PM.rw
  rw [show 0+1+24*1=24+1 by rfl,List.take_succ_cons,List.take_append,zao,show 24-60=0 by rfl,List.take_zero,List.append_nil]
 have d:m.rw.drop (0+1+24*1+(List.replicate 12 (Value.int .u32 0)).length)=(nums .u32 60 m.r).drop 36++(nums .i64 6 m.k++m.tl):=by
  unfold PM.rw
  rw [show 0+1+24*1+(List.replicate 12 (Value.int .u32 0)).length=36+1 by rfl,List.drop_succ_cons,List.drop_append,zao];rfl
 rw [e,d]
 unfold PM.rw
 rw [← zlm]
 simp only [List.cons_append,List.append_assoc]
 rfl
def takeP (m:PM) (o:OpM) (OL:List (Int×Int)):PM:={ m.withOp o with cur:= -1,rn:=0,rx:= -1,own:=ownT OL,k:=fun _=> -1,div:=false,fl:=false,r:=clrV m.r }
section
variable {st st' : SS} {b c : Nat} {m m' : PM} {f f' : FM} {OL : List (Int × Int)}
theorem zlV [Sym] (h:Tw st b c m f) {o:OpM} (hc:o.ops.cells.toList=[o.ops]∧one o.ops=true) (ho:Rg st o.ops (zcY opR OL) 2 OL.length) (h6:OL.length≤6) (hb:∀ i k l q,o.ops=.slice (some ⟨i,k,none⟩) l q→i≠b∧i≠c):
  ∃ st',cc 41 [ptr b 0,o.val] st=some (.tuple #[],st')∧Tw st' b c (takeP m o OL) f∧Mod [b,c] st st':=by
 have e1:o.val.cells.toList=o.row:=rfl
 have h1:=h.new (.cells o.row 0)
 have e2:(st.new (.cells o.row 0)).ldN st.next 0 5=some (.agg o.row.toArray):=by rw [zgF];rfl
 have q:o.row.all one=true:=by show (true&&(true&&(true&&(true&&(one o.ops&&true)))))=true;rw [hc.2];rfl
 obtain ⟨s5,g5,a5,k5,_⟩:=h1.p.stV (k:=0+67) (aggC o.row) (n:=5) rfl q (m.s67 o)
 have t5:Tw s5 b c (m.withOp o) f:=h1.modB a5 k5 rfl
 obtain ⟨s8,g8,t8,k8,_⟩:=t5.w (k:=0+72) (x:=.int .i64 (-1)) _ (by omega) rfl (PM.s72 _ (-1)) rfl
 obtain ⟨s11,g11,t11,k11,_⟩:=t8.w (k:=0+73) (x:=.int .i64 0) _ (by omega) rfl (PM.s73 _ 0) rfl
 obtain ⟨s14,g14,t14,k14,_⟩:=t11.w (k:=0+74) (x:=.int .i64 (-1)) _ (by omega) rfl (PM.s74 _ (-1)) rfl
 obtain ⟨s17,g17,t17,k17,_⟩:=t14.w (k:=0+75) (x:=.int .i64 4) _ (by omega) rfl (PM.s75 _ 4) rfl
 obtain ⟨s20,g20,t20,k20,_⟩:=t17.ws (k:=0+61) _ rfl (PM.s61 _) rfl
 obtain ⟨s23,g23,t23,k23,_⟩:=t20.w (k:=0+82) (x:=.bool false) _ (by omega) rfl (PM.s82 _ false) rfl
 obtain ⟨s26,g26,t26,k26,_⟩:=t23.w (k:=0+83) (x:=.bool false) _ (by omega) rfl (PM.s83 _ false) rfl
 obtain ⟨s30,g30,t30,k30,_⟩:=t26.ws (k:=0+1+24*1) (vs:=List.replicate 12 (.int .u32 0)) _ rfl (PM.s25 _) rfl
 have k:Mod [b,c] st s30:=(((((((((((Mod.new (st:=st) (.cells o.row 0)).mono (T:=[b,c]) (by simp)).then (inB k5)).then k8).then k11).then k14).then k17).then k20).then k23).then k26).then k30)
 have ho':Os s30 ({ m.withOp o with cur:= -1,rn:=0,rx:= -1,own:=4,k:=fun _=> -1,div:=false,fl:=false,r:=clrV m.r }:PM) OL:=⟨ho.mod k (by intro i l q e;have:=hb i 0 l q e;simp;exact this),h6⟩
 obtain ⟨s31,g31,t31,k31⟩:=zlk t30 ho' hb
 refine ⟨s31,zfI _ _ st ?_,t31,k.then k31⟩
 unfold zdY
 rw [e1]
 refine bs e2 ?_
 simp only [zal,zai,zob]
 refine bs (show (st.new (.cells o.row 0)).stV b (0+67) 5 (.agg o.row.toArray)=some s5 from g5) ?_
 refine bs g8 (bs g11 (bs g14 (bs g17 (bs g20 (bs g23 (bs g26 ?_))))))
 refine bs (show zhe b (0+1) 60 1 24 36=some (.slice (some ⟨b,0+1+24*1,none⟩) 12 36) from rfl) ?_
 refine bs (show s26.clr [.int .u32 0] (.slice (some ⟨b,0+1+24*1,none⟩) 12 36)=some s30 from by
  have z:(Builtin.zeroCells [Value.int .u32 0].toArray 12).toList=List.replicate 12 (.int .u32 0):=by kernel_rfl
  show s26.st b (0+1+24*1) (Builtin.zeroCells [Value.int .u32 0].toArray 12).toList=some s30
  rw [z];exact g30) ?_
 exact bs g31 rfl
def zgT (m:PM) (f:FM):PM:=takeP { zb2 m with r:=up (zb2 m).r 46 ((zbM m f).r 15),was:=(zbM m f).psl } op0 []
def begQ (m:PM) (f:FM):FM:={ zbM m f with steps:=.slice none 0 0 }
theorem zkP {α:Type} (g:α→List Value) (z:Nat):Rg st (.slice none 0 0) (zcY g []) z 0:=⟨by simp [zcY],.inl ⟨rfl,rfl⟩⟩
theorem zln [Sym] (h:Tw st b c m f):∃ st',cc 21 [ptr b 0] st=some (.tuple #[],st')∧Tw st' b c (zgT m f) (begQ m f)∧Mod [b,c] st st':=by
 obtain ⟨s1,g1,t1,k1⟩:=zh5 h
 obtain ⟨s5,g5,a5,k5⟩:=zjZ t1.f
 have t5:Tw s5 b c (zb2 m) (begQ m f):=t1.modC a5 k5
 have g9:=zju (st:=s5.ro s5.next) t5.f.mem 15
 have g14:=zf5 (st:=(s5.ro s5.next).ro s5.lim) t5.f.mem
 obtain ⟨s19,g19,t19,k19,_⟩:=t5.setR (i:=46) (by omega) ((zbM m f).r 15)
 obtain ⟨s22,g22,t22,k22,_⟩:=t19.w (k:=0+84) (x:=.int .u32 (zbM m f).psl) _ (by omega) rfl (PM.s84 _ _) rfl
 obtain ⟨s23,g23,t23,k23⟩:=zlV t22 (o:=op0) (OL:=[]) ⟨rfl,rfl⟩ (zkP _ _) (by simp) (by intro i k l q e;cases e)
 refine ⟨s23,ze4 _ st ?_,t23,(((k1.then (inC k5)).then k19).then k22).then k23⟩
 unfold zdK
 refine bs g1 ?_
 simp only [zal,zai,zob]
 refine bs t1.rw.ld0 (bs g5 (bs t5.rw.ld0 (bs g9 ?_)))
 simp only [zob,zaG]
 refine bs (show ((s5.ro s5.next).ro s5.lim).ld b 0=some (ptr c 0) from t5.rw.ld0) (bs g14 ?_)
 simp only [zob,zaG]
 refine bs (zaP (n:=46) (by omega)) ?_
 have e15:zhJ (begQ m f) 15=(zbM m f).r 15:=rfl
 rw [e15]
 refine bs (show ((s5.ro s5.next).ro s5.lim).st b (0+1+46*1) [.int .u32 ((zbM m f).r 15)]=some s19 from ?_) (bs g22 (bs g23 rfl))
 exact g19
def fm0:FM:=⟨fun _=>0,0,0,0,.slice none 0 0⟩
def pm0 (c:Nat):PM:=⟨c,fun _=>0,fun _=>0,0,⟨#[]⟩,0,0,.slice none 0 0,0,0,0,0,0,.slice none 0 0,⟨false,false,false,false⟩,false,false,0,0,0,0⟩
theorem zlW [Sym] (hl:st.lim≤st.next):cc 8 [] st=some (ptr st.next 0,st.new (.cells fm0.row 0))∧At (st.new (.cells fm0.row 0)) st.next fm0.row:=
 ⟨zja st rfl,At.new hl _⟩
theorem zlX [Sym] (h:At st c f.row) (hl:st.lim≤st.next):∃ st',cc 7 [ptr c 0] st=some (ptr st.next 0,st')∧Tw st' st.next c (zgT (pm0 c) f) (begQ (pm0 c) f)∧Mod [c] st st':=by
 have h1:Tw (st.new (.cells (pm0 c).rw 0)) st.next c (pm0 c) f:=⟨At.new hl _,h.ext ((Ext.refl st).new _),rfl,by have:=h.lt;omega,zlt hl (Nat.le_succ _)⟩
 obtain ⟨s2,g2,t2,k2⟩:=zln h1
 refine ⟨s2,ziN _ st ?_,t2,?_⟩
 ·unfold zh3
  refine bs (a:=[ptr c 0]) rfl ?_
  refine bs (show cc 21 [ptr st.next 0] (st.new (.cells (pm0 c).rw 0))=some (.tuple #[],s2) from g2) rfl
 ·have:=(Mod.new (st:=st) (.cells (pm0 c).rw 0)).mono (T:=[c]) (by simp)
  refine this.trans k2 fun j hj hlt=>?_
  simp only [List.mem_cons,List.not_mem_nil,or_false] at hj
  rcases hj with hj | hj
  ·omega
  ·simp [hj]
end
end Go.Proofs.YtlpigjmjgclgiaaDoorE
namespace Go.Proofs.YtlpigjmjgclgiaaDoorE
set_option maxRecDepth 100000
open Go Go.E Go.Proofs
def zaX:Nat→Nat→Nat
 | 0,_=>0
 | f+1,x=>x%2+zaX f (x/2)
theorem zcV:∀ f x,zaX f x≤f
 | 0,x=>zlr _
 | f+1,x=>by have:=zcV f (x/2);unfold zaX;omega
theorem zh6:∀ f,zaX f 0=0
 | 0=>rfl
 | f+1=>by unfold zaX;rw [zh6 f]
theorem zdk:∀ (a b x:Nat),zaX (a+b) x=zaX a (x%2^a)+zaX b (x/2^a)
 | 0,b,x=>by rw [Nat.zero_add,Nat.pow_zero,Nat.div_one];show _=0+_;omega
 | a+1,b,x=>by
   have ih:=zdk a b (x/2)
   rw [show a+1+b=(a+b)+1 by omega]
   have e1:x%2^(a+1)%2=x%2:=Nat.mod_mod_of_dvd x ⟨2^a,by rw [Nat.pow_succ];omega⟩
   have e2:x%2^(a+1)/2=x/2%2^a:=by rw [Nat.pow_succ,Nat.mul_comm];exact Nat.mod_mul_right_div_self x 2 (2^a)
   have e3:x/2^(a+1)=x/2/2^a:=by rw [Nat.pow_succ,Nat.mul_comm,Nat.div_div_eq_div_mul]
   show x%2+zaX (a+b) (x/2)=(x%2^(a+1)%2+zaX a (x%2^(a+1)/2))+zaX b (x/2^(a+1))
   rw [ih,e1,e2,e3]
   omega
theorem and_even (y a b:Nat) (ha:a≤1) (hb:b≤1) (h:a*b=0) (z:Nat):(2*y+a)&&& (2*z+b)=2*(y&&& z):=by
 apply Nat.eq_of_testBit_eq
 intro i
 cases i with
 | zero=>
   simp only [Nat.testBit_and,Nat.testBit_zero]
   have:a=0∨b=0:=Nat.mul_eq_zero.1 h
   rcases this with rfl | rfl
   ·simp [Nat.add_mod]
   ·simp [Nat.add_mod]
 | succ i=>
   rw [Nat.testBit_and,Nat.testBit_succ,Nat.testBit_succ,Nat.testBit_succ,show (2*y+a)/2=y by omega,show (2*z+b)/2=z by omega,show 2*(y&&& z)/2=y&&& z by omega,Nat.testBit_and]
theorem zeT:∀ (f x:Nat),x≠0→x<2^f→zaX f (x&&& (x-1))+1=zaX f x∧x.testBit (Lib.ctzFrom f x)=true∧(∀ i,(x&&& (x-1)).testBit i=true→Lib.ctzFrom f x<i)∧(2^Lib.ctzFrom f x||| (x&&& (x-1)))=x∧Lib.ctzFrom f x<f
 | 0,x,h0,h=>by simp at h;omega
 | f+1,x,h0,h=>by
   by_cases h1:x%2=1
   ·have e:x&&& (x-1)=2*(x/2):=by
     have e1:x=2*(x/2)+1:=by omega
     have e2:x-1=2*(x/2)+0:=by omega
     calc x&&& (x-1)=(2*(x/2)+1)&&& (2*(x/2)+0):=by rw [← e1,← e2]
      _=2*(x/2&&& x/2):=and_even _ _ _ (by omega) (by omega) rfl _
      _=_:=by rw [Nat.and_self]
    have hc:Lib.ctzFrom (f+1) x=0:=by unfold Lib.ctzFrom;rw [if_pos h1]
    rw [hc,e]
    refine ⟨?_,?_,fun i hi=>?_,?_,by omega⟩
    ·unfold zaX;rw [show 2*(x/2)%2=0 by omega,show 2*(x/2)/2=x/2 by omega,h1];omega
    ·simp [Nat.testBit_zero,h1]
    ·cases i with
     | zero=>simp [Nat.testBit_zero] at hi
     | succ i=>omega
    ·apply Nat.eq_of_testBit_eq
     intro i
     rw [Nat.testBit_or]
     cases i with
     | zero=>simp [Nat.testBit_zero,h1]
     | succ i=>rw [Nat.testBit_succ,Nat.testBit_succ,Nat.testBit_succ,show 2*(x/2)/2=x/2 by omega];simp
   ·have hc:Lib.ctzFrom (f+1) x=1+Lib.ctzFrom f (x/2):=by rw [Lib.ctzFrom];rw [if_neg h1]
    obtain ⟨g1,g2,g3,g4,g5⟩:=zeT f (x/2) (by omega) (by rw [Nat.pow_succ] at h;omega)
    have e:x&&& (x-1)=2*(x/2&&& (x/2-1)):=by
     have e1:x=2*(x/2)+0:=by omega
     have e2:x-1=2*(x/2-1)+1:=by omega
     calc x&&& (x-1)=(2*(x/2)+0)&&& (2*(x/2-1)+1):=by rw [← e1,← e2]
      _=2*(x/2&&& (x/2-1)):=and_even _ _ _ (by omega) (by omega) rfl _
    have h0':x%2=0:=by omega
    rw [hc,e,Nat.add_comm 1]
    refine ⟨?_,?_,fun i hi=>?_,?_,by omega⟩
    ·unfold zaX;rw [show 2*(x/2&&& (x/2-1))%2=0 by omega,show 2*(x/2&&& (x/2-1))/2=x/2&&& (x/2-1) by omega,h0'];omega
    ·rw [Nat.testBit_succ];exact g2
    ·cases i with
     | zero=>simp [Nat.testBit_zero] at hi
     | succ i=>rw [Nat.testBit_succ,show 2*(x/2&&& (x/2-1))/2=x/2&&& (x/2-1) by omega] at hi;have:=g3 i hi;omega
    ·apply Nat.eq_of_testBit_eq
     intro i
     rw [Nat.testBit_or]
     cases i with
     | zero=>simp [Nat.testBit_zero,h0',Nat.pow_succ]
     | succ i=>
       rw [Nat.testBit_succ,Nat.testBit_succ,Nat.testBit_succ,show 2*(x/2&&& (x/2-1))/2=x/2&&& (x/2-1) by omega,show 2^(Lib.ctzFrom f (x/2)+1)/2=2^Lib.ctzFrom f (x/2) by rw [Nat.pow_succ];omega,← Nat.testBit_or,g4]
theorem bv32 {a:Nat} (ha:a<4294967296):(BitVec.ofInt 32 (a:Int)).toNat=a:=by
 rw [BitVec.ofInt_natCast,BitVec.toNat_ofNat];exact Nat.mod_eq_of_lt (by omega)
theorem and32 {a b:Nat} (ha:a<4294967296) (hb:b<4294967296):zb4 .u32 (a:Int) (b:Int)=((a&&& b:Nat):Int):=by
 have hx:a&&& b<2^32:=Nat.and_lt_two_pow _ (by omega)
 show IntKind.wrap .u32 ((BitVec.ofInt 32 (a:Int)&&& BitVec.ofInt 32 (b:Int)).toNat:Int)=_
 rw [BitVec.toNat_and,bv32 ha,bv32 hb]
 exact zcU (by omega) (by omega)
theorem or32 {a b:Nat} (ha:a<4294967296) (hb:b<4294967296):orI .u32 (a:Int) (b:Int)=((a||| b:Nat):Int):=by
 have hx:a||| b<2^32:=Nat.or_lt_two_pow (by omega) (by omega)
 show IntKind.wrap .u32 ((BitVec.ofInt 32 (a:Int)||| BitVec.ofInt 32 (b:Int)).toNat:Int)=_
 rw [BitVec.toNat_or,bv32 ha,bv32 hb]
 exact zcU (by omega) (by omega)
theorem shl32 {k:Nat} (hk:k<32):zgw .u32 1 (k:Int)=((2^k:Nat):Int):=by
 have h1:2^k<2^32:=Nat.pow_lt_pow_right (by omega) hk
 unfold zgw
 rw [Int.toNat_natCast,show IntKind.u32.bits=32 from rfl,Nat.min_eq_left (by omega),Int.one_mul,show (2:Int)^k=((2^k:Nat):Int) by rw [Int.natCast_pow];rfl]
 exact zcU (Int.natCast_nonneg _) (by omega)
theorem zj0 (a s:Nat) (hs:s≤32):zd6 .u32 (a:Int) (s:Int)=((a/2^s:Nat):Int):=by
 unfold zd6
 rw [Int.toNat_natCast,show IntKind.u32.bits=32 from rfl,Nat.min_eq_left (by omega),show (2:Int)^s=((2^s:Nat):Int) by rw [Int.natCast_pow];rfl,Int.fdiv_eq_ediv_of_nonneg _ (Int.natCast_nonneg _),Int.natCast_ediv]
def zdO:ByteArray:=⟨#[0,1,1,2,1,2,2,3,1,2,2,3,2,3,3,4,1,2,2,3,2,3,3,4,2,3,3,4,3,4,4,5,1,2,2,3,2,3,3,4,2,3,3,4,3,4,4,5,2,3,3,4,3,4,4,5,3,4,4,5,4,5,5,6,1,2,2,3,2,3,3,4,2,3,3,4,3,4,4,5,2,3,3,4,3,4,4,5,3,4,4,5,4,5,5,6,2,3,3,4,3,4,4,5,3,4,4,5,4,5,5,6,3,4,4,5,4,5,5,6,4,5,5,6,5,6,6,7,1,2,2,3,2,3,3,4,2,3,3,4,3,4,4,5,2,3,3,4,3,4,4,5,3,4,4,5,4,5,5,6,2,3,3,4,3,4,4,5,3,4,4,5,4,5,5,6,3,4,4,5,4,5,5,6,4,5,5,6,5,6,6,7,2,3,3,4,3,4,4,5,3,4,4,5,4,5,5,6,3,4,4,5,4,5,5,6,4,5,5,6,5,6,6,7,3,4,4,5,4,5,5,6,4,5,5,6,5,6,6,7,4,5,5,6,5,6,6,7,5,6,6,7,6,7,7,8]⟩
def ziT (v:Nat):Bool:=match (zcy zdO (v:Int)).bind (asI .u8) with
 | some n=>decide (n=(zaX 8 v:Int))
 | none=>false
theorem zj1:(List.range 256).all ziT=true:=by kernel_rfl
theorem zd2 {v:Nat} (h:v<256):(zcy zdO (v:Int)).bind (asI .u8)=some (zaX 8 v:Int):=by
 have:=List.all_eq_true.1 zj1 v (List.mem_range.2 h)
 unfold ziT at this
 revert this
 cases (zcy zdO (v:Int)).bind (asI .u8) with
 | none=>intro h;cases h
 | some n=>intro h;rw [of_decide_eq_true h]
theorem sum4 {a b c d:Nat} (ha:a≤8) (hb:b≤8) (hc:c≤8) (hd:d≤8):IntKind.wrap .i64 (IntKind.wrap .u8 (IntKind.wrap .u8 (IntKind.wrap .u8 ((a:Int)+(b:Int))+(c:Int))+(d:Int)))=((d+(c+(b+a)):Nat):Int):=by
 rw [ziF (n:=(a:Int)+b) (by omega) (by omega),ziF (n:=(a:Int)+b+c) (by omega) (by omega),ziF (n:=(a:Int)+b+c+d) (by omega) (by omega),wrap64 (by omega) (by omega)]
 omega
theorem zlY (x:Int) (st:SS):zcs cc zbW x st=(((zcy zdO (zd6 .u32 x 24)).bind (asI .u8)).bind fun n2=>((zcy zdO (zb4 .u32 (zd6 .u32 x 16) 255)).bind (asI .u8)).bind fun n5=>((zcy zdO (zb4 .u32 (zd6 .u32 x 8) 255)).bind (asI .u8)).bind fun n9=>((zcy zdO (zb4 .u32 x 255)).bind (asI .u8)).bind fun n12=>some (.int .i64 (IntKind.wrap .i64 (IntKind.wrap .u8 (IntKind.wrap .u8 (IntKind.wrap .u8 (n2+n5)+n9)+n12))),st.adv st.next)):=by kernel_rfl
theorem zlZ [Sym] {x:Nat} (hx:x<4294967296):Pf 56 [.int .u32 (x:Int)] (.int .i64 (zaX 32 x:Int)):=fun st=>by
 refine ⟨st.next,zlr _,zdH _ st ?_⟩
 have l1:=zcV 8 (x/2^24)
 have l2:=zcV 8 (x/2^16%2^8)
 have l3:=zcV 8 (x/2^8%2^8)
 have l4:=zcV 8 (x%2^8)
 have hs:zaX 32 x=zaX 8 (x%2^8)+(zaX 8 (x/2^8%2^8)+(zaX 8 (x/2^16%2^8)+zaX 8 (x/2^24))):=by
  have a1:=zdk 8 24 x
  have a2:=zdk 8 16 (x/2^8)
  have a3:=zdk 8 8 (x/2^8/2^8)
  rw [Nat.div_div_eq_div_mul] at a2 a3
  rw [Nat.div_div_eq_div_mul] at a3
  exact a1.trans (congrArg _ (a2.trans (congrArg _ a3)))
 have ha:∀ y:Nat,y<4294967296→zb4 .u32 (y:Int) 255=((y%2^8:Nat):Int):=fun y hy=>by
  rw [show (255:Int)=((255:Nat):Int) from rfl,and32 hy (by omega),show (255:Nat)=2^8-1 from rfl,Nat.and_two_pow_sub_one_eq_mod]
 rw [zlY]
 rw [show (24:Int)=((24:Nat):Int) from rfl,zj0 x 24 (by omega),show (16:Int)=((16:Nat):Int) from rfl,zj0 x 16 (by omega),show (8:Int)=((8:Nat):Int) from rfl,zj0 x 8 (by omega)]
 rw [ha (x/2^16) (by omega),ha (x/2^8) (by omega),ha x hx]
 refine bs (zd2 (v:=x/2^24) (by omega)) ?_
 refine bs (zd2 (v:=x/2^16%2^8) (by omega)) ?_
 refine bs (zd2 (v:=x/2^8%2^8) (by omega)) ?_
 refine bs (zd2 (v:=x%2^8) (by omega)) ?_
 rw [sum4 l1 l2 l3 l4,hs]
end Go.Proofs.YtlpigjmjgclgiaaDoorE
namespace Go.Proofs.YtlpigjmjgclgiaaDoorE
set_option maxRecDepth 100000
open Go Go.E Go.Proofs
structure Tb (st:SS):Prop where
 t:st.mem.get 0=some (.table deBr)
 lt:0<st.lim
section
variable {st st' : SS} {b c : Nat} {m m' : PM} {f f' : FM}
theorem Tb.mod {S:List Nat} (h:Tb st) (k:Mod S st st') (hS:∀ i,i∈S→st.lim≤i) (hl:st.lim≤st.next):Tb st':=
 ⟨(k.keep _ (by have:=h.lt;omega) fun hm=>by have:=hS _ hm;have:=h.lt;omega).trans h.t,by rw [k.lim];exact h.lt⟩
theorem Tb.modT (h:Tb st) (t:Tw st b c m f) (k:Mod [b,c] st st'):Tb st':=h.mod k (fun i hi=>by
 have h1:=t.p.2.2;have h2:=t.f.2.2
 simp only [List.mem_cons,List.not_mem_nil,or_false] at hi
 rcases hi with rfl | rfl<;>assumption) t.ll
theorem Tb.ext (h:Tb st) (k:Ext st st') (hl:st.lim≤st.next):Tb st':=h.mod (S:=[]) (.ofExt k) (fun i hi=>by cases hi) hl
theorem zl0 (f:Nat) (vs:List Value) (nx:Nat):Lk0.con f vs nx=conF f vs nx:=by kernel_rfl
theorem zl1:zcX (some (.table deBr)) (.table deBr)=true:=by kernel_rfl
theorem ctz_ok [Sym] (h:Tb st) (hl:st.lim≤st.next) {x:Nat} (hx:x<4294967296):cc 71 [.int .u32 (x:Int)] st=some (.int .i64 (Lib.ctz 32 x:Int),st):=by
 have h1:Lk0.con 71 [.int .u32 (x:Int)] st.next=some (ctzC st.next (x:Int)):=by
  rw [zl0]
  unfold conF
  rw [show Nat.beq 71 71=true from rfl,zct]
  simp only
  rw [zdt (show (0:Int)≤(x:Int) by omega),zdt (show (x:Int)<4294967296 by omega)];rfl
 have h2:=zkG (P:=Tryd.prog) (L:=Lk0) (f:=71) (args:=[.int .u32 (x:Int)]) (st:=st) rfl h1 (by
  have e1:Nat.ble st.next st.next=true:=by rw [Nat.ble_eq];exact zlr _
  have e2:Nat.blt 0 st.next=true:=by
   have:=h.lt
   show Nat.ble (0+1) st.next=true
   rw [Nat.ble_eq];omega
  have e3:Lk0.glob 0=true:=by kernel_rfl
  simp only [ctzC,List.all_cons,List.all_nil,Bool.and_true]
  rw [e1,e2,e3,h.t,zl1];rfl)
 exact h2
def zcd (m:PM) (x:Nat):PM:=if x=0 then { m with fl:=true } else { m with fl:=false,r:=up (up m.r 22 (Lib.ctz 32 x:Int)) 21 ((x&&& (x-1):Nat):Int) }
theorem zkQ {x:Nat} (h0:x≠0) (hx:x<4294967296):Lib.ctz 32 x=Lib.ctzFrom 32 x∧Lib.ctz 32 x<32:=by
 have:=(zeT 32 x h0 hx).2.2.2.2
 unfold Lib.ctz
 rw [if_neg h0]
 exact ⟨rfl,this⟩
theorem zl2 [Sym] (h:Tw st b c m f) (ht:Tb st) {x:Nat} (hx:x<4294967296) (h21:m.r 21=(x:Int)):∃ st',cc 55 [ptr b 0] st=some (.tuple #[],st')∧Tw st' b c (zcd m x) f∧Mod [b,c] st st':=by
 have l21:(st.ld b (0+1+21*1)).bind (asI .u32)=some (x:Int):=by rw [← h21];exact h.rw.ldR (by omega)
 obtain ⟨s7,g7,t7,k7,_⟩:=h.w (k:=0+83) (x:=.bool (decide ((x:Int)=0))) _ (by omega) rfl (PM.s83 _ _) rfl
 by_cases h0:x=0
 ·refine ⟨s7,zc5 _ st ?_,?_,k7⟩
  ·unfold zcH
   simp only [zal,zai,zob]
   refine bs (zaP (n:=21) (by omega)) (bs l21 (bs g7 ?_))
   rw [zdt (show (x:Int)=0 by omega)];rfl
  ·unfold zcd;rw [if_pos h0]
   rw [zdt (show (x:Int)=0 by omega)] at t7;exact t7
 ·have hx0:decide ((x:Int)=0)=false:=zdf (by omega)
  rw [hx0] at g7 t7
  obtain ⟨_,hk⟩:=zkQ h0 hx
  have e8:=ctz_ok (ht.modT h k7) t7.ll hx
  obtain ⟨s14,g14,t14,k14,_⟩:=t7.setR (i:=22) (by omega) (Lib.ctz 32 x:Int)
  obtain ⟨s20,g20,t20,k20,_⟩:=t14.setR (i:=21) (by omega) ((x&&& (x-1):Nat):Int)
  refine ⟨s20,zc5 _ st ?_,by unfold zcd;rw [if_neg h0];exact t20,(k7.then k14).then k20⟩
  unfold zcH
  simp only [zal,zai,zob]
  refine bs (zaP (n:=21) (by omega)) (bs l21 ?_)
  rw [hx0]
  refine bs g7 ?_
  simp only [znf,zct]
  refine bs e8 ?_
  simp only [zob,zaG]
  rw [zcU (n:=(Lib.ctz 32 x:Int)) (by omega) (by omega),show (x:Int)-1=((x-1:Nat):Int) by omega,zcU (n:=((x-1:Nat):Int)) (by omega) (by omega),and32 hx (by omega)]
  exact bs (zaP (n:=22) (by omega)) (bs g14 (bs (zaP (n:=21) (by omega)) (bs g20 rfl)))
def wM (k:Int):Value:=.agg #[.int .i64 0,.int .i64 0,.int .i64 0,.int .i64 0,.int .i64 0,.int .i64 0,.int .i64 0,.int .i64 0,.int .i64 0,.int .i64 0,.int .i64 0,.int .i64 k]
def wR (k:Int):List Value:=[.int .i64 0,.int .i64 0,.int .i64 0,.int .i64 0,.int .i64 0,.int .i64 0,.int .i64 0,.int .i64 0,.int .i64 0,.int .i64 0,.int .i64 0,.int .i64 k]
theorem zkR [Sym] (h:Tw st b c m f) (k a:Int):∃ st',cc 26 [ptr b 0,wM k,.int .u32 a] st=some (.tuple #[],st')∧Tw st' b c m f∧Ext st st':=by
 have h1:=h.new (.cells (wR k) 0)
 have l1:∀ i,(st.new (.cells (wR k) 0)).ld st.next i=(wR k)[i]?:=fun i=>zdn
 have e:=zlU h1.rw (n:=0) (by omega)
 refine ⟨_,zfa _ _ _ st ?_,h1,(Ext.refl st).new _⟩
 unfold zdM
 rw [show (wM k).cells.toList=wR k from rfl]
 refine bs (a:=0) (by rw [l1];rfl) (bs e ?_)
 simp only [zob,zaG]
 refine bs (a:=0) (by rw [l1];rfl) rfl
theorem zj2 [Sym] (h:Tw st b c m f) (ht:Tb st) (a:Int) {x:Nat} (hx:x<4294967296) (h21:m.r 21=(x:Int)):∃ st',cc 27 [ptr b 0,wM 18,.int .u32 a] st=some (.tuple #[],st')∧Tw st' b c (zcd m x) f∧Mod [b,c] st st':=by
 have h1:=h.new (.cells (wR 18) 0)
 have x1:Ext st (st.new (.cells (wR 18) 0)):=(Ext.refl st).new _
 have l1:∀ i,(st.new (.cells (wR 18) 0)).ld st.next i=(wR 18)[i]?:=fun i=>zdn
 obtain ⟨s2,g2,t2,k2⟩:=zl2 h1 (ht.ext x1 h.ll) hx h21
 refine ⟨s2,zcN _ _ _ st ?_,t2,(Mod.ofExt x1).then k2⟩
 unfold zcm
 rw [show (wM 18).cells.toList=wR 18 from rfl]
 refine bs (a:=18) (by rw [l1];rfl) ?_
 exact bs g2 rfl
def countP (m:PM) (x:Nat):PM:={ m with r:=up m.r 23 ((4*zaX 32 x:Nat):Int) }
theorem zjb [Sym] (h:Tw st b c m f) (a:Int) {x:Nat} (hx:x<4294967296) (h21:m.r 21=(x:Int)):∃ st',cc 27 [ptr b 0,wM 21,.int .u32 a] st=some (.tuple #[],st')∧Tw st' b c (countP m x) f∧Mod [b,c] st st':=by
 have h1:=h.new (.cells (wR 21) 0)
 have x1:Ext st (st.new (.cells (wR 21) 0)):=(Ext.refl st).new _
 have l1:∀ i,(st.new (.cells (wR 21) 0)).ld st.next i=(wR 21)[i]?:=fun i=>zdn
 have l21:((st.new (.cells (wR 21) 0)).ld b (0+1+21*1)).bind (asI .u32)=some (x:Int):=by rw [← h21];exact h1.rw.ldR (by omega)
 obtain ⟨n,hn,e⟩:=zlZ hx (st.new (.cells (wR 21) 0))
 have hp:=zcV 32 x
 obtain ⟨s3,g3,t3,k3,_⟩:=(h1.adv hn).setR (i:=23) (by omega) ((4*zaX 32 x:Nat):Int)
 refine ⟨s3,zcN _ _ _ st ?_,t3,((Mod.ofExt x1).then (.ofExt (Ext.advR _ hn))).then k3⟩
 unfold zcm
 rw [show (wM 21).cells.toList=wR 21 from rfl]
 refine bs (a:=21) (by rw [l1];rfl) ?_
 simp only [Int.reduceEq,decide_false,decide_true,zcf,zct,zal,zai,zob]
 refine bs (zaP (n:=21) (by omega)) (bs l21 (bs e ?_))
 simp only [zob,zaG]
 rw [show (4:Int)*(zaX 32 x:Int)=((4*zaX 32 x:Nat):Int) by omega,wrap64 (n:=((4*zaX 32 x:Nat):Int)) (by omega) (by omega),zcU (n:=((4*zaX 32 x:Nat):Int)) (by omega) (by omega)]
 exact bs (zaP (n:=23) (by omega)) (bs g3 rfl)
theorem zgo [Sym] (h:Tw st b c m f) (ht:Tb st) (ho:Os st m []) (hU:lenV m.buf=some (.int .i64 0)) (hob:m.ops=.slice none 0 0) (k:Int) {mm:PM}
  (hL:∀ st1 a,Tw st1 b c (zb2 m) (zbM m f)→Tb st1→∃ st',cc 27 [ptr b 0,wM k,.int .u32 a] st1=some (.tuple #[],st')∧Tw st' b c mm (zbM m f)∧Mod [b,c] st1 st'):
  ∃ st',cc 9 [ptr b 0,wM k] st=some (.tuple #[],st')∧Tw st' b c mm (zbM m f)∧Mod [b,c] st st':=by
 have h1:=h.new (.cells (wR k) 0)
 have x1:Ext st (st.new (.cells (wR k) 0)):=(Ext.refl st).new _
 have l1:∀ i,(st.new (.cells (wR k) 0)).ld st.next i=(wR k)[i]?:=fun i=>zdn
 have w1:At (st.new (.cells (wR k) 0)) st.next (wR k):=At.new h.ll _
 have hbn:st.next≠b∧st.next≠c:=by have:=h.p.lt;have:=h.f.lt;omega
 obtain ⟨s1,hs1⟩:∃ s,s=st.new (.cells (wR k) 0):=⟨_,rfl⟩
 rw [← hs1] at h1 x1 l1 w1
 have o1:Os s1 m []:=⟨ho.1.ext x1,ho.2⟩
 obtain ⟨n3,hn3,e3⟩:=zhq (U:=0) (h1.rw.ro s1.next) o1.ro hU 0
 have h3:=h1.adv hn3
 have w3:=w1.adv hn3
 have o3:Os (s1.adv n3) m []:=o1.adv hn3
 obtain ⟨n6,hn6,e6⟩:=zhq (U:=0) h3.rw o3 hU 0
 have h6:=h3.adv hn6
 have w6:=w3.adv hn6
 obtain ⟨s7,e7,t7,k7⟩:=zh5 h6
 have w7:At s7 st.next (wR k):=w6.mod k7 (by simp [hbn])
 have g7:Tb s7:=((ht.ext x1 h.ll).ext ((Ext.advR s1 hn3).trans (Ext.advR _ hn6)) h1.ll).modT h6 k7
 obtain ⟨sA,eA,aA,xA,nA⟩:=new_ok (st:=s7) t7.ll (row:=[.int .i64 (-1),.int .u32 0,.int .i64 0]) (r:=[.int .i64 0,.int .u32 0,.int .i64 0]) rfl rfl
 have tA:=t7.ext xA
 have wA:=w7.ext xA
 obtain ⟨sB,eB,tB,xB⟩:=zkR tA k (getT m f [] 0 0)
 have aB:=aA.ext xB
 have wB:=wA.ext xB
 obtain ⟨sC,eC,tC,kC⟩:=hL sB (getT m f [] 0 0) tB ((g7.ext xA t7.ll).ext xB tA.ll)
 have hn7:s7.next≠b∧s7.next≠c:=by have:=t7.p.lt;have:=t7.f.lt;omega
 have aC:=aB.mod kC (by simp [hn7])
 refine ⟨sC,ze1 _ _ st ?_,tC,((((((Mod.ofExt x1).then (.ofExt (Ext.advR s1 hn3))).then (.ofExt (Ext.advR _ hn6))).then k7).then (.ofExt xA)).then (.ofExt xB)).then kC⟩
 unfold zdJ
 rw [show (wM k).cells.toList=wR k from rfl]
 simp only
 rw [← hs1]
 refine bs (a:=0) (by rw [l1];rfl) (bs e3 ?_)
 simp only [zob,zaG]
 rw [show ((s1.ro s1.next).adv n3).ro s1.lim=s1.adv n3 from rfl]
 refine bs (a:=0) (by rw [w3.ld];rfl) (bs e6 ?_)
 simp only [zob,zaG]
 refine bs (a:=0) (by rw [w6.ld];rfl) ?_
 refine bs (a:=0) (by rw [w6.ld];rfl) ?_
 refine bs (a:=(0,[],sC)) (zd9 _ _ _ _ _ ?_) rfl
 unfold zcJ
 refine bs e7 ?_
 simp only [zai,zob]
 refine bs eA (bs (a:=0) (by rw [wA.ld];rfl) ?_)
 refine bs (a:=(0,[],sC)) (zdP _ _ _ _ _ ?_) rfl
 unfold zcB
 simp only [zai,zob]
 refine bs (a:=wM k) (by rw [wA.ldN (n:=12) rfl];rfl) (bs eB ?_)
 refine bs (a:=wM k) (by rw [wB.ldN (n:=12) rfl];rfl) (bs eC ?_)
 refine bs (a:= -1) (by rw [aC.ld];rfl) ?_
 exact bs (a:= -1) (by rw [aC.ld];rfl) rfl
end
end Go.Proofs.YtlpigjmjgclgiaaDoorE
namespace Go.Proofs.YtlpigjmjgclgiaaDoorE
set_option maxRecDepth 20000
open Go Go.E Go.Proofs
def zbs:LoopI:=⟨[(0,.int .u32),(3,.any),(4,.int .u32),(5,.int .u32),(6,.int .i64),(7,.int .u32)],[(.exit 0,[(0,.int .u32),(3,.any),(5,.int .u32)]),(.ret,[(2,.bool)])]⟩
def zbE (n:Nat):Option LoopI:=cond (Nat.beq n 10) (some zbs) (none)
noncomputable def zbX (cf:zaw) (lf:zak) (x':Int) (st:SS):Option (Value×SS):=
 (cf 6 [] st).bind fun a=>
 ((some a.1).bind asB).bind fun b=>
 cond (!b) (
 some (.bool false,a.2)) (
 (cf 8 [] a.2).bind fun c=>
 (cf 7 [c.1] c.2).bind fun d=>
 (cf 10 [d.1,.int .i64 21,.int .u32 x',.int .i64 4] d.2).bind fun e=>
 (cf 9 [d.1,.agg #[.int .i64 0,.int .i64 0,.int .i64 0,.int .i64 0,.int .i64 0,.int .i64 0,.int .i64 0,.int .i64 0,.int .i64 0,.int .i64 0,.int .i64 0,.int .i64 21]] e.2).bind fun f=>
 (cf 11 [d.1,.int .i64 23] f.2).bind fun g=>
 ((some g.1).bind (asI .u32)).bind fun h=>
 (lf 10 [.int .u32 x',d.1,.int .u32 h,.int .u32 0,.int .i64 (-1),.int .u32 0] g.2).bind fun i=>
 cond (Nat.beq i.1 0) (
 ((i.2.1[0]?).bind (asI .u32)).bind fun j=>
 (i.2.1[1]?).bind fun k=>
 ((i.2.1[2]?).bind (asI .u32)).bind fun l=>
 (cf 9 [k,.agg #[.int .i64 0,.int .i64 0,.int .i64 0,.int .i64 0,.int .i64 0,.int .i64 0,.int .i64 0,.int .i64 0,.int .i64 0,.int .i64 0,.int .i64 0,.int .i64 18]] i.2.2).bind fun m=>
 cond (decide (l=j)) (
 (cf 14 [k] m.2).bind fun n=>
 ((some n.1).bind asB).bind fun o=>
 some (.bool o,n.2)) (
 some (.bool false,m.2))) (
 ((i.2.1[0]?).bind asB).bind fun p=>
 some (.bool p,i.2.2)))
noncomputable abbrev zaZ:zak:=lS Tryd.prog Lk0 Tryd.f4 zbE
theorem zc6:Lk0.func 4=some (4,Tryd.f4):=by kernel_rfl
theorem zc7 [Sym] (x':Int) (st:SS) {r:Value×SS} (h:zbX cc zaZ x' st=some r):cc 4 [.int .u32 x'] st=some r:=
 zar (li:=zbE) zau zaF zc6 rfl (fun _=>rfl) (.trans (by kernel_rfl) h)
noncomputable def za5 (cf:zaw) (lf:zak) (x':Int) (p':Value) (n':Int) (y':Int) (last':Int) (i':Int) (st:SS):Option (Nat×List Value×SS):=
 cond (decide (i'<n')) (
 (cf 9 [p',.agg #[.int .i64 0,.int .i64 0,.int .i64 0,.int .i64 0,.int .i64 0,.int .i64 0,.int .i64 0,.int .i64 0,.int .i64 0,.int .i64 0,.int .i64 0,.int .i64 18]] st).bind fun a=>
 (cf 11 [p',.int .i64 22] a.2).bind fun b=>
 ((some b.1).bind (asI .u32)).bind fun c=>
 let d:Int:=IntKind.wrap .i64 c
 (cf 14 [p'] b.2).bind fun e=>
 ((some e.1).bind asB).bind fun f=>
 cond f (
 some (1,[.bool false],e.2)) (
 cond (decide (d≤last')) (
 some (1,[.bool false],e.2)) (
 cond (decide (31<d)) (
 some (1,[.bool false],e.2)) (
 let g:Int:=IntKind.wrap .u64 d
 ((aI .shl .u32 1 g).bind (asI .u32)).bind fun h=>
 let i:Int:=orI .u32 y' h
 let j:Int:=IntKind.wrap .u32 (i'+4)
 lf 10 [.int .u32 x',p',.int .u32 n',.int .u32 i,.int .i64 d,.int .u32 j] e.2)))) (
 some (0,[.int .u32 x',p',.int .u32 y'],st))
theorem zbk [Sym] (x':Int) (p':Value) (n':Int) (y':Int) (last':Int) (i':Int) (st:SS) {r:Nat×List Value×SS} (h:za5 cc zaZ x' p' n' y' last' i' st=some r):zaZ 10 [.int .u32 x',p',.int .u32 n',.int .u32 y',.int .i64 last',.int .u32 i'] st=some r:=
 zho zau zaF (key:=10) (I:=zbs) rfl (by kernel_rfl) (by kernel_rfl) rfl rfl (.trans (by kernel_rfl) h)
end Go.Proofs.YtlpigjmjgclgiaaDoorE
namespace Go.Proofs.YtlpigjmjgclgiaaDoorE
open Go Go.E Go.Proofs
structure Pi (m:PM) (r:Nat):Prop where
 wt:m.wt=0
 wx:m.wx=0
 ws:m.ws=0
 buf:m.buf=.slice none 0 0
 ops:m.ops=.slice none 0 0
 e:m.r 21=(r:Int)
 lt:r<4294967296
section
variable {st st' : SS} {b c : Nat} {m m' : PM} {f f' : FM} {r : Nat}
theorem ziU (h:Pi m r):zb2 m=m:=by
 obtain ⟨h1,h2,h3,_,_,_⟩:=h
 unfold zb2
 rw [if_neg (by omega)]
 cases m;simp only at h1 h2 h3;subst h1;subst h2;subst h3;rfl
theorem zcW (h:Pi m r):zbM m f=f:=by unfold zbM;rw [h.ws,if_neg (by omega)]
theorem Pi.os (h:Pi m r):Os st m []:=⟨by rw [h.ops];exact zkP _ _,by simp⟩
theorem Pi.hU (h:Pi m r):lenV m.buf=some (.int .i64 ((0:Nat):Int)):=by rw [h.buf];rfl
theorem Pi.get (h:Pi m r) {n:Nat} (h1:16≤n) (h2:n<38):getT m f [] 0 (n:Int)=m.r n:=by
 unfold getT
 rw [zeb (by omega)]
 show zhL m f 0 n=_
 unfold zhL
 rw [if_neg (by omega),if_neg (by rw [h.ws];omega)]
 unfold zd1
 simp only [show ¬ ((n:Int)=38) by omega,show ¬ ((n:Int)=48) by omega,show ¬ ((n:Int)=49) by omega,show ¬ ((n:Int)=51) by omega,show ¬ ((n:Int)=52) by omega,show ¬ ((n:Int)=58) by omega,show ¬ ((n:Int)=41) by omega,show ¬ ((n:Int)=42) by omega,show ¬ ((60:Int)≤n) by omega,if_false,or_self,Int.toNat_natCast]
theorem zjz [Sym] (h:Tw st b c m f):cc 14 [ptr b 0] st=some (.bool m.fl,st):=by
 refine zfN _ st ?_
 unfold zdZ
 simp only [zal,zai,zob]
 exact bs (a:=m.fl) (by rw [show (st.ro st.next).ld b (0+83)=m.rw[0+83]? from (h.rw.ro st.next).ld];rw [show 0+83=83 from rfl,m.g83];rfl) rfl
theorem step_ok [Sym] (h:Tw st b c m f) (ht:Tb st) (hp:Pi m r):∃ st',cc 9 [ptr b 0,wM 18] st=some (.tuple #[],st')∧Tw st' b c (zcd m r) f∧Tb st':=by
 obtain ⟨s,e,t,k⟩:=zgo (mm:=zcd m r) h ht hp.os hp.hU hp.ops 18 (fun st1 a t1 g1=>by
  rw [ziU hp,zcW hp] at t1
  rw [zcW hp]
  exact zj2 t1 g1 a hp.lt hp.e)
 rw [zcW hp] at t
 exact ⟨s,e,t,ht.modT h k⟩
theorem zl3 (hp:Pi m r) (h0:r≠0):Pi (zcd m r) (r&&& (r-1))∧(zcd m r).r 22=(Lib.ctz 32 r:Int)∧(zcd m r).fl=false:=by
 have hl:=hp.lt
 have h1:r&&& (r-1)<2^32:=Nat.and_lt_two_pow _ (by omega)
 unfold zcd
 rw [if_neg h0]
 refine ⟨⟨hp.wt,hp.wx,hp.ws,hp.buf,hp.ops,?_,by omega⟩,?_,rfl⟩
 ·show up (up m.r 22 (Lib.ctz 32 r:Int)) 21 ((r&&& (r-1):Nat):Int) 21=_;unfold up;rw [if_pos rfl]
 ·show up (up m.r 22 (Lib.ctz 32 r:Int)) 21 ((r&&& (r-1):Nat):Int) 22=_;unfold up;rw [if_neg (by omega),if_pos rfl]
theorem zlo {r:Nat} (h:zaX 32 r=0) (hr:r<4294967296):r=0:=by
 by_cases h0:r=0
 ·exact h0
 ·have:=(zeT 32 r h0 hr).1;omega
theorem zlp {n:Int} (h0:0≤n) (h1:n<18446744073709551616):IntKind.wrap .u64 n=n:=by
 unfold IntKind.wrap;simp [IntKind.bits,IntKind.signed];omega
theorem zj3 [Sym] (x:Int) (X:Nat) (hX:X<4294967296) (n:Nat) (hn:n≤128):∀ (k r y i:Nat) (last:Int) (m:PM) (st:SS),zaX 32 r=k→Tw st b c m f→Tb st→Pi m r→n=i+4*k→y||| r=X→(∀ j:Nat,r.testBit j=true→last<(j:Int))→
  ∃ st' m',zaZ 10 [.int .u32 x,ptr b 0,.int .u32 (n:Int),.int .u32 (y:Int),.int .i64 last,.int .u32 (i:Int)] st=some (0,[.int .u32 x,ptr b 0,.int .u32 (X:Int)],st')∧Tw st' b c m' f∧Tb st'∧Pi m' 0:=by
 intro k
 induction k with
 | zero=>
   intro r y i last m st hk h ht hp hi hy hlast
   have h0:=zlo hk hp.lt
   subst h0
   have hyX:y=X:=by rw [← hy,Nat.or_zero]
   subst hyX
   refine ⟨st,m,zbk _ _ _ _ _ _ st ?_,h,ht,hp⟩
   unfold za5
   rw [zdf (show ¬ ((i:Int)<(n:Int)) by omega)];rfl
 | succ k ih=>
   intro r y i last m st hk h ht hp hi hy hlast
   have h0:r≠0:=fun e=>by subst e;rw [zh6] at hk;cases hk
   obtain ⟨q1,q2,q3,q4,q5⟩:=zeT 32 r h0 hp.lt
   obtain ⟨c1,c2⟩:=zkQ h0 hp.lt
   obtain ⟨s1,e1,t1,g1⟩:=step_ok h ht hp
   obtain ⟨p1,p2,p3⟩:=zl3 hp h0
   obtain ⟨n2,hn2,e2⟩:=zhq (U:=0) t1.rw p1.os p1.hU ((22:Nat):Int)
   rw [p1.get (f:=f) (n:=22) (by omega) (by omega),p2] at e2
   have t2:=t1.adv hn2
   have e5:=zjz t2
   rw [p3] at e5
   have hk1:last<(Lib.ctz 32 r:Int):=by rw [c1];exact hlast _ q2
   have hyl:y<4294967296:=by
    have:y≤y||| r:=Nat.left_le_or
    omega
   have hpl:(2:Nat)^Lib.ctz 32 r<2^32:=Nat.pow_lt_pow_right (by omega) c2
   obtain ⟨s3,m3,e3,t3,g3,p3'⟩:=ih (r&&& (r-1)) (y||| 2^Lib.ctz 32 r) (i+4) (Lib.ctz 32 r:Int) (zcd m r) (s1.adv n2) (by omega) t2 (g1.ext (Ext.advR _ hn2) t1.ll) p1 (by omega) (by rw [Nat.or_assoc,c1,q4];exact hy) (fun j hj=>by rw [c1];have:=q3 j hj;omega)
   refine ⟨s3,m3,zbk _ _ _ _ _ _ st ?_,t3,g3,p3'⟩
   unfold za5
   rw [zdt (show (i:Int)<(n:Int) by omega),zct]
   refine bs e1 (bs e2 ?_)
   simp only [zob,zaG]
   rw [wrap64 (n:=(Lib.ctz 32 r:Int)) (by omega) (by omega)]
   refine bs e5 ?_
   simp only [zob,zaC,zcf]
   rw [zdf (show ¬ ((Lib.ctz 32 r:Int)≤last) by omega),zcf,zdf (show ¬ (31<(Lib.ctz 32 r:Int)) by omega),zcf,zlp (by omega) (by omega)]
   refine bs (show (aI .shl .u32 1 (Lib.ctz 32 r:Int)).bind (asI .u32)=some _ from by rw [zkK (by omega)];rfl) ?_
   rw [shl32 c2,or32 hyl (by omega),zcU (n:=(i:Int)+4) (by omega) (by omega)]
   exact e3
theorem new_pi (c:Nat):Pi (zgT (pm0 c) fm0) 0∧begQ (pm0 c) fm0=fm0:=⟨⟨rfl,rfl,rfl,rfl,rfl,rfl,by omega⟩,rfl⟩
theorem zlq [Sym] (ht:Tb st) (hl:st.lim≤st.next) (hal:∃ n,st.next≤n∧cc 6 [] st=some (.bool true,st.adv n)) {X:Nat} (hX:X<4294967296):∃ s',cc 4 [.int .u32 (X:Int)] st=some (.bool true,s'):=by
 obtain ⟨n1,hn1,e1⟩:=hal
 have hl1:(st.adv n1).lim≤(st.adv n1).next:=zlt hl hn1
 have g1:Tb (st.adv n1):=ht.ext (Ext.advR _ hn1) hl
 obtain ⟨e3,a3⟩:=zlW (st:=st.adv n1) hl1
 obtain ⟨s2,hs2⟩:∃ s,s=(st.adv n1).new (.cells fm0.row 0):=⟨_,rfl⟩
 obtain ⟨c,hc⟩:∃ c,c=(st.adv n1).next:=⟨_,rfl⟩
 have x2:Ext (st.adv n1) s2:=by rw [hs2];exact (Ext.refl _).new _
 rw [← hs2,← hc] at e3 a3
 have hl2:=x2.ll hl1
 obtain ⟨s4,e4,t4,k4⟩:=zlX a3 hl2
 obtain ⟨p4,f4⟩:=new_pi c
 rw [f4] at t4
 have g4:Tb s4:=(g1.ext x2 hl1).mod k4 (fun i hi=>by simp at hi;subst hi;exact a3.2.2) hl2
 obtain ⟨b,hb⟩:∃ b,b=s2.next:=⟨_,rfl⟩
 rw [← hb] at e4 t4
 obtain ⟨s5,e5,t5,k5⟩:=zjy t4 ((21:Nat):Int) (X:Int) 4
 have p5:Pi (zc8 (zgT (pm0 c) fm0) ((21:Nat):Int) (X:Int)) X:=by
  unfold zc8
  rw [if_pos (by omega)]
  exact ⟨rfl,rfl,rfl,rfl,rfl,rfl,hX⟩
 have f5:zeR fm0 ((21:Nat):Int) (X:Int) 4=fm0:=by unfold zeR;rw [if_neg (by omega),zeS (by omega)]
 rw [f5] at t5
 have g5:=g4.modT t4 k5
 obtain ⟨s6,e6,t6,k6⟩:=zgo (mm:=countP (zc8 (zgT (pm0 c) fm0) ((21:Nat):Int) (X:Int)) X) t5 g5 p5.os p5.hU p5.ops 21 (fun st1 a t1 g1=>by
  rw [ziU p5,zcW p5] at t1
  rw [zcW p5]
  exact zjb t1 a p5.lt p5.e)
 rw [zcW p5] at t6
 have g6:=g5.modT t5 k6
 have p6:Pi (countP (zc8 (zgT (pm0 c) fm0) ((21:Nat):Int) (X:Int)) X) X:=⟨p5.wt,p5.wx,p5.ws,p5.buf,p5.ops,p5.e,hX⟩
 obtain ⟨n7,hn7,e7⟩:=zhq (U:=0) t6.rw p6.os p6.hU ((23:Nat):Int)
 rw [p6.get (f:=fm0) (n:=23) (by omega) (by omega),show (countP (zc8 (zgT (pm0 c) fm0) ((21:Nat):Int) (X:Int)) X).r 23=((4*zaX 32 X:Nat):Int) from rfl] at e7
 have t7:=t6.adv hn7
 have hp:=zcV 32 X
 obtain ⟨s9,m9,e9,t9,g9,p9⟩:=zj3 (X:Int) X hX (4*zaX 32 X) (by omega) (zaX 32 X) X 0 0 (-1) _ (s6.adv n7) rfl t7 (g6.ext (Ext.advR _ hn7) t6.ll) p6 (by omega) (by rw [Nat.zero_or]) (fun j _=>by omega)
 obtain ⟨s13,e13,t13,g13⟩:=step_ok t9 g9 p9
 have e14:=zjz t13
 have fl:(zcd m9 0).fl=true:=rfl
 rw [fl] at e14
 refine ⟨s13,zc7 _ st ?_⟩
 unfold zbX
 refine bs e1 ?_
 simp only [zob,zaC,znt,zcf]
 refine bs e3 (bs e4 (bs e5 (bs e6 (bs e7 ?_))))
 simp only [zob,zaG]
 refine bs e9 ?_
 rw [show Nat.beq 0 0=true from rfl,zct]
 refine bs (x:=([Value.int .u32 (X:Int),ptr b 0,.int .u32 (X:Int)][0]?).bind (asI .u32)) (a:=(X:Int)) rfl ?_
 refine bs (x:=[Value.int .u32 (X:Int),ptr b 0,.int .u32 (X:Int)][1]?) (a:=ptr b 0) rfl ?_
 refine bs (x:=([Value.int .u32 (X:Int),ptr b 0,.int .u32 (X:Int)][2]?).bind (asI .u32)) (a:=(X:Int)) rfl ?_
 refine bs e13 ?_
 rw [zdt rfl,zct]
 exact bs e14 rfl
end
end Go.Proofs.YtlpigjmjgclgiaaDoorE
namespace Go.E
open Go
section
variable {P : Program} {L : Lk} {c1 c2 : CallF}
theorem zhM (hc:zc1 c1 c2) {ops:List Oper}:∀ (l:List Oper) (τ:Tm) (st:St) (r:Tm×St),opsE P L c1 ops l τ st=some r→opsE P L c2 ops l τ st=some r
 | [],τ,st,r,h=>h
 | o::l,τ,st,r,h=>by
   simp only [opsE] at h ⊢
   cases hw:wantedE ops τ o with
   | true=>
     rw [hw] at h
     simp only [zct,zbi] at h ⊢
     obtain ⟨x,hx,h⟩:=h
     exact ⟨x,ziq hc hx,zhM hc l _ _ _ h⟩
   | false=>
     rw [hw] at h
     simp only [zcf] at h ⊢
     exact zhM hc l _ _ _ h
theorem ziV:∀ n,zhb (zaq P L n) (zaq P L (n+1))
 | 0,c,τ,st,r,h=>by cases h
 | n+1,c,τ,st,r,h=>by
   have ih:=ziV n
   have hc:zc1 (zax L (zaq P L n)) (zax L (zaq P L (n+1))):=zhz ih
   unfold zaq at h ⊢
   cases c<;>simp only at h ⊢<;>try exact h
   case region id ops d=>
    cases d<;>simp only [zmi] at h ⊢
    ·obtain ⟨x,hx,h⟩:=h
     exact ⟨x,zhM hc _ _ _ _ hx,h⟩
    ·obtain ⟨x,hx,h⟩:=h
     exact ⟨x,zhy hc _ _ _ _ _ hx,h⟩
   case seq a b=>
    simp only [zbi] at h ⊢
    obtain ⟨⟨e,τ1,st1⟩,hx,h⟩:=h
    refine ⟨(e,τ1,st1),ih _ _ _ _ hx,?_⟩
    cases e<;>simp only at h ⊢<;>first | exact ih _ _ _ _ h | exact h
   case cond x a b=>
    cases hv:rho L τ x with
    | none=>rw [hv] at h;cases h
    | some v=>
      rw [hv] at h
      try simp only [zob]
      cases v<;>(try simp only [zob] at h)<;>(try simp only)<;>try (cases h;done)
      rename_i bb
      cases bb<;>exact ih _ _ _ _ h
   case block id body=>
    simp only [zbi] at h ⊢
    obtain ⟨⟨e,τ1,st1⟩,hx,h⟩:=h
    refine ⟨(e,τ1,st1),ih _ _ _ _ hx,?_⟩
    cases e<;>exact h
   case loop body=>
    simp only [zbi] at h ⊢
    obtain ⟨⟨e,τ1,st1⟩,hx,h⟩:=h
    refine ⟨(e,τ1,st1),ih _ _ _ _ hx,?_⟩
    cases e<;>simp only at h ⊢<;>first | exact ih _ _ _ _ h | exact h
theorem zls {n m:Nat} (h:n≤m):zhb (zaq P L n) (zaq P L m):=by
 obtain ⟨k,rfl⟩:=Nat.le.dest h
 clear h
 induction k with
 | zero=>exact fun _ _ _ _ h=>h
 | succ k ih=>exact fun c τ st r h=>ziV _ _ _ _ _ (ih _ _ _ _ h)
def okP (nx:Nat) (r:Option (Value×St)):Bool:=match r with
 | some (.bool b,s)=>b&&Nat.ble nx s.next
 | _=>false
theorem zjc [Sym] (hL:L.Ok P) {f:FuncId} {args:List Value} {st:SS} {n:Nat} (hx:L.ext f args=none) (hcn:L.con f args st.next=none) (hp:L.pureF f=true)
  (h:okP st.next (runF P L n f args ⟨st.mem,st.next,st.next,[]⟩)=true):∃ N,st.next≤N∧cS P L f args st=some (.bool true,st.adv N):=by
 cases hr:runF P L n f args ⟨st.mem,st.next,st.next,[]⟩ with
 | none=>rw [hr] at h;cases h
 | some r=>
   have hrun:=zlz hL hr
   rw [hr] at h
   obtain ⟨v,s'⟩:=r
   have hv:v=.bool true∧st.next≤s'.next:=by
    unfold okP at h
    cases v<;>simp only at h<;>try (cases h;done)
    rename_i b
    rw [zae] at h
    exact ⟨by rw [h.1],Nat.le_of_ble_eq_true h.2⟩
   obtain ⟨rfl,hN⟩:=hv
   refine ⟨s'.next,hN,?_⟩
   rw [zfw]
   refine ⟨rfl,n,fun m hm base log=>⟨log,?_,.refl _ _ _⟩⟩
   unfold runE zax at hrun
   unfold zax
   have hcn':L.con f args (st.toE base log).next=none:=hcn
   rw [hx] at hrun ⊢
   simp only at hrun ⊢
   rw [hcn] at hrun
   rw [hcn']
   simp only [hp,zct,zbi] at hrun ⊢
   obtain ⟨a,ha,c,hc,h1⟩:=hrun
   refine ⟨a,ha,c,hc,?_⟩
   cases hb:Nat.ble args.length a.2.ntmps with
   | false=>rw [hb] at h1;cases h1
   | true=>
     rw [hb] at h1
     simp only [zct,zbi] at h1 ⊢
     obtain ⟨⟨e,τ,s1⟩,h2,h3⟩:=h1
     refine ⟨(e,τ,s1),zls hm _ _ _ _ h2,?_⟩
     cases e<;>simp only [zbi] at h3 ⊢<;>first
      | (cases h3;done)
      | (obtain ⟨vs,h4,h5⟩:=h3
         refine ⟨vs,h4,?_⟩
         cases hq:(s1.log.isEmpty&&flat3 (zaB vs)) with
         | false=>rw [hq] at h5;cases h5
         | true=>
           rw [hq] at h5
           simp only [zct,zsj,zpj] at h5 ⊢
           obtain ⟨h6,h7⟩:=h5
           exact ⟨h6,by rw [← h7];rfl⟩)
end
end Go.E
namespace Go.Proofs.YtlpigjmjgclgiaaDoorE
set_option maxRecDepth 1000000
open Go Go.E Go.Proofs
noncomputable def zhN:List (Nat×AObj):=[(0,.table deBr)]
noncomputable def st0:SS:=⟨zdB zhN,1,1⟩
def laidB:DataW Unit:=.agg (Lib.deBruijn32tab.map fun (z:Nat)=>.lit (.int .u8 (z:Int)))
theorem tb0:Tb st0:=⟨by kernel_rfl,by show 0<1;omega⟩
theorem globIn:∀ g,Lk0.glob g=true→g∈zhN.map (·.1):=fun g h=>by
 have h':Nat.beq g 0=true:=h
 rw [zad,decide_eq_true_eq] at h'
 subst h';simp [zhN]
theorem law_at0 {f:Nat} {fn:Func} (hf:Lk0.func f=some (f,fn)) {W:World} {laid:List (String×DataW Unit)} (h:laidMet Tryd.prog laid W) (hB:("math/bits.deBruijn32tab",laidB)∈laid)
  {args args':List Value} (ha:args=args') (hargs:∀ x∈args,flat3 x=true) (hlaw:∀ [Sym],∃ st',cc f args st0=some (.bool true,st')):
  Calls Tryd.prog f args'.toArray W fun e W'=>e=.returned (.bool true)∧RowKit.Below W.heap.size W W':=by
 subst ha
 letI:Sym:=⟨fun _=>.int .i64 0,fun _=>.inl ⟨_,_,rfl⟩⟩
 obtain ⟨oB,b1,b2⟩:=zkm h hB (g:=0) (kk:=.u8) (by kernel_rfl) (by kernel_rfl) Tryd.underlying113 Tryd.underlying5 (by kernel_rfl) (Lib.deBruijn32tab.map fun (z:Nat)=>(z:Int)) (by kernel_rfl)
 obtain ⟨st',hl⟩:=hlaw
 refine law_cS zau con0 hf (l:=zhN) (nx:=1) hl rfl hargs (fun x hx=>?_) globIn (fun x hx=>?_)
 ·simp only [zhN,List.mem_cons,List.not_mem_nil,or_false] at hx
  subst hx
  exact ⟨oB,b1,b2 _⟩
 ·simp only [zhN,List.mem_cons,List.not_mem_nil,or_false] at hx
  subst hx
  show 0<1;omega
theorem zj4:okP st0.next (runF Tryd.prog Lk0 2000 6 [] ⟨st0.mem,st0.next,st0.next,[]⟩)=true:=by kernel_rfl
theorem alive0 [Sym]:∃ N,st0.next≤N∧cc 6 [] st0=some (.bool true,st0.adv N):=
 zjc (st:=st0) (f:=6) (args:=[]) (n:=2000) zau (by kernel_rfl) (by kernel_rfl) (by kernel_rfl) zj4
theorem dpathPicks_ok [Sym] (s:Int) (w:(Lit.int .u32 s).wf=true):∃ st',cc 4 [.int .u32 s] st0=some (.bool true,st'):=by
 have h3:0≤s∧s<4294967296:=by
  have h4:IntKind.min .u32≤s∧s≤IntKind.max .u32:=by simpa [Lit.wf] using w
  have e1:IntKind.min .u32=0:=by rfl
  have e2:IntKind.max .u32=4294967295:=by rfl
  rw [e1,e2] at h4
  omega
 obtain ⟨X,rfl⟩:∃ X:Nat,s=(X:Int):=⟨s.toNat,by omega⟩
 exact zlq tb0 (zlr _) alive0 (by omega)
end Go.Proofs.YtlpigjmjgclgiaaDoorE
