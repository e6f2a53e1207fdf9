/- Parts of the proof of DpathUndo, packed by a program: an evaluator over the given code, functions as plain texts, their laws. -/
import Derived.KernelRfl
import Derived.Test.YtlpigjmjgclgiaaDoorPUB
set_option linter.unusedVariables false
set_option linter.unusedSimpArgs false
namespace Go.E
open Go
def PT.vals {α:Type}:PT α→(Nat→Nat)→List (Nat×α)
 | .nil,_=>[]
 | .node l v r,f=>(match v with | some x=>[(f 0,x)] | none=>[])++(l.vals (fun k=>f (2*k+1))++r.vals (fun k=>f (2*k+2)))
theorem PT.all_vals {α:Type} {p:Nat→α→Prop}:∀ (t:PT α) (f:Nat→Nat),(∀ x∈t.vals f,p x.1 x.2)→t.All p f
 | .nil,_,_=>trivial
 | .node l v r,f,h=>⟨fun x hx=>by
   subst hx
   exact h (f 0,x) (by simp [PT.vals]),PT.all_vals l _ fun x hx=>h x (by simp [PT.vals,hx]),PT.all_vals r _ fun x hx=>h x (by simp [PT.vals,hx])⟩
theorem PT.all_map {α β:Type} {p:Nat→α→Prop} {g h:Nat×α→β} {t:PT α} (hp:∀ x:Nat×α,g x=h x→p x.1 x.2) (e:(t.vals fun k=>k).map g=(t.vals fun k=>k).map h):t.All p fun k=>k:=
 PT.all_vals t _ fun x hx=>hp x (List.map_inj_left.1 e x hx)
noncomputable def zL {α:Type} (x:α):PT α:=.node .nil (some x) .nil
noncomputable def zN {α:Type} (l:PT α) (x:α) (r:PT α):PT α:=.node l (some x) r
end Go.E
namespace Go.Proofs.YtlpigjmjgclgiaaDoorE
open Go Go.E Go.Proofs
set_option maxRecDepth 100000
open Tryd in
noncomputable def tyT:PT TypeInfo:=zN (zN (zN (zN (zN (zN (zN (zL t127) t63 .nil) t31 (zL t95)) t15 (zN (zL t79) t47 (zL t111))) t7 (zN (zN (zL t71) t39 (zL t103)) t23 (zN (zL t87) t55 (zL t119)))) t3 (zN (zN (zN (zL t67)
 t35 (zL t99)) t19 (zN (zL t83) t51 (zL t115))) t11 (zN (zN (zL t75) t43 (zL t107)) t27 (zN (zL t91) t59 (zL t123))))) t1 (zN (zN (zN (zN (zL t65) t33 (zL t97)) t17 (zN (zL t81) t49 (zL t113))) t9 (zN (zN (zL t73) t41 (zL t105)) t25 (zN (zL
 t89) t57 (zL t121)))) t5 (zN (zN (zN (zL t69) t37 (zL t101)) t21 (zN (zL t85) t53 (zL t117))) t13 (zN (zN (zL t77) t45 (zL t109)) t29 (zN (zL t93) t61 (zL t125)))))) t0 (zN (zN (zN (zN (zN (zN (zL t128) t64 .nil) t32 (zL t96)) t16 (zN (zL
 t80) t48 (zL t112))) t8 (zN (zN (zL t72) t40 (zL t104)) t24 (zN (zL t88) t56 (zL t120)))) t4 (zN (zN (zN (zL t68) t36 (zL t100)) t20 (zN (zL t84) t52 (zL t116))) t12 (zN (zN (zL t76) t44 (zL t108)) t28 (zN (zL t92) t60 (zL t124))))) t2 (zN
 (zN (zN (zN (zL t66) t34 (zL t98)) t18 (zN (zL t82) t50 (zL t114))) t10 (zN (zN (zL t74) t42 (zL t106)) t26 (zN (zL t90) t58 (zL t122)))) t6 (zN (zN (zN (zL t70) t38 (zL t102)) t22 (zN (zL t86) t54 (zL t118))) t14 (zN (zN (zL t78) t46 (zL
 t110)) t30 (zN (zL t94) t62 (zL t126))))))
open Tryd in
noncomputable def unT:PT TypeDesc:=zN (zN (zN (zN (zN (zN (zN (zL t126.desc) t63.desc .nil) t31.desc (zL t95.desc)) t15.desc (zN (zL t79.desc) t47.desc (zL t111.desc))) t7.desc (zN (zN (zL t71.desc) t39.desc (zL t103.desc))
 t23.desc (zN (zL t87.desc) t54.desc (zL t118.desc)))) t3.desc (zN (zN (zN (zL t67.desc) t35.desc (zL t99.desc)) t18.desc (zN (zL t83.desc) t51.desc (zL t115.desc))) t9.desc (zN (zN (zL t75.desc) t43.desc (zL t107.desc)) t27.desc (zN (zL
 t91.desc) t59.desc (zL t123.desc))))) t1.desc (zN (zN (zN (zN (zL t64.desc) t33.desc (zL t97.desc)) t17.desc (zN (zL t81.desc) t49.desc (zL t113.desc))) t9.desc (zN (zN (zL t73.desc) t41.desc (zL t105.desc)) t25.desc (zN (zL t89.desc)
 t57.desc (zL t5.desc)))) t5.desc (zN (zN (zN (zL t69.desc) t37.desc (zL t101.desc)) t21.desc (zN (zL t85.desc) t53.desc (zL t117.desc))) t13.desc (zN (zN (zL t77.desc) t45.desc (zL t108.desc)) t29.desc (zN (zL t93.desc) t61.desc (zL
 t21.desc)))))) t0.desc (zN (zN (zN (zN (zN (zN (zL t128.desc) t64.desc .nil) t32.desc (zL t96.desc)) t16.desc (zN (zL t80.desc) t48.desc (zL t112.desc))) t7.desc (zN (zN (zL t3.desc) t40.desc (zL t104.desc)) t24.desc (zN (zL t88.desc)
 t56.desc (zL t5.desc)))) t4.desc (zN (zN (zN (zL t68.desc) t36.desc (zL t100.desc)) t20.desc (zN (zL t84.desc) t52.desc (zL t115.desc))) t12.desc (zN (zN (zL t76.desc) t43.desc (zL t108.desc)) t28.desc (zN (zL t92.desc) t59.desc (zL
 t21.desc))))) t2.desc (zN (zN (zN (zN (zL t66.desc) t34.desc (zL t98.desc)) t18.desc (zN (zL t82.desc) t50.desc (zL t114.desc))) t9.desc (zN (zN (zL t74.desc) t41.desc (zL t106.desc)) t26.desc (zN (zL t89.desc) t57.desc (zL t122.desc))))
 t5.desc (zN (zN (zN (zL t70.desc) t38.desc (zL t102.desc)) t22.desc (zN (zL t86.desc) t54.desc (zL t118.desc))) t13.desc (zN (zN (zL t78.desc) t46.desc (zL t110.desc)) t29.desc (zN (zL t94.desc) t61.desc (zL t126.desc))))))
open Tryd in
noncomputable def fnT:PT (FuncId×Func):=(.node (.node (zN (zN (zN (zN (zL (63,f63)) (31,f31) .nil) (15,f15) (zL (47,f47))) (7,f7) (zN (zN (zL (71,f71)) (39,f39) .nil) (23,f23) (zL (55,f55)))) (3,f3) (zN (zN (zN
 (zL (67,f67)) (35,f35) .nil) (19,f19) (zL (51,f51))) (11,f11) (zN (zL (43,f43)) (27,f27) (zL (59,f59))))) none (zN (zN (zN (zN (zL (65,f65)) (33,f33) .nil) (17,f17) (zL (49,f49))) (9,f9) (zN (zN (zL (73,f73)) (41,f41) .nil)
 (25,f25) (zL (57,f57)))) (5,f5) (zN (zN (zN (zL (69,f69)) (37,f37) .nil) (21,f21) (zL (53,f53))) (13,f13) (zN (zL (45,f45)) (29,f29) (zN (zL (93,f93)) (61,f61) .nil))))) none (zN (zN (zN (zN (zN (zL (64,f64)) (32,f32) .nil)
 (16,f16) (zL (48,f48))) (8,f8) (zN (zN (zL (72,f72)) (40,f40) .nil) (24,f24) (zL (56,f56)))) (4,f4) (zN (zN (zN (zL (68,f68)) (36,f36) .nil) (20,f20) (zL (52,f52))) (12,f12) (zN (zL (44,f44)) (28,f28) (zL (60,f60))))) (2,
 f2) (zN (zN (zN (zN (zL (66,f66)) (34,f34) .nil) (18,f18) (zL (50,f50))) (10,f10) (zN (zL (42,f42)) (26,f26) (zL (58,f58)))) (6,f6) (zN (zN (zN (zL (70,f70)) (38,f38) .nil) (22,f22) (zL (54,f54))) (14,f14) (zN (zL (46,f46))
 (30,f30) (zL (62,f62)))))))
theorem tyT_ok:tyT.All (InfP Tryd.prog) (fun k=>k):=PT.all_map (g:=fun x=>Tryd.prog.info? x.1) (h:=fun x=>some x.2) (fun _ e=>e) (by kernel_rfl)
theorem unT_ok:unT.All (UndP Tryd.prog) (fun k=>k):=PT.all_map (g:=fun x=>Tryd.prog.underlying x.1) (h:=fun x=>some x.2) (fun _ e=>e) (by kernel_rfl)
theorem fnT_ok:fnT.All (FnP Tryd.prog) (fun k=>k):=PT.all_map (g:=fun x=>(fun args w=>(callFunc x.1 args).run Tryd.prog w,Tryd.prog.funcs[x.2.1]?)) (h:=fun x=>(fun args w=>.ok (.enter x.2.1 args) w,some x.2.2)) (fun _ e=>⟨fun args w=>congrFun (congrFun (congrArg Prod.fst e) args) w,congrArg Prod.snd e⟩) (by kernel_rfl)
def pureL:List Nat:=[31,33,35,20,19,34,42,51,70,32,57,43,50,59,72,66,65,67,68,69,73,44,45,46,47,60,62,48,49,63,64,56,61,13,36,16,52,22,30,25,11,14,6]
def deBr:List Value:=Lib.deBruijn32tab.map fun (z:Nat)=>.int .u8 (z:Int)
def ctzC (nx:Nat) (x:Int):Con:=⟨nx,nx,[(0,.table deBr)],[],.int .i64 (Lib.ctz 32 x.toNat)⟩
def conF (f:Nat) (vs:List Value) (nx:Nat):Option Con:=
 cond (Nat.beq f 71) (match vs with
  | [.int .u32 x]=>cond (decide (0≤x)&&decide (x<4294967296)) (some (ctzC nx x)) none
  | _=>none) none
noncomputable def Lk0:Lk where
 info t:=tyT.get t
 und t:=unT.get t
 func f:=fnT.get f
 glob g:=Nat.beq g 0
 ext _ _:=none
 con:=conF
 pureF f:=pureL.any (Nat.beq f)
 barF _:=false
theorem zak [Sym]:Lk0.Ok Tryd.prog where
 symOp _ _ _ _ _ h:=by cases h
 symLen _ _ h:=by cases h
 info t i h:=PT.all_get tyT _ tyT_ok t i h
 und t d h:=PT.all_get unT _ unT_ok t d h
 func f j fn h:=PT.all_get fnT _ fnT_ok f (j,fn) h
 mixed:=by kernel_rfl
 ext f vs v h:=by cases h
theorem zaq:LkS Lk0:=⟨fun _ _ _ _=>rfl⟩
theorem con0 [Sym]:zkj Tryd.prog Lk0:=by
 intro f vs nx c h
 have h0:conF f vs nx=some c:=h
 clear h
 unfold conF at h0
 obtain ⟨hf,h1⟩:=zax h0
 clear h0
 have:=beq_true hf
 subst this
 split at h1
 ·rename_i x
  obtain ⟨hq,h2⟩:=zax h1
  clear h1
  cases h2
  simp only [zae,decide_eq_true_eq] at hq
  refine ⟨fun x hx=>by simp at hx;subst hx;rfl,71,Tryd.call71,fun w pl hob=>?_⟩
  obtain ⟨hb,hoo,obj,hobj,_,arr,T,fr,rfl,hcells⟩:=hob (0,.table deBr) (by simp [ctzC])
  have hT:TabAt 0 Lib.deBruijn32tab w:=fun j hj=>by
   have hx:deBr[j]?=some (.int .u8 (Lib.deBruijn32tab.getD j 0:Nat)):=by
    unfold deBr
    rw [List.getElem?_map,zge hj,List.getD_eq_getElem?_getD,zge hj];rfl
   obtain ⟨v',hv',hvr⟩:=hcells j _ hx
   have hv2:v'=.int .u8 (Lib.deBruijn32tab.getD j 0:Nat):=by cases hvr;rfl
   subst hv2
   unfold World.cell?
   simp only [hobj]
   rw [hoo,Nat.zero_add] at hv'
   simpa using hv'
  have hc:=Tryd.bits_TrailingZeros32 x.toNat (by omega) w (fun _=>hT)
  rw [Int.toNat_of_nonneg hq.1] at hc
  refine hc.mono fun e w' ⟨h1,h2⟩=>?_
  subst h2
  refine ⟨_,fun _=>none,h1,?_⟩
  exact ⟨.int _ _,⟨rfl,rfl,rfl,zlr _,fun _ _=>rfl⟩,fun i p hp=>(by cases hp),fun i p hp=>(by cases hp),fun i p ob hp ho=>(by cases hp),fun i j p q hp hq=>(by cases hp)⟩
 ·cases h1
noncomputable abbrev cc:zao:=cS Tryd.prog Lk0
end Go.Proofs.YtlpigjmjgclgiaaDoorE
namespace Go.Proofs.YtlpigjmjgclgiaaDoorE
set_option maxRecDepth 20000
open Go Go.E Go.Proofs
noncomputable def zmJ (cf:zao) (lf:zab) (old':Int) (x':Int) (size':Int) (st:SS):Option (Value×SS):=
 (cf 57 [.int .i64 size'] (st.ro st.next)).bind fun a=>
 ((some a.1).bind (asI .u32)).bind fun b=>
 let c:Int:=zbj .u32 old' b
 (cf 57 [.int .i64 size'] a.2).bind fun d=>
 ((some d.1).bind (asI .u32)).bind fun e=>
 let f:Int:=zai .u32 x' e
 let g:Int:=orI .u32 c f
 some (.int .u32 g,st.adv d.2.next)
noncomputable abbrev znN:zab:=lS Tryd.prog Lk0 Tryd.f32 zau
theorem znO:Lk0.func 32=some (32,Tryd.f32):=by kernel_rfl
theorem znP [Sym] (old':Int) (x':Int) (size':Int) (st:SS) {r:Value×SS} (h:zmJ cc znN old' x' size' st=some r):cc 32 [.int .u32 old',.int .u32 x',.int .i64 size'] st=some r:=
 zah (li:=zau) zak zaq znO rfl (fun _=>rfl) (.trans (by kernel_rfl) h)
noncomputable def zeE (cf:zao) (lf:zab) (size':Int) (st:SS):Option (Value×SS):=
 cond (decide (size'=1)) (
 some (.int .u32 255,st.adv (st.ro st.next).next)) (
 cond (decide (size'=2)) (
 some (.int .u32 65535,st.adv (st.ro st.next).next)) (
 cond (decide (size'=4)) (
 some (.int .u32 4294967295,st.adv (st.ro st.next).next)) (
 some (.int .u32 0,st.adv (st.ro st.next).next))))
noncomputable abbrev zmK:zab:=lS Tryd.prog Lk0 Tryd.f57 zau
theorem zmL:Lk0.func 57=some (57,Tryd.f57):=by kernel_rfl
theorem zmM [Sym] (size':Int) (st:SS) {r:Value×SS} (h:zeE cc zmK size' st=some r):cc 57 [.int .i64 size'] st=some r:=
 zah (li:=zau) zak zaq zmL rfl (fun _=>rfl) (.trans (by kernel_rfl) h)
noncomputable def zf8 (cf:zao) (lf:zab) (x':Int) (size':Int) (st:SS):Option (Value×SS):=
 (cf 57 [.int .i64 size'] (st.ro st.next)).bind fun a=>
 ((some a.1).bind (asI .u32)).bind fun b=>
 let c:Int:=zai .u32 x' b
 (cf 59 [.int .u32 c,.int .i64 size'] a.2).bind fun d=>
 ((some d.1).bind asB).bind fun e=>
 cond e (
 (cf 57 [.int .i64 size'] d.2).bind fun f=>
 ((some f.1).bind (asI .u32)).bind fun g=>
 let h:Int:=zbd .u32 4294967295 g
 let i:Int:=orI .u32 c h
 some (.int .u32 i,st.adv f.2.next)) (
 some (.int .u32 c,st.adv d.2.next))
noncomputable abbrev zle:zab:=lS Tryd.prog Lk0 Tryd.f43 zau
theorem zlf:Lk0.func 43=some (43,Tryd.f43):=by kernel_rfl
theorem zgw [Sym] (x':Int) (size':Int) (st:SS) {r:Value×SS} (h:zf8 cc zle x' size' st=some r):cc 43 [.int .u32 x',.int .i64 size'] st=some r:=
 zah (li:=zau) zak zaq zlf rfl (fun _=>rfl) (.trans (by kernel_rfl) h)
noncomputable def zkJ (cf:zao) (lf:zab) (x':Int) (size':Int) (st:SS):Option (Value×SS):=
 let a:SS:=(st.ro st.next).new (.cells [.bool false,.bool false,.bool false,.bool false] 0)
 (cf 59 [.int .u32 x',.int .i64 size'] a).bind fun b=>
 ((some b.1).bind asB).bind fun c=>
 (cf 57 [.int .i64 size'] b.2).bind fun d=>
 ((some d.1).bind (asI .u32)).bind fun e=>
 let f:Int:=zai .u32 x' e
 (d.2.st ((st.ro st.next).next) 0 [.bool c,.bool (decide (f=0)),.bool false,.bool false]).bind fun g=>
 (g.rdN ((st.ro st.next).next) 0 4).bind fun h=>
 cond (flat3 h) (some (h,st.adv g.next)) none
noncomputable abbrev zl6:zab:=lS Tryd.prog Lk0 Tryd.f50 zau
theorem zl7:Lk0.func 50=some (50,Tryd.f50):=by kernel_rfl
theorem zl8 [Sym] (x':Int) (size':Int) (st:SS) {r:Value×SS} (h:zkJ cc zl6 x' size' st=some r):cc 50 [.int .u32 x',.int .i64 size'] st=some r:=
 zah (li:=zau) zak zaq zl7 rfl (fun _=>rfl) (.trans (by kernel_rfl) h)
noncomputable def zmN (cf:zao) (lf:zab) (x':Int) (size':Int) (st:SS):Option (Value×SS):=
 (cf 72 [.int .i64 size'] (st.ro st.next)).bind fun a=>
 ((some a.1).bind (asI .u32)).bind fun b=>
 let c:Int:=zai .u32 x' b
 some (.bool (!(decide (c=0))),st.adv a.2.next)
noncomputable abbrev znQ:zab:=lS Tryd.prog Lk0 Tryd.f59 zau
theorem znR:Lk0.func 59=some (59,Tryd.f59):=by kernel_rfl
theorem znS [Sym] (x':Int) (size':Int) (st:SS) {r:Value×SS} (h:zmN cc znQ x' size' st=some r):cc 59 [.int .u32 x',.int .i64 size'] st=some r:=
 zah (li:=zau) zak zaq znR rfl (fun _=>rfl) (.trans (by kernel_rfl) h)
noncomputable def zmO (cf:zao) (lf:zab) (size':Int) (st:SS):Option (Value×SS):=
 (cf 57 [.int .i64 size'] (st.ro st.next)).bind fun a=>
 ((some a.1).bind (asI .u32)).bind fun b=>
 (cf 57 [.int .i64 size'] a.2).bind fun c=>
 ((some c.1).bind (asI .u32)).bind fun d=>
 let e:Int:=zbm .u32 d 1
 let f:Int:=zbj .u32 b e
 some (.int .u32 f,st.adv c.2.next)
noncomputable abbrev znT:zab:=lS Tryd.prog Lk0 Tryd.f72 zau
theorem znU:Lk0.func 72=some (72,Tryd.f72):=by kernel_rfl
theorem znV [Sym] (size':Int) (st:SS) {r:Value×SS} (h:zmO cc znT size' st=some r):cc 72 [.int .i64 size'] st=some r:=
 zah (li:=zau) zak zaq znU rfl (fun _=>rfl) (.trans (by kernel_rfl) h)
def zhp:LoopI:=⟨[(0,.int .u32),(1,.int .u32),(3,.int .i64),(9,.any),(10,.int .u64),(11,.int .u64)],[(.ret,[(8,.int .u32),(9,.any)])]⟩
def zjv (n:Nat):Option LoopI:=cond (Nat.beq n 1000006) (some zhp) (none)
noncomputable def zmP (cf:zao) (lf:zab) (a':Int) (b':Int) (carry':Bool) (size':Int) (st:SS):Option (Value×SS):=
 let a:SS:=(st.ro st.next).new (.cells [.bool false,.bool false,.bool false,.bool false] 0)
 (cf 57 [.int .i64 size'] a).bind fun b=>
 ((some b.1).bind (asI .u32)).bind fun c=>
 let d:Int:=IntKind.wrap .u64 c
 let e:Int:=IntKind.wrap .u64 a'
 let f:Int:=zai .u64 e d
 let g:Int:=IntKind.wrap .u64 b'
 let h:Int:=zai .u64 g d
 let i:Int:=IntKind.wrap .u64 (f+h)
 cond carry' (
 let j:Int:=IntKind.wrap .u64 (i+1)
 (lf 1000006 [.int .u32 a',.int .u32 b',.int .i64 size',ptr ((st.ro st.next).next) 0,.int .u64 d,.int .u64 j] b.2).bind fun k=>
 ((k.2.1[0]?).bind (asI .u32)).bind fun l=>
 (k.2.1[1]?).bind fun m=>
 (addr? m).bind fun n=>
 (k.2.2.rdN n.1 n.2 4).bind fun o=>
 cond (flat3 (.tuple #[.int .u32 l,o])) (some (.tuple #[.int .u32 l,o],st.adv k.2.2.next)) none) (
 (lf 1000006 [.int .u32 a',.int .u32 b',.int .i64 size',ptr ((st.ro st.next).next) 0,.int .u64 d,.int .u64 i] b.2).bind fun p=>
 ((p.2.1[0]?).bind (asI .u32)).bind fun q=>
 (p.2.1[1]?).bind fun r=>
 (addr? r).bind fun s=>
 (p.2.2.rdN s.1 s.2 4).bind fun t=>
 cond (flat3 (.tuple #[.int .u32 q,t])) (some (.tuple #[.int .u32 q,t],st.adv p.2.2.next)) none)
noncomputable abbrev zeu:zab:=lS Tryd.prog Lk0 Tryd.f66 zjv
theorem znW:Lk0.func 66=some (66,Tryd.f66):=by kernel_rfl
theorem znX [Sym] (a':Int) (b':Int) (carry':Bool) (size':Int) (st:SS) {r:Value×SS} (h:zmP cc zeu a' b' carry' size' st=some r):cc 66 [.int .u32 a',.int .u32 b',.bool carry',.int .i64 size'] st=some r:=
 zah (li:=zjv) zak zaq znW rfl (fun _=>rfl) (.trans (by kernel_rfl) h)
noncomputable def zf9 (cf:zao) (lf:zab) (a':Int) (b':Int) (size':Int) (t9':Value) (m':Int) (sum':Int) (st:SS):Option (Nat×List Value×SS):=
 let a:Int:=zai .u64 sum' m'
 let b:Int:=IntKind.wrap .u32 a
 (cf 50 [.int .u32 b,.int .i64 size'] st).bind fun c=>
 let d:SS:=c.2.new (.cells [.bool false,.bool false,.bool false,.bool false] 0)
 (d.stV c.2.next 0 4 c.1).bind fun e=>
 (e.st c.2.next 3 [.bool (decide (m'<sum'))]).bind fun f=>
 cond (!(decide (size'=0))) (
 let g:Int:=zbd .u32 a' b'
 let h:Int:=zbd .u32 4294967295 g
 let i:Int:=zbd .u32 a' b
 let j:Int:=zai .u32 h i
 (cf 59 [.int .u32 j,.int .i64 size'] f).bind fun k=>
 ((some k.1).bind asB).bind fun l=>
 (k.2.st c.2.next 2 [.bool l]).bind fun m=>
 (m.ldN c.2.next 0 4).bind fun n=>
 (addr? t9').bind fun o=>
 (m.stV o.1 o.2 4 n).bind fun p=>
 some (0,[.int .u32 b,t9'],p)) (
 (f.st c.2.next 2 [.bool false]).bind fun q=>
 (q.ldN c.2.next 0 4).bind fun r=>
 (addr? t9').bind fun s=>
 (q.stV s.1 s.2 4 r).bind fun t=>
 some (0,[.int .u32 b,t9'],t))
theorem zgx [Sym] (a':Int) (b':Int) (size':Int) (t9':Value) (m':Int) (sum':Int) (st:SS) {r:Nat×List Value×SS} (h:zf9 cc zeu a' b' size' t9' m' sum' st=some r):zeu 1000006 [.int .u32 a',.int .u32 b',.int .i64 size',t9',.int .u64 m',.int .u64 sum'] st=some r:=
 za5 zak zaq (key:=1000006) (I:=zhp) rfl (by kernel_rfl) (by kernel_rfl) rfl rfl (.trans (by kernel_rfl) h)
noncomputable def zjN (cf:zao) (lf:zab) (a':Int) (b':Int) (borrow':Bool) (size':Int) (st:SS):Option (Value×SS):=
 let a:SS:=(st.ro st.next).new (.cells [.bool false,.bool false,.bool false,.bool false] 0)
 let b:Int:=zbd .u32 4294967295 b'
 (cf 66 [.int .u32 a',.int .u32 b,.bool (!borrow'),.int .i64 size'] a).bind fun c=>
 ((zaS c.1 0).bind (asI .u32)).bind fun d=>
 (zaS c.1 1).bind fun e=>
 let f:SS:=c.2.new (.cells [.bool false,.bool false,.bool false,.bool false] 0)
 (f.stV c.2.next 0 4 e).bind fun g=>
 (cf 57 [.int .i64 size'] g).bind fun h=>
 ((some h.1).bind (asI .u32)).bind fun i=>
 cond (!(decide (i=0))) (
 ((h.2.ld c.2.next 3).bind asB).bind fun j=>
 (h.2.st c.2.next 3 [.bool (!j)]).bind fun k=>
 (k.ldN c.2.next 0 4).bind fun l=>
 (k.stV ((st.ro st.next).next) 0 4 l).bind fun m=>
 (m.rdN ((st.ro st.next).next) 0 4).bind fun n=>
 cond (flat3 (.tuple #[.int .u32 d,n])) (some (.tuple #[.int .u32 d,n],st.adv m.next)) none) (
 (h.2.st c.2.next 3 [.bool false]).bind fun o=>
 (o.ldN c.2.next 0 4).bind fun p=>
 (o.stV ((st.ro st.next).next) 0 4 p).bind fun q=>
 (q.rdN ((st.ro st.next).next) 0 4).bind fun r=>
 cond (flat3 (.tuple #[.int .u32 d,r])) (some (.tuple #[.int .u32 d,r],st.adv q.next)) none)
noncomputable abbrev znY:zab:=lS Tryd.prog Lk0 Tryd.f65 zau
theorem znZ:Lk0.func 65=some (65,Tryd.f65):=by kernel_rfl
theorem zjw [Sym] (a':Int) (b':Int) (borrow':Bool) (size':Int) (st:SS) {r:Value×SS} (h:zjN cc znY a' b' borrow' size' st=some r):cc 65 [.int .u32 a',.int .u32 b',.bool borrow',.int .i64 size'] st=some r:=
 zah (li:=zau) zak zaq znZ rfl (fun _=>rfl) (.trans (by kernel_rfl) h)
noncomputable def bits_Mul (cf:zao) (lf:zab) (a':Int) (b':Int) (size':Int) (st:SS):Option (Value×SS):=
 let a:SS:=(st.ro st.next).new (.cells [.bool false,.bool false,.bool false,.bool false] 0)
 (cf 43 [.int .u32 a',.int .i64 size'] a).bind fun b=>
 ((some b.1).bind (asI .u32)).bind fun c=>
 let d:Int:=IntKind.wrap .i32 c
 let e:Int:=IntKind.wrap .i64 d
 (cf 43 [.int .u32 b',.int .i64 size'] b.2).bind fun f=>
 ((some f.1).bind (asI .u32)).bind fun g=>
 let h:Int:=IntKind.wrap .i32 g
 let i:Int:=IntKind.wrap .i64 h
 let j:Int:=IntKind.wrap .i64 (e*i)
 let k:Int:=IntKind.wrap .u32 j
 (cf 57 [.int .i64 size'] f.2).bind fun l=>
 ((some l.1).bind (asI .u32)).bind fun m=>
 let n:Int:=zai .u32 k m
 (cf 50 [.int .u32 n,.int .i64 size'] l.2).bind fun o=>
 let p:SS:=o.2.new (.cells [.bool false,.bool false,.bool false,.bool false] 0)
 (p.stV o.2.next 0 4 o.1).bind fun q=>
 (cf 43 [.int .u32 n,.int .i64 size'] q).bind fun r=>
 ((some r.1).bind (asI .u32)).bind fun s=>
 let t:Int:=IntKind.wrap .i32 s
 let u:Int:=IntKind.wrap .i64 t
 (r.2.st o.2.next 2 [.bool (!(decide (u=j)))]).bind fun v=>
 (v.ldN o.2.next 0 4).bind fun w=>
 (v.stV ((st.ro st.next).next) 0 4 w).bind fun x=>
 (x.rdN ((st.ro st.next).next) 0 4).bind fun y=>
 cond (flat3 (.tuple #[.int .u32 n,y])) (some (.tuple #[.int .u32 n,y],st.adv x.next)) none
noncomputable abbrev zn0:zab:=lS Tryd.prog Lk0 Tryd.f67 zau
theorem zn1:Lk0.func 67=some (67,Tryd.f67):=by kernel_rfl
theorem zn2 [Sym] (a':Int) (b':Int) (size':Int) (st:SS) {r:Value×SS} (h:bits_Mul cc zn0 a' b' size' st=some r):cc 67 [.int .u32 a',.int .u32 b',.int .i64 size'] st=some r:=
 zah (li:=zau) zak zaq zn1 rfl (fun _=>rfl) (.trans (by kernel_rfl) h)
noncomputable def zhc (cf:zao) (lf:zab) (a':Int) (b':Int) (size':Int) (st:SS):Option (Value×SS):=
 let a:SS:=(st.ro st.next).new (.cells [.bool false,.bool false,.bool false,.bool false] 0)
 (cf 43 [.int .u32 a',.int .i64 size'] a).bind fun b=>
 ((some b.1).bind (asI .u32)).bind fun c=>
 let d:Int:=IntKind.wrap .i32 c
 let e:Int:=IntKind.wrap .i64 d
 (cf 43 [.int .u32 b',.int .i64 size'] b.2).bind fun f=>
 ((some f.1).bind (asI .u32)).bind fun g=>
 let h:Int:=IntKind.wrap .i32 g
 let i:Int:=IntKind.wrap .i64 h
 (cf 57 [.int .i64 size'] f.2).bind fun j=>
 ((some j.1).bind (asI .u32)).bind fun k=>
 let l:Int:=zai .u32 a' k
 cond (!(decide (i=0))) (
 ((aI .quo .i64 e i).bind (asI .i64)).bind fun m=>
 let n:Int:=IntKind.wrap .u32 m
 (cf 57 [.int .i64 size'] j.2).bind fun o=>
 ((some o.1).bind (asI .u32)).bind fun p=>
 let q:Int:=zai .u32 n p
 (cf 43 [.int .u32 q,.int .i64 size'] o.2).bind fun r=>
 ((some r.1).bind (asI .u32)).bind fun s=>
 let t:Int:=IntKind.wrap .i32 s
 let u:Int:=IntKind.wrap .i64 t
 cond (decide (u=m)) (
 (cf 50 [.int .u32 q,.int .i64 size'] r.2).bind fun v=>
 let w:SS:=v.2.new (.cells [.bool false,.bool false,.bool false,.bool false] 0)
 (w.stV v.2.next 0 4 v.1).bind fun x=>
 (x.st v.2.next 2 [.bool false]).bind fun y=>
 (y.ldN v.2.next 0 4).bind fun z=>
 (y.stV ((st.ro st.next).next) 0 4 z).bind fun A=>
 (A.rdN ((st.ro st.next).next) 0 4).bind fun B=>
 cond (flat3 (.tuple #[.int .u32 q,B,.bool (!(decide (i=0)))])) (some (.tuple #[.int .u32 q,B,.bool (!(decide (i=0)))],st.adv A.next)) none) (
 (cf 50 [.int .u32 l,.int .i64 size'] r.2).bind fun C=>
 let D:SS:=C.2.new (.cells [.bool false,.bool false,.bool false,.bool false] 0)
 (D.stV C.2.next 0 4 C.1).bind fun E=>
 (E.st C.2.next 2 [.bool true]).bind fun F=>
 (F.ldN C.2.next 0 4).bind fun G=>
 (F.stV ((st.ro st.next).next) 0 4 G).bind fun H=>
 (H.rdN ((st.ro st.next).next) 0 4).bind fun I=>
 cond (flat3 (.tuple #[.int .u32 l,I,.bool (!(decide (i=0)))])) (some (.tuple #[.int .u32 l,I,.bool (!(decide (i=0)))],st.adv H.next)) none)) (
 (cf 50 [.int .u32 l,.int .i64 size'] j.2).bind fun J=>
 let K:SS:=J.2.new (.cells [.bool false,.bool false,.bool false,.bool false] 0)
 (K.stV J.2.next 0 4 J.1).bind fun L=>
 (L.st J.2.next 2 [.bool true]).bind fun M=>
 (M.ldN J.2.next 0 4).bind fun N=>
 (M.stV ((st.ro st.next).next) 0 4 N).bind fun O=>
 (O.rdN ((st.ro st.next).next) 0 4).bind fun P=>
 cond (flat3 (.tuple #[.int .u32 l,P,.bool (!(decide (i=0)))])) (some (.tuple #[.int .u32 l,P,.bool (!(decide (i=0)))],st.adv O.next)) none)
noncomputable abbrev zn3:zab:=lS Tryd.prog Lk0 Tryd.f68 zau
theorem zn4:Lk0.func 68=some (68,Tryd.f68):=by kernel_rfl
theorem zga [Sym] (a':Int) (b':Int) (size':Int) (st:SS) {r:Value×SS} (h:zhc cc zn3 a' b' size' st=some r):cc 68 [.int .u32 a',.int .u32 b',.int .i64 size'] st=some r:=
 zah (li:=zau) zak zaq zn4 rfl (fun _=>rfl) (.trans (by kernel_rfl) h)
noncomputable def zib (cf:zao) (lf:zab) (a':Int) (b':Int) (size':Int) (st:SS):Option (Value×SS):=
 let a:SS:=(st.ro st.next).new (.cells [.bool false,.bool false,.bool false,.bool false] 0)
 (cf 73 [.int .u32 a',.int .u32 b',.int .i64 size'] a).bind fun b=>
 ((zaS b.1 0).bind asB).bind fun c=>
 ((zaS b.1 1).bind asB).bind fun d=>
 let e:Int:=zbd .u32 a' b'
 (cf 57 [.int .i64 size'] b.2).bind fun f=>
 ((some f.1).bind (asI .u32)).bind fun g=>
 let h:Int:=zai .u32 e g
 (f.2.st ((st.ro st.next).next) 0 [.bool c,.bool (decide (h=0)),.bool false,.bool d]).bind fun i=>
 (i.rdN ((st.ro st.next).next) 0 4).bind fun j=>
 cond (flat3 j) (some (j,st.adv i.next)) none
noncomputable abbrev zkK:zab:=lS Tryd.prog Lk0 Tryd.f69 zau
theorem zkL:Lk0.func 69=some (69,Tryd.f69):=by kernel_rfl
theorem zkM [Sym] (a':Int) (b':Int) (size':Int) (st:SS) {r:Value×SS} (h:zib cc zkK a' b' size' st=some r):cc 69 [.int .u32 a',.int .u32 b',.int .i64 size'] st=some r:=
 zah (li:=zau) zak zaq zkL rfl (fun _=>rfl) (.trans (by kernel_rfl) h)
noncomputable def zlO (cf:zao) (lf:zab) (a':Int) (b':Int) (size':Int) (st:SS):Option (Value×SS):=
 (cf 57 [.int .i64 size'] (st.ro st.next)).bind fun a=>
 ((some a.1).bind (asI .u32)).bind fun b=>
 (cf 43 [.int .u32 a',.int .i64 size'] a.2).bind fun c=>
 ((some c.1).bind (asI .u32)).bind fun d=>
 let e:Int:=IntKind.wrap .i32 d
 (cf 43 [.int .u32 b',.int .i64 size'] c.2).bind fun f=>
 ((some f.1).bind (asI .u32)).bind fun g=>
 let h:Int:=IntKind.wrap .i32 g
 let i:Int:=zai .u32 a' b
 let j:Int:=zai .u32 b' b
 some (.tuple #[.bool (decide (e<h)),.bool (decide (i<j))],st.adv f.2.next)
noncomputable abbrev zmQ:zab:=lS Tryd.prog Lk0 Tryd.f73 zau
theorem zmR:Lk0.func 73=some (73,Tryd.f73):=by kernel_rfl
theorem zmS [Sym] (a':Int) (b':Int) (size':Int) (st:SS) {r:Value×SS} (h:zlO cc zmQ a' b' size' st=some r):cc 73 [.int .u32 a',.int .u32 b',.int .i64 size'] st=some r:=
 zah (li:=zau) zak zaq zmR rfl (fun _=>rfl) (.trans (by kernel_rfl) h)
def zfS:LoopI:=⟨[(1,.int .u32),(5,.any),(6,.int .i64),(8,.int .i64),(9,.int .u32)],[(.ret,[(4,.int .u32),(5,.any)])]⟩
def zic (n:Nat):Option LoopI:=cond (Nat.beq n 1000011) (some zfS) (none)
noncomputable def zfT (cf:zao) (lf:zab) (count':Int) (x':Int) (st:SS):Option (Value×SS):=
 let a:SS:=(st.ro st.next).new (.cells [.bool false,.bool false,.bool false,.bool false] 0)
 let b:Int:=IntKind.wrap .i8 count'
 let c:Int:=IntKind.wrap .i64 b
 cond (decide (c<0)) (
 let d:Int:=IntKind.wrap .i32 x'
 let e:Int:=IntKind.wrap .i64 (0-c)
 let f:Int:=if 31<e then 31 else e
 ((aI .shr .i32 d f).bind (asI .i32)).bind fun g=>
 let h:Int:=IntKind.wrap .u32 g
 (cf 60 [.int .u32 h] a).bind fun i=>
 (i.2.stV ((st.ro st.next).next) 0 4 i.1).bind fun j=>
 (j.rdN ((st.ro st.next).next) 0 4).bind fun k=>
 cond (flat3 (.tuple #[.int .u32 h,k])) (some (.tuple #[.int .u32 h,k],st.adv j.next)) none) (
 let l:Int:=IntKind.wrap .i32 x'
 let m:Int:=IntKind.wrap .i64 l
 cond (decide (c<32)) (
 ((aI .shl .i64 m c).bind (asI .i64)).bind fun n=>
 let o:Int:=IntKind.wrap .u32 n
 (lf 1000011 [.int .u32 x',ptr ((st.ro st.next).next) 0,.int .i64 c,.int .i64 n,.int .u32 o] a).bind fun p=>
 ((p.2.1[0]?).bind (asI .u32)).bind fun q=>
 (p.2.1[1]?).bind fun r=>
 (addr? r).bind fun s=>
 (p.2.2.rdN s.1 s.2 4).bind fun t=>
 cond (flat3 (.tuple #[.int .u32 q,t])) (some (.tuple #[.int .u32 q,t],st.adv p.2.2.next)) none) (
 (lf 1000011 [.int .u32 x',ptr ((st.ro st.next).next) 0,.int .i64 c,.int .i64 m,.int .u32 0] a).bind fun u=>
 ((u.2.1[0]?).bind (asI .u32)).bind fun v=>
 (u.2.1[1]?).bind fun w=>
 (addr? w).bind fun x=>
 (u.2.2.rdN x.1 x.2 4).bind fun y=>
 cond (flat3 (.tuple #[.int .u32 v,y])) (some (.tuple #[.int .u32 v,y],st.adv u.2.2.next)) none))
noncomputable abbrev zdS:zab:=lS Tryd.prog Lk0 Tryd.f44 zic
theorem zmT:Lk0.func 44=some (44,Tryd.f44):=by kernel_rfl
theorem zft [Sym] (count':Int) (x':Int) (st:SS) {r:Value×SS} (h:zfT cc zdS count' x' st=some r):cc 44 [.int .u8 count',.int .u32 x'] st=some r:=
 zah (li:=zic) zak zaq zmT rfl (fun _=>rfl) (.trans (by kernel_rfl) h)
noncomputable def zhq (cf:zao) (lf:zab) (x':Int) (t5':Value) (n':Int) (wide':Int) (y':Int) (st:SS):Option (Nat×List Value×SS):=
 (cf 60 [.int .u32 y'] st).bind fun a=>
 let b:SS:=a.2.new (.cells [.bool false,.bool false,.bool false,.bool false] 0)
 (b.stV a.2.next 0 4 a.1).bind fun c=>
 cond (decide (n'<32)) (
 let d:Int:=IntKind.wrap .i32 y'
 let e:Int:=IntKind.wrap .i64 d
 cond (!(decide (wide'=e))) (
 (c.st a.2.next 2 [.bool true]).bind fun f=>
 (f.ldN a.2.next 0 4).bind fun g=>
 (addr? t5').bind fun h=>
 (f.stV h.1 h.2 4 g).bind fun i=>
 some (0,[.int .u32 y',t5'],i)) (
 cond (decide (32≤n')) (
 (c.st a.2.next 2 [.bool (!(decide (x'=0)))]).bind fun j=>
 (j.ldN a.2.next 0 4).bind fun k=>
 (addr? t5').bind fun l=>
 (j.stV l.1 l.2 4 k).bind fun m=>
 some (0,[.int .u32 y',t5'],m)) (
 (c.st a.2.next 2 [.bool false]).bind fun n=>
 (n.ldN a.2.next 0 4).bind fun o=>
 (addr? t5').bind fun p=>
 (n.stV p.1 p.2 4 o).bind fun q=>
 some (0,[.int .u32 y',t5'],q)))) (
 cond (decide (32≤n')) (
 (c.st a.2.next 2 [.bool (!(decide (x'=0)))]).bind fun r=>
 (r.ldN a.2.next 0 4).bind fun s=>
 (addr? t5').bind fun t=>
 (r.stV t.1 t.2 4 s).bind fun u=>
 some (0,[.int .u32 y',t5'],u)) (
 (c.st a.2.next 2 [.bool false]).bind fun v=>
 (v.ldN a.2.next 0 4).bind fun w=>
 (addr? t5').bind fun x=>
 (v.stV x.1 x.2 4 w).bind fun y=>
 some (0,[.int .u32 y',t5'],y)))
theorem zjO [Sym] (x':Int) (t5':Value) (n':Int) (wide':Int) (y':Int) (st:SS) {r:Nat×List Value×SS} (h:zhq cc zdS x' t5' n' wide' y' st=some r):zdS 1000011 [.int .u32 x',t5',.int .i64 n',.int .i64 wide',.int .u32 y'] st=some r:=
 za5 zak zaq (key:=1000011) (I:=zfS) rfl (by kernel_rfl) (by kernel_rfl) rfl rfl (.trans (by kernel_rfl) h)
noncomputable def zlP (cf:zao) (lf:zab) (count':Int) (x':Int) (c':Bool) (st:SS):Option (Value×SS):=
 let a:SS:=(st.ro st.next).new (.cells [.bool false,.bool false,.bool false,.bool false] 0)
 let b:Int:=IntKind.wrap .i8 count'
 let c:Int:=IntKind.wrap .i64 b
 (cf 61 [.int .u32 x',.int .i64 c] a).bind fun d=>
 ((some d.1).bind (asI .u32)).bind fun e=>
 (cf 60 [.int .u32 e] d.2).bind fun f=>
 let g:SS:=f.2.new (.cells [.bool false,.bool false,.bool false,.bool false] 0)
 (g.stV f.2.next 0 4 f.1).bind fun h=>
 (h.st f.2.next 3 [.bool c']).bind fun i=>
 (i.ldN f.2.next 0 4).bind fun j=>
 (i.stV ((st.ro st.next).next) 0 4 j).bind fun k=>
 (k.rdN ((st.ro st.next).next) 0 4).bind fun l=>
 cond (flat3 (.tuple #[.int .u32 e,l])) (some (.tuple #[.int .u32 e,l],st.adv k.next)) none
noncomputable abbrev zmU:zab:=lS Tryd.prog Lk0 Tryd.f45 zau
theorem zmV:Lk0.func 45=some (45,Tryd.f45):=by kernel_rfl
theorem zmW [Sym] (count':Int) (x':Int) (c':Bool) (st:SS) {r:Value×SS} (h:zlP cc zmU count' x' c' st=some r):cc 45 [.int .u8 count',.int .u32 x',.bool c'] st=some r:=
 zah (li:=zau) zak zaq zmV rfl (fun _=>rfl) (.trans (by kernel_rfl) h)
noncomputable def zbS (cf:zao) (lf:zab) (row':Int) (at0':Int) (size':Int) (signed':Bool) (st:SS):Option (Value×SS):=
 let a:Int:=zai .i64 at0' 31
 ((aI .shr .u64 row' a).bind (asI .u64)).bind fun b=>
 (cf 62 [.int .i64 size'] (st.ro st.next)).bind fun c=>
 ((some c.1).bind (asI .u64)).bind fun d=>
 let e:Int:=zai .u64 b d
 cond signed' (
 cond (decide (0<size')) (
 let f:Int:=if 32<size' then 32 else size'
 let g:Int:=IntKind.wrap .i64 (f-1)
 ((aI .shr .u64 e g).bind (asI .u64)).bind fun h=>
 let i:Int:=zai .u64 h 1
 cond (decide (i=1)) (
 (cf 62 [.int .i64 size'] c.2).bind fun j=>
 ((some j.1).bind (asI .u64)).bind fun k=>
 let l:Int:=zbd .u64 18446744073709551615 k
 let m:Int:=orI .u64 e l
 let n:Int:=IntKind.wrap .u32 m
 some (.int .u32 n,st.adv j.2.next)) (
 let o:Int:=IntKind.wrap .u32 e
 some (.int .u32 o,st.adv c.2.next))) (
 let p:Int:=IntKind.wrap .u32 e
 some (.int .u32 p,st.adv c.2.next))) (
 let q:Int:=IntKind.wrap .u32 e
 some (.int .u32 q,st.adv c.2.next))
noncomputable abbrev zfu:zab:=lS Tryd.prog Lk0 Tryd.f46 zau
theorem zjP:Lk0.func 46=some (46,Tryd.f46):=by kernel_rfl
theorem zjQ [Sym] (row':Int) (at0':Int) (size':Int) (signed':Bool) (st:SS) {r:Value×SS} (h:zbS cc zfu row' at0' size' signed' st=some r):cc 46 [.int .u64 row',.int .i64 at0',.int .i64 size',.bool signed'] st=some r:=
 zah (li:=zau) zak zaq zjP rfl (fun _=>rfl) (.trans (by kernel_rfl) h)
noncomputable def zid (cf:zao) (lf:zab) (row':Int) (at0':Int) (size':Int) (x':Int) (st:SS):Option (Value×SS):=
 (cf 62 [.int .i64 size'] (st.ro st.next)).bind fun a=>
 ((some a.1).bind (asI .u64)).bind fun b=>
 let c:Int:=zai .i64 at0' 31
 ((aI .shl .u64 b c).bind (asI .u64)).bind fun d=>
 let e:Int:=zbj .u64 row' d
 let f:Int:=IntKind.wrap .u64 x'
 let g:Int:=zai .i64 at0' 31
 ((aI .shl .u64 f g).bind (asI .u64)).bind fun h=>
 let i:Int:=zai .u64 h d
 let j:Int:=orI .u64 e i
 some (.int .u64 j,st.adv a.2.next)
noncomputable abbrev zkN:zab:=lS Tryd.prog Lk0 Tryd.f47 zau
theorem zkO:Lk0.func 47=some (47,Tryd.f47):=by kernel_rfl
theorem zkP [Sym] (row':Int) (at0':Int) (size':Int) (x':Int) (st:SS) {r:Value×SS} (h:zid cc zkN row' at0' size' x' st=some r):cc 47 [.int .u64 row',.int .i64 at0',.int .i64 size',.int .u32 x'] st=some r:=
 zah (li:=zau) zak zaq zkO rfl (fun _=>rfl) (.trans (by kernel_rfl) h)
noncomputable def zjx (cf:zao) (lf:zab) (x':Int) (st:SS):Option (Value×SS):=
 let a:SS:=(st.ro st.next).new (.cells [.bool false,.bool false,.bool false,.bool false] 0)
 let b:Int:=zbm .u32 x' 31
 (a.st ((st.ro st.next).next) 0 [.bool (decide (b=1)),.bool (decide (x'=0)),.bool false,.bool false]).bind fun c=>
 (c.rdN ((st.ro st.next).next) 0 4).bind fun d=>
 cond (flat3 d) (some (d,st.adv c.next)) none
noncomputable abbrev zlg:zab:=lS Tryd.prog Lk0 Tryd.f60 zau
theorem zlh:Lk0.func 60=some (60,Tryd.f60):=by kernel_rfl
theorem zli [Sym] (x':Int) (st:SS) {r:Value×SS} (h:zjx cc zlg x' st=some r):cc 60 [.int .u32 x'] st=some r:=
 zah (li:=zau) zak zaq zlh rfl (fun _=>rfl) (.trans (by kernel_rfl) h)
noncomputable def zlQ (cf:zao) (lf:zab) (size':Int) (st:SS):Option (Value×SS):=
 let a:Int:=if 0>size' then 0 else size'
 let b:Int:=if 32<a then 32 else a
 ((aI .shl .u64 1 b).bind (asI .u64)).bind fun c=>
 let d:Int:=IntKind.wrap .u64 (c-1)
 some (.int .u64 d,st.adv (st.ro st.next).next)
noncomputable abbrev zmX:zab:=lS Tryd.prog Lk0 Tryd.f62 zau
theorem zmY:Lk0.func 62=some (62,Tryd.f62):=by kernel_rfl
theorem zmZ [Sym] (size':Int) (st:SS) {r:Value×SS} (h:zlQ cc zmX size' st=some r):cc 62 [.int .i64 size'] st=some r:=
 zah (li:=zau) zak zaq zmY rfl (fun _=>rfl) (.trans (by kernel_rfl) h)
def zfv:LoopI:=⟨[(2,.int .i64),(3,.bool),(4,.bool),(11,.any),(12,.int .u32)],[(.ret,[(10,.int .u32),(11,.any)])]⟩
def zgy (n:Nat):Option LoopI:=cond (Nat.beq n 1000005) (some zfv) (none)
noncomputable def zgb (cf:zao) (lf:zab) (a':Int) (from0':Int) (to':Int) (signed':Bool) (c':Bool) (st:SS):Option (Value×SS):=
 let a:SS:=(st.ro st.next).new (.cells [.bool false,.bool false,.bool false,.bool false] 0)
 (cf 57 [.int .i64 from0'] a).bind fun b=>
 ((some b.1).bind (asI .u32)).bind fun c=>
 let d:Int:=zai .u32 a' c
 cond signed' (
 (cf 43 [.int .u32 a',.int .i64 from0'] b.2).bind fun e=>
 ((some e.1).bind (asI .u32)).bind fun f=>
 (lf 1000005 [.int .i64 to',.bool signed',.bool c',ptr ((st.ro st.next).next) 0,.int .u32 f] e.2).bind fun g=>
 ((g.2.1[0]?).bind (asI .u32)).bind fun h=>
 (g.2.1[1]?).bind fun i=>
 (addr? i).bind fun j=>
 (g.2.2.rdN j.1 j.2 4).bind fun k=>
 cond (flat3 (.tuple #[.int .u32 h,k])) (some (.tuple #[.int .u32 h,k],st.adv g.2.2.next)) none) (
 (lf 1000005 [.int .i64 to',.bool signed',.bool c',ptr ((st.ro st.next).next) 0,.int .u32 d] b.2).bind fun l=>
 ((l.2.1[0]?).bind (asI .u32)).bind fun m=>
 (l.2.1[1]?).bind fun n=>
 (addr? n).bind fun o=>
 (l.2.2.rdN o.1 o.2 4).bind fun p=>
 cond (flat3 (.tuple #[.int .u32 m,p])) (some (.tuple #[.int .u32 m,p],st.adv l.2.2.next)) none)
noncomputable abbrev zcO:zab:=lS Tryd.prog Lk0 Tryd.f48 zgy
theorem zlj:Lk0.func 48=some (48,Tryd.f48):=by kernel_rfl
theorem zgA [Sym] (a':Int) (from0':Int) (to':Int) (signed':Bool) (c':Bool) (st:SS) {r:Value×SS} (h:zgb cc zcO a' from0' to' signed' c' st=some r):cc 48 [.int .u32 a',.int .i64 from0',.int .i64 to',.bool signed',.bool c'] st=some r:=
 zah (li:=zgy) zak zaq zlj rfl (fun _=>rfl) (.trans (by kernel_rfl) h)
noncomputable def zeo (cf:zao) (lf:zab) (to':Int) (signed':Bool) (c':Bool) (t11':Value) (x':Int) (st:SS):Option (Nat×List Value×SS):=
 (cf 57 [.int .i64 to'] st).bind fun a=>
 ((some a.1).bind (asI .u32)).bind fun b=>
 let c:Int:=zai .u32 x' b
 (cf 50 [.int .u32 c,.int .i64 to'] a.2).bind fun d=>
 let e:SS:=d.2.new (.cells [.bool false,.bool false,.bool false,.bool false] 0)
 (e.stV d.2.next 0 4 d.1).bind fun f=>
 cond (!signed') (
 (f.st d.2.next 0 [.bool false]).bind fun g=>
 (g.st d.2.next 3 [.bool c']).bind fun h=>
 (h.ldN d.2.next 0 4).bind fun i=>
 (addr? t11').bind fun j=>
 (h.stV j.1 j.2 4 i).bind fun k=>
 some (0,[.int .u32 c,t11'],k)) (
 (cf 43 [.int .u32 c,.int .i64 to'] f).bind fun l=>
 ((some l.1).bind (asI .u32)).bind fun m=>
 (l.2.st d.2.next 2 [.bool (!(decide (m=x')))]).bind fun n=>
 (n.ldN d.2.next 0 4).bind fun o=>
 (addr? t11').bind fun p=>
 (n.stV p.1 p.2 4 o).bind fun q=>
 some (0,[.int .u32 c,t11'],q))
theorem zeP [Sym] (to':Int) (signed':Bool) (c':Bool) (t11':Value) (x':Int) (st:SS) {r:Nat×List Value×SS} (h:zeo cc zcO to' signed' c' t11' x' st=some r):zcO 1000005 [.int .i64 to',.bool signed',.bool c',t11',.int .u32 x'] st=some r:=
 za5 zak zaq (key:=1000005) (I:=zfv) rfl (by kernel_rfl) (by kernel_rfl) rfl rfl (.trans (by kernel_rfl) h)
noncomputable def zbK (cf:zao) (lf:zab) (op':Int) (a':Int) (b':Int) (c':Bool) (size':Int) (st:SS):Option (Value×SS):=
 let a:SS:=(st.ro st.next).new (.cells [.bool false,.bool false,.bool false,.bool false] 0)
 (cf 63 [.int .i64 op'] a).bind fun b=>
 ((some b.1).bind asB).bind fun c=>
 cond c (
 (cf 64 [.int .i64 op',.int .u32 a',.int .u32 b'] b.2).bind fun d=>
 ((some d.1).bind (asI .u32)).bind fun e=>
 (cf 57 [.int .i64 size'] d.2).bind fun f=>
 ((some f.1).bind (asI .u32)).bind fun g=>
 let h:Int:=zai .u32 e g
 (cf 50 [.int .u32 h,.int .i64 size'] f.2).bind fun i=>
 let j:SS:=i.2.new (.cells [.bool false,.bool false,.bool false,.bool false] 0)
 (j.stV i.2.next 0 4 i.1).bind fun k=>
 (k.st i.2.next 3 [.bool c']).bind fun l=>
 (l.ldN i.2.next 0 4).bind fun m=>
 (l.stV ((st.ro st.next).next) 0 4 m).bind fun n=>
 (n.rdN ((st.ro st.next).next) 0 4).bind fun o=>
 cond (flat3 (.tuple #[.int .u32 h,o,.bool true])) (some (.tuple #[.int .u32 h,o,.bool true],st.adv n.next)) none) (
 let p:SS:=b.2.new (.cells [.bool false,.bool false,.bool false,.bool false] 0)
 cond (decide (op'=3)) (
 (cf 65 [.int .u32 0,.int .u32 a',.bool false,.int .i64 size'] p).bind fun q=>
 ((zaS q.1 0).bind (asI .u32)).bind fun r=>
 (zaS q.1 1).bind fun s=>
 (q.2.stV b.2.next 0 4 s).bind fun t=>
 (t.ldN b.2.next 0 4).bind fun u=>
 (t.stV ((st.ro st.next).next) 0 4 u).bind fun v=>
 (v.rdN ((st.ro st.next).next) 0 4).bind fun w=>
 cond (flat3 (.tuple #[.int .u32 r,w,.bool true])) (some (.tuple #[.int .u32 r,w,.bool true],st.adv v.next)) none) (
 cond (decide (op'=4)) (
 (cf 66 [.int .u32 a',.int .u32 1,.bool false,.int .i64 size'] p).bind fun x=>
 ((zaS x.1 0).bind (asI .u32)).bind fun y=>
 (zaS x.1 1).bind fun z=>
 (x.2.stV b.2.next 0 4 z).bind fun A=>
 (A.ldN b.2.next 0 4).bind fun B=>
 (A.stV ((st.ro st.next).next) 0 4 B).bind fun C=>
 (C.rdN ((st.ro st.next).next) 0 4).bind fun D=>
 cond (flat3 (.tuple #[.int .u32 y,D,.bool true])) (some (.tuple #[.int .u32 y,D,.bool true],st.adv C.next)) none) (
 cond (decide (op'=5)) (
 (cf 65 [.int .u32 a',.int .u32 1,.bool false,.int .i64 size'] p).bind fun E=>
 ((zaS E.1 0).bind (asI .u32)).bind fun F=>
 (zaS E.1 1).bind fun G=>
 (E.2.stV b.2.next 0 4 G).bind fun H=>
 (H.ldN b.2.next 0 4).bind fun I=>
 (H.stV ((st.ro st.next).next) 0 4 I).bind fun J=>
 (J.rdN ((st.ro st.next).next) 0 4).bind fun K=>
 cond (flat3 (.tuple #[.int .u32 F,K,.bool true])) (some (.tuple #[.int .u32 F,K,.bool true],st.adv J.next)) none) (
 cond (decide (op'=6)) (
 (cf 66 [.int .u32 a',.int .u32 b',.bool false,.int .i64 size'] p).bind fun L=>
 ((zaS L.1 0).bind (asI .u32)).bind fun M=>
 (zaS L.1 1).bind fun N=>
 (L.2.stV b.2.next 0 4 N).bind fun O=>
 (O.ldN b.2.next 0 4).bind fun P=>
 (O.stV ((st.ro st.next).next) 0 4 P).bind fun Q=>
 (Q.rdN ((st.ro st.next).next) 0 4).bind fun R=>
 cond (flat3 (.tuple #[.int .u32 M,R,.bool true])) (some (.tuple #[.int .u32 M,R,.bool true],st.adv Q.next)) none) (
 cond (decide (op'=7)) (
 (cf 65 [.int .u32 b',.int .u32 a',.bool false,.int .i64 size'] p).bind fun S=>
 ((zaS S.1 0).bind (asI .u32)).bind fun T=>
 (zaS S.1 1).bind fun U=>
 (S.2.stV b.2.next 0 4 U).bind fun V=>
 (V.ldN b.2.next 0 4).bind fun W=>
 (V.stV ((st.ro st.next).next) 0 4 W).bind fun X=>
 (X.rdN ((st.ro st.next).next) 0 4).bind fun Y=>
 cond (flat3 (.tuple #[.int .u32 T,Y,.bool true])) (some (.tuple #[.int .u32 T,Y,.bool true],st.adv X.next)) none) (
 cond (decide (op'=8)) (
 (cf 66 [.int .u32 a',.int .u32 b',.bool c',.int .i64 size'] p).bind fun Z=>
 ((zaS Z.1 0).bind (asI .u32)).bind fun aA=>
 (zaS Z.1 1).bind fun aB=>
 (Z.2.stV b.2.next 0 4 aB).bind fun aC=>
 (aC.ldN b.2.next 0 4).bind fun aD=>
 (aC.stV ((st.ro st.next).next) 0 4 aD).bind fun aE=>
 (aE.rdN ((st.ro st.next).next) 0 4).bind fun aF=>
 cond (flat3 (.tuple #[.int .u32 aA,aF,.bool true])) (some (.tuple #[.int .u32 aA,aF,.bool true],st.adv aE.next)) none) (
 cond (decide (op'=9)) (
 (cf 65 [.int .u32 b',.int .u32 a',.bool c',.int .i64 size'] p).bind fun aG=>
 ((zaS aG.1 0).bind (asI .u32)).bind fun aH=>
 (zaS aG.1 1).bind fun aI=>
 (aG.2.stV b.2.next 0 4 aI).bind fun aJ=>
 (aJ.ldN b.2.next 0 4).bind fun aK=>
 (aJ.stV ((st.ro st.next).next) 0 4 aK).bind fun aL=>
 (aL.rdN ((st.ro st.next).next) 0 4).bind fun aM=>
 cond (flat3 (.tuple #[.int .u32 aH,aM,.bool true])) (some (.tuple #[.int .u32 aH,aM,.bool true],st.adv aL.next)) none) (
 cond (decide (op'=10)) (
 (cf 67 [.int .u32 a',.int .u32 b',.int .i64 size'] p).bind fun aN=>
 ((zaS aN.1 0).bind (asI .u32)).bind fun aO=>
 (zaS aN.1 1).bind fun aP=>
 (aN.2.stV b.2.next 0 4 aP).bind fun aQ=>
 (aQ.ldN b.2.next 0 4).bind fun aR=>
 (aQ.stV ((st.ro st.next).next) 0 4 aR).bind fun aS=>
 (aS.rdN ((st.ro st.next).next) 0 4).bind fun aT=>
 cond (flat3 (.tuple #[.int .u32 aO,aT,.bool true])) (some (.tuple #[.int .u32 aO,aT,.bool true],st.adv aS.next)) none) (
 cond (decide (op'=11)) (
 (cf 68 [.int .u32 b',.int .u32 a',.int .i64 size'] p).bind fun aU=>
 ((zaS aU.1 0).bind (asI .u32)).bind fun aV=>
 (zaS aU.1 1).bind fun aW=>
 ((zaS aU.1 2).bind asB).bind fun aX=>
 (aU.2.stV b.2.next 0 4 aW).bind fun aY=>
 (aY.ldN b.2.next 0 4).bind fun aZ=>
 (aY.stV ((st.ro st.next).next) 0 4 aZ).bind fun bA=>
 (bA.rdN ((st.ro st.next).next) 0 4).bind fun bB=>
 cond (flat3 (.tuple #[.int .u32 aV,bB,.bool aX])) (some (.tuple #[.int .u32 aV,bB,.bool aX],st.adv bA.next)) none) (
 cond (decide (op'=16)) (
 (cf 57 [.int .i64 size'] p).bind fun bC=>
 ((some bC.1).bind (asI .u32)).bind fun bD=>
 let bE:Int:=zai .u32 a' bD
 (cf 69 [.int .u32 a',.int .u32 b',.int .i64 size'] bC.2).bind fun bF=>
 (bF.2.stV b.2.next 0 4 bF.1).bind fun bG=>
 (bG.ldN b.2.next 0 4).bind fun bH=>
 (bG.stV ((st.ro st.next).next) 0 4 bH).bind fun bI=>
 (bI.rdN ((st.ro st.next).next) 0 4).bind fun bJ=>
 cond (flat3 (.tuple #[.int .u32 bE,bJ,.bool true])) (some (.tuple #[.int .u32 bE,bJ,.bool true],st.adv bI.next)) none) (
 cond (decide (op'=17)) (
 (cf 57 [.int .i64 size'] p).bind fun bK=>
 ((some bK.1).bind (asI .u32)).bind fun bL=>
 let bM:Int:=zai .u32 a' bL
 (cf 50 [.int .u32 a',.int .i64 size'] bK.2).bind fun bN=>
 (bN.2.stV b.2.next 0 4 bN.1).bind fun bO=>
 (bO.ldN b.2.next 0 4).bind fun bP=>
 (bO.stV ((st.ro st.next).next) 0 4 bP).bind fun bQ=>
 (bQ.rdN ((st.ro st.next).next) 0 4).bind fun bR=>
 cond (flat3 (.tuple #[.int .u32 bM,bR,.bool true])) (some (.tuple #[.int .u32 bM,bR,.bool true],st.adv bQ.next)) none) (
 (p.st ((st.ro st.next).next) 0 [.bool false,.bool false,.bool false,.bool false]).bind fun bS=>
 (bS.rdN ((st.ro st.next).next) 0 4).bind fun bT=>
 cond (flat3 (.tuple #[.int .u32 0,bT,.bool false])) (some (.tuple #[.int .u32 0,bT,.bool false],st.adv bS.next)) none))))))))))))
noncomputable abbrev zlR:zab:=lS Tryd.prog Lk0 Tryd.f49 zau
theorem zpQ:Lk0.func 49=some (49,Tryd.f49):=by kernel_rfl
theorem zlS [Sym] (op':Int) (a':Int) (b':Int) (c':Bool) (size':Int) (st:SS) {r:Value×SS} (h:zbK cc zlR op' a' b' c' size' st=some r):cc 49 [.int .i64 op',.int .u32 a',.int .u32 b',.bool c',.int .i64 size'] st=some r:=
 zah (li:=zau) zak zaq zpQ rfl (fun _=>rfl) (.trans (by kernel_rfl) h)
noncomputable def zlT (cf:zao) (lf:zab) (op':Int) (st:SS):Option (Value×SS):=
 cond (decide (op'=1)) (
 cond (decide (op'=1)) (
 some (.bool true,st.adv (st.ro st.next).next)) (
 some (.bool false,st.adv (st.ro st.next).next))) (
 cond (decide (op'=2)) (
 cond (decide (op'=2)) (
 some (.bool true,st.adv (st.ro st.next).next)) (
 some (.bool false,st.adv (st.ro st.next).next))) (
 cond (decide (op'=12)) (
 cond (decide (op'=12)) (
 some (.bool true,st.adv (st.ro st.next).next)) (
 some (.bool false,st.adv (st.ro st.next).next))) (
 cond (decide (op'=13)) (
 cond (decide (op'=13)) (
 some (.bool true,st.adv (st.ro st.next).next)) (
 some (.bool false,st.adv (st.ro st.next).next))) (
 cond (decide (op'=14)) (
 cond (decide (op'=14)) (
 some (.bool true,st.adv (st.ro st.next).next)) (
 some (.bool false,st.adv (st.ro st.next).next))) (
 cond (decide (op'=15)) (
 cond (decide (op'=15)) (
 some (.bool true,st.adv (st.ro st.next).next)) (
 some (.bool false,st.adv (st.ro st.next).next))) (
 cond (decide (op'=18)) (
 some (.bool true,st.adv (st.ro st.next).next)) (
 some (.bool false,st.adv (st.ro st.next).next))))))))
noncomputable abbrev zm0:zab:=lS Tryd.prog Lk0 Tryd.f63 zau
theorem zm1:Lk0.func 63=some (63,Tryd.f63):=by kernel_rfl
theorem zm2 [Sym] (op':Int) (st:SS) {r:Value×SS} (h:zlT cc zm0 op' st=some r):cc 63 [.int .i64 op'] st=some r:=
 zah (li:=zau) zak zaq zm1 rfl (fun _=>rfl) (.trans (by kernel_rfl) h)
noncomputable def zlU (cf:zao) (lf:zab) (op':Int) (a':Int) (b':Int) (st:SS):Option (Value×SS):=
 cond (decide (op'=1)) (
 some (.int .u32 a',st.adv (st.ro st.next).next)) (
 cond (decide (op'=2)) (
 let n1:Int:=zbd .u32 4294967295 a'
 some (.int .u32 n1,st.adv (st.ro st.next).next)) (
 cond (decide (op'=12)) (
 let n2:Int:=orI .u32 a' b'
 some (.int .u32 n2,st.adv (st.ro st.next).next)) (
 cond (decide (op'=13)) (
 let n3:Int:=zbj .u32 b' a'
 some (.int .u32 n3,st.adv (st.ro st.next).next)) (
 cond (decide (op'=14)) (
 let n4:Int:=zbd .u32 a' b'
 some (.int .u32 n4,st.adv (st.ro st.next).next)) (
 cond (decide (op'=15)) (
 let n5:Int:=zai .u32 a' b'
 some (.int .u32 n5,st.adv (st.ro st.next).next)) (
 some (.int .u32 0,st.adv (st.ro st.next).next)))))))
noncomputable abbrev zm3:zab:=lS Tryd.prog Lk0 Tryd.f64 zau
theorem zm4:Lk0.func 64=some (64,Tryd.f64):=by kernel_rfl
theorem zm5 [Sym] (op':Int) (a':Int) (b':Int) (st:SS) {r:Value×SS} (h:zlU cc zm3 op' a' b' st=some r):cc 64 [.int .i64 op',.int .u32 a',.int .u32 b'] st=some r:=
 zah (li:=zau) zak zaq zm4 rfl (fun _=>rfl) (.trans (by kernel_rfl) h)
noncomputable def zdC (cf:zao) (lf:zab) (x':Int) (st:SS):Option (Value×SS):=
 let a:Int:=zbm .u32 x' 24
 ((zdO ⟨#[0,1,1,2,1,2,2,3,1,2,2,3,2,3,3,4,1,2,2,3,2,3,3,4,2,3,3,4,3,4,4,5,1,2,2,3,2,3,3,4,2,3,3,4,3,4,4,5,2,3,3,4,3,4,4,5,3,4,4,5,4,5,5,6,1,2,2,3,2,3,3,4,2,3,3,4,3,4,4,5,2,3,3,4,3,4,4,5,3,4,4,5,4,5,5,6,2,3,3,4,3,4,4,5,3,4,4,5,4,5,5,6,3,4,4,5,4,5,5,6,4,5,5,6,5,6,6,7,1,2,2,3,2,3,3,4,2,3,3,4,3,4,4,5,2,3,3,4,3,4,4,5,3,4,4,5,4,5,5,6,2,3,3,4,3,4,4,5,3,4,4,5,4,5,5,6,3,4,4,5,4,5,5,6,4,5,5,6,5,6,6,7,2,3,3,4,3,4,4,5,3,4,4,5,4,5,5,6,3,4,4,5,4,5,5,6,4,5,5,6,5,6,6,7,3,4,4,5,4,5,5,6,4,5,5,6,5,6,6,7,4,5,5,6,5,6,6,7,5,6,6,7,6,7,7,8]⟩ a).bind (asI .u8)).bind fun b=>
 let c:Int:=zbm .u32 x' 16
 let d:Int:=zai .u32 c 255
 ((zdO ⟨#[0,1,1,2,1,2,2,3,1,2,2,3,2,3,3,4,1,2,2,3,2,3,3,4,2,3,3,4,3,4,4,5,1,2,2,3,2,3,3,4,2,3,3,4,3,4,4,5,2,3,3,4,3,4,4,5,3,4,4,5,4,5,5,6,1,2,2,3,2,3,3,4,2,3,3,4,3,4,4,5,2,3,3,4,3,4,4,5,3,4,4,5,4,5,5,6,2,3,3,4,3,4,4,5,3,4,4,5,4,5,5,6,3,4,4,5,4,5,5,6,4,5,5,6,5,6,6,7,1,2,2,3,2,3,3,4,2,3,3,4,3,4,4,5,2,3,3,4,3,4,4,5,3,4,4,5,4,5,5,6,2,3,3,4,3,4,4,5,3,4,4,5,4,5,5,6,3,4,4,5,4,5,5,6,4,5,5,6,5,6,6,7,2,3,3,4,3,4,4,5,3,4,4,5,4,5,5,6,3,4,4,5,4,5,5,6,4,5,5,6,5,6,6,7,3,4,4,5,4,5,5,6,4,5,5,6,5,6,6,7,4,5,5,6,5,6,6,7,5,6,6,7,6,7,7,8]⟩ d).bind (asI .u8)).bind fun e=>
 let f:Int:=IntKind.wrap .u8 (b+e)
 let g:Int:=zbm .u32 x' 8
 let h:Int:=zai .u32 g 255
 ((zdO ⟨#[0,1,1,2,1,2,2,3,1,2,2,3,2,3,3,4,1,2,2,3,2,3,3,4,2,3,3,4,3,4,4,5,1,2,2,3,2,3,3,4,2,3,3,4,3,4,4,5,2,3,3,4,3,4,4,5,3,4,4,5,4,5,5,6,1,2,2,3,2,3,3,4,2,3,3,4,3,4,4,5,2,3,3,4,3,4,4,5,3,4,4,5,4,5,5,6,2,3,3,4,3,4,4,5,3,4,4,5,4,5,5,6,3,4,4,5,4,5,5,6,4,5,5,6,5,6,6,7,1,2,2,3,2,3,3,4,2,3,3,4,3,4,4,5,2,3,3,4,3,4,4,5,3,4,4,5,4,5,5,6,2,3,3,4,3,4,4,5,3,4,4,5,4,5,5,6,3,4,4,5,4,5,5,6,4,5,5,6,5,6,6,7,2,3,3,4,3,4,4,5,3,4,4,5,4,5,5,6,3,4,4,5,4,5,5,6,4,5,5,6,5,6,6,7,3,4,4,5,4,5,5,6,4,5,5,6,5,6,6,7,4,5,5,6,5,6,6,7,5,6,6,7,6,7,7,8]⟩ h).bind (asI .u8)).bind fun i=>
 let j:Int:=IntKind.wrap .u8 (f+i)
 let k:Int:=zai .u32 x' 255
 ((zdO ⟨#[0,1,1,2,1,2,2,3,1,2,2,3,2,3,3,4,1,2,2,3,2,3,3,4,2,3,3,4,3,4,4,5,1,2,2,3,2,3,3,4,2,3,3,4,3,4,4,5,2,3,3,4,3,4,4,5,3,4,4,5,4,5,5,6,1,2,2,3,2,3,3,4,2,3,3,4,3,4,4,5,2,3,3,4,3,4,4,5,3,4,4,5,4,5,5,6,2,3,3,4,3,4,4,5,3,4,4,5,4,5,5,6,3,4,4,5,4,5,5,6,4,5,5,6,5,6,6,7,1,2,2,3,2,3,3,4,2,3,3,4,3,4,4,5,2,3,3,4,3,4,4,5,3,4,4,5,4,5,5,6,2,3,3,4,3,4,4,5,3,4,4,5,4,5,5,6,3,4,4,5,4,5,5,6,4,5,5,6,5,6,6,7,2,3,3,4,3,4,4,5,3,4,4,5,4,5,5,6,3,4,4,5,4,5,5,6,4,5,5,6,5,6,6,7,3,4,4,5,4,5,5,6,4,5,5,6,5,6,6,7,4,5,5,6,5,6,6,7,5,6,6,7,6,7,7,8]⟩ k).bind (asI .u8)).bind fun l=>
 let m:Int:=IntKind.wrap .u8 (j+l)
 let n:Int:=IntKind.wrap .i64 m
 some (.int .i64 n,st.adv (st.ro st.next).next)
noncomputable abbrev zcD:zab:=lS Tryd.prog Lk0 Tryd.f56 zau
theorem zfw:Lk0.func 56=some (56,Tryd.f56):=by kernel_rfl
theorem zfx [Sym] (x':Int) (st:SS) {r:Value×SS} (h:zdC cc zcD x' st=some r):cc 56 [.int .u32 x'] st=some r:=
 zah (li:=zau) zak zaq zfw rfl (fun _=>rfl) (.trans (by kernel_rfl) h)
noncomputable def zc8 (cf:zao) (lf:zab) (x':Int) (k':Int) (st:SS):Option (Value×SS):=
 let a:Int:=IntKind.wrap .u64 k'
 let b:Int:=zai .u64 a 31
 ((aI .shl .u32 x' b).bind (asI .u32)).bind fun c=>
 let d:Int:=IntKind.wrap .u64 (32-b)
 ((aI .shr .u32 x' d).bind (asI .u32)).bind fun e=>
 let f:Int:=orI .u32 c e
 some (.int .u32 f,st.adv (st.ro st.next).next)
noncomputable abbrev ze3:zab:=lS Tryd.prog Lk0 Tryd.f61 zau
theorem ze4:Lk0.func 61=some (61,Tryd.f61):=by kernel_rfl
theorem ze5 [Sym] (x':Int) (k':Int) (st:SS) {r:Value×SS} (h:zc8 cc ze3 x' k' st=some r):cc 61 [.int .u32 x',.int .i64 k'] st=some r:=
 zah (li:=zau) zak zaq ze4 rfl (fun _=>rfl) (.trans (by kernel_rfl) h)
noncomputable def zo4 (cf:zao) (lf:zab) (x':Int) (st:SS):Option (Value×SS):=
 let n1:Int:=zai .u32 x' 16777216
 some (.bool (!(decide (n1=0))),st.adv (st.ro st.next).next)
noncomputable abbrev zl9:zab:=lS Tryd.prog Lk0 Tryd.f34 zau
theorem zma:Lk0.func 34=some (34,Tryd.f34):=by kernel_rfl
theorem zmb [Sym] (x':Int) (st:SS) {r:Value×SS} (h:zo4 cc zl9 x' st=some r):cc 34 [.int .u32 x'] st=some r:=
 zah (li:=zau) zak zaq zma rfl (fun _=>rfl) (.trans (by kernel_rfl) h)
noncomputable def zlV (cf:zao) (lf:zab) (x':Int) (st:SS):Option (Value×SS):=
 let a:SS:=(st.ro st.next).new (.cells [.bool false,.bool false,.bool false,.bool false] 0)
 let b:Int:=zai .u32 x' 8
 let c:Int:=zai .u32 x' 4
 let d:Int:=zai .u32 x' 2
 let e:Int:=zai .u32 x' 1
 (a.st ((st.ro st.next).next) 0 [.bool (!(decide (b=0))),.bool (!(decide (c=0))),.bool (!(decide (d=0))),.bool (!(decide (e=0)))]).bind fun f=>
 (f.rdN ((st.ro st.next).next) 0 4).bind fun g=>
 cond (flat3 g) (some (g,st.adv f.next)) none
noncomputable abbrev zm6:zab:=lS Tryd.prog Lk0 Tryd.f42 zau
theorem zm7:Lk0.func 42=some (42,Tryd.f42):=by kernel_rfl
theorem zm8 [Sym] (x':Int) (st:SS) {r:Value×SS} (h:zlV cc zm6 x' st=some r):cc 42 [.int .u32 x'] st=some r:=
 zah (li:=zau) zak zaq zm7 rfl (fun _=>rfl) (.trans (by kernel_rfl) h)
noncomputable def zm9 (cf:zao) (lf:zab) (x':Int) (f':Value) (st:SS):Option (Value×SS):=
 let a:SS:=(st.ro st.next).new (.cells (f':Value).cells.toList 0)
 let b:Int:=zbj .u32 x' 15
 (a.ldN ((st.ro st.next).next) 0 4).bind fun c=>
 (cf 70 [c] a).bind fun d=>
 ((some d.1).bind (asI .u32)).bind fun e=>
 let f:Int:=orI .u32 b e
 some (.int .u32 f,st.adv d.2.next)
noncomputable abbrev zn5:zab:=lS Tryd.prog Lk0 Tryd.f51 zau
theorem zn6:Lk0.func 51=some (51,Tryd.f51):=by kernel_rfl
theorem zn7 [Sym] (x':Int) (f':Value) (st:SS) {r:Value×SS} (h:zm9 cc zn5 x' f' st=some r):cc 51 [.int .u32 x',f'] st=some r:=
 zah (li:=zau) zak zaq zn6 rfl (fun _=>rfl) (.trans (by kernel_rfl) h)
def zhr:LoopI:=⟨[(3,.int .u32),(14,.any),(15,.int .i64),(16,.int .i64)],[(.exit 0,[(3,.int .u32)])]⟩
def zie (n:Nat):Option LoopI:=cond (Nat.beq n 3) (some zhr) (none)
noncomputable def zlW (cf:zao) (lf:zab) (f':Value) (st:SS):Option (Value×SS):=
 let a:SS:=(st.ro st.next).new (.cells (f':Value).cells.toList 0)
 ((a.ld ((st.ro st.next).next) 3).bind asB).bind fun b=>
 ((a.ld ((st.ro st.next).next) 2).bind asB).bind fun c=>
 ((a.ld ((st.ro st.next).next) 1).bind asB).bind fun d=>
 ((a.ld ((st.ro st.next).next) 0).bind asB).bind fun e=>
 let f:SS:=a.new (.cells ([.bool b,.bool c,.bool d,.bool e]) 1)
 (lf 3 [.int .u32 0,.slice (some ⟨a.next,0,none⟩) 4 4,.int .i64 ((4:Nat):Int),.int .i64 0] f).bind fun g=>
 ((g.2.1[0]?).bind (asI .u32)).bind fun h=>
 some (.int .u32 h,st.adv g.2.2.next)
noncomputable abbrev zdT:zab:=lS Tryd.prog Lk0 Tryd.f70 zie
theorem zna:Lk0.func 70=some (70,Tryd.f70):=by kernel_rfl
theorem znb [Sym] (f':Value) (st:SS) {r:Value×SS} (h:zlW cc zdT f' st=some r):cc 70 [f'] st=some r:=
 zah (li:=zie) zak zaq zna rfl (fun _=>rfl) (.trans (by kernel_rfl) h)
noncomputable def zfy (cf:zao) (lf:zab) (x':Int) (t14':Value) (t15':Int) (t16':Int) (st:SS):Option (Nat×List Value×SS):=
 cond (decide (t16'<t15')) (
 (za8 t14' t16' 1).bind fun a=>
 ((st.ld a.1 a.2).bind asB).bind fun b=>
 cond b (
 ((aI .shl .u32 1 t16').bind (asI .u32)).bind fun c=>
 let d:Int:=orI .u32 x' c
 let e:Int:=IntKind.wrap .i64 (t16'+1)
 lf 3 [.int .u32 d,t14',.int .i64 t15',.int .i64 e] st) (
 let f:Int:=IntKind.wrap .i64 (t16'+1)
 lf 3 [.int .u32 x',t14',.int .i64 t15',.int .i64 f] st)) (
 some (0,[.int .u32 x'],st))
theorem zfU [Sym] (x':Int) (t14':Value) (t15':Int) (t16':Int) (st:SS) {r:Nat×List Value×SS} (h:zfy cc zdT x' t14' t15' t16' st=some r):zdT 3 [.int .u32 x',t14',.int .i64 t15',.int .i64 t16'] st=some r:=
 zbD zak zaq (key:=3) (I:=zhr) rfl (by kernel_rfl) (by kernel_rfl) rfl rfl (.trans (by kernel_rfl) h)
def zc9:LoopI:=⟨[(6,.any),(7,.int .i64),(8,.int .i64)],[(.exit 0,[]),(.ret,[(2,.bool)])]⟩
def zdD (n:Nat):Option LoopI:=cond (Nat.beq n 2) (some zc9) (none)
noncomputable def zeF (cf:zao) (lf:zab) (w':Value) (st:SS):Option (Value×SS):=
 let a:SS:=(st.ro st.next).new (.cells (w':Value).cells.toList 0)
 (a.ldN ((st.ro st.next).next) 0 12).bind fun b=>
 (cf 38 [b] a).bind fun c=>
 ((lenV c.1).bind (asI .i64)).bind fun d=>
 (lf 2 [c.1,.int .i64 d,.int .i64 0] c.2).bind fun e=>
 cond (Nat.beq e.1 0) (
 some (.bool true,st.adv e.2.2.next)) (
 ((e.2.1[0]?).bind asB).bind fun f=>
 some (.bool f,st.adv e.2.2.next))
noncomputable abbrev zbl:zab:=lS Tryd.prog Lk0 Tryd.f16 zdD
theorem zgB:Lk0.func 16=some (16,Tryd.f16):=by kernel_rfl
theorem zgC [Sym] (w':Value) (st:SS) {r:Value×SS} (h:zeF cc zbl w' st=some r):cc 16 [w'] st=some r:=
 zah (li:=zdD) zak zaq zgB rfl (fun _=>rfl) (.trans (by kernel_rfl) h)
noncomputable def zbt (cf:zao) (lf:zab) (t6':Value) (t7':Int) (t8':Int) (st:SS):Option (Nat×List Value×SS):=
 cond (decide (t8'<t7')) (
 (za8 t6' t8' 1).bind fun a=>
 ((st.ld a.1 a.2).bind (asI .i64)).bind fun b=>
 cond (decide (b<0)) (
 some (1,[.bool false],st)) (
 (cf 39 [] st).bind fun c=>
 (za8 c.1 t8' 1).bind fun d=>
 ((c.2.ld d.1 d.2).bind (asI .i64)).bind fun e=>
 cond (decide (e≤b)) (
 some (1,[.bool false],c.2)) (
 let f:Int:=IntKind.wrap .i64 (t8'+1)
 lf 2 [t6',.int .i64 t7',.int .i64 f] c.2))) (
 some (0,[],st))
theorem zbL [Sym] (t6':Value) (t7':Int) (t8':Int) (st:SS) {r:Nat×List Value×SS} (h:zbt cc zbl t6' t7' t8' st=some r):zbl 2 [t6',.int .i64 t7',.int .i64 t8'] st=some r:=
 zbD zak zaq (key:=2) (I:=zc9) rfl (by kernel_rfl) (by kernel_rfl) rfl rfl (.trans (by kernel_rfl) h)
noncomputable def zd8 (cf:zao) (lf:zab) (w':Value) (st:SS):Option (Value×SS):=
 let a:SS:=st.new (.cells (w':Value).cells.toList 0)
 ((a.ld st.next 0).bind (asI .i64)).bind fun b=>
 ((a.ld st.next 1).bind (asI .i64)).bind fun c=>
 ((a.ld st.next 2).bind (asI .i64)).bind fun d=>
 ((a.ld st.next 3).bind (asI .i64)).bind fun e=>
 ((a.ld st.next 4).bind (asI .i64)).bind fun f=>
 ((a.ld st.next 5).bind (asI .i64)).bind fun g=>
 ((a.ld st.next 6).bind (asI .i64)).bind fun h=>
 ((a.ld st.next 7).bind (asI .i64)).bind fun i=>
 ((a.ld st.next 8).bind (asI .i64)).bind fun j=>
 ((a.ld st.next 9).bind (asI .i64)).bind fun k=>
 ((a.ld st.next 10).bind (asI .i64)).bind fun l=>
 ((a.ld st.next 11).bind (asI .i64)).bind fun m=>
 let n:SS:=a.new (.cells ([.int .i64 b,.int .i64 c,.int .i64 d,.int .i64 e,.int .i64 f,.int .i64 g,.int .i64 h,.int .i64 i,.int .i64 j,.int .i64 k,.int .i64 l,.int .i64 m]) 1)
 some (.slice (some ⟨a.next,0,none⟩) 12 12,n)
noncomputable abbrev zgc:zab:=lS Tryd.prog Lk0 Tryd.f38 zau
theorem zgd:Lk0.func 38=some (38,Tryd.f38):=by kernel_rfl
theorem zgf [Sym] (w':Value) (st:SS) {r:Value×SS} (h:zd8 cc zgc w' st=some r):cc 38 [w'] st=some r:=
 zah (li:=zau) zak zaq zgd rfl (fun _=>rfl) (.trans (by kernel_rfl) h)
noncomputable def zif (cf:zao) (lf:zab) (st:SS):Option (Value×SS):=
 let st1:SS:=st.new (.cells ([.int .i64 32,.int .i64 64,.int .i64 64,.int .i64 64,.int .i64 256,.int .i64 4,.int .i64 4,.int .i64 16,.int .i64 8,.int .i64 32,.int .i64 2048,.int .i64 64]) 1)
 some (.slice (some ⟨st.next,0,none⟩) 12 12,st1)
noncomputable abbrev zgD:zab:=lS Tryd.prog Lk0 Tryd.f39 zau
theorem zgE:Lk0.func 39=some (39,Tryd.f39):=by kernel_rfl
theorem zgF [Sym] (st:SS) {r:Value×SS} (h:zif cc zgD st=some r):cc 39 [] st=some r:=
 zah (li:=zau) zak zaq zgE rfl (fun _=>rfl) (.trans (by kernel_rfl) h)
end Go.Proofs.YtlpigjmjgclgiaaDoorE
namespace Go.E
open Go
structure Mod (S:List Nat) (a b:SS):Prop where
 next:a.next≤b.next
 lim:b.lim=a.lim
 keep:∀ j,j<a.next→j∉S→b.mem.get j=a.mem.get j
section
variable {S T : List Nat} {a b c : SS} {i n : Nat}
theorem Mod.refl (a:SS):Mod S a a:=⟨zlr _,rfl,fun _ _ _=>rfl⟩
theorem Mod.ofExt (h:Ext a b):Mod S a b:=⟨h.next,h.lim,fun j hj _=>h.keep j hj⟩
theorem Mod.trans (h:Mod S a b) (k:Mod T b c) (hT:∀ j,j∈T→j<a.next→j∈S):Mod S a c:=
 ⟨zlt h.next k.next,k.lim.trans h.lim,fun j hj hS=>(k.keep j (zll hj h.next) (fun hm=>hS (hT j hm hj))).trans (h.keep j hj hS)⟩
theorem Mod.then (h:Mod S a b) (k:Mod S b c):Mod S a c:=h.trans k fun _ hj _=>hj
theorem Mod.mono (h:Mod S a b) (hS:∀ j,j∈S→j∈T):Mod T a b:=⟨h.next,h.lim,fun j hj hT=>h.keep j hj fun hm=>hT (hS j hm)⟩
theorem Mod.fresh (h:Mod S a b) (hS:∀ j,j∈S→a.next≤j):Ext a b:=⟨h.next,h.lim,fun j hj=>h.keep j hj fun hm=>by have:=hS j hm;omega⟩
theorem Mod.ll (h:Mod S a b) (hl:a.lim≤a.next):b.lim≤b.next:=by rw [h.lim];exact zlt hl h.next
theorem Ext.ll (h:Ext a b) (hl:a.lim≤a.next):b.lim≤b.next:=by rw [h.lim];exact zlt hl h.next
theorem Ext.advR (a:SS) (hn:a.next≤n):Ext a (a.adv n):=(Ext.refl a).adv hn
theorem Mod.get {x:Option AObj} (h:Mod S a b) (hi:i<a.next) (hS:i∉S) (hx:a.mem.get i=x):b.mem.get i=x:=(h.keep i hi hS).trans hx
theorem Rd.mod {v:Value} {c:List Value} {z n:Nat} (h:Rd a v c z n) (m:Mod S a b) (hv:∀ j k l q,v=.slice (some ⟨j,k,none⟩) l q→j∉S):Rd b v c z n:=by
 obtain ⟨h1,h2⟩:=h
 refine ⟨h1,h2.imp id ?_⟩
 rintro ⟨i,cap,e,⟨z',hm⟩,hi⟩
 exact ⟨i,cap,e,⟨z',m.get hi (hv i 0 n cap e) hm⟩,zll hi m.next⟩
theorem Own.mod {B:Nat} {v:Value} {c:List Value} {z n:Nat} (h:Own B a v c z n) (m:Mod S a b) (hv:∀ j k l q,v=.slice (some ⟨j,k,none⟩) l q→j∉S):Own B b v c z n:=by
 obtain ⟨h1,h2⟩:=h
 refine ⟨h1,h2.imp id ?_⟩
 rintro ⟨i,e,h0,hm,hb,hi⟩
 exact ⟨i,e,h0,m.get hi (hv i 0 n n e) hm,hb,zll hi m.next⟩
end
def At (st:SS) (i:Nat) (row:List Value):Prop:=st.mem.get i=some (.cells row 0)∧i<st.next∧st.lim≤i
section
variable {S : List Nat} {st st' : SS} {i k n : Nat} {row row' vs : List Value}
theorem At.mem (h:At st i row):st.mem.get i=some (.cells row 0):=h.1
theorem At.lt (h:At st i row):i<st.next:=h.2.1
theorem At.mod (h:At st i row) (m:Mod S st st') (hi:i∉S):At st' i row:=⟨m.get h.lt hi h.1,zll h.lt m.next,by rw [m.lim];exact h.2.2⟩
theorem At.ext (h:At st i row) (m:Ext st st'):At st' i row:=h.mod (S:=[]) (.ofExt m) (by simp)
theorem At.adv (h:At st i row) (hn:st.next≤n):At (st.adv n) i row:=h.ext (.advR st hn)
theorem At.ld (h:At st i row):st.ld i k=row[k]?:=SS.ld_cells h.1
theorem At.rd (h:At st i row):st.rd i k=row[k]?:=SS.rd_cells h.1
theorem At.ldN (h:At st i row) (hn:row.length=n):st.ldN i 0 n=some (.agg row.toArray):=by rw [SS.ldN_cells h.1,zdB hn];rfl
theorem At.rdN (h:At st i row) (hn:row.length=n):st.rdN i 0 n=some (.agg row.toArray):=by rw [SS.rdN_cells h.1,zdB hn];rfl
theorem At.ldC (h:At st i row) {d:List Value} (hd:cut row k n=some d):st.ldN i k n=some (.agg d.toArray):=by rw [SS.ldN_cells h.1,hd];rfl
theorem At.sto (h:At st i row) (h1:vs.all one=true) (hs:zaI row k vs=some row'):∃ st',st.st i k vs=some st'∧At st' i row'∧Mod [i] st st'∧st'.next=st.next:=
 ⟨_,SS.st_cells h.1 h.2.2 h1 hs,⟨by simp,h.2.1,h.2.2⟩,⟨zlr _,rfl,fun j hj hS=>SS.set_old (by simpa using hS)⟩,rfl⟩
theorem At.stV (h:At st i row) {v:Value} (hv:v.cells.toList=vs) (hn:vs.length=n) (h1:vs.all one=true) (hs:zaI row k vs=some row'):∃ st',st.stV i k n v=some st'∧At st' i row'∧Mod [i] st st'∧st'.next=st.next:=by
 obtain ⟨st',a,b,c,d⟩:=h.sto h1 hs
 refine ⟨st',?_,b,c,d⟩
 unfold SS.stV
 have e:v.cells.size=n:=by rw [← hn,← hv];simp
 rw [e,hv,a]
 simp
theorem At.new (hl:st.lim≤st.next) (row:List Value):At (st.new (.cells row 0)) st.next row:=⟨by simp,by simp,hl⟩
theorem Mod.new (ob:AObj):Mod [] st (st.new ob):=.ofExt ((Ext.refl st).new ob)
theorem zgG (hl:st.lim≤st.next) {r:List Value} {v:Value} (hv:v.cells.toList=row) (hn:row.length=n) (h1:row.all one=true) (hr:r.length=n):∃ st',(st.new (.cells r 0)).stV st.next 0 n v=some st'∧At st' st.next row∧Ext st st'∧st'.next=st.next+1:=by
 obtain ⟨st',a,b,c,d⟩:=(At.new hl r).stV (k:=0) hv hn h1 (row':=row) (by rw [zbk (by omega)];simp [hn,hr])
 refine ⟨st',a,b,?_,d⟩
 exact (((Mod.new (.cells r 0)).mono (T:=[st.next]) (by simp)).then c).fresh (by simp)
theorem new_ok (hl:st.lim≤st.next) {r:List Value} (h1:row.all one=true) (hr:r.length=row.length):∃ st',(st.new (.cells r 0)).st st.next 0 row=some st'∧At st' st.next row∧Ext st st'∧st'.next=st.next+1:=by
 obtain ⟨st',a,b,c,d⟩:=(At.new hl r).sto (k:=0) (vs:=row) (row':=row) h1 (by rw [zbk (by omega)];simp [hr])
 exact ⟨st',a,b,(((Mod.new (.cells r 0)).mono (T:=[st.next]) (by simp)).then c).fresh (by simp),d⟩
end
theorem zeM (row:List Value):(Value.agg row.toArray).cells.toList=row:=by simp [Value.cells]
theorem Rd.row1 {st:SS} {row:List Value} {z:Nat} (h:row.length=z):Rd (st.new (.cells row z)) (.slice (some ⟨st.next,0,none⟩) 1 1) row z 1:=
 ⟨by rw [h,Nat.one_mul],.inr ⟨st.next,1,rfl,⟨z,SS.new_get⟩,by simp⟩⟩
theorem Own.push {b:Nat} {st:SS} {v:Value} {c row:List Value} {z n bt:Nat} (h:Own b st v c z n) (hb:b≤st.next) (hl:st.lim≤b) (hr:row.length=z) (hz:0<z) (h1:row.all one=true) (hs:(n+2)*bt≤2^44) (hn:n+1≤2^44):
  ∃ v' st',(st.new (.cells row z)).app z bt v (.slice (some ⟨st.next,0,none⟩) 1 1)=some (v',st')∧Own b st' v' (c++row) z (n+1)∧(∀ st0,st0.next≤b→Ext st0 st→Ext st0 st')∧st'.lim=st.lim∧st.next≤st'.next∧
   ∀ j,j<st.next→(∀ q,v≠.slice (some ⟨j,0,none⟩) q q)→st'.mem.get j=st.mem.get j:=by
 obtain ⟨v',st',g1,g2,g3,g4,g5,g6⟩:=(h.ext ((Ext.refl st).new (.cells row z))).app (Rd.row1 (st:=st) hr) (zlt hb (Nat.le_succ _)) hl hz h1 (bt:=bt) (by simpa [Nat.add_assoc] using hs) hn
 exact ⟨v',st',g1,g2,fun st0 h0 he=>g5 st0 h0 (he.new _),g3,zlt (Nat.le_succ _) g4,fun j hj hv=>by rw [g6 j (by simp;omega) hv,SS.new_old (by omega)]⟩
structure Keep (B:Nat) (S:List Nat) (a b:SS):Prop where
 next:a.next≤b.next
 lim:b.lim=a.lim
 keep:∀ j,j<B→j∉S→b.mem.get j=a.mem.get j
section
variable {S : List Nat} {a b c : SS} {B i : Nat}
theorem Keep.refl (a:SS):Keep B S a a:=⟨zlr _,rfl,fun _ _ _=>rfl⟩
theorem Keep.then (h:Keep B S a b) (k:Keep B S b c):Keep B S a c:=⟨zlt h.next k.next,k.lim.trans h.lim,fun j hj hS=>(k.keep j hj hS).trans (h.keep j hj hS)⟩
theorem Mod.keepB (h:Mod S a b) (hB:B≤a.next):Keep B S a b:=⟨h.next,h.lim,fun j hj hS=>h.keep j (by omega) hS⟩
theorem Ext.keepB (h:Ext a b) (hB:B≤a.next):Keep B S a b:=⟨h.next,h.lim,fun j hj _=>h.keep j (by omega)⟩
theorem Keep.mod (h:Keep B S a b) (hB:a.next≤B):Mod S a b:=⟨h.next,h.lim,fun j hj hS=>h.keep j (by omega) hS⟩
theorem Keep.mono {B':Nat} {T:List Nat} (h:Keep B S a b) (hB:B'≤B) (hS:∀ j,j∈S→j<B'→j∈T):Keep B' T a b:=⟨h.next,h.lim,fun j hj hT=>h.keep j (by omega) fun hm=>hT (hS j hm hj)⟩
theorem Keep.ll (h:Keep B S a b) (hl:a.lim≤a.next):b.lim≤b.next:=by rw [h.lim];exact zlt hl h.next
theorem At.keepB {row:List Value} (h:At a i row) (k:Keep B S a b) (hB:i<B) (hi:i∉S):At b i row:=⟨(k.keep i hB hi).trans h.1,zll h.2.1 k.next,by rw [k.lim];exact h.2.2⟩
theorem Own.cell {v:Value} {c:List Value} {z n:Nat} (h:Own B a v c z n):v.cells.toList=[v]∧one v=true:=by
 obtain ⟨_,⟨rfl,_⟩ | ⟨i,rfl,_⟩⟩:=h<;>exact ⟨rfl,rfl⟩
end
def rowsF {α:Type} (f:α→List Value) (l:List α):List Value:=l.flatMap f
section
variable {α : Type} {f : α → List Value} {z : Nat}
theorem zih (a b:List α):rowsF f (a++b)=rowsF f a++rowsF f b:=by simp [rowsF]
theorem ze6 (a:α) (b:List α):rowsF f (a::b)=f a++rowsF f b:=by simp [rowsF]
theorem zlX (a:α):rowsF f [a]=f a:=by simp [rowsF]
theorem zpR (hz:∀ x,(f x).length=z) (l:List α):(rowsF f l).length=l.length*z:=by
 induction l with
 | nil=>simp [rowsF]
 | cons a l ih=>rw [ze6,List.length_append,ih,hz,List.length_cons,Nat.add_mul];omega
theorem zdE (hz:∀ x,(f x).length=z) (l:List α) (i:Nat) (x:α) (h:l[i]?=some x):((rowsF f l).drop (i*z)).take z=f x:=by
 induction l generalizing i with
 | nil=>cases h
 | cons a l ih=>
   rw [ze6]
   cases i with
   | zero=>
     have:a=x:=by simpa using h
     subst this
     rw [Nat.zero_mul,List.drop_zero,List.take_append_of_le_length (by rw [hz];omega),List.take_of_length_le (by rw [hz];omega)]
   | succ i=>
     have e:(i+1)*z=(f a).length+i*z:=by rw [hz,Nat.add_mul];omega
     rw [e,List.drop_append,List.drop_of_length_le (by omega),List.nil_append,Nat.add_sub_cancel_left]
     exact ih i (by simpa using h)
end
theorem wrapI {i k:Nat} (h:i≤1099511627776) (hk:k≤1099511627776):IntKind.wrap .i64 ((i:Int)+(k:Int))=((i+k:Nat):Int):=by rw [wrap64 (by omega) (by omega)];omega
theorem wrapI1 {i:Nat} (h:i≤1099511627776):IntKind.wrap .i64 ((i:Int)+1)=((i+1:Nat):Int):=wrapI h (k:=1) (by omega)
end Go.E
namespace Go.E
open Go
def Rg (st:SS) (v:Value) (c:List Value) (z n:Nat):Prop:=
 c.length=n*z∧((v=.slice none 0 0∧n=0)∨∃ i cap C,v=.slice (some ⟨i,0,none⟩) n cap∧n≤cap∧i<st.next∧C.take (n*z)=c∧((∃ z',(z'=z∨z'=0)∧st.mem.get i=some (.cells C z'))∨st.mem.get i=some (.table C)))
section
variable {S : List Nat} {st st' : SS} {v : Value} {c : List Value} {z n B : Nat}
theorem Rg.len (h:Rg st v c z n):lenV v=some (.int .i64 (n:Int)):=by
 obtain ⟨_,⟨rfl,rfl⟩ | ⟨i,cap,C,rfl,_⟩⟩:=h<;>rfl
theorem Rg.lenI (h:Rg st v c z n):(lenV v).bind (asI .i64)=some (n:Int):=by rw [h.len];rfl
theorem Rg.sl (h:Rg st v c z n):sliceLen v=some (n:Int):=by
 obtain ⟨_,⟨rfl,rfl⟩ | ⟨i,cap,C,rfl,_⟩⟩:=h<;>rfl
theorem Rg.cell (h:Rg st v c z n):v.cells.toList=[v]∧one v=true:=by
 obtain ⟨_,⟨rfl,rfl⟩ | ⟨i,cap,C,rfl,_⟩⟩:=h<;>exact ⟨rfl,rfl⟩
theorem Own.rg (h:Own B st v c z n):Rg st v c z n:=by
 obtain ⟨h1,h2⟩:=h
 refine ⟨h1,h2.imp id ?_⟩
 rintro ⟨i,e,h0,hm,hb,hi⟩
 exact ⟨i,n,c,e,zlr _,hi,by rw [← h1,List.take_length],.inl ⟨z,.inl rfl,hm⟩⟩
theorem Rg.keep (h:Rg st v c z n) (hn:st.next≤st'.next) (hk:∀ i l cap,v=.slice (some ⟨i,0,none⟩) l cap→i<st.next→st'.mem.get i=st.mem.get i):Rg st' v c z n:=by
 obtain ⟨h1,h2⟩:=h
 refine ⟨h1,h2.imp id ?_⟩
 rintro ⟨i,cap,C,e,hc,hi,ht,hm⟩
 rw [← hk i _ _ e hi] at hm
 exact ⟨i,cap,C,e,hc,zll hi hn,ht,hm⟩
theorem Rg.ext (h:Rg st v c z n) (he:Ext st st'):Rg st' v c z n:=h.keep he.next fun i l cap e hi=>he.keep i hi
theorem Rg.mod (h:Rg st v c z n) (m:Mod S st st') (hv:∀ i l cap,v=.slice (some ⟨i,0,none⟩) l cap→i∉S):Rg st' v c z n:=h.keep m.next fun i l cap e hi=>m.keep i hi (hv i l cap e)
theorem zqw {C c:List Value} {n k z:Nat} (h:C.take n=c) (hk:k+z≤c.length):cut C k z=some ((c.drop k).take z):=by
 subst h
 rw [List.length_take] at hk
 refine zgv ?_ ?_
 ·rw [List.drop_take,List.take_take,Nat.min_eq_left (by omega)]
 ·simp;omega
theorem Rg.load (h:Rg st v c z n) {j:Int} (h0:0≤j) (h1:j<n) {row:List Value} (hr:(c.drop (j.toNat*z)).take z=row) (hz:row.length=z):
  ∃ p,za8 v j z=some p∧st.ldN p.1 p.2 z=some (.agg row.toArray)∧∀ k x,row[k]?=some x→st.ld p.1 (p.2+k)=some x:=by
 obtain ⟨hc,⟨rfl,rfl⟩ | ⟨i,cap,C,rfl,hcap,hi,ht,hm⟩⟩:=h
 ·omega
 have hb:j.toNat*z+z≤c.length:=by
  have h2:j.toNat+1≤n:=by omega
  have h3:=Nat.mul_le_mul_right z h2
  rw [Nat.add_mul,Nat.one_mul] at h3
  omega
 have e0:za8 (.slice (some ⟨i,0,none⟩) n cap) j z=some (i,0+j.toNat*z):=by
  unfold za8
  simp only [zdt h0,zdt h1,Bool.and_self,zct]
 have hcut:=zqw (k:=j.toNat*z) (z:=z) ht hb
 rw [hr] at hcut
 have hget:∀ k x,row[k]?=some x→C[j.toNat*z+k]?=some x:=fun k x hx=>by
  rw [← hr,List.getElem?_take] at hx
  split at hx
  ·rw [List.getElem?_drop,← ht,List.getElem?_take] at hx
   split at hx
   ·exact hx
   ·cases hx
  ·cases hx
 refine ⟨_,e0,?_,fun k x hx=>?_⟩
 ·simp only [Nat.zero_add]
  rcases hm with ⟨z',_,hm⟩ | hm
  ·rw [SS.ldN_cells hm,hcut];rfl
  ·rw [SS.ldN_table hm,hcut];rfl
 ·simp only [Nat.zero_add]
  rcases hm with ⟨z',_,hm⟩ | hm
  ·rw [SS.ld_cells hm];exact hget k x hx
  ·rw [SS.ld_table hm];exact hget k x hx
theorem Rg.resl (h:Rg st v c z n) {m:Nat} (hm:m≤n):∃ v',st.resl v z 0 (m:Int)=some v'∧Rg st v' (c.take (m*z)) z m:=by
 obtain ⟨hc,⟨rfl,rfl⟩ | ⟨i,cap,C,rfl,hcap,hi,ht,hmm⟩⟩:=h
 ·have:m=0:=by omega
  subst this
  exact ⟨.slice none 0 0,rfl,by simp,.inl ⟨rfl,rfl⟩⟩
 have h1:decide ((m:Int)≤(cap:Int))=true:=zdt (by omega)
 have h2:decide ((0:Int)≤(m:Int))=true:=zdt (by omega)
 have h4:cond (Nat.beq cap 0) 0 (0+0*z)=0:=by cases Nat.beq cap 0<;>simp
 have hle:m*z≤n*z:=Nat.mul_le_mul_right z hm
 have hres:st.resl (.slice (some ⟨i,0,none⟩) n cap) z 0 (m:Int)=some (.slice (some ⟨i,0,none⟩) m cap):=by
  unfold SS.resl
  rcases hmm with ⟨z',hz',hmm⟩ | hmm
  ·have hq:(Nat.beq z' z||Nat.beq z' 0)=true:=by
    simp only [Bool.or_eq_true,zan,decide_eq_true_eq];exact hz'
   simp only [hmm,zob,hq,h1,h2,zct,Int.toNat_zero,h4,Int.toNat_natCast,Nat.sub_zero,Int.le_refl,decide_true,Bool.and_self]
  ·simp only [hmm,zob,h1,h2,zct,Int.toNat_zero,h4,Int.toNat_natCast,Nat.sub_zero,Int.le_refl,decide_true,Bool.and_self]
 exact ⟨_,hres,by rw [List.length_take];omega,.inr ⟨i,cap,C,rfl,by omega,hi,by rw [← ht,List.take_take,Nat.min_eq_left hle],hmm⟩⟩
theorem Tv.rg {α:Type} {f:α→List Value} {l:List α} {id:Nat} (hz:∀ x,(f x).length=z) (h:Tv id l.length v) (hm:st.mem.get id=some (.table (l.flatMap f))) (hi:id<st.next):Rg st v (rowsF f l) z l.length:=by
 have e:=zpR (f:=f) (z:=z) hz l
 refine ⟨e,h.imp (fun h=>h) fun ⟨cap,h1,h2,_⟩=>⟨_,cap,l.flatMap f,h1,h2,hi,?_,.inr hm⟩⟩
 have e':(l.flatMap f).length=l.length*z:=e
 rw [← e',List.take_length];rfl
theorem zo5 {α:Type} {f:α→List Value} (hz:∀ x,(f x).length=z) (l:List α) (m:Nat):(rowsF f l).take (m*z)=rowsF f (l.take m):=by
 induction l generalizing m with
 | nil=>simp [rowsF]
 | cons a l ih=>
   cases m with
   | zero=>simp [rowsF]
   | succ m=>
     have e:(m+1)*z=(f a).length+m*z:=by rw [hz,Nat.add_mul];omega
     rw [ze6,List.take_succ_cons,ze6,e,List.take_append,List.take_of_length_le (by omega),Nat.add_sub_cancel_left,ih]
end
theorem zou {row:List Value} {k:Nat} (x:Value) (h:k<row.length):zaI row k [x]=some (row.set k x):=by
 rw [zbk (by simp;omega),List.set_eq_take_append_cons_drop]
 rw [if_pos h];rfl
theorem At.set1 {st:SS} {i k:Nat} {row:List Value} (h:At st i row) {x:Value} (hk:k<row.length) (h1:one x=true):∃ st',st.st i k [x]=some st'∧At st' i (row.set k x)∧Mod [i] st st'∧st'.next=st.next:=
 h.sto (by simp [h1]) (zou x hk)
theorem At.set1V {st:SS} {i k:Nat} {row:List Value} (h:At st i row) {x:Value} (hc:x.cells.toList=[x]) (hk:k<row.length) (h1:one x=true):∃ st',st.stV i k 1 x=some st'∧At st' i (row.set k x)∧Mod [i] st st'∧st'.next=st.next:=
 h.stV hc rfl (by simp [h1]) (zou x hk)
end Go.E
namespace Go.E
open Go
noncomputable def two (st:SS) (b c:Nat) (p f:List Value):SS:=(st.set b (some (.cells p 0))).set c (some (.cells f 0))
structure Ok2 (st:SS) (b c:Nat):Prop where
 ne:b≠c
 hb:b<st.next
 hc:c<st.next
 lb:st.lim≤b
 lc:st.lim≤c
 ll:st.lim≤st.next
section
variable {st : SS} {b c i k n : Nat} {p f p' f' vs : List Value} {ob : AObj}
end
section
variable {st : SS} {b c i k n : Nat} {p f p' f' vs : List Value} {ob : AObj}
theorem Ok2.new (h:Ok2 st b c):Ok2 (st.new ob) b c:=⟨h.ne,Nat.lt_succ_of_lt h.hb,Nat.lt_succ_of_lt h.hc,h.lb,h.lc,Nat.le_succ_of_le h.ll⟩
theorem Ok2.ext {st':SS} (h:Ok2 st b c) (x:Ext st st'):Ok2 st' b c:=⟨h.ne,zll h.hb x.next,zll h.hc x.next,by rw [x.lim];exact h.lb,by rw [x.lim];exact h.lc,x.ll h.ll⟩
end
end Go.E
namespace Go.E
open Go
section
variable {s : SS} {i j k n m z : Nat} {r r' vs : List Value} {v : Value} {ob : AObj}
theorem zgH:(s.adv n).st i k vs=(s.st i k vs).map fun t=>t.adv n:=by
 unfold SS.st
 show cond (Nat.ble s.lim i) _ _=_
 cases Nat.ble s.lim i with
 | false=>rfl
 | true=>
   simp only [zct,SS.adv_mem]
   cases s.mem.get i with
   | none=>rfl
   | some ob=>
     cases ob<;>try rfl
     simp only [zob]
     cases vs.all one with
     | false=>rfl
     | true=>
       simp only [zct]
       cases zaI _ k vs<;>rfl
theorem zlk:(s.adv n).stV i k m v=(s.stV i k m v).map fun t=>t.adv n:=by
 unfold SS.stV
 cases Nat.beq v.cells.size m with
 | false=>rfl
 | true=>exact zgH
theorem zpS:(s.adv n).ld i k=s.ld i k:=rfl
theorem zov:(s.adv n).ldN i k m=s.ldN i k m:=rfl
theorem ziY:(s.adv n).rdN i k m=s.rdN i k m:=rfl
theorem zrg {x:AObj}:(s.new ob).set s.next (some x)=s.new x:=by
 unfold SS.new SS.set
 simp only [PT.upd_upd]
theorem zqx {x:Option AObj} (h:i≠s.next):(s.new ob).set i x=(s.set i x).new ob:=by
 unfold SS.new SS.set
 simp only
 rw [PT.upd_comm _ _ _ _ _ (fun e=>h e.symm)]
theorem ziZ (hl:s.lim≤s.next) (h1:vs.all one=true):(s.new (.cells r z)).st s.next k vs=(zaI r k vs).map fun r'=>s.new (.cells r' z):=by
 unfold SS.st
 have:Nat.ble (s.new (.cells r z)).lim s.next=true:=by rw [Nat.ble_eq];exact hl
 rw [this]
 simp only [zct,SS.new_get,zob,h1]
 cases zaI r k vs with
 | none=>rfl
 | some r'=>simp only [Option.map_some,zrg]
theorem zow (h:i≠s.next):(s.new ob).st i k vs=(s.st i k vs).map fun t=>t.new ob:=by
 unfold SS.st
 rw [SS.new_old h]
 show cond (Nat.ble s.lim i) _ _=_
 cases Nat.ble s.lim i with
 | false=>rfl
 | true=>
   simp only [zct]
   cases s.mem.get i with
   | none=>rfl
   | some x=>
     cases x<;>try rfl
     simp only [zob]
     cases vs.all one with
     | false=>rfl
     | true=>
       simp only [zct]
       cases zaI _ k vs with
       | none=>rfl
       | some l=>simp only [Option.map_some,zqx h]
theorem zqy (hl:s.lim≤s.next) (hv:v.cells.toList=vs) (hn:vs.length=n) (h1:vs.all one=true):(s.new (.cells r z)).stV s.next k n v=(zaI r k vs).map fun r'=>s.new (.cells r' z):=by
 unfold SS.stV
 have e:v.cells.size=n:=by rw [← hn,← hv];simp
 have e2:Nat.beq v.cells.size n=true:=by rw [e,zan];simp
 rw [e2,zct,hv,ziZ hl h1]
theorem zqz (h:i≠s.next):(s.new ob).stV i k n v=(s.stV i k n v).map fun t=>t.new ob:=by
 unfold SS.stV
 cases Nat.beq v.cells.size n with
 | false=>rfl
 | true=>exact zow h
theorem zep:(s.new (.cells r z)).ld s.next k=r[k]?:=SS.ld_cells SS.new_get
theorem zfz:(s.new (.cells r z)).ldN s.next k n=(cut r k n).map fun d=>.agg d.toArray:=SS.ldN_cells SS.new_get
theorem znc:(s.new (.cells r z)).rdN s.next k n=(cut r k n).map fun d=>.agg d.toArray:=SS.rdN_cells SS.new_get
theorem zqA (h:i≠s.next):(s.new ob).rdN i k n=s.rdN i k n:=by unfold SS.rdN;rw [SS.new_old h]
theorem zox (hl:s.lim≤s.next) (h1:vs.all one=true) (hn:vs.length=n) (hr:r.length=n):(s.new (.cells r z)).stV s.next 0 n (.agg vs.toArray)=some (s.new (.cells vs z)):=by
 rw [zqy hl (zeM vs) hn h1,zbk (by omega),List.drop_of_length_le (by omega)]
 simp
end
end Go.E
namespace Go.Proofs.YtlpigjmjgclgiaaDoorE
open Go Go.E Go.Proofs
def Pf [Sym] (f:Nat) (args:List Value) (v:Value):Prop:=∀ st:SS,∃ n,st.next≤n∧cc f args st=some (v,st.adv n)
structure Fl where
 n:Bool
 z:Bool
 v:Bool
 c:Bool
def Fl.row (f:Fl):List Value:=[.bool f.n,.bool f.z,.bool f.v,.bool f.c]
def Fl.val (f:Fl):Value:=.agg #[.bool f.n,.bool f.z,.bool f.v,.bool f.c]
theorem Fl.cells (f:Fl):f.val.cells.toList=f.row:=rfl
theorem Fl.one (f:Fl):f.row.all E.one=true:=rfl
theorem Fl.flat (f:Fl):flat3 f.val=true:=rfl
theorem zcE (a b:Value):zaS (.tuple #[a,b]) 0=some a:=rfl
theorem zcF (a b:Value):zaS (.tuple #[a,b]) 1=some b:=rfl
theorem tup3_0 (a b c:Value):zaS (.tuple #[a,b,c]) 0=some a:=rfl
theorem tup3_1 (a b c:Value):zaS (.tuple #[a,b,c]) 1=some b:=rfl
theorem tup3_2 (a b c:Value):zaS (.tuple #[a,b,c]) 2=some c:=rfl
def fl0:List Value:=[.bool false,.bool false,.bool false,.bool false]
def zaB (s:Int):Int:=if s=1 then 255 else if s=2 then 65535 else if s=4 then 4294967295 else 0
theorem za6 [Sym] (s:Int):Pf 57 [.int .i64 s] (.int .u32 (zaB s)):=fun st=>by
 refine ⟨st.next,zlr _,zmM s st ?_⟩
 unfold zaB
 by_cases h1:s=1
 ·simp only [zeE,h1,decide_true,zct,if_true];rfl
 by_cases h2:s=2
 ·simp only [zeE,h1,h2,decide_false,decide_true,zcf,zct,if_false,if_true];rfl
 by_cases h4:s=4
 ·simp only [zeE,h1,h2,h4,decide_false,decide_true,zcf,zct,if_false,if_true];rfl
 simp only [zeE,h1,h2,h4,decide_false,zcf,if_false];rfl
def zlm (old x s:Int):Int:=orI .u32 (zbj .u32 old (zaB s)) (zai .u32 x (zaB s))
theorem zpT [Sym] (old x s:Int):Pf 32 [.int .u32 old,.int .u32 x,.int .i64 s] (.int .u32 (zlm old x s)):=fun st=>by
 obtain ⟨n1,h1,e1⟩:=za6 s (st.ro st.next)
 obtain ⟨n2,h2,e2⟩:=za6 s ((st.ro st.next).adv n1)
 refine ⟨n2,zlt h1 h2,znP _ _ _ st ?_⟩
 simp only [zmJ,e1,e2,zob,zac];rfl
def topT (s:Int):Int:=zbj .u32 (zaB s) (zbm .u32 (zaB s) 1)
theorem top_ok [Sym] (s:Int):Pf 72 [.int .i64 s] (.int .u32 (topT s)):=fun st=>by
 obtain ⟨n1,h1,e1⟩:=za6 s (st.ro st.next)
 obtain ⟨n2,h2,e2⟩:=za6 s ((st.ro st.next).adv n1)
 refine ⟨n2,zlt h1 h2,znV _ st ?_⟩
 simp only [zmO,e1,e2,zob,zac];rfl
def zjR (x s:Int):Bool:=!decide (zai .u32 x (topT s)=0)
theorem znd [Sym] (x s:Int):Pf 59 [.int .u32 x,.int .i64 s] (.bool (zjR x s)):=fun st=>by
 obtain ⟨n1,h1,e1⟩:=top_ok s (st.ro st.next)
 refine ⟨n1,h1,znS _ _ st ?_⟩
 simp only [zmN,e1,zob,zac];rfl
def zbP (x s:Int):Int:=cond (zjR (zai .u32 x (zaB s)) s) (orI .u32 (zai .u32 x (zaB s)) (zbd .u32 4294967295 (zaB s))) (zai .u32 x (zaB s))
theorem zcq [Sym] (x s:Int):Pf 43 [.int .u32 x,.int .i64 s] (.int .u32 (zbP x s)):=fun st=>by
 obtain ⟨n1,h1,e1⟩:=za6 s (st.ro st.next)
 obtain ⟨n4,h4,e4⟩:=znd (zai .u32 x (zaB s)) s ((st.ro st.next).adv n1)
 obtain ⟨n6,h6,e6⟩:=za6 s (((st.ro st.next).adv n1).adv n4)
 unfold zbP
 cases hb:zjR (zai .u32 x (zaB s)) s with
 | true=>
   refine ⟨n6,zlt h1 (zlt h4 h6),zgw _ _ st ?_⟩
   simp only [zf8,e1,e4,e6,zob,zac,zat,hb,zct];rfl
 | false=>
   refine ⟨n4,zlt h1 h4,zgw _ _ st ?_⟩
   simp only [zf8,e1,e4,zob,zac,zat,hb,zcf];rfl
def zay (x s:Int):Fl:=⟨zjR x s,decide (zai .u32 x (zaB s)=0),false,false⟩
theorem sp4 (a b c d:Value):zaI fl0 0 [a,b,c,d]=some [a,b,c,d]:=rfl
theorem zdr [Sym] (x s:Int):Pf 50 [.int .u32 x,.int .i64 s] (zay x s).val:=fun st=>by
 obtain ⟨n2,h2,e2⟩:=znd x s ((st.ro st.next).new (.cells fl0 0))
 obtain ⟨n4,h4,e4⟩:=za6 s (((st.ro st.next).new (.cells fl0 0)).adv n2)
 have h2':st.next+1≤n2:=h2
 have e7:(((((st.ro st.next).new (.cells fl0 0)).adv n2).adv n4).st (st.ro st.next).next 0 (zay x s).row)=some ((((st.ro st.next).new (.cells (zay x s).row 0)).adv n2).adv n4):=by
  rw [zgH,zgH,ziZ (zlr _) (Fl.one _)];rfl
 have e8:((((st.ro st.next).new (.cells (zay x s).row 0)).adv n2).adv n4).rdN (st.ro st.next).next 0 4=some (zay x s).val:=by
  rw [ziY,ziY,znc];rfl
 refine ⟨n4,by have:=h4;simp at this;omega,zl8 _ _ st ?_⟩
 unfold zkJ
 show ((cc _ _ ((st.ro st.next).new (.cells fl0 0))).bind _)=_
 rw [e2]
 simp only [zob,zat]
 rw [e4]
 simp only [zob,zac]
 refine zbi.2 ⟨_,e7,?_⟩
 refine zbi.2 ⟨_,e8,?_⟩
 rfl
end Go.Proofs.YtlpigjmjgclgiaaDoorE
namespace Go.Proofs.YtlpigjmjgclgiaaDoorE
open Go Go.E Go.Proofs
section
variable {s : SS} {n m k j : Nat} {r g vs : List Value} {v : Value}
noncomputable abbrev V1 (s:SS) (r:List Value) (n:Nat):SS:=(s.new (.cells r 0)).adv n
noncomputable abbrev V2 (s:SS) (r:List Value) (n:Nat) (g:List Value) (m:Nat):SS:=(((s.new (.cells r 0)).adv n).new (.cells g 0)).adv m
theorem V1.st (hl:s.lim≤s.next) (h1:vs.all one=true):(V1 s r n).st s.next k vs=(zaI r k vs).map fun r'=>V1 s r' n:=by
 rw [zgH,ziZ hl h1]
 cases zaI r k vs<;>rfl
theorem V1.stW (hl:s.lim≤s.next) (h1:vs.all one=true) (hn:vs.length=m) (hr:r.length=m):(V1 s r n).stV s.next 0 m (.agg vs.toArray)=some (V1 s vs n):=by
 rw [zlk,zox hl h1 hn hr];rfl
theorem V1.ld:(V1 s r n).ld s.next k=r[k]?:=by rw [zpS,zep]
theorem V1.rdN (h:r.length=m):(V1 s r n).rdN s.next 0 m=some (.agg r.toArray):=by rw [ziY,znc,zdB h];rfl
theorem V1.ldN (h:r.length=m):(V1 s r n).ldN s.next 0 m=some (.agg r.toArray):=by rw [zov,zfz,zdB h];rfl
theorem V2.st (hl:s.lim≤n) (h1:vs.all one=true):(V2 s r n g m).st n k vs=(zaI g k vs).map fun g'=>V2 s r n g' m:=by
 rw [zgH]
 have:=ziZ (s:=V1 s r n) (r:=g) (z:=0) (k:=k) (vs:=vs) hl h1
 rw [show (V1 s r n).next=n from rfl] at this
 rw [this]
 cases zaI g k vs<;>rfl
theorem V2.stW (hl:s.lim≤n) (h1:vs.all one=true) (hn:vs.length=j) (hg:g.length=j):(V2 s r n g m).stV n 0 j (.agg vs.toArray)=some (V2 s r n vs m):=by
 rw [zlk]
 have:=zox (s:=V1 s r n) (r:=g) (z:=0) (vs:=vs) (n:=j) hl h1 hn hg
 rw [show (V1 s r n).next=n from rfl] at this
 rw [this];rfl
theorem V2.ld:(V2 s r n g m).ld n k=g[k]?:=zep (s:=V1 s r n)
theorem V2.ldN (h:g.length=j):(V2 s r n g m).ldN n 0 j=some (.agg g.toArray):=by
 rw [zov]
 have:=zfz (s:=V1 s r n) (r:=g) (z:=0) (k:=0) (n:=j)
 rw [show (V1 s r n).next=n from rfl] at this
 rw [this,zdB h];rfl
theorem V2.stW1 (hn:s.next<n) (hl:s.lim≤s.next) (h1:vs.all one=true) (hv:vs.length=j) (hr:r.length=j):(V2 s r n g m).stV s.next 0 j (.agg vs.toArray)=some (V2 s vs n g m):=by
 rw [zlk,zqz (s:=V1 s r n) (show s.next≠n by omega),V1.stW hl h1 hv hr];rfl
theorem V2.rdN1 (hn:s.next<n) (h:r.length=j):(V2 s r n g m).rdN s.next 0 j=some (.agg r.toArray):=by
 rw [ziY,zqA (s:=V1 s r n) (show s.next≠n by omega),V1.rdN h]
theorem V2.fin (hn:s.next<n) (hl:s.lim≤s.next) {f:Fl} (hr:r.length=4):(V2 s r n f.row m).ldN n 0 4=some f.val∧(V2 s r n f.row m).stV s.next 0 4 f.val=some (V2 s f.row n f.row m)∧(V2 s f.row n f.row m).rdN s.next 0 4=some f.val:=
 ⟨V2.ldN rfl,V2.stW1 hn hl (Fl.one f) rfl hr,V2.rdN1 hn rfl⟩
theorem Fl.spl (f:Fl) (b:Bool):zaI f.row 0 [.bool b]=some (Fl.row { f with n:=b })∧zaI f.row 1 [.bool b]=some (Fl.row { f with z:=b })∧zaI f.row 2 [.bool b]=some (Fl.row { f with v:=b })∧zaI f.row 3 [.bool b]=some (Fl.row { f with c:=b }):=⟨rfl,rfl,rfl,rfl⟩
theorem V2.fl (hl:s.lim≤n) (f:Fl) (b:Bool):(V2 s r n f.row m).st n 0 [.bool b]=some (V2 s r n (Fl.row { f with n:=b }) m)∧(V2 s r n f.row m).st n 2 [.bool b]=some (V2 s r n (Fl.row { f with v:=b }) m)∧(V2 s r n f.row m).st n 3 [.bool b]=some (V2 s r n (Fl.row { f with c:=b }) m):=by
 refine ⟨?_,?_,?_⟩<;>rw [V2.st hl rfl]
 ·rw [(Fl.spl f b).1];rfl
 ·rw [(Fl.spl f b).2.2.1];rfl
 ·rw [(Fl.spl f b).2.2.2];rfl
theorem V2.put (hl:s.lim≤n) (f:Fl):(V2 s r n fl0 (n+1)).stV n 0 4 f.val=some (V2 s r n f.row (n+1)):=V2.stW hl (Fl.one f) rfl rfl
end
def addS (a b:Int) (c:Bool) (s:Int):Int:=
 let m:=IntKind.wrap .u64 (zaB s)
 let n9:=IntKind.wrap .u64 (zai .u64 (IntKind.wrap .u64 a) m+zai .u64 (IntKind.wrap .u64 b) m)
 cond c (IntKind.wrap .u64 (n9+1)) n9
def zds (s sum:Int):Int:=IntKind.wrap .u32 (zai .u64 sum (IntKind.wrap .u64 (zaB s)))
def addV (a b x s:Int):Bool:=if s=0 then false else zjR (zai .u32 (zbd .u32 4294967295 (zbd .u32 a b)) (zbd .u32 a x)) s
def zgg (a b s sum:Int):Fl:={ zay (zds s sum) s with c:=decide (IntKind.wrap .u64 (zaB s)<sum),v:=addV a b (zds s sum) s }
theorem add6 [Sym] (a b sz sum:Int) (s:SS) (n:Nat) (hl:s.lim≤s.next) (hn:s.next<n):
  ∃ n2 m,n≤n2∧n2≤m∧zeu 1000006 [.int .u32 a,.int .u32 b,.int .i64 sz,ptr s.next 0,.int .u64 (IntKind.wrap .u64 (zaB sz)),.int .u64 sum] (V1 s fl0 n)=some (0,[.int .u32 (zds sz sum),ptr s.next 0],V2 s (zgg a b sz sum).row n2 (zgg a b sz sum).row m):=by
 obtain ⟨n3,h3,e3⟩:=zdr (zds sz sum) sz (V1 s fl0 n)
 have h3':n≤n3:=h3
 have hl3:s.lim≤n3:=by omega
 have p5:=V2.put (s:=s) (r:=fl0) hl3 (zay (zds sz sum) sz)
 have p6:=(V2.fl (s:=s) (r:=fl0) (m:=n3+1) hl3 (zay (zds sz sum) sz) (decide (IntKind.wrap .u64 (zaB sz)<sum))).2.2
 obtain ⟨n11,h11,e11⟩:=znd (zai .u32 (zbd .u32 4294967295 (zbd .u32 a b)) (zbd .u32 a (zds sz sum))) sz (V2 s fl0 n3 (Fl.row { zay (zds sz sum) sz with c:=decide (IntKind.wrap .u64 (zaB sz)<sum) }) (n3+1))
 by_cases hs:sz=0
 ·have q13:=(V2.fl (s:=s) (r:=fl0) (m:=n3+1) hl3 { zay (zds sz sum) sz with c:=decide (IntKind.wrap .u64 (zaB sz)<sum) } false).2.1
  have hF:zgg a b sz sum={ zay (zds sz sum) sz with c:=decide (IntKind.wrap .u64 (zaB sz)<sum),v:=false }:=by unfold zgg addV;rw [if_pos hs]
  obtain ⟨f1,f2,f3⟩:=V2.fin (s:=s) (n:=n3) (m:=n3+1) (r:=fl0) (by omega) hl (f:=zgg a b sz sum) rfl
  rw [← hF] at q13
  refine ⟨n3,n3+1,h3',by omega,zgx _ _ _ _ _ _ _ ?_⟩
  unfold zf9
  refine zbi.2 ⟨_,e3,?_⟩
  refine zbi.2 ⟨_,p5,?_⟩
  refine zbi.2 ⟨_,p6,?_⟩
  rw [hs] at*
  simp only [decide_true,znt,zcf]
  refine zbi.2 ⟨_,q13,?_⟩
  refine zbi.2 ⟨_,f1,?_⟩
  simp only [zaa,zob]
  refine zbi.2 ⟨_,f2,?_⟩
  rfl
 ·have q13:=(V2.fl (s:=s) (r:=fl0) (m:=n11) hl3 { zay (zds sz sum) sz with c:=decide (IntKind.wrap .u64 (zaB sz)<sum) } (zjR (zai .u32 (zbd .u32 4294967295 (zbd .u32 a b)) (zbd .u32 a (zds sz sum))) sz)).2.1
  have hF:zgg a b sz sum={ zay (zds sz sum) sz with c:=decide (IntKind.wrap .u64 (zaB sz)<sum),v:=zjR (zai .u32 (zbd .u32 4294967295 (zbd .u32 a b)) (zbd .u32 a (zds sz sum))) sz }:=by unfold zgg addV;rw [if_neg hs]
  have h11':n3+1≤n11:=h11
  obtain ⟨f1,f2,f3⟩:=V2.fin (s:=s) (n:=n3) (m:=n11) (r:=fl0) (by omega) hl (f:=zgg a b sz sum) rfl
  rw [← hF] at q13
  refine ⟨n3,n11,h3',by omega,zgx _ _ _ _ _ _ _ ?_⟩
  unfold zf9
  refine zbi.2 ⟨_,e3,?_⟩
  refine zbi.2 ⟨_,p5,?_⟩
  refine zbi.2 ⟨_,p6,?_⟩
  simp only [hs,decide_false,znf,zct]
  refine zbi.2 ⟨_,e11,?_⟩
  simp only [zob,zat]
  refine zbi.2 ⟨_,q13,?_⟩
  refine zbi.2 ⟨_,f1,?_⟩
  simp only [zaa,zob]
  refine zbi.2 ⟨_,f2,?_⟩
  rfl
def zeq (a b:Int) (c:Bool) (s:Int):Int×Fl:=(zds s (addS a b c s),zgg a b s (addS a b c s))
def zbA (x:Int×Fl):Value:=.tuple #[.int .u32 x.1,x.2.val]
theorem zkQ [Sym] (a b:Int) (c:Bool) (sz:Int):Pf 66 [.int .u32 a,.int .u32 b,.bool c,.int .i64 sz] (zbA (zeq a b c sz)):=fun st=>by
 obtain ⟨n2,h2,e2⟩:=za6 sz ((st.ro st.next).new (.cells fl0 0))
 have h2':st.next+1≤n2:=h2
 obtain ⟨n3,m,h3,h4,e6⟩:=add6 a b sz (addS a b c sz) (st.ro st.next) n2 (zlr _) (by show st.next<n2;omega)
 obtain ⟨f1,f2,f3⟩:=V2.fin (s:=st.ro st.next) (n:=n3) (m:=m) (r:=fl0) (by show st.next<n3;omega) (zlr _) (f:=zgg a b sz (addS a b c sz)) rfl
 refine ⟨m,by omega,znX _ _ _ _ st ?_⟩
 unfold zmP
 refine zbi.2 ⟨_,e2,?_⟩
 simp only [zob,zac]
 cases c with
 | true=>
   simp only [zct]
   refine zbi.2 ⟨_,e6,?_⟩
   simp only [zgz,zgs,zob,zac,zaa]
   refine zbi.2 ⟨_,f3,?_⟩
   rfl
 | false=>
   simp only [zcf]
   refine zbi.2 ⟨_,e6,?_⟩
   simp only [zgz,zgs,zob,zac,zaa]
   refine zbi.2 ⟨_,f3,?_⟩
   rfl
end Go.Proofs.YtlpigjmjgclgiaaDoorE
namespace Go.Proofs.YtlpigjmjgclgiaaDoorE
open Go Go.E Go.Proofs
theorem bs {α β:Type} {x:Option α} {a:α} {f:α→Option β} {r:β} (h:x=some a) (k:f a=some r):x.bind f=some r:=by rw [h];exact k
def zcZ (a b:Int) (bo:Bool) (s:Int):Int×Fl:=
 let r:=zeq a (zbd .u32 4294967295 b) (!bo) s
 (r.1,{ r.2 with c:=if zaB s=0 then false else !r.2.c })
theorem zh8 [Sym] (a b:Int) (bo:Bool) (sz:Int):Pf 65 [.int .u32 a,.int .u32 b,.bool bo,.int .i64 sz] (zbA (zcZ a b bo sz)):=fun st=>by
 obtain ⟨n3,h3,e3⟩:=zkQ a (zbd .u32 4294967295 b) (!bo) sz ((st.ro st.next).new (.cells fl0 0))
 have h3':st.next+1≤n3:=h3
 obtain ⟨r,hr⟩:∃ r,zeq a (zbd .u32 4294967295 b) (!bo) sz=r:=⟨_,rfl⟩
 rw [hr] at e3
 have hl:(st.ro st.next).lim≤n3:=by show st.next≤n3;omega
 have e7:=V2.put (s:=st.ro st.next) (r:=fl0) hl r.2
 obtain ⟨n8,h8,e8⟩:=za6 sz (V2 (st.ro st.next) fl0 n3 r.2.row (n3+1))
 have h8':n3+1≤n8:=h8
 have hS:zcZ a b bo sz=(r.1,{ r.2 with c:=if zaB sz=0 then false else !r.2.c }):=by unfold zcZ;rw [hr]
 by_cases hm:zaB sz=0
 ·have e11:=(V2.fl (s:=st.ro st.next) (r:=fl0) (m:=n8) hl r.2 false).2.2
  obtain ⟨f1,f2,f3⟩:=V2.fin (s:=st.ro st.next) (n:=n3) (m:=n8) (r:=fl0) (by show st.next<n3;omega) (zlr _) (f:={ r.2 with c:=false }) rfl
  rw [hS,if_pos hm]
  refine ⟨n8,by omega,zjw _ _ _ _ st ?_⟩
  unfold zjN
  refine bs e3 ?_
  simp only [zbA,zcE,zcF,zob,zac]
  refine bs e7 (bs e8 ?_)
  simp only [zob,zac,hm,decide_true,znt,zcf]
  refine bs e11 (bs f1 (bs f2 (bs f3 rfl)))
 ·have e10:(V2 (st.ro st.next) fl0 n3 r.2.row n8).ld n3 3=some (.bool r.2.c):=V2.ld
  have e11:=(V2.fl (s:=st.ro st.next) (r:=fl0) (m:=n8) hl r.2 (!r.2.c)).2.2
  obtain ⟨f1,f2,f3⟩:=V2.fin (s:=st.ro st.next) (n:=n3) (m:=n8) (r:=fl0) (by show st.next<n3;omega) (zlr _) (f:={ r.2 with c:=!r.2.c }) rfl
  rw [hS,if_neg hm]
  refine ⟨n8,by omega,zjw _ _ _ _ st ?_⟩
  unfold zjN
  refine bs e3 ?_
  simp only [zbA,zcE,zcF,zob,zac]
  refine bs e7 (bs e8 ?_)
  simp only [zob,zac,hm,decide_false,znf,zct]
  refine bs (show ((V2 (st.ro st.next) fl0 n3 r.2.row n8).ld n3 3).bind asB=some r.2.c from by rw [e10];rfl) ?_
  refine bs e11 (bs f1 (bs f2 (bs f3 rfl)))
def sx (x s:Int):Int:=IntKind.wrap .i64 (IntKind.wrap .i32 (zbP x s))
def mulP (a b s:Int):Int:=IntKind.wrap .i64 (sx a s*sx b s)
def zhd (a b s:Int):Int:=zai .u32 (IntKind.wrap .u32 (mulP a b s)) (zaB s)
def mulT (a b s:Int):Int×Fl:=(zhd a b s,{ zay (zhd a b s) s with v:=!decide (sx (zhd a b s) s=mulP a b s) })
theorem mul_ok [Sym] (a b:Int) (sz:Int):Pf 67 [.int .u32 a,.int .u32 b,.int .i64 sz] (zbA (mulT a b sz)):=fun st=>by
 obtain ⟨n2,h2,e2⟩:=zcq a sz ((st.ro st.next).new (.cells fl0 0))
 have h2':st.next+1≤n2:=h2
 obtain ⟨n6,h6,e6⟩:=zcq b sz (V1 (st.ro st.next) fl0 n2)
 have h6':n2≤n6:=h6
 obtain ⟨n12,h12,e12⟩:=za6 sz (V1 (st.ro st.next) fl0 n6)
 have h12':n6≤n12:=h12
 obtain ⟨n15,h15,e15⟩:=zdr (zhd a b sz) sz (V1 (st.ro st.next) fl0 n12)
 have h15':n12≤n15:=h15
 have hl:(st.ro st.next).lim≤n15:=by show st.next≤n15;omega
 have e17:=V2.put (s:=st.ro st.next) (r:=fl0) hl (zay (zhd a b sz) sz)
 obtain ⟨n18,h18,e18⟩:=zcq (zhd a b sz) sz (V2 (st.ro st.next) fl0 n15 (zay (zhd a b sz) sz).row (n15+1))
 have h18':n15+1≤n18:=h18
 have e22:=(V2.fl (s:=st.ro st.next) (r:=fl0) (m:=n18) hl (zay (zhd a b sz) sz) (!decide (sx (zhd a b sz) sz=mulP a b sz))).2.1
 obtain ⟨f1,f2,f3⟩:=V2.fin (s:=st.ro st.next) (n:=n15) (m:=n18) (r:=fl0) (by show st.next<n15;omega) (zlr _) (f:=(mulT a b sz).2) rfl
 refine ⟨n18,by omega,zn2 _ _ _ st ?_⟩
 unfold bits_Mul
 refine bs e2 ?_
 simp only [zob,zac]
 refine bs e6 ?_
 simp only [zob,zac]
 refine bs e12 ?_
 simp only [zob,zac]
 refine bs e15 (bs e17 (bs e18 ?_))
 simp only [zob,zac]
 refine bs e22 (bs f1 (bs f2 (bs f3 rfl)))
def zme (a b s:Int):Bool×Bool:=(decide (IntKind.wrap .i32 (zbP a s)<IntKind.wrap .i32 (zbP b s)),decide (zai .u32 a (zaB s)<zai .u32 b (zaB s)))
theorem zrh [Sym] (a b:Int) (sz:Int):Pf 73 [.int .u32 a,.int .u32 b,.int .i64 sz] (.tuple #[.bool (zme a b sz).1,.bool (zme a b sz).2]):=fun st=>by
 obtain ⟨n1,h1,e1⟩:=za6 sz (st.ro st.next)
 obtain ⟨n3,h3,e3⟩:=zcq a sz ((st.ro st.next).adv n1)
 obtain ⟨n6,h6,e6⟩:=zcq b sz ((st.ro st.next).adv n3)
 have h1':st.next≤n1:=h1
 have h3':n1≤n3:=h3
 have h6':n3≤n6:=h6
 refine ⟨n6,by omega,zmS _ _ _ st ?_⟩
 unfold zlO
 refine bs e1 ?_
 simp only [zob,zac]
 refine bs e3 ?_
 simp only [zob,zac]
 refine bs e6 rfl
def zjS (a b s:Int):Fl:=⟨(zme a b s).1,decide (zai .u32 (zbd .u32 a b) (zaB s)=0),false,(zme a b s).2⟩
theorem cmp_ok [Sym] (a b:Int) (sz:Int):Pf 69 [.int .u32 a,.int .u32 b,.int .i64 sz] (zjS a b sz).val:=fun st=>by
 obtain ⟨n2,h2,e2⟩:=zrh a b sz ((st.ro st.next).new (.cells fl0 0))
 have h2':st.next+1≤n2:=h2
 obtain ⟨n6,h6,e6⟩:=za6 sz (V1 (st.ro st.next) fl0 n2)
 have h6':n2≤n6:=h6
 have e9:(V1 (st.ro st.next) fl0 n6).st (st.ro st.next).next 0 (zjS a b sz).row=some (V1 (st.ro st.next) (zjS a b sz).row n6):=by rw [V1.st (zlr _) (Fl.one _)];rfl
 have e10:(V1 (st.ro st.next) (zjS a b sz).row n6).rdN (st.ro st.next).next 0 4=some (zjS a b sz).val:=V1.rdN rfl
 refine ⟨n6,by omega,zkM _ _ _ st ?_⟩
 unfold zib
 refine bs e2 ?_
 simp only [zcE,zcF,zob,zat]
 refine bs e6 ?_
 simp only [zob,zac]
 refine bs e9 (bs e10 rfl)
def zjT (a b s:Int):Int:=IntKind.wrap .i64 ((sx a s).tdiv (sx b s))
def zjU (a b s:Int):Int:=zai .u32 (IntKind.wrap .u32 (zjT a b s)) (zaB s)
def zfV (a b s:Int):Bool:=!decide (sx b s=0)&&decide (sx (zjU a b s) s=zjT a b s)
def zc0 (a b s:Int):Int:=cond (zfV a b s) (zjU a b s) (zai .u32 a (zaB s))
def zhe (a b s:Int):Fl:={ zay (zc0 a b s) s with v:=!zfV a b s }
theorem div_ok [Sym] (a b:Int) (sz:Int):Pf 68 [.int .u32 a,.int .u32 b,.int .i64 sz] (.tuple #[.int .u32 (zc0 a b sz),(zhe a b sz).val,.bool (!decide (sx b sz=0))]):=fun st=>by
 obtain ⟨n2,h2,e2⟩:=zcq a sz ((st.ro st.next).new (.cells fl0 0))
 have h2':st.next+1≤n2:=h2
 obtain ⟨n6,h6,e6⟩:=zcq b sz (V1 (st.ro st.next) fl0 n2)
 have h6':n2≤n6:=h6
 obtain ⟨n10,h10,e10⟩:=za6 sz (V1 (st.ro st.next) fl0 n6)
 have h10':n6≤n10:=h10
 have tail:∀ (x:Int) (k:Nat) (v:Bool),n10≤k→∃ n m,k≤n∧n<m∧cc 50 [.int .u32 x,.int .i64 sz] (V1 (st.ro st.next) fl0 k)=some ((zay x sz).val,V1 (st.ro st.next) fl0 n)∧
   (V2 (st.ro st.next) fl0 n fl0 m).stV n 0 4 (zay x sz).val=some (V2 (st.ro st.next) fl0 n (zay x sz).row m)∧m=n+1∧(V2 (st.ro st.next) fl0 n (zay x sz).row m).st n 2 [.bool v]=some (V2 (st.ro st.next) fl0 n (Fl.row { zay x sz with v:=v }) m)∧
   (V2 (st.ro st.next) fl0 n (Fl.row { zay x sz with v:=v }) m).ldN n 0 4=some (Fl.val { zay x sz with v:=v })∧(V2 (st.ro st.next) fl0 n (Fl.row { zay x sz with v:=v }) m).stV (st.ro st.next).next 0 4 (Fl.val { zay x sz with v:=v })=some (V2 (st.ro st.next) (Fl.row { zay x sz with v:=v }) n (Fl.row { zay x sz with v:=v }) m)∧
   (V2 (st.ro st.next) (Fl.row { zay x sz with v:=v }) n (Fl.row { zay x sz with v:=v }) m).rdN (st.ro st.next).next 0 4=some (Fl.val { zay x sz with v:=v }):=fun x k v hk=>by
  obtain ⟨n,h,e⟩:=zdr x sz (V1 (st.ro st.next) fl0 k)
  have h':k≤n:=h
  have hl:(st.ro st.next).lim≤n:=by show st.next≤n;omega
  obtain ⟨f1,f2,f3⟩:=V2.fin (s:=st.ro st.next) (n:=n) (m:=n+1) (r:=fl0) (by show st.next<n;omega) (zlr _) (f:={ zay x sz with v:=v }) rfl
  exact ⟨n,n+1,h',by omega,e,V2.put (s:=st.ro st.next) (r:=fl0) hl _,rfl,(V2.fl (s:=st.ro st.next) (r:=fl0) (m:=n+1) hl _ v).2.1,f1,f2,f3⟩
 by_cases hq:sx b sz=0
 ·have ho:zfV a b sz=false:=by unfold zfV;rw [zdt hq];rfl
  obtain ⟨n,m,g1,g2,g3,g4,rfl,g5,g6,g7,g8⟩:=tail (zc0 a b sz) n10 true (zlr _)
  have hx:zc0 a b sz=zai .u32 a (zaB sz):=by unfold zc0;rw [ho];rfl
  have hF:zhe a b sz={ zay (zc0 a b sz) sz with v:=true }:=by unfold zhe;rw [ho];rfl
  rw [hF]
  refine ⟨n+1,by omega,zga _ _ _ st ?_⟩
  unfold zhc
  refine bs e2 ?_
  simp only [zob,zac]
  refine bs e6 ?_
  simp only [zob,zac]
  refine bs e10 ?_
  have hq':IntKind.wrap .i64 (IntKind.wrap .i32 (zbP b sz))=0:=hq
  simp only [zob,zac,hq',decide_true,znt,zcf]
  rw [← hx]
  refine bs g3 (bs g4 (bs g5 (bs g6 (bs g7 (bs g8 ?_)))))
  rw [hq];rfl
 ·have hq':¬ IntKind.wrap .i64 (IntKind.wrap .i32 (zbP b sz))=0:=hq
  obtain ⟨n15,h15,e15⟩:=za6 sz (V1 (st.ro st.next) fl0 n10)
  have h15':n10≤n15:=h15
  obtain ⟨n18,h18,e18⟩:=zcq (zjU a b sz) sz (V1 (st.ro st.next) fl0 n15)
  have h18':n15≤n18:=h18
  have eq13:aI .quo .i64 (IntKind.wrap .i64 (IntKind.wrap .i32 (zbP a sz))) (IntKind.wrap .i64 (IntKind.wrap .i32 (zbP b sz)))=some (.int .i64 (zjT a b sz)):=by
   unfold aI;rw [zdf hq'];rfl
  by_cases hk:sx (zjU a b sz) sz=zjT a b sz
  ·have ho:zfV a b sz=true:=by unfold zfV;rw [zdf hq,zdt hk];rfl
   obtain ⟨n,m,g1,g2,g3,g4,rfl,g5,g6,g7,g8⟩:=tail (zc0 a b sz) n18 false (by omega)
   have hx:zc0 a b sz=zjU a b sz:=by unfold zc0;rw [ho];rfl
   have hF:zhe a b sz={ zay (zc0 a b sz) sz with v:=false }:=by unfold zhe;rw [ho];rfl
   rw [hF]
   refine ⟨n+1,by omega,zga _ _ _ st ?_⟩
   unfold zhc
   refine bs e2 ?_
   simp only [zob,zac]
   refine bs e6 ?_
   simp only [zob,zac]
   refine bs e10 ?_
   simp only [zob,zac,hq',decide_false,znf,zct,eq13]
   refine bs e15 ?_
   simp only [zob,zac]
   refine bs e18 ?_
   have hk':IntKind.wrap .i64 (IntKind.wrap .i32 (zbP (zjU a b sz) sz))=zjT a b sz:=hk
   simp only [zob,zac,hk',decide_true,zct]
   rw [show zai .u32 (IntKind.wrap .u32 (zjT a b sz)) (zaB sz)=zc0 a b sz from hx.symm]
   refine bs g3 (bs g4 (bs g5 (bs g6 (bs g7 (bs g8 ?_)))))
   rw [zdf hq];rfl
  ·have ho:zfV a b sz=false:=by unfold zfV;rw [zdf hq,zdf hk];rfl
   obtain ⟨n,m,g1,g2,g3,g4,rfl,g5,g6,g7,g8⟩:=tail (zc0 a b sz) n18 true (by omega)
   have hx:zc0 a b sz=zai .u32 a (zaB sz):=by unfold zc0;rw [ho];rfl
   have hF:zhe a b sz={ zay (zc0 a b sz) sz with v:=true }:=by unfold zhe;rw [ho];rfl
   rw [hF]
   refine ⟨n+1,by omega,zga _ _ _ st ?_⟩
   unfold zhc
   refine bs e2 ?_
   simp only [zob,zac]
   refine bs e6 ?_
   simp only [zob,zac]
   refine bs e10 ?_
   simp only [zob,zac,hq',decide_false,znf,zct,eq13]
   refine bs e15 ?_
   simp only [zob,zac]
   refine bs e18 ?_
   have hk':¬ IntKind.wrap .i64 (IntKind.wrap .i32 (zbP (zjU a b sz) sz))=zjT a b sz:=hk
   simp only [zob,zac,hk',decide_false,zcf]
   rw [← hx]
   refine bs g3 (bs g4 (bs g5 (bs g6 (bs g7 (bs g8 ?_)))))
   rw [zdf hq];rfl
end Go.Proofs.YtlpigjmjgclgiaaDoorE
namespace Go.Proofs.YtlpigjmjgclgiaaDoorE
open Go Go.E Go.Proofs
theorem zi0 {k:IntKind} (hk:k.signed=false) (x:Int):0≤IntKind.wrap k x:=by
 cases k<;>simp [IntKind.signed] at hk<;>(unfold IntKind.wrap;simp [IntKind.bits,IntKind.signed];omega)
theorem wrap8 (x:Int): -128≤IntKind.wrap .i8 x∧IntKind.wrap .i8 x≤127:=by
 unfold IntKind.wrap;simp [IntKind.bits,IntKind.signed];split<;>omega
theorem zpU (x:Int):0≤IntKind.wrap .u32 x∧IntKind.wrap .u32 x<4294967296:=by
 unfold IntKind.wrap;simp [IntKind.bits,IntKind.signed];omega
theorem zda {k:IntKind} {a b:Int} (h:0≤b):aI .shl k a b=some (.int k (zbZ k a b)):=by unfold aI;simp only;rw [zdf (by omega)];rfl
theorem zfA {k:IntKind} {a b:Int} (h:0≤b):aI .shr k a b=some (.int k (zbm k a b)):=by unfold aI;simp only;rw [zdf (by omega)];rfl
theorem zpV (x:Int) {n:Nat} (hn:n≤8):zai .i64 x ((2^n-1:Nat):Int)=x%((2^n:Nat):Int):=by
 have hp:2^n≤2^8:=Nat.pow_le_pow_right (by omega) hn
 have hp0:0<2^n:=Nat.two_pow_pos _
 have hd:(2:Nat)^64=2^n*2^(64-n):=by rw [← Nat.pow_add];congr 1;omega
 unfold zai
 have e1:(BitVec.ofInt 64 x&&& BitVec.ofInt 64 ((2^n-1:Nat):Int)).toNat=(x%2^64).toNat%2^n:=by
  rw [BitVec.toNat_and,BitVec.toNat_ofInt,BitVec.toNat_ofInt]
  have h2:(((2^n-1:Nat):Int)%((2^64:Nat):Int)).toNat=2^n-1:=by
   generalize 2^n=q at hp hp0
   omega
  rw [h2,Nat.and_two_pow_sub_one_eq_mod]
  rfl
 show IntKind.wrap .i64 ((BitVec.ofInt 64 x&&& BitVec.ofInt 64 ((2^n-1:Nat):Int)).toNat:Int)=_
 rw [e1]
 have h3:(((x%2^64).toNat%2^n:Nat):Int)=x%((2^n:Nat):Int):=by
  rw [Int.natCast_emod,Int.toNat_of_nonneg (Int.emod_nonneg _ (by omega))]
  have:(2:Int)^64=((2^n:Nat):Int)*((2^(64-n):Nat):Int):=by rw [← Int.natCast_mul,← hd];rfl
  rw [this]
  exact Int.emod_emod_of_dvd x (Int.dvd_mul_right _ _)
 rw [h3]
 have h4:0≤x%((2^n:Nat):Int):=Int.emod_nonneg _ (by omega)
 have h5:x%((2^n:Nat):Int)<((2^n:Nat):Int):=Int.emod_lt_of_pos _ (by omega)
 exact wrap64 (by omega) (by omega)
theorem zo6 (x:Int):0≤zai .i64 x 31:=by
 have:zai .i64 x 31=x%32:=zpV x (n:=5) (by omega)
 rw [this];omega
def zaP (x:Int):Fl:=⟨decide (zbm .u32 x 31=1),decide (x=0),false,false⟩
theorem zhf [Sym] (x:Int):Pf 60 [.int .u32 x] (zaP x).val:=fun st=>by
 have e3:(V1 (st.ro st.next) fl0 (st.next+1)).st (st.ro st.next).next 0 (zaP x).row=some (V1 (st.ro st.next) (zaP x).row (st.next+1)):=by rw [V1.st (zlr _) (Fl.one _)];rfl
 have e4:(V1 (st.ro st.next) (zaP x).row (st.next+1)).rdN (st.ro st.next).next 0 4=some (zaP x).val:=V1.rdN rfl
 refine ⟨st.next+1,by omega,zli _ st ?_⟩
 unfold zjx
 refine bs e3 (bs e4 rfl)
def zii (s:Int):Int:=if 32<(if 0>s then 0 else s) then 32 else if 0>s then 0 else s
theorem zqB (s:Int):0≤zii s:=by unfold zii;split<;>(try split)<;>omega
def zjV (s:Int):Int:=IntKind.wrap .u64 (zbZ .u64 1 (zii s)-1)
theorem zne [Sym] (s:Int):Pf 62 [.int .i64 s] (.int .u64 (zjV s)):=fun st=>by
 refine ⟨st.next,zlr _,zmZ _ st ?_⟩
 unfold zlQ
 refine bs (show (aI .shl .u64 1 (zii s)).bind (asI .u64)=some (zbZ .u64 1 (zii s)) from by rw [zda (zqB s)];rfl) rfl
def zer (x n w y:Int):Bool:=if n<32 then !decide (w=IntKind.wrap .i64 (IntKind.wrap .i32 y)) else !decide (x=0)
theorem ash11 [Sym] (x n w y:Int) (s:SS) (n0:Nat) (hl:s.lim≤s.next) (hn:s.next<n0):
  ∃ n2,n0≤n2∧zdS 1000011 [.int .u32 x,ptr s.next 0,.int .i64 n,.int .i64 w,.int .u32 y] (V1 s fl0 n0)=some (0,[.int .u32 y,ptr s.next 0],V2 s (Fl.row { zaP y with v:=zer x n w y }) n2 (Fl.row { zaP y with v:=zer x n w y }) (n2+1)):=by
 obtain ⟨n1,h1,e1⟩:=zhf y (V1 s fl0 n0)
 have h1':n0≤n1:=h1
 have hl1:s.lim≤n1:=by omega
 have e3:=V2.put (s:=s) (r:=fl0) hl1 (zaP y)
 have fin:∀ v:Bool,zer x n w y=v→(V2 s fl0 n1 (zaP y).row (n1+1)).st n1 2 [.bool v]=some (V2 s fl0 n1 (Fl.row { zaP y with v:=zer x n w y }) (n1+1)):=fun v hv=>by
  rw [hv];exact (V2.fl hl1 (zaP y) v).2.1
 obtain ⟨f1,f2,f3⟩:=V2.fin (s:=s) (n:=n1) (m:=n1+1) (r:=fl0) (by omega) hl (f:={ zaP y with v:=zer x n w y }) rfl
 refine ⟨n1,h1',zjO _ _ _ _ _ _ ?_⟩
 unfold zhq
 refine bs e1 (bs e3 ?_)
 by_cases hn32:n<32
 ·simp only [hn32,decide_true,zct]
  by_cases hw:w=IntKind.wrap .i64 (IntKind.wrap .i32 y)
  ·have:¬ 32≤n:=by omega
   simp only [zdt hw,znt,zcf,this,decide_false]
   refine bs (fin false (by unfold zer;rw [if_pos hn32,zdt hw];rfl)) (bs f1 ?_)
   simp only [zaa,zob]
   exact bs f2 rfl
  ·simp only [zdf hw,znf,zct]
   refine bs (fin true (by unfold zer;rw [if_pos hn32,zdf hw];rfl)) (bs f1 ?_)
   simp only [zaa,zob]
   exact bs f2 rfl
 ·have h32:32≤n:=by omega
  simp only [hn32,decide_false,zcf,h32,decide_true,zct]
  refine bs (fin _ (by unfold zer;rw [if_neg hn32])) (bs f1 ?_)
  simp only [zaa,zob]
  exact bs f2 rfl
def zbe (c:Int):Int:=IntKind.wrap .i64 (IntKind.wrap .i8 c)
def zdU (c x:Int):Int:=if zbe c<32 then zbZ .i64 (IntKind.wrap .i64 (IntKind.wrap .i32 x)) (zbe c) else IntKind.wrap .i64 (IntKind.wrap .i32 x)
def zdu (c x:Int):Int×Fl:=
 if zbe c<0 then
  let y:=IntKind.wrap .u32 (zbm .i32 (IntKind.wrap .i32 x) (if 31<IntKind.wrap .i64 (0-zbe c) then 31 else IntKind.wrap .i64 (0-zbe c)))
  (y,zaP y)
 else
  let y:=if zbe c<32 then IntKind.wrap .u32 (zdU c x) else 0
  (y,{ zaP y with v:=zer x (zbe c) (zdU c x) y })
theorem ash_ok [Sym] (c x:Int):Pf 44 [.int .u8 c,.int .u32 x] (zbA (zdu c x)):=fun st=>by
 by_cases h0:zbe c<0
 ·have hb:=wrap8 c
  have h0':IntKind.wrap .i64 (IntKind.wrap .i8 c)<0:=h0
  have e64:zbe c=IntKind.wrap .i8 c:=wrap64 (by omega) (by omega)
  have e5:IntKind.wrap .i64 (0-zbe c)=0-zbe c:=wrap64 (by omega) (by omega)
  have hnn:0≤(if 31<IntKind.wrap .i64 (0-zbe c) then 31 else IntKind.wrap .i64 (0-zbe c)):=by rw [e5];split<;>omega
  obtain ⟨y,hy⟩:∃ y,IntKind.wrap .u32 (zbm .i32 (IntKind.wrap .i32 x) (if 31<IntKind.wrap .i64 (0-zbe c) then 31 else IntKind.wrap .i64 (0-zbe c)))=y:=⟨_,rfl⟩
  have hT:zdu c x=(y,zaP y):=by unfold zdu;rw [if_pos h0,hy]
  obtain ⟨n9,h9,e9⟩:=zhf y ((st.ro st.next).new (.cells fl0 0))
  have h9':st.next+1≤n9:=h9
  have e10:(V1 (st.ro st.next) fl0 n9).stV (st.ro st.next).next 0 4 (zaP y).val=some (V1 (st.ro st.next) (zaP y).row n9):=V1.stW (zlr _) (Fl.one _) rfl rfl
  have e11:(V1 (st.ro st.next) (zaP y).row n9).rdN (st.ro st.next).next 0 4=some (zaP y).val:=V1.rdN rfl
  rw [hT]
  refine ⟨n9,by omega,zft _ _ st ?_⟩
  unfold zfT
  simp only [h0',decide_true,zct]
  refine bs (show (aI .shr .i32 (IntKind.wrap .i32 x) (if 31<IntKind.wrap .i64 (0-zbe c) then 31 else IntKind.wrap .i64 (0-zbe c))).bind (asI .i32)=some _ from by rw [zfA hnn];rfl) ?_
  rw [hy]
  exact bs e9 (bs e10 (bs e11 rfl))
 ·have h0':¬ IntKind.wrap .i64 (IntKind.wrap .i8 c)<0:=h0
  have hnn:0≤zbe c:=by omega
  by_cases h32:zbe c<32
  ·have h32':IntKind.wrap .i64 (IntKind.wrap .i8 c)<32:=h32
   have hW:zdU c x=zbZ .i64 (IntKind.wrap .i64 (IntKind.wrap .i32 x)) (zbe c):=by unfold zdU;rw [if_pos h32]
   obtain ⟨y,hy⟩:∃ y,IntKind.wrap .u32 (zdU c x)=y:=⟨_,rfl⟩
   have hT:zdu c x=(y,{ zaP y with v:=zer x (zbe c) (zdU c x) y }):=by unfold zdu;rw [if_neg h0,if_pos h32,hy]
   obtain ⟨n2,g1,g2⟩:=ash11 x (zbe c) (zdU c x) y (st.ro st.next) (st.next+1) (zlr _) (by show st.next<st.next+1;omega)
   obtain ⟨f1,f2,f3⟩:=V2.fin (s:=st.ro st.next) (n:=n2) (m:=n2+1) (r:=fl0) (by show st.next<n2;omega) (zlr _) (f:={ zaP y with v:=zer x (zbe c) (zdU c x) y }) rfl
   rw [hT]
   refine ⟨n2+1,by omega,zft _ _ st ?_⟩
   unfold zfT
   simp only [h0',decide_false,zcf,h32',decide_true,zct]
   refine bs (show (aI .shl .i64 (IntKind.wrap .i64 (IntKind.wrap .i32 x)) (zbe c)).bind (asI .i64)=some (zdU c x) from by rw [zda hnn,hW];rfl) ?_
   rw [hy]
   refine bs g2 ?_
   simp only [zgz,zgs,zob,zac,zaa]
   exact bs f3 rfl
  ·have h32':¬ IntKind.wrap .i64 (IntKind.wrap .i8 c)<32:=h32
   have hW:zdU c x=IntKind.wrap .i64 (IntKind.wrap .i32 x):=by unfold zdU;rw [if_neg h32]
   have hT:zdu c x=(0,{ zaP 0 with v:=zer x (zbe c) (zdU c x) 0 }):=by unfold zdu;rw [if_neg h0,if_neg h32]
   obtain ⟨n2,g1,g2⟩:=ash11 x (zbe c) (zdU c x) 0 (st.ro st.next) (st.next+1) (zlr _) (by show st.next<st.next+1;omega)
   obtain ⟨f1,f2,f3⟩:=V2.fin (s:=st.ro st.next) (n:=n2) (m:=n2+1) (r:=fl0) (by show st.next<n2;omega) (zlr _) (f:={ zaP 0 with v:=zer x (zbe c) (zdU c x) 0 }) rfl
   rw [hT]
   refine ⟨n2+1,by omega,zft _ _ st ?_⟩
   unfold zfT
   simp only [h0',decide_false,zcf,h32']
   rw [← hW]
   refine bs g2 ?_
   simp only [zgz,zgs,zob,zac,zaa]
   exact bs f3 rfl
def zln (k:Int):Int:=zai .u64 (IntKind.wrap .u64 k) 31
theorem zri (k:Int):0≤zln k:=by unfold zln zai;exact zi0 rfl _
def zlo (x k:Int):Int:=orI .u32 (zbZ .u32 x (zln k)) (zbm .u32 x (IntKind.wrap .u64 (32-zln k)))
theorem rol_ok [Sym] (x k:Int):Pf 61 [.int .u32 x,.int .i64 k] (.int .u32 (zlo x k)):=fun st=>by
 refine ⟨st.next,zlr _,ze5 _ _ st ?_⟩
 unfold zc8
 refine bs (show (aI .shl .u32 x (zln k)).bind (asI .u32)=some _ from by rw [zda (zri k)];rfl) ?_
 refine bs (show (aI .shr .u32 x (IntKind.wrap .u64 (32-zln k))).bind (asI .u32)=some _ from by rw [zfA (zi0 rfl _)];rfl) rfl
def zij (c x:Int) (cy:Bool):Int×Fl:=(zlo x (zbe c),{ zaP (zlo x (zbe c)) with c:=cy })
theorem rot_ok [Sym] (c x:Int) (cy:Bool):Pf 45 [.int .u8 c,.int .u32 x,.bool cy] (zbA (zij c x cy)):=fun st=>by
 obtain ⟨n4,h4,e4⟩:=rol_ok x (zbe c) ((st.ro st.next).new (.cells fl0 0))
 have h4':st.next+1≤n4:=h4
 obtain ⟨n6,h6,e6⟩:=zhf (zlo x (zbe c)) (V1 (st.ro st.next) fl0 n4)
 have h6':n4≤n6:=h6
 have hl:(st.ro st.next).lim≤n6:=by show st.next≤n6;omega
 have e8:=V2.put (s:=st.ro st.next) (r:=fl0) hl (zaP (zlo x (zbe c)))
 have e9:=(V2.fl (s:=st.ro st.next) (r:=fl0) (m:=n6+1) hl (zaP (zlo x (zbe c))) cy).2.2
 obtain ⟨f1,f2,f3⟩:=V2.fin (s:=st.ro st.next) (n:=n6) (m:=n6+1) (r:=fl0) (by show st.next<n6;omega) (zlr _) (f:=(zij c x cy).2) rfl
 refine ⟨n6+1,by omega,zmW _ _ _ st ?_⟩
 unfold zlP
 refine bs e4 ?_
 simp only [zob,zac]
 exact bs e6 (bs e8 (bs e9 (bs f1 (bs f2 (bs f3 rfl)))))
def zev (row at0 size:Int):Int:=zai .u64 (zbm .u64 row (zai .i64 at0 31)) (zjV size)
def zi1 (size:Int):Int:=IntKind.wrap .i64 ((if 32<size then 32 else size)-1)
def ze7 (row at0 size:Int) (sg:Bool):Int:=
 if sg=true∧0<size∧zai .u64 (zbm .u64 (zev row at0 size) (zi1 size)) 1=1 then IntKind.wrap .u32 (orI .u64 (zev row at0 size) (zbd .u64 18446744073709551615 (zjV size))) else IntKind.wrap .u32 (zev row at0 size)
theorem zrj [Sym] (row at0 size:Int) (sg:Bool):Pf 46 [.int .u64 row,.int .i64 at0,.int .i64 size,.bool sg] (.int .u32 (ze7 row at0 size sg)):=fun st=>by
 obtain ⟨n3,h3,e3⟩:=zne size (st.ro st.next)
 have h3':st.next≤n3:=h3
 have e2:(aI .shr .u64 row (zai .i64 at0 31)).bind (asI .u64)=some (zbm .u64 row (zai .i64 at0 31)):=by rw [zfA (zo6 at0)];rfl
 have go:∀ m v,n3≤m→zbS cc zfu row at0 size sg st=some (.int .u32 v,st.adv m)→v=ze7 row at0 size sg→∃ n,st.next≤n∧cc 46 [.int .u64 row,.int .i64 at0,.int .i64 size,.bool sg] st=some (.int .u32 (ze7 row at0 size sg),st.adv n):=fun m v hm h hv=>⟨m,by omega,by rw [← hv];exact zjQ _ _ _ _ st h⟩
 cases sg with
 | false=>
   refine go n3 (IntKind.wrap .u32 (zev row at0 size)) (zlr _) ?_ (by unfold ze7;rw [if_neg (by simp)])
   unfold zbS
   refine bs e2 (bs e3 ?_)
   rfl
 | true=>
   by_cases h0:0<size
   ·have hn:0≤zi1 size:=by
     unfold zi1
     rw [wrap64 (by split<;>omega) (by split<;>omega)]
     split<;>omega
    have e8:(aI .shr .u64 (zev row at0 size) (zi1 size)).bind (asI .u64)=some (zbm .u64 (zev row at0 size) (zi1 size)):=by rw [zfA hn];rfl
    by_cases h1:zai .u64 (zbm .u64 (zev row at0 size) (zi1 size)) 1=1
    ·obtain ⟨n10,h10,e10⟩:=zne size ((st.ro st.next).adv n3)
     have h10':n3≤n10:=h10
     refine go n10 (IntKind.wrap .u32 (orI .u64 (zev row at0 size) (zbd .u64 18446744073709551615 (zjV size)))) h10' ?_ (by unfold ze7;rw [if_pos ⟨rfl,h0,h1⟩])
     unfold zbS
     refine bs e2 (bs e3 ?_)
     simp only [zob,zac,zct,h0,decide_true]
     refine bs e8 ?_
     simp only [h1,decide_true,zct]
     exact bs e10 rfl
    ·refine go n3 (IntKind.wrap .u32 (zev row at0 size)) (zlr _) ?_ (by unfold ze7;rw [if_neg (by simp [h1])])
     unfold zbS
     refine bs e2 (bs e3 ?_)
     simp only [zob,zac,zct,h0,decide_true]
     refine bs e8 ?_
     simp only [h1,decide_false,zcf]
     rfl
   ·refine go n3 (IntKind.wrap .u32 (zev row at0 size)) (zlr _) ?_ (by unfold ze7;rw [if_neg (by simp [h0])])
    unfold zbS
    refine bs e2 (bs e3 ?_)
    simp only [zob,zac,zct,h0,decide_false,zcf]
    rfl
def zik (row at0 size x:Int):Int:=orI .u64 (zbj .u64 row (zbZ .u64 (zjV size) (zai .i64 at0 31))) (zai .u64 (zbZ .u64 (IntKind.wrap .u64 x) (zai .i64 at0 31)) (zbZ .u64 (zjV size) (zai .i64 at0 31)))
theorem ins_ok [Sym] (row at0 size x:Int):Pf 47 [.int .u64 row,.int .i64 at0,.int .i64 size,.int .u32 x] (.int .u64 (zik row at0 size x)):=fun st=>by
 obtain ⟨n1,h1,e1⟩:=zne size (st.ro st.next)
 refine ⟨n1,h1,zkP _ _ _ _ st ?_⟩
 unfold zid
 refine bs e1 ?_
 simp only [zob,zac]
 refine bs (show (aI .shl .u64 (zjV size) (zai .i64 at0 31)).bind (asI .u64)=some _ from by rw [zda (zo6 at0)];rfl) ?_
 refine bs (show (aI .shl .u64 (IntKind.wrap .u64 x) (zai .i64 at0 31)).bind (asI .u64)=some _ from by rw [zda (zo6 at0)];rfl) rfl
end Go.Proofs.YtlpigjmjgclgiaaDoorE
namespace Go.Proofs.YtlpigjmjgclgiaaDoorE
open Go Go.E Go.Proofs
def zil (op:Int):Bool:=decide (op=1)||decide (op=2)||decide (op=12)||decide (op=13)||decide (op=14)||decide (op=15)||decide (op=18)
theorem zpW [Sym] (op:Int):Pf 63 [.int .i64 op] (.bool (zil op)):=fun st=>by
 refine ⟨st.next,zlr _,zm2 _ st ?_⟩
 unfold zlT zil
 by_cases h1:op=1
 ·simp only [h1,decide_true,zct];rfl
 by_cases h2:op=2
 ·simp only [h1,h2,decide_false,decide_true,zct,zcf];rfl
 by_cases h3:op=12
 ·simp only [h1,h2,h3,decide_false,decide_true,zct,zcf];rfl
 by_cases h4:op=13
 ·simp only [h1,h2,h3,h4,decide_false,decide_true,zct,zcf];rfl
 by_cases h5:op=14
 ·simp only [h1,h2,h3,h4,h5,decide_false,decide_true,zct,zcf];rfl
 by_cases h6:op=15
 ·simp only [h1,h2,h3,h4,h5,h6,decide_false,decide_true,zct,zcf];rfl
 by_cases h7:op=18
 ·simp only [h1,h2,h3,h4,h5,h6,h7,decide_false,decide_true,zct,zcf];rfl
 simp only [h1,h2,h3,h4,h5,h6,h7,decide_false,zcf];rfl
def zeG (op a b:Int):Int:=if op=1 then a else if op=2 then zbd .u32 4294967295 a else if op=12 then orI .u32 a b else if op=13 then zbj .u32 b a else if op=14 then zbd .u32 a b else if op=15 then zai .u32 a b else 0
theorem zpX [Sym] (op a b:Int):Pf 64 [.int .i64 op,.int .u32 a,.int .u32 b] (.int .u32 (zeG op a b)):=fun st=>by
 refine ⟨st.next,zlr _,zm5 _ _ _ st ?_⟩
 unfold zlU zeG
 by_cases h1:op=1
 ·rw [if_pos h1];simp only [h1,decide_true,zct];rfl
 rw [if_neg h1]
 by_cases h2:op=2
 ·rw [if_pos h2];simp only [h1,h2,decide_false,decide_true,zct,zcf];rfl
 rw [if_neg h2]
 by_cases h3:op=12
 ·rw [if_pos h3];simp only [h1,h2,h3,decide_false,decide_true,zct,zcf];rfl
 rw [if_neg h3]
 by_cases h4:op=13
 ·rw [if_pos h4];simp only [h1,h2,h3,h4,decide_false,decide_true,zct,zcf];rfl
 rw [if_neg h4]
 by_cases h5:op=14
 ·rw [if_pos h5];simp only [h1,h2,h3,h4,h5,decide_false,decide_true,zct,zcf];rfl
 rw [if_neg h5]
 by_cases h6:op=15
 ·rw [if_pos h6];simp only [h1,h2,h3,h4,h5,h6,decide_false,decide_true,zct,zcf];rfl
 rw [if_neg h6]
 simp only [h1,h2,h3,h4,h5,h6,decide_false,zcf];rfl
def doT (op a b:Int) (c:Bool) (s:Int):Int×Fl×Bool:=
 if zil op=true then (zai .u32 (zeG op a b) (zaB s),{ zay (zai .u32 (zeG op a b) (zaB s)) s with c:=c },true)
 else if op=3 then ((zcZ 0 a false s).1,(zcZ 0 a false s).2,true)
 else if op=4 then ((zeq a 1 false s).1,(zeq a 1 false s).2,true)
 else if op=5 then ((zcZ a 1 false s).1,(zcZ a 1 false s).2,true)
 else if op=6 then ((zeq a b false s).1,(zeq a b false s).2,true)
 else if op=7 then ((zcZ b a false s).1,(zcZ b a false s).2,true)
 else if op=8 then ((zeq a b c s).1,(zeq a b c s).2,true)
 else if op=9 then ((zcZ b a c s).1,(zcZ b a c s).2,true)
 else if op=10 then ((mulT a b s).1,(mulT a b s).2,true)
 else if op=11 then (zc0 b a s,zhe b a s,!decide (sx a s=0))
 else if op=16 then (zai .u32 a (zaB s),zjS a b s,true)
 else if op=17 then (zai .u32 a (zaB s),zay a s,true)
 else (0,⟨false,false,false,false⟩,false)
def triV (x:Int×Fl×Bool):Value:=.tuple #[.int .u32 x.1,x.2.1.val,.bool x.2.2]
theorem do_ok [Sym] (op a b:Int) (c:Bool) (sz:Int):Pf 49 [.int .i64 op,.int .u32 a,.int .u32 b,.bool c,.int .i64 sz] (triV (doT op a b c sz)):=fun st=>by
 obtain ⟨n2,h2,e2⟩:=zpW op ((st.ro st.next).new (.cells fl0 0))
 have h2':st.next+1≤n2:=h2
 have hl2:(st.ro st.next).lim≤n2:=by show st.next≤n2;omega
 by_cases hL:zil op=true
 ·obtain ⟨n4,h4,e4⟩:=zpX op a b (V1 (st.ro st.next) fl0 n2)
  have h4':n2≤n4:=h4
  obtain ⟨n6,h6,e6⟩:=za6 sz (V1 (st.ro st.next) fl0 n4)
  have h6':n4≤n6:=h6
  obtain ⟨n9,h9,e9⟩:=zdr (zai .u32 (zeG op a b) (zaB sz)) sz (V1 (st.ro st.next) fl0 n6)
  have h9':n6≤n9:=h9
  have hl:(st.ro st.next).lim≤n9:=by show st.next≤n9;omega
  have e11:=V2.put (s:=st.ro st.next) (r:=fl0) hl (zay (zai .u32 (zeG op a b) (zaB sz)) sz)
  have e12:=(V2.fl (s:=st.ro st.next) (r:=fl0) (m:=n9+1) hl (zay (zai .u32 (zeG op a b) (zaB sz)) sz) c).2.2
  obtain ⟨f1,f2,f3⟩:=V2.fin (s:=st.ro st.next) (n:=n9) (m:=n9+1) (r:=fl0) (by show st.next<n9;omega) (zlr _) (f:={ zay (zai .u32 (zeG op a b) (zaB sz)) sz with c:=c }) rfl
  unfold doT
  rw [if_pos hL]
  refine ⟨n9+1,by omega,zlS _ _ _ _ _ st ?_⟩
  unfold zbK
  refine bs e2 ?_
  simp only [zob,zat,hL,zct]
  refine bs e4 ?_
  simp only [zob,zac]
  refine bs e6 ?_
  simp only [zob,zac]
  exact bs e9 (bs e11 (bs e12 (bs f1 (bs f2 (bs f3 rfl)))))
 have hL':zil op=false:=by simpa using hL
 unfold doT
 rw [if_neg hL]
 have tail:∀ (m:Nat) (f:Fl),n2+1≤m→(V2 (st.ro st.next) fl0 n2 fl0 m).stV n2 0 4 f.val=some (V2 (st.ro st.next) fl0 n2 f.row m)∧(V2 (st.ro st.next) fl0 n2 f.row m).ldN n2 0 4=some f.val∧(V2 (st.ro st.next) fl0 n2 f.row m).stV (st.ro st.next).next 0 4 f.val=some (V2 (st.ro st.next) f.row n2 f.row m)∧(V2 (st.ro st.next) f.row n2 f.row m).rdN (st.ro st.next).next 0 4=some f.val:=fun m f hm=>by
  obtain ⟨f1,f2,f3⟩:=V2.fin (s:=st.ro st.next) (n:=n2) (m:=m) (r:=fl0) (by show st.next<n2;omega) (zlr _) (f:=f) rfl
  exact ⟨V2.stW hl2 (Fl.one f) rfl rfl,f1,f2,f3⟩
 have start:∀ {v:Value} {m:Nat},zbK cc zlR op a b c sz st=some (v,st.adv m)→st.next≤m→∃ n,st.next≤n∧cc 49 [.int .i64 op,.int .u32 a,.int .u32 b,.bool c,.int .i64 sz] st=some (v,st.adv n):=fun h hm=>⟨_,hm,zlS _ _ _ _ _ st h⟩
 by_cases h3:op=3
 ·obtain ⟨m,hm,e⟩:=zh8 0 a false sz (V2 (st.ro st.next) fl0 n2 fl0 (n2+1))
  obtain ⟨t1,t2,t3,t4⟩:=tail m (zcZ 0 a false sz).2 hm
  have hm':n2+1≤m:=hm
  rw [if_pos h3]
  refine start (m:=m) ?_ (by omega)
  unfold zbK
  refine bs e2 ?_
  simp only [zob,zat,hL',zcf,h3,decide_true,zct]
  refine bs e ?_
  simp only [zbA,zcE,zcF,zob,zac]
  exact bs t1 (bs t2 (bs t3 (bs t4 rfl)))
 rw [if_neg h3]
 by_cases h4:op=4
 ·obtain ⟨m,hm,e⟩:=zkQ a 1 false sz (V2 (st.ro st.next) fl0 n2 fl0 (n2+1))
  obtain ⟨t1,t2,t3,t4⟩:=tail m (zeq a 1 false sz).2 hm
  have hm':n2+1≤m:=hm
  rw [if_pos h4]
  refine start (m:=m) ?_ (by omega)
  unfold zbK
  refine bs e2 ?_
  simp only [zob,zat,hL',zcf,h3,h4,decide_false,decide_true,zct]
  refine bs e ?_
  simp only [zbA,zcE,zcF,zob,zac]
  exact bs t1 (bs t2 (bs t3 (bs t4 rfl)))
 rw [if_neg h4]
 by_cases h5:op=5
 ·obtain ⟨m,hm,e⟩:=zh8 a 1 false sz (V2 (st.ro st.next) fl0 n2 fl0 (n2+1))
  obtain ⟨t1,t2,t3,t4⟩:=tail m (zcZ a 1 false sz).2 hm
  have hm':n2+1≤m:=hm
  rw [if_pos h5]
  refine start (m:=m) ?_ (by omega)
  unfold zbK
  refine bs e2 ?_
  simp only [zob,zat,hL',zcf,h3,h4,h5,decide_false,decide_true,zct]
  refine bs e ?_
  simp only [zbA,zcE,zcF,zob,zac]
  exact bs t1 (bs t2 (bs t3 (bs t4 rfl)))
 rw [if_neg h5]
 by_cases h6:op=6
 ·obtain ⟨m,hm,e⟩:=zkQ a b false sz (V2 (st.ro st.next) fl0 n2 fl0 (n2+1))
  obtain ⟨t1,t2,t3,t4⟩:=tail m (zeq a b false sz).2 hm
  have hm':n2+1≤m:=hm
  rw [if_pos h6]
  refine start (m:=m) ?_ (by omega)
  unfold zbK
  refine bs e2 ?_
  simp only [zob,zat,hL',zcf,h3,h4,h5,h6,decide_false,decide_true,zct]
  refine bs e ?_
  simp only [zbA,zcE,zcF,zob,zac]
  exact bs t1 (bs t2 (bs t3 (bs t4 rfl)))
 rw [if_neg h6]
 by_cases h7:op=7
 ·obtain ⟨m,hm,e⟩:=zh8 b a false sz (V2 (st.ro st.next) fl0 n2 fl0 (n2+1))
  obtain ⟨t1,t2,t3,t4⟩:=tail m (zcZ b a false sz).2 hm
  have hm':n2+1≤m:=hm
  rw [if_pos h7]
  refine start (m:=m) ?_ (by omega)
  unfold zbK
  refine bs e2 ?_
  simp only [zob,zat,hL',zcf,h3,h4,h5,h6,h7,decide_false,decide_true,zct]
  refine bs e ?_
  simp only [zbA,zcE,zcF,zob,zac]
  exact bs t1 (bs t2 (bs t3 (bs t4 rfl)))
 rw [if_neg h7]
 by_cases h8:op=8
 ·obtain ⟨m,hm,e⟩:=zkQ a b c sz (V2 (st.ro st.next) fl0 n2 fl0 (n2+1))
  obtain ⟨t1,t2,t3,t4⟩:=tail m (zeq a b c sz).2 hm
  have hm':n2+1≤m:=hm
  rw [if_pos h8]
  refine start (m:=m) ?_ (by omega)
  unfold zbK
  refine bs e2 ?_
  simp only [zob,zat,hL',zcf,h3,h4,h5,h6,h7,h8,decide_false,decide_true,zct]
  refine bs e ?_
  simp only [zbA,zcE,zcF,zob,zac]
  exact bs t1 (bs t2 (bs t3 (bs t4 rfl)))
 rw [if_neg h8]
 by_cases h9:op=9
 ·obtain ⟨m,hm,e⟩:=zh8 b a c sz (V2 (st.ro st.next) fl0 n2 fl0 (n2+1))
  obtain ⟨t1,t2,t3,t4⟩:=tail m (zcZ b a c sz).2 hm
  have hm':n2+1≤m:=hm
  rw [if_pos h9]
  refine start (m:=m) ?_ (by omega)
  unfold zbK
  refine bs e2 ?_
  simp only [zob,zat,hL',zcf,h3,h4,h5,h6,h7,h8,h9,decide_false,decide_true,zct]
  refine bs e ?_
  simp only [zbA,zcE,zcF,zob,zac]
  exact bs t1 (bs t2 (bs t3 (bs t4 rfl)))
 rw [if_neg h9]
 by_cases h10:op=10
 ·obtain ⟨m,hm,e⟩:=mul_ok a b sz (V2 (st.ro st.next) fl0 n2 fl0 (n2+1))
  obtain ⟨t1,t2,t3,t4⟩:=tail m (mulT a b sz).2 hm
  have hm':n2+1≤m:=hm
  rw [if_pos h10]
  refine start (m:=m) ?_ (by omega)
  unfold zbK
  refine bs e2 ?_
  simp only [zob,zat,hL',zcf,h3,h4,h5,h6,h7,h8,h9,h10,decide_false,decide_true,zct]
  refine bs e ?_
  simp only [zbA,zcE,zcF,zob,zac]
  exact bs t1 (bs t2 (bs t3 (bs t4 rfl)))
 rw [if_neg h10]
 by_cases h11:op=11
 ·obtain ⟨m,hm,e⟩:=div_ok b a sz (V2 (st.ro st.next) fl0 n2 fl0 (n2+1))
  obtain ⟨t1,t2,t3,t4⟩:=tail m (zhe b a sz) hm
  have hm':n2+1≤m:=hm
  rw [if_pos h11]
  refine start (m:=m) ?_ (by omega)
  unfold zbK
  refine bs e2 ?_
  simp only [zob,zat,hL',zcf,h3,h4,h5,h6,h7,h8,h9,h10,h11,decide_false,decide_true,zct]
  refine bs e ?_
  simp only [tup3_0,tup3_1,tup3_2,zob,zac,zat]
  exact bs t1 (bs t2 (bs t3 (bs t4 rfl)))
 rw [if_neg h11]
 by_cases h16:op=16
 ·obtain ⟨n,hn,e⟩:=za6 sz (V2 (st.ro st.next) fl0 n2 fl0 (n2+1))
  have hn':n2+1≤n:=hn
  obtain ⟨m,hm,e'⟩:=cmp_ok a b sz (V2 (st.ro st.next) fl0 n2 fl0 n)
  have hm':n≤m:=hm
  obtain ⟨t1,t2,t3,t4⟩:=tail m (zjS a b sz) (by omega)
  rw [if_pos h16]
  refine start (m:=m) ?_ (by omega)
  unfold zbK
  refine bs e2 ?_
  simp only [zob,zat,hL',zcf,h3,h4,h5,h6,h7,h8,h9,h10,h11,h16,decide_false,decide_true,zct]
  refine bs e ?_
  simp only [zob,zac]
  exact bs e' (bs t1 (bs t2 (bs t3 (bs t4 rfl))))
 rw [if_neg h16]
 by_cases h17:op=17
 ·obtain ⟨n,hn,e⟩:=za6 sz (V2 (st.ro st.next) fl0 n2 fl0 (n2+1))
  have hn':n2+1≤n:=hn
  obtain ⟨m,hm,e'⟩:=zdr a sz (V2 (st.ro st.next) fl0 n2 fl0 n)
  have hm':n≤m:=hm
  obtain ⟨t1,t2,t3,t4⟩:=tail m (zay a sz) (by omega)
  rw [if_pos h17]
  refine start (m:=m) ?_ (by omega)
  unfold zbK
  refine bs e2 ?_
  simp only [zob,zat,hL',zcf,h3,h4,h5,h6,h7,h8,h9,h10,h11,h16,h17,decide_false,decide_true,zct]
  refine bs e ?_
  simp only [zob,zac]
  exact bs e' (bs t1 (bs t2 (bs t3 (bs t4 rfl))))
 rw [if_neg h17]
 have e97:(V2 (st.ro st.next) fl0 n2 fl0 (n2+1)).st (st.ro st.next).next 0 [.bool false,.bool false,.bool false,.bool false]=some (V2 (st.ro st.next) fl0 n2 fl0 (n2+1)):=by
  rw [zgH,zow (s:=V1 (st.ro st.next) fl0 n2) (show (st.ro st.next).next≠n2 by show st.next≠n2;omega),V1.st (zlr _) rfl];rfl
 have e98:(V2 (st.ro st.next) fl0 n2 fl0 (n2+1)).rdN (st.ro st.next).next 0 4=some (Fl.val ⟨false,false,false,false⟩):=V2.rdN1 (by show st.next<n2;omega) rfl
 refine start (m:=n2+1) ?_ (by omega)
 unfold zbK
 refine bs e2 ?_
 simp only [zob,zat,hL',zcf,h3,h4,h5,h6,h7,h8,h9,h10,h11,h16,h17,decide_false]
 exact bs e97 (bs e98 rfl)
def cvtX (a fr:Int) (sg:Bool):Int:=cond sg (zbP a fr) (zai .u32 a (zaB fr))
def zhg (a fr to:Int) (sg:Bool):Int:=zai .u32 (cvtX a fr sg) (zaB to)
def zgh (a fr to:Int) (sg c:Bool):Fl:=cond sg { zay (zhg a fr to sg) to with v:=!decide (zbP (zhg a fr to sg) to=cvtX a fr sg) } { zay (zhg a fr to sg) to with n:=false,c:=c }
theorem cvt5 [Sym] (to x:Int) (sg c:Bool) (F:Fl) (hF:F=cond sg { zay (zai .u32 x (zaB to)) to with v:=!decide (zbP (zai .u32 x (zaB to)) to=x) } { zay (zai .u32 x (zaB to)) to with n:=false,c:=c }) (s:SS) (n:Nat) (hl:s.lim≤s.next) (hn:s.next<n):
  ∃ n2 m,n≤n2∧n2≤m∧zcO 1000005 [.int .i64 to,.bool sg,.bool c,ptr s.next 0,.int .u32 x] (V1 s fl0 n)=some (0,[.int .u32 (zai .u32 x (zaB to)),ptr s.next 0],V2 s F.row n2 F.row m):=by
 obtain ⟨n1,h1,e1⟩:=za6 to (V1 s fl0 n)
 have h1':n≤n1:=h1
 obtain ⟨n4,h4,e4⟩:=zdr (zai .u32 x (zaB to)) to (V1 s fl0 n1)
 have h4':n1≤n4:=h4
 have hl4:s.lim≤n4:=by omega
 have e6:=V2.put (s:=s) (r:=fl0) hl4 (zay (zai .u32 x (zaB to)) to)
 cases sg with
 | false=>
   simp only [zcf] at hF
   subst hF
   have e7:=(V2.fl (s:=s) (r:=fl0) (m:=n4+1) hl4 (zay (zai .u32 x (zaB to)) to) false).1
   have e8:=(V2.fl (s:=s) (r:=fl0) (m:=n4+1) hl4 { zay (zai .u32 x (zaB to)) to with n:=false } c).2.2
   obtain ⟨f1,f2,f3⟩:=V2.fin (s:=s) (n:=n4) (m:=n4+1) (r:=fl0) (by omega) hl (f:={ zay (zai .u32 x (zaB to)) to with n:=false,c:=c }) rfl
   refine ⟨n4,n4+1,by omega,by omega,zeP _ _ _ _ _ _ ?_⟩
   unfold zeo
   refine bs e1 ?_
   simp only [zob,zac]
   refine bs e4 (bs e6 ?_)
   simp only [znf,zct]
   refine bs e7 (bs e8 (bs f1 ?_))
   simp only [zaa,zob]
   exact bs f2 rfl
 | true=>
   simp only [zct] at hF
   subst hF
   obtain ⟨n12,h12,e12⟩:=zcq (zai .u32 x (zaB to)) to (V2 s fl0 n4 (zay (zai .u32 x (zaB to)) to).row (n4+1))
   have h12':n4+1≤n12:=h12
   have e14:=(V2.fl (s:=s) (r:=fl0) (m:=n12) hl4 (zay (zai .u32 x (zaB to)) to) (!decide (zbP (zai .u32 x (zaB to)) to=x))).2.1
   obtain ⟨f1,f2,f3⟩:=V2.fin (s:=s) (n:=n4) (m:=n12) (r:=fl0) (by omega) hl (f:={ zay (zai .u32 x (zaB to)) to with v:=!decide (zbP (zai .u32 x (zaB to)) to=x) }) rfl
   refine ⟨n4,n12,by omega,by omega,zeP _ _ _ _ _ _ ?_⟩
   unfold zeo
   refine bs e1 ?_
   simp only [zob,zac]
   refine bs e4 (bs e6 ?_)
   simp only [znt,zcf]
   refine bs e12 ?_
   simp only [zob,zac]
   refine bs e14 (bs f1 ?_)
   simp only [zaa,zob]
   exact bs f2 rfl
theorem zpY [Sym] (a fr to:Int) (sg c:Bool):Pf 48 [.int .u32 a,.int .i64 fr,.int .i64 to,.bool sg,.bool c] (zbA (zhg a fr to sg,zgh a fr to sg c)):=fun st=>by
 obtain ⟨n2,h2,e2⟩:=za6 fr ((st.ro st.next).new (.cells fl0 0))
 have h2':st.next+1≤n2:=h2
 cases sg with
 | true=>
   obtain ⟨n5,h5,e5⟩:=zcq a fr (V1 (st.ro st.next) fl0 n2)
   have h5':n2≤n5:=h5
   obtain ⟨n,m,g1,g2,g3⟩:=cvt5 to (zbP a fr) true c (zgh a fr to true c) rfl (st.ro st.next) n5 (zlr _) (by show st.next<n5;omega)
   obtain ⟨f1,f2,f3⟩:=V2.fin (s:=st.ro st.next) (n:=n) (m:=m) (r:=fl0) (by show st.next<n;omega) (zlr _) (f:=zgh a fr to true c) rfl
   refine ⟨m,by omega,zgA _ _ _ _ _ st ?_⟩
   unfold zgb
   refine bs e2 ?_
   simp only [zob,zac,zct]
   refine bs e5 ?_
   simp only [zob,zac]
   refine bs g3 ?_
   simp only [zgz,zgs,zob,zac,zaa]
   exact bs f3 rfl
 | false=>
   obtain ⟨n,m,g1,g2,g3⟩:=cvt5 to (zai .u32 a (zaB fr)) false c (zgh a fr to false c) rfl (st.ro st.next) n2 (zlr _) (by show st.next<n2;omega)
   obtain ⟨f1,f2,f3⟩:=V2.fin (s:=st.ro st.next) (n:=n) (m:=m) (r:=fl0) (by show st.next<n;omega) (zlr _) (f:=zgh a fr to false c) rfl
   refine ⟨m,by omega,zgA _ _ _ _ _ st ?_⟩
   unfold zgb
   refine bs e2 ?_
   simp only [zob,zac,zcf]
   refine bs g3 ?_
   simp only [zgz,zgs,zob,zac,zaa]
   exact bs f3 rfl
def isUser (x:Int):Bool:=!decide (zai .u32 x 16777216=0)
theorem zeH [Sym] (x:Int):Pf 34 [.int .u32 x] (.bool (isUser x)):=fun st=>⟨st.next,zlr _,zmb _ st rfl⟩
def zbr (x:Int):Fl:=⟨!decide (zai .u32 x 8=0),!decide (zai .u32 x 4=0),!decide (zai .u32 x 2=0),!decide (zai .u32 x 1=0)⟩
theorem zng [Sym] (x:Int):Pf 42 [.int .u32 x] (zbr x).val:=fun st=>by
 have e3:(V1 (st.ro st.next) fl0 (st.next+1)).st (st.ro st.next).next 0 (zbr x).row=some (V1 (st.ro st.next) (zbr x).row (st.next+1)):=by rw [V1.st (zlr _) (Fl.one _)];rfl
 have e4:(V1 (st.ro st.next) (zbr x).row (st.next+1)).rdN (st.ro st.next).next 0 4=some (zbr x).val:=V1.rdN rfl
 refine ⟨st.next+1,by omega,zm8 _ st ?_⟩
 unfold zlV
 exact bs e3 (bs e4 rfl)
def znh:List Bool→Nat→Int→Int
 | [],_,x=>x
 | b::r,i,x=>znh r (i+1) (if b=true then orI .u32 x (zbZ .u32 1 i) else x)
theorem zkR [Sym] (bs0:List Bool) (hb:bs0.length≤100) (st:SS) {i0:Nat} {cap:Nat} (hm:st.mem.get i0=some (.cells (bs0.map Value.bool) 1)):∀ (k i:Nat) (x:Int),bs0.length=k+i→
  zdT 3 [.int .u32 x,.slice (some ⟨i0,0,none⟩) bs0.length cap,.int .i64 bs0.length,.int .i64 i] st=some (0,[.int .u32 (znh (bs0.drop i) i x)],st)
 | 0,i,x,hk=>by
   have hlt:¬ (i:Int)<(bs0.length:Int):=by omega
   rw [List.drop_of_length_le (by omega)]
   refine zfU _ _ _ _ st ?_
   simp only [zfy,hlt,decide_false,zcf];rfl
 | k+1,i,x,hk=>by
   have hlt:(i:Int)<(bs0.length:Int):=by omega
   have hi:i<bs0.length:=by omega
   have e1:za8 (.slice (some ⟨i0,0,none⟩) bs0.length cap) (i:Int) 1=some (i0,0+i*1):=by
    unfold za8
    simp only [zdt hlt,zdt (show (0:Int)≤(i:Int) by omega),Bool.and_self,zct,Int.toNat_natCast]
   have e2:(st.ld i0 (0+i*1)).bind asB=some bs0[i]:=by
    rw [SS.ld_cells hm,Nat.zero_add,Nat.mul_one,List.getElem?_map,zge hi];rfl
   have hd:bs0.drop i=bs0[i]::bs0.drop (i+1):=List.drop_eq_getElem_cons hi
   have hw:=wrapI1 (i:=i) (by omega)
   have ih:=zkR bs0 hb st hm (cap:=cap) k (i+1)
   rw [hd]
   refine zfU _ _ _ _ st ?_
   unfold zfy
   simp only [zdt hlt,zct]
   refine bs e1 (bs e2 ?_)
   cases hq:bs0[i] with
   | true=>
     simp only [zct]
     refine bs (show (aI .shl .u32 1 (i:Int)).bind (asI .u32)=some _ from by rw [zda (by omega)];rfl) ?_
     rw [hw]
     exact ih _ (by omega)
   | false=>
     simp only [zcf]
     rw [hw]
     exact ih _ (by omega)
def zni (f:Fl):Int:=znh [f.c,f.v,f.z,f.n] 0 0
theorem zqC [Sym] (f:Fl):Pf 70 [f.val] (.int .u32 (zni f)):=fun st=>by
 have hl:=zkR [f.c,f.v,f.z,f.n] (by simp) (((st.ro st.next).new (.cells f.row 0)).new (.cells [.bool f.c,.bool f.v,.bool f.z,.bool f.n] 1)) (i0:=st.next+1) (cap:=4) (SS.new_get (st:=(st.ro st.next).new (.cells f.row 0))) 4 0 0 rfl
 have ld:∀ k,((st.ro st.next).new (.cells f.row 0)).ld (st.ro st.next).next k=f.row[k]?:=fun k=>zep
 refine ⟨st.next+2,by omega,znb _ st ?_⟩
 unfold zlW
 refine bs (show (((st.ro st.next).new (.cells f.row 0)).ld (st.ro st.next).next 3).bind asB=some f.c from by rw [ld];rfl) ?_
 refine bs (show (((st.ro st.next).new (.cells f.row 0)).ld (st.ro st.next).next 2).bind asB=some f.v from by rw [ld];rfl) ?_
 refine bs (show (((st.ro st.next).new (.cells f.row 0)).ld (st.ro st.next).next 1).bind asB=some f.z from by rw [ld];rfl) ?_
 refine bs (show (((st.ro st.next).new (.cells f.row 0)).ld (st.ro st.next).next 0).bind asB=some f.n from by rw [ld];rfl) ?_
 refine bs hl rfl
def zhh (x:Int) (f:Fl):Int:=orI .u32 (zbj .u32 x 15) (zni f)
theorem zrk [Sym] (x:Int) (f:Fl):Pf 51 [.int .u32 x,f.val] (.int .u32 (zhh x f)):=fun st=>by
 obtain ⟨n,h,e⟩:=zqC f ((st.ro st.next).new (.cells f.row 0))
 have h':st.next+1≤n:=h
 refine ⟨n,by omega,zn7 _ _ st ?_⟩
 unfold zm9
 refine bs (show ((st.ro st.next).new (.cells f.row 0)).ldN (st.ro st.next).next 0 4=some f.val from by rw [zfz];rfl) ?_
 exact bs e rfl
end Go.Proofs.YtlpigjmjgclgiaaDoorE
namespace Go.Proofs.YtlpigjmjgclgiaaDoorE
set_option maxRecDepth 20000
open Go Go.E Go.Proofs
noncomputable def zqD (cf:zao) (lf:zab) (st:SS):Option (Value×SS):=
 let st1:SS:=st.new (.cells [.int .u32 0,.int .u32 0,.int .u32 0,.int .u32 0,.int .u32 0,.int .u32 0,.int .u32 0,.int .u32 0,.int .u32 0,.int .u32 0,.int .u32 0,.int .u32 0,.int .u32 0,.int .u32 0,.int .u32 0,.int .u32 0,.int .u32 0,.int .u32 0,.int .u32 0,.slice none 0 0] 0)
 some (ptr st.next 0,st1)
noncomputable abbrev zn8:zab:=lS Tryd.prog Lk0 Tryd.f8 zau
theorem zn9:Lk0.func 8=some (8,Tryd.f8):=by kernel_rfl
theorem zoa [Sym] (st:SS) {r:Value×SS} (h:zqD cc zn8 st=some r):cc 8 [] st=some r:=
 zah (li:=zau) zak zaq zn9 rfl (fun _=>rfl) (.trans (by kernel_rfl) h)
noncomputable def zhs (cf:zao) (lf:zab) (f':Value) (n':Int) (st:SS):Option (Value×SS):=
 (((zbJ f').bind fun r=>some (.bool r)).bind asB).bind fun a=>
 cond a (
 some (.int .u32 0,st.adv (st.ro st.next).next)) (
 cond (decide (n'<0)) (
 some (.int .u32 0,st.adv (st.ro st.next).next)) (
 cond (decide (15<n')) (
 some (.int .u32 0,st.adv (st.ro st.next).next)) (
 (zaf f').bind fun b=>
 (addr? b).bind fun c=>
 (zaT (ptr c.1 c.2) 16 n' 1).bind fun d=>
 (((st.ro st.next).ld d.1 d.2).bind (asI .u32)).bind fun e=>
 some (.int .u32 e,st.adv (st.ro st.next).next))))
noncomputable abbrev zjW:zab:=lS Tryd.prog Lk0 Tryd.f31 zau
theorem zjX:Lk0.func 31=some (31,Tryd.f31):=by kernel_rfl
theorem zjY [Sym] (f':Value) (n':Int) (st:SS) {r:Value×SS} (h:zhs cc zjW f' n' st=some r):cc 31 [f',.int .i64 n'] st=some r:=
 zah (li:=zau) zak zaq zjX rfl (fun _=>rfl) (.trans (by kernel_rfl) h)
noncomputable def zht (cf:zao) (lf:zab) (f':Value) (st:SS):Option (Value×SS):=
 (((zbJ f').bind fun r=>some (.bool r)).bind asB).bind fun a=>
 cond a (
 some (.int .u32 0,st.adv (st.ro st.next).next)) (
 (zaf f').bind fun b=>
 (addr? b).bind fun c=>
 (((st.ro st.next).ld c.1 (c.2+16)).bind (asI .u32)).bind fun d=>
 some (.int .u32 d,st.adv (st.ro st.next).next))
noncomputable abbrev zjZ:zab:=lS Tryd.prog Lk0 Tryd.f33 zau
theorem zj0:Lk0.func 33=some (33,Tryd.f33):=by kernel_rfl
theorem zj1 [Sym] (f':Value) (st:SS) {r:Value×SS} (h:zht cc zjZ f' st=some r):cc 33 [f'] st=some r:=
 zah (li:=zau) zak zaq zj0 rfl (fun _=>rfl) (.trans (by kernel_rfl) h)
noncomputable def zfW (cf:zao) (lf:zab) (f':Value) (user':Bool) (st:SS):Option (Value×SS):=
 (((zbJ f').bind fun r=>some (.bool r)).bind asB).bind fun a=>
 cond a (
 some (.int .u32 0,st.adv (st.ro st.next).next)) (
 (zaf f').bind fun b=>
 (addr? b).bind fun c=>
 (((st.ro st.next).ld c.1 (c.2+16)).bind (asI .u32)).bind fun d=>
 (cf 34 [.int .u32 d] (st.ro st.next)).bind fun e=>
 ((some e.1).bind asB).bind fun f=>
 cond (user'==f) (
 (zaf f').bind fun g=>
 (addr? g).bind fun h=>
 (zaT (ptr h.1 h.2) 16 14 1).bind fun i=>
 ((e.2.ld i.1 i.2).bind (asI .u32)).bind fun j=>
 some (.int .u32 j,st.adv e.2.next)) (
 cond user' (
 (zaf f').bind fun k=>
 (addr? k).bind fun l=>
 ((e.2.ld l.1 (l.2+18)).bind (asI .u32)).bind fun m=>
 some (.int .u32 m,st.adv e.2.next)) (
 (zaf f').bind fun n=>
 (addr? n).bind fun o=>
 ((e.2.ld o.1 (o.2+17)).bind (asI .u32)).bind fun p=>
 some (.int .u32 p,st.adv e.2.next))))
noncomputable abbrev zim:zab:=lS Tryd.prog Lk0 Tryd.f35 zau
theorem zin:Lk0.func 35=some (35,Tryd.f35):=by kernel_rfl
theorem zio [Sym] (f':Value) (user':Bool) (st:SS) {r:Value×SS} (h:zfW cc zim f' user' st=some r):cc 35 [f',.bool user'] st=some r:=
 zah (li:=zau) zak zaq zin rfl (fun _=>rfl) (.trans (by kernel_rfl) h)
noncomputable def zfX (cf:zao) (lf:zab) (f':Value) (st:SS):Option (Value×SS):=
 (((zbJ f').bind fun r=>some (.bool r)).bind asB).bind fun a=>
 cond a (
 some (.int .i64 0,st.adv (st.ro st.next).next)) (
 (zaf f').bind fun b=>
 (addr? b).bind fun c=>
 ((st.ro st.next).ld c.1 (c.2+19)).bind fun d=>
 ((lenV d).bind (asI .i64)).bind fun e=>
 some (.int .i64 e,st.adv (st.ro st.next).next))
noncomputable abbrev ziq:zab:=lS Tryd.prog Lk0 Tryd.f20 zau
theorem zir:Lk0.func 20=some (20,Tryd.f20):=by kernel_rfl
theorem zis [Sym] (f':Value) (st:SS) {r:Value×SS} (h:zfX cc ziq f' st=some r):cc 20 [f'] st=some r:=
 zah (li:=zau) zak zaq zir rfl (fun _=>rfl) (.trans (by kernel_rfl) h)
noncomputable def zgI (cf:zao) (lf:zab) (f':Value) (s':Value) (st:SS):Option (Value×SS):=
 let a:SS:=(st.ro st.next).new (.cells (s':Value).cells.toList 0)
 let b:SS:=a.new (.cells [.int .u32 0,.int .u32 0,.int .u32 0,.int .u32 0,.int .u32 0,.int .u32 0,.int .u32 0,.int .u32 0,.int .u32 0,.int .u32 0,.int .u32 0,.int .u32 0,.int .u32 0,.int .u32 0,.int .u32 0,.int .u32 0,.int .u32 0,.int .u32 0,.int .u32 0,.int .u32 0,.int .u32 0,.int .u32 0,.int .u32 0,.int .u32 0,.int .u32 0,.int .i64 0] 0)
 (((zbJ f').bind fun r=>some (.bool !r)).bind asB).bind fun c=>
 cond c (
 (zaf f').bind fun d=>
 (addr? d).bind fun e=>
 (b.ldN e.1 e.2 16).bind fun f=>
 (zaf f').bind fun g=>
 (addr? g).bind fun h=>
 ((b.ld h.1 (h.2+16)).bind (asI .u32)).bind fun i=>
 (zaf f').bind fun j=>
 (addr? j).bind fun k=>
 ((b.ld k.1 (k.2+17)).bind (asI .u32)).bind fun l=>
 (zaf f').bind fun m=>
 (addr? m).bind fun n=>
 ((b.ld n.1 (n.2+18)).bind (asI .u32)).bind fun o=>
 cond (zcK (ptr h.1 (h.2+16)) (ptr ((st.ro st.next).next) 0)) (
 cond (zcK (ptr k.1 (k.2+17)) (ptr ((st.ro st.next).next) 0)) (
 cond (zcK (ptr n.1 (n.2+18)) (ptr ((st.ro st.next).next) 0)) (
 (b.stV ((st.ro st.next).next) 0 16 f).bind fun p=>
 cond (zcK (ptr k.1 (k.2+17)) (ptr ((st.ro st.next).next) 16)) (
 cond (zcK (ptr n.1 (n.2+18)) (ptr ((st.ro st.next).next) 16)) (
 (p.st ((st.ro st.next).next) 16 [.int .u32 i]).bind fun q=>
 cond (zcK (ptr n.1 (n.2+18)) (ptr ((st.ro st.next).next) 17)) (
 (q.st ((st.ro st.next).next) 17 [.int .u32 l]).bind fun s=>
 (s.st ((st.ro st.next).next) 18 [.int .u32 o]).bind fun t=>
 (t.ldN ((st.ro st.next).next) 0 26).bind fun u=>
 (t.stV a.next 0 26 u).bind fun v=>
 (v.rdN a.next 0 26).bind fun w=>
 cond (flat3 w) (some (w,st.adv v.next)) none) (
 none)) (
 none)) (
 none)) (
 none)) (
 none)) (
 none)) (
 (b.ldN ((st.ro st.next).next) 0 26).bind fun x=>
 (b.stV a.next 0 26 x).bind fun y=>
 (y.rdN a.next 0 26).bind fun z=>
 cond (flat3 z) (some (z,st.adv y.next)) none)
noncomputable abbrev zi3:zab:=lS Tryd.prog Lk0 Tryd.f19 zau
theorem zi4:Lk0.func 19=some (19,Tryd.f19):=by kernel_rfl
theorem zi5 [Sym] (f':Value) (s':Value) (st:SS) {r:Value×SS} (h:zgI cc zi3 f' s' st=some r):cc 19 [f',s'] st=some r:=
 zah (li:=zau) zak zaq zi4 rfl (fun _=>rfl) (.trans (by kernel_rfl) h)
noncomputable def zdj (cf:zao) (lf:zab) (f':Value) (x':Int) (st:SS):Option (Value×SS):=
 (((zbJ f').bind fun r=>some (.bool r)).bind asB).bind fun a=>
 cond a (
 some (.tuple #[],st)) (
 (cf 34 [.int .u32 x'] (st.ro st.next)).bind fun b=>
 ((some b.1).bind asB).bind fun c=>
 (zaf f').bind fun d=>
 (addr? d).bind fun e=>
 (((b.2.ro st.lim).ld e.1 (e.2+16)).bind (asI .u32)).bind fun f=>
 (cf 34 [.int .u32 f] (b.2.ro st.lim)).bind fun g=>
 ((some g.1).bind asB).bind fun h=>
 cond (!(c==h)) (
 (cf 34 [.int .u32 x'] g.2).bind fun i=>
 ((some i.1).bind asB).bind fun j=>
 cond j (
 (zaf f').bind fun k=>
 (addr? k).bind fun l=>
 (zaT (ptr l.1 l.2) 16 14 1).bind fun m=>
 ((i.2.ld m.1 m.2).bind (asI .u32)).bind fun n=>
 (zaf f').bind fun o=>
 (addr? o).bind fun p=>
 ((i.2.ld p.1 (p.2+18)).bind (asI .u32)).bind fun q=>
 (zaf f').bind fun s=>
 (addr? s).bind fun t=>
 (i.2.st t.1 (t.2+17) [.int .u32 n]).bind fun u=>
 (zaf f').bind fun v=>
 (addr? v).bind fun w=>
 (zaT (ptr w.1 w.2) 16 14 1).bind fun x=>
 (u.st x.1 x.2 [.int .u32 q]).bind fun y=>
 (zaf f').bind fun z=>
 (addr? z).bind fun A=>
 (y.st A.1 (A.2+16) [.int .u32 x']).bind fun B=>
 some (.tuple #[],B)) (
 (zaf f').bind fun C=>
 (addr? C).bind fun D=>
 (zaT (ptr D.1 D.2) 16 14 1).bind fun E=>
 ((i.2.ld E.1 E.2).bind (asI .u32)).bind fun F=>
 (zaf f').bind fun G=>
 (addr? G).bind fun H=>
 ((i.2.ld H.1 (H.2+17)).bind (asI .u32)).bind fun I=>
 (zaf f').bind fun J=>
 (addr? J).bind fun K=>
 (i.2.st K.1 (K.2+18) [.int .u32 F]).bind fun L=>
 (zaf f').bind fun M=>
 (addr? M).bind fun N=>
 (zaT (ptr N.1 N.2) 16 14 1).bind fun O=>
 (L.st O.1 O.2 [.int .u32 I]).bind fun P=>
 (zaf f').bind fun Q=>
 (addr? Q).bind fun R=>
 (P.st R.1 (R.2+16) [.int .u32 x']).bind fun S=>
 some (.tuple #[],S))) (
 (zaf f').bind fun T=>
 (addr? T).bind fun U=>
 (g.2.st U.1 (U.2+16) [.int .u32 x']).bind fun V=>
 some (.tuple #[],V)))
noncomputable abbrev zj2:zab:=lS Tryd.prog Lk0 Tryd.f28 zau
theorem zj3:Lk0.func 28=some (28,Tryd.f28):=by kernel_rfl
theorem zdv [Sym] (f':Value) (x':Int) (st:SS) {r:Value×SS} (h:zdj cc zj2 f' x' st=some r):cc 28 [f',.int .u32 x'] st=some r:=
 zah (li:=zau) zak zaq zj3 rfl (fun _=>rfl) (.trans (by kernel_rfl) h)
noncomputable def zcr (cf:zao) (lf:zab) (f':Value) (n':Int) (x':Int) (size':Int) (st:SS):Option (Value×SS):=
 (((zbJ f').bind fun r=>some (.bool r)).bind asB).bind fun a=>
 cond a (
 some (.int .i64 2,st)) (
 cond (decide (n'<0)) (
 some (.int .i64 1,st)) (
 cond (decide (15<n')) (
 some (.int .i64 1,st)) (
 (cf 57 [.int .i64 size'] st).bind fun b=>
 ((some b.1).bind (asI .u32)).bind fun c=>
 cond (decide (c=0)) (
 some (.int .i64 1,b.2)) (
 (zaf f').bind fun d=>
 (addr? d).bind fun e=>
 (zaT (ptr e.1 e.2) 16 n' 1).bind fun f=>
 ((b.2.ld f.1 f.2).bind (asI .u32)).bind fun g=>
 (cf 32 [.int .u32 g,.int .u32 x',.int .i64 size'] b.2).bind fun h=>
 ((some h.1).bind (asI .u32)).bind fun i=>
 (zaf f').bind fun j=>
 (addr? j).bind fun k=>
 (zaT (ptr k.1 k.2) 16 n' 1).bind fun l=>
 (h.2.st l.1 l.2 [.int .u32 i]).bind fun m=>
 some (.int .i64 0,m)))))
noncomputable abbrev zj4:zab:=lS Tryd.prog Lk0 Tryd.f29 zau
theorem zj5:Lk0.func 29=some (29,Tryd.f29):=by kernel_rfl
theorem zck [Sym] (f':Value) (n':Int) (x':Int) (size':Int) (st:SS) {r:Value×SS} (h:zcr cc zj4 f' n' x' size' st=some r):cc 29 [f',.int .i64 n',.int .u32 x',.int .i64 size'] st=some r:=
 zah (li:=zau) zak zaq zj5 rfl (fun _=>rfl) (.trans (by kernel_rfl) h)
def zd9:LoopI:=⟨[(0,.any),(1,.int .i64),(2,.int .u32)],[(.ret,[(6,.int .i64)])]⟩
def zeQ (n:Nat):Option LoopI:=cond (Nat.beq n 1000006) (some zd9) (none)
noncomputable def zgJ (cf:zao) (lf:zab) (f':Value) (n':Int) (d':Int) (st:SS):Option (Value×SS):=
 (((zbJ f').bind fun r=>some (.bool r)).bind asB).bind fun a=>
 cond a (
 some (.int .i64 2,st)) (
 cond (decide (n'<0)) (
 some (.int .i64 1,st)) (
 cond (decide (15<n')) (
 some (.int .i64 1,st)) (
 (lf 1000006 [f',.int .i64 n',.int .u32 d'] st).bind fun b=>
 ((b.2.1[0]?).bind (asI .i64)).bind fun c=>
 some (.int .i64 c,b.2.2))))
noncomputable abbrev zc1:zab:=lS Tryd.prog Lk0 Tryd.f53 zeQ
theorem zi6:Lk0.func 53=some (53,Tryd.f53):=by kernel_rfl
theorem zi7 [Sym] (f':Value) (n':Int) (d':Int) (st:SS) {r:Value×SS} (h:zgJ cc zc1 f' n' d' st=some r):cc 53 [f',.int .i64 n',.int .u32 d'] st=some r:=
 zah (li:=zeQ) zak zaq zi6 rfl (fun _=>rfl) (.trans (by kernel_rfl) h)
noncomputable def zeR (cf:zao) (lf:zab) (f':Value) (n':Int) (d':Int) (st:SS):Option (Nat×List Value×SS):=
 (zaf f').bind fun a=>
 (addr? a).bind fun b=>
 (zaT (ptr b.1 b.2) 16 n' 1).bind fun c=>
 ((st.ld c.1 c.2).bind (asI .u32)).bind fun d=>
 let e:Int:=IntKind.wrap .u32 (d+d')
 (zaf f').bind fun f=>
 (addr? f).bind fun g=>
 (zaT (ptr g.1 g.2) 16 n' 1).bind fun h=>
 (st.st h.1 h.2 [.int .u32 e]).bind fun i=>
 (zaf f').bind fun j=>
 (addr? j).bind fun k=>
 (i.ld k.1 (k.2+19)).bind fun l=>
 let m:SS:=i.new (.cells ([.int .i64 n',.int .u32 d']) 2)
 (m.app 2 16 l (.slice (some ⟨i.next,0,none⟩) 1 1)).bind fun n=>
 (zaf f').bind fun o=>
 (addr? o).bind fun p=>
 (n.2.stV p.1 (p.2+19) 1 n.1).bind fun q=>
 some (0,[.int .i64 0],q)
theorem zhi [Sym] (f':Value) (n':Int) (d':Int) (st:SS) {r:Nat×List Value×SS} (h:zeR cc zc1 f' n' d' st=some r):zc1 1000006 [f',.int .i64 n',.int .u32 d'] st=some r:=
 za5 zak zaq (key:=1000006) (I:=zd9) rfl (by kernel_rfl) (by kernel_rfl) rfl rfl (.trans (by kernel_rfl) h)
def zeI:LoopI:=⟨[(0,.any)],[(.exit 0,[])]⟩
def zeS (n:Nat):Option LoopI:=cond (Nat.beq n 0) (some zeI) (none)
noncomputable def zgK (cf:zao) (lf:zab) (f':Value) (st:SS):Option (Value×SS):=
 (lf 0 [f'] st).bind fun a=>
 some (.tuple #[],a.2.2)
noncomputable abbrev zb2:zab:=lS Tryd.prog Lk0 Tryd.f54 zeS
theorem zi8:Lk0.func 54=some (54,Tryd.f54):=by kernel_rfl
theorem zi9 [Sym] (f':Value) (st:SS) {r:Value×SS} (h:zgK cc zb2 f' st=some r):cc 54 [f'] st=some r:=
 zah (li:=zeS) zak zaq zi8 rfl (fun _=>rfl) (.trans (by kernel_rfl) h)
noncomputable def zc2 (cf:zao) (lf:zab) (f':Value) (st:SS):Option (Nat×List Value×SS):=
 (cf 20 [f'] st).bind fun a=>
 ((some a.1).bind (asI .i64)).bind fun b=>
 cond (decide (0<b)) (
 (zaf f').bind fun c=>
 (addr? c).bind fun d=>
 (a.2.ld d.1 (d.2+19)).bind fun e=>
 (zaf f').bind fun f=>
 (addr? f).bind fun g=>
 (a.2.ld g.1 (g.2+19)).bind fun h=>
 ((lenV h).bind (asI .i64)).bind fun i=>
 let j:Int:=IntKind.wrap .i64 (i-1)
 (za8 e j 2).bind fun k=>
 (a.2.ldN k.1 k.2 2).bind fun l=>
 let m:SS:=a.2.new (.cells [.int .i64 0,.int .u32 0] 0)
 (m.stV a.2.next 0 2 l).bind fun n=>
 (zaf f').bind fun o=>
 (addr? o).bind fun p=>
 (n.ld p.1 (p.2+19)).bind fun q=>
 (zaf f').bind fun r=>
 (addr? r).bind fun s=>
 (n.ld s.1 (s.2+19)).bind fun t=>
 ((lenV t).bind (asI .i64)).bind fun u=>
 let v:Int:=IntKind.wrap .i64 (u-1)
 (n.resl q 2 0 v).bind fun w=>
 (zaf f').bind fun x=>
 (addr? x).bind fun y=>
 (n.stV y.1 (y.2+19) 1 w).bind fun z=>
 ((z.ld a.2.next 0).bind (asI .i64)).bind fun A=>
 (zaf f').bind fun B=>
 (addr? B).bind fun C=>
 (zaT (ptr C.1 C.2) 16 A 1).bind fun D=>
 ((z.ld D.1 D.2).bind (asI .u32)).bind fun E=>
 ((z.ld a.2.next 1).bind (asI .u32)).bind fun F=>
 let G:Int:=IntKind.wrap .u32 (E-F)
 (zaf f').bind fun H=>
 (addr? H).bind fun I=>
 (zaT (ptr I.1 I.2) 16 A 1).bind fun J=>
 (z.st J.1 J.2 [.int .u32 G]).bind fun K=>
 lf 0 [f'] K) (
 some (0,[],a.2))
theorem zdV [Sym] (f':Value) (st:SS) {r:Nat×List Value×SS} (h:zc2 cc zb2 f' st=some r):zb2 0 [f'] st=some r:=
 zbD zak zaq (key:=0) (I:=zeI) rfl (by kernel_rfl) (by kernel_rfl) rfl rfl (.trans (by kernel_rfl) h)
noncomputable def zfB (cf:zao) (lf:zab) (f':Value) (st:SS):Option (Value×SS):=
 (((zbJ f').bind fun r=>some (.bool !r)).bind asB).bind fun a=>
 cond a (
 (zaf f').bind fun b=>
 (addr? b).bind fun c=>
 (st.st c.1 (c.2+19) [.slice none 0 0]).bind fun d=>
 some (.tuple #[],d)) (
 some (.tuple #[],st))
noncomputable abbrev zhw:zab:=lS Tryd.prog Lk0 Tryd.f40 zau
theorem zhx:Lk0.func 40=some (40,Tryd.f40):=by kernel_rfl
theorem zhy [Sym] (f':Value) (st:SS) {r:Value×SS} (h:zfB cc zhw f' st=some r):cc 40 [f'] st=some r:=
 zah (li:=zau) zak zaq zhx rfl (fun _=>rfl) (.trans (by kernel_rfl) h)
noncomputable def zgL (cf:zao) (lf:zab) (f':Value) (s':Value) (st:SS):Option (Value×SS):=
 let a:SS:=st.new (.cells (s':Value).cells.toList 0)
 (((zbJ f').bind fun r=>some (.bool !r)).bind asB).bind fun b=>
 cond b (
 (a.ldN st.next 0 16).bind fun c=>
 ((a.ld st.next 16).bind (asI .u32)).bind fun d=>
 ((a.ld st.next 17).bind (asI .u32)).bind fun e=>
 ((a.ld st.next 18).bind (asI .u32)).bind fun f=>
 (zeC c 16).bind fun g=>
 (zaf f').bind fun h=>
 (addr? h).bind fun i=>
 (a.stV i.1 i.2 20 (.agg ⟨spl (spl (spl (spl [.int .u32 0,.int .u32 0,.int .u32 0,.int .u32 0,.int .u32 0,.int .u32 0,.int .u32 0,.int .u32 0,.int .u32 0,.int .u32 0,.int .u32 0,.int .u32 0,.int .u32 0,.int .u32 0,.int .u32 0,.int .u32 0,.int .u32 0,.int .u32 0,.int .u32 0,.slice none 0 0] 0 g) 16 [.int .u32 d]) 17 [.int .u32 e]) 18 [.int .u32 f]⟩)).bind fun j=>
 some (.tuple #[],j)) (
 some (.tuple #[],a))
noncomputable abbrev zja:zab:=lS Tryd.prog Lk0 Tryd.f37 zau
theorem zjb:Lk0.func 37=some (37,Tryd.f37):=by kernel_rfl
theorem zjc [Sym] (f':Value) (s':Value) (st:SS) {r:Value×SS} (h:zgL cc zja f' s' st=some r):cc 37 [f',s'] st=some r:=
 zah (li:=zau) zak zaq zjb rfl (fun _=>rfl) (.trans (by kernel_rfl) h)
end Go.Proofs.YtlpigjmjgclgiaaDoorE
namespace Go.Proofs.YtlpigjmjgclgiaaDoorE
set_option maxRecDepth 20000
open Go Go.E Go.Proofs
noncomputable def zlY (cf:zao) (lf:zab) (file':Value) (st:SS):Option (Value×SS):=
 (zeC file' 1).bind fun a=>
 let b:SS:=st.new (.cells (.agg ⟨spl [.pointer none,.int .u32 0,.int .u32 0,.int .u32 0,.int .u32 0,.int .u32 0,.int .u32 0,.int .u32 0,.int .u32 0,.int .u32 0,.int .u32 0,.int .u32 0,.int .u32 0,.int .u32 0,.int .u32 0,.int .u32 0,.int .u32 0,.int .u32 0,.int .u32 0,.int .u32 0,.int .u32 0,.int .u32 0,.int .u32 0,.int .u32 0,.int .u32 0,.int .u32 0,.int .u32 0,.int .u32 0,.int .u32 0,.int .u32 0,.int .u32 0,.int .u32 0,.int .u32 0,.int .u32 0,.int .u32 0,.int .u32 0,.int .u32 0,.int .u32 0,.int .u32 0,.int .u32 0,.int .u32 0,.int .u32 0,.int .u32 0,.int .u32 0,.int .u32 0,.int .u32 0,.int .u32 0,.int .u32 0,.int .u32 0,.int .u32 0,.int .u32 0,.int .u32 0,.int .u32 0,.int .u32 0,.int .u32 0,.int .u32 0,.int .u32 0,.int .u32 0,.int .u32 0,.int .u32 0,.int .u32 0,.int .i64 0,.int .i64 0,.int .i64 0,.int .i64 0,.int .i64 0,.int .i64 0,.int .i64 0,.string ⟨#[]⟩,.int .i64 0,.int .i64 0,.slice none 0 0,.int .i64 0,.int .i64 0,.int .i64 0,.int .i64 0,.int .u64 0,.slice none 0 0,.bool false,.bool false,.bool false,.bool false,.bool false,.bool false,.int .u32 0,.int .i64 0,.int .u32 0,.int .i64 0] 0 a⟩:Value).cells.toList 0)
 (cf 21 [ptr st.next 0] b).bind fun c=>
 some (ptr st.next 0,c.2)
noncomputable abbrev znj:zab:=lS Tryd.prog Lk0 Tryd.f7 zau
theorem znk:Lk0.func 7=some (7,Tryd.f7):=by kernel_rfl
theorem znl [Sym] (file':Value) (st:SS) {r:Value×SS} (h:zlY cc znj file' st=some r):cc 7 [file'] st=some r:=
 zah (li:=zau) zak zaq znk rfl (fun _=>rfl) (.trans (by kernel_rfl) h)
def zdb:LoopI:=⟨[(0,.any),(3,.any),(4,.int .u32),(6,.any)],[(.normal,[])]⟩
def zdF:LoopI:=⟨[(0,.any),(3,.any),(4,.int .u32),(5,.int .u32)],[(.normal,[])]⟩
def zea (n:Nat):Option LoopI:=cond (Nat.beq n 1000007) (some zdF) (cond (Nat.beq n 1000015) (some zdb) (none))
noncomputable def zfC (cf:zao) (lf:zab) (p':Value) (w':Value) (st:SS):Option (Value×SS):=
 let a:SS:=st.new (.cells (w':Value).cells.toList 0)
 ((a.ld st.next 1).bind (asI .i64)).bind fun b=>
 (cf 11 [p',.int .i64 b] (a.ro a.next)).bind fun c=>
 ((some c.1).bind (asI .u32)).bind fun d=>
 (((c.2.ro a.lim).ld st.next 2).bind (asI .i64)).bind fun e=>
 (cf 11 [p',.int .i64 e] (c.2.ro a.lim)).bind fun f=>
 ((some f.1).bind (asI .u32)).bind fun g=>
 ((f.2.ld st.next 1).bind (asI .i64)).bind fun h=>
 cond (decide (h=41)) (
 ((f.2.ld st.next 4).bind (asI .i64)).bind fun i=>
 let j:Int:=IntKind.wrap .u32 i
 ((f.2.ld st.next 2).bind (asI .i64)).bind fun k=>
 cond (decide (k=41)) (
 ((f.2.ld st.next 4).bind (asI .i64)).bind fun l=>
 let m:Int:=IntKind.wrap .u32 l
 (lf 1000007 [p',ptr st.next 0,.int .u32 j,.int .u32 m] f.2).bind fun n=>
 some (.tuple #[],n.2.2)) (
 (lf 1000007 [p',ptr st.next 0,.int .u32 j,.int .u32 g] f.2).bind fun o=>
 some (.tuple #[],o.2.2))) (
 ((f.2.ld st.next 2).bind (asI .i64)).bind fun p=>
 cond (decide (p=41)) (
 ((f.2.ld st.next 4).bind (asI .i64)).bind fun q=>
 let r:Int:=IntKind.wrap .u32 q
 (lf 1000007 [p',ptr st.next 0,.int .u32 d,.int .u32 r] f.2).bind fun s=>
 some (.tuple #[],s.2.2)) (
 (lf 1000007 [p',ptr st.next 0,.int .u32 d,.int .u32 g] f.2).bind fun t=>
 some (.tuple #[],t.2.2)))
noncomputable abbrev za4:zab:=lS Tryd.prog Lk0 Tryd.f9 zea
theorem zhz:Lk0.func 9=some (9,Tryd.f9):=by kernel_rfl
theorem zhA [Sym] (p':Value) (w':Value) (st:SS) {r:Value×SS} (h:zfC cc za4 p' w' st=some r):cc 9 [p',w'] st=some r:=
 zah (li:=zea) zak zaq zhz rfl (fun _=>rfl) (.trans (by kernel_rfl) h)
noncomputable def zcx (cf:zao) (lf:zab) (p':Value) (w':Value) (a':Int) (b':Int) (st:SS):Option (Nat×List Value×SS):=
 (cf 17 [p'] st).bind fun a=>
 let b:SS:=a.2.new (.cells [.int .i64 0,.int .u32 0,.int .i64 0] 0)
 (b.st a.2.next 0 [.int .i64 (-1),.int .u32 0,.int .i64 0]).bind fun c=>
 (addr? w').bind fun d=>
 ((c.ld d.1 d.2).bind (asI .i64)).bind fun e=>
 cond (!(decide (e=0))) (
 (addr? w').bind fun f=>
 ((c.ld f.1 (f.2+5)).bind (asI .i64)).bind fun g=>
 (cf 22 [p',.int .i64 g] c).bind fun h=>
 ((some h.1).bind (asI .i64)).bind fun i=>
 (addr? w').bind fun j=>
 ((h.2.ld j.1 j.2).bind (asI .i64)).bind fun k=>
 (cf 23 [p',.int .i64 k,.int .u32 a',.int .u32 b',.int .i64 i] h.2).bind fun l=>
 ((zaS l.1 0).bind (asI .u32)).bind fun m=>
 (zaS l.1 1).bind fun n=>
 let o:SS:=l.2.new (.cells [.bool false,.bool false,.bool false,.bool false] 0)
 (o.stV l.2.next 0 4 n).bind fun p=>
 (p.ldN l.2.next 0 4).bind fun q=>
 (zaf p').bind fun r=>
 (addr? r).bind fun s=>
 (p.stV s.1 (s.2+78) 4 q).bind fun t=>
 (t.ldN l.2.next 0 4).bind fun u=>
 (addr? w').bind fun v=>
 ((t.ld v.1 (v.2+6)).bind (asI .i64)).bind fun w=>
 (cf 24 [p',u,.int .i64 w] t).bind fun x=>
 (addr? w').bind fun y=>
 ((x.2.ld y.1 (y.2+3)).bind (asI .i64)).bind fun z=>
 (cf 25 [p',.int .i64 z] x.2).bind fun A=>
 ((some A.1).bind (asI .i64)).bind fun B=>
 (A.2.st a.2.next 0 [.int .i64 B,.int .u32 m,.int .i64 i]).bind fun C=>
 (lf 1000015 [p',w',.int .u32 a',ptr a.2.next 0] C).bind fun D=>
 some (0,[],D.2.2)) (
 (lf 1000015 [p',w',.int .u32 a',ptr a.2.next 0] c).bind fun E=>
 some (0,[],E.2.2))
theorem zdc [Sym] (p':Value) (w':Value) (a':Int) (b':Int) (st:SS) {r:Nat×List Value×SS} (h:zcx cc za4 p' w' a' b' st=some r):za4 1000007 [p',w',.int .u32 a',.int .u32 b'] st=some r:=
 za5 zak zaq (key:=1000007) (I:=zdF) rfl (by kernel_rfl) (by kernel_rfl) rfl rfl (.trans (by kernel_rfl) h)
noncomputable def zcl (cf:zao) (lf:zab) (p':Value) (w':Value) (a':Int) (next':Value) (st:SS):Option (Nat×List Value×SS):=
 (addr? w').bind fun a=>
 (st.ldN a.1 a.2 12).bind fun b=>
 (cf 26 [p',b,.int .u32 a'] st).bind fun c=>
 (addr? w').bind fun d=>
 (c.2.ldN d.1 d.2 12).bind fun e=>
 (cf 27 [p',e,.int .u32 a'] c.2).bind fun f=>
 (addr? next').bind fun g=>
 ((f.2.ld g.1 g.2).bind (asI .i64)).bind fun h=>
 cond (decide (h=38)) (
 (zaf p').bind fun i=>
 (addr? i).bind fun j=>
 (f.2.ld j.1 j.2).bind fun k=>
 (addr? next').bind fun l=>
 ((f.2.ld l.1 (l.2+1)).bind (asI .u32)).bind fun m=>
 (cf 28 [k,.int .u32 m] f.2).bind fun n=>
 some (0,[],n.2)) (
 (addr? next').bind fun o=>
 ((f.2.ld o.1 o.2).bind (asI .i64)).bind fun p=>
 cond (decide (0≤p)) (
 (addr? next').bind fun q=>
 (f.2.ldN q.1 q.2 3).bind fun r=>
 (zaf p').bind fun s=>
 (addr? s).bind fun t=>
 (f.2.stV t.1 (t.2+85) 3 r).bind fun u=>
 some (0,[],u)) (
 some (0,[],f.2)))
theorem zcR [Sym] (p':Value) (w':Value) (a':Int) (next':Value) (st:SS) {r:Nat×List Value×SS} (h:zcl cc za4 p' w' a' next' st=some r):za4 1000015 [p',w',.int .u32 a',next'] st=some r:=
 za5 zak zaq (key:=1000015) (I:=zdb) rfl (by kernel_rfl) (by kernel_rfl) rfl rfl (.trans (by kernel_rfl) h)
def zeb:LoopI:=⟨[(0,.any),(1,.int .i64),(2,.int .u32),(3,.int .i64),(14,.bool)],[(.normal,[])]⟩
def zeT (n:Nat):Option LoopI:=cond (Nat.beq n 1000003) (some zeb) (none)
noncomputable def zbI (cf:zao) (lf:zab) (p':Value) (n':Int) (x':Int) (size':Int) (st:SS):Option (Value×SS):=
 cond (decide (n'<0)) (
 (lf 1000003 [p',.int .i64 n',.int .u32 x',.int .i64 size',.bool true] st).bind fun a=>
 some (.tuple #[],a.2.2)) (
 (lf 1000003 [p',.int .i64 n',.int .u32 x',.int .i64 size',.bool (decide (60≤n'))] st).bind fun b=>
 some (.tuple #[],b.2.2))
noncomputable abbrev zc3:zab:=lS Tryd.prog Lk0 Tryd.f10 zeT
theorem zjd:Lk0.func 10=some (10,Tryd.f10):=by kernel_rfl
theorem zbB [Sym] (p':Value) (n':Int) (x':Int) (size':Int) (st:SS) {r:Value×SS} (h:zbI cc zc3 p' n' x' size' st=some r):cc 10 [p',.int .i64 n',.int .u32 x',.int .i64 size'] st=some r:=
 zah (li:=zeT) zak zaq zjd rfl (fun _=>rfl) (.trans (by kernel_rfl) h)
noncomputable def zb3 (cf:zao) (lf:zab) (p':Value) (n':Int) (x':Int) (size':Int) (t14':Bool) (st:SS):Option (Nat×List Value×SS):=
 cond t14' (
 some (0,[],st)) (
 cond (decide (n'<16)) (
 (zaf p').bind fun a=>
 (addr? a).bind fun b=>
 (st.ld b.1 b.2).bind fun c=>
 (cf 29 [c,.int .i64 n',.int .u32 x',.int .i64 size'] st).bind fun d=>
 ((some d.1).bind (asI .i64)).bind fun e=>
 some (0,[],d.2)) (
 cond (decide (n'=38)) (
 (zaf p').bind fun f=>
 (addr? f).bind fun g=>
 (st.ld g.1 g.2).bind fun h=>
 (cf 28 [h,.int .u32 x'] st).bind fun i=>
 some (0,[],i.2)) (
 (zaf p').bind fun j=>
 (addr? j).bind fun k=>
 (zaT (ptr k.1 (k.2+1)) 60 n' 1).bind fun l=>
 (st.st l.1 l.2 [.int .u32 x']).bind fun m=>
 some (0,[],m))))
theorem zbn [Sym] (p':Value) (n':Int) (x':Int) (size':Int) (t14':Bool) (st:SS) {r:Nat×List Value×SS} (h:zb3 cc zc3 p' n' x' size' t14' st=some r):zc3 1000003 [p',.int .i64 n',.int .u32 x',.int .i64 size',.bool t14'] st=some r:=
 za5 zak zaq (key:=1000003) (I:=zeb) rfl (by kernel_rfl) (by kernel_rfl) rfl rfl (.trans (by kernel_rfl) h)
def zdW:LoopI:=⟨[(0,.any),(1,.int .i64),(99,.int .i64),(107,.bool)],[(.normal,[(0,.any),(1,.int .i64)]),(.ret,[(4,.int .u32)])]⟩
def zdX:LoopI:=⟨[(0,.any),(1,.int .i64)],[(.ret,[(4,.int .u32)])]⟩
def zdY:LoopI:=⟨[(0,.any),(1,.int .i64)],[(.ret,[(4,.int .u32)])]⟩
def zec:LoopI:=⟨[(0,.any),(1,.int .i64),(6,.int .i64),(7,.bool)],[(.normal,[(0,.any),(1,.int .i64)]),(.ret,[(4,.int .u32)])]⟩
def zeU (n:Nat):Option LoopI:=cond (Nat.beq n 1000007) (some zec) (cond (Nat.beq n 1000018) (some zdY) (cond (Nat.beq n 1000025) (some zdX) (cond (Nat.beq n 1000030) (some zdW) (none))))
noncomputable def zca (cf:zao) (lf:zab) (p':Value) (n':Int) (st:SS):Option (Value×SS):=
 cond (decide (n'=39)) (
 (lf 1000007 [p',.int .i64 n',.int .i64 n',.bool (decide (n'=39))] (st.ro st.next)).bind fun a=>
 cond (Nat.beq a.1 0) (
 (a.2.1[0]?).bind fun b=>
 ((a.2.1[1]?).bind (asI .i64)).bind fun c=>
 (lf 1000018 [b,.int .i64 c] a.2.2).bind fun d=>
 ((d.2.1[0]?).bind (asI .u32)).bind fun e=>
 some (.int .u32 e,st.adv d.2.2.next)) (
 ((a.2.1[0]?).bind (asI .u32)).bind fun f=>
 some (.int .u32 f,st.adv a.2.2.next))) (
 cond (decide (n'=54)) (
 (lf 1000007 [p',.int .i64 n',.int .i64 n',.bool (decide (n'=54))] (st.ro st.next)).bind fun g=>
 cond (Nat.beq g.1 0) (
 (g.2.1[0]?).bind fun h=>
 ((g.2.1[1]?).bind (asI .i64)).bind fun i=>
 (lf 1000018 [h,.int .i64 i] g.2.2).bind fun j=>
 ((j.2.1[0]?).bind (asI .u32)).bind fun k=>
 some (.int .u32 k,st.adv j.2.2.next)) (
 ((g.2.1[0]?).bind (asI .u32)).bind fun l=>
 some (.int .u32 l,st.adv g.2.2.next))) (
 cond (decide (n'=55)) (
 (lf 1000007 [p',.int .i64 n',.int .i64 n',.bool (decide (n'=55))] (st.ro st.next)).bind fun m=>
 cond (Nat.beq m.1 0) (
 (m.2.1[0]?).bind fun n=>
 ((m.2.1[1]?).bind (asI .i64)).bind fun o=>
 (lf 1000018 [n,.int .i64 o] m.2.2).bind fun p=>
 ((p.2.1[0]?).bind (asI .u32)).bind fun q=>
 some (.int .u32 q,st.adv p.2.2.next)) (
 ((m.2.1[0]?).bind (asI .u32)).bind fun r=>
 some (.int .u32 r,st.adv m.2.2.next))) (
 (lf 1000007 [p',.int .i64 n',.int .i64 n',.bool (decide (n'=57))] (st.ro st.next)).bind fun s=>
 cond (Nat.beq s.1 0) (
 (s.2.1[0]?).bind fun t=>
 ((s.2.1[1]?).bind (asI .i64)).bind fun u=>
 (lf 1000018 [t,.int .i64 u] s.2.2).bind fun v=>
 ((v.2.1[0]?).bind (asI .u32)).bind fun w=>
 some (.int .u32 w,st.adv v.2.2.next)) (
 ((s.2.1[0]?).bind (asI .u32)).bind fun x=>
 some (.int .u32 x,st.adv s.2.2.next)))))
noncomputable abbrev zaw:zab:=lS Tryd.prog Lk0 Tryd.f11 zeU
theorem zje:Lk0.func 11=some (11,Tryd.f11):=by kernel_rfl
theorem zb4 [Sym] (p':Value) (n':Int) (st:SS) {r:Value×SS} (h:zca cc zaw p' n' st=some r):cc 11 [p',.int .i64 n'] st=some r:=
 zah (li:=zeU) zak zaq zje rfl (fun _=>rfl) (.trans (by kernel_rfl) h)
noncomputable def za2 (cf:zao) (lf:zab) (p':Value) (n':Int) (t6':Int) (t7':Bool) (st:SS):Option (Nat×List Value×SS):=
 cond t7' (
 (cf 25 [p',.int .i64 n'] st).bind fun a=>
 ((some a.1).bind (asI .i64)).bind fun b=>
 cond (decide (b<0)) (
 some (1,[.int .u32 0],a.2)) (
 some (0,[p',.int .i64 b],a.2))) (
 cond (decide (t6'=40)) (
 (zaf p').bind fun c=>
 (addr? c).bind fun d=>
 ((st.ld d.1 (d.2+74)).bind (asI .i64)).bind fun e=>
 cond (decide (e<0)) (
 some (1,[.int .u32 0],st)) (
 some (0,[p',.int .i64 e],st))) (
 cond (decide (t6'=56)) (
 (cf 30 [p'] st).bind fun f=>
 ((some f.1).bind (asI .i64)).bind fun g=>
 let h:Int:=IntKind.wrap .i64 (30+g)
 some (0,[p',.int .i64 h],f.2)) (
 cond (decide (t6'=50)) (
 (zaf p').bind fun i=>
 (addr? i).bind fun j=>
 (st.ld j.1 (j.2+67+4)).bind fun k=>
 ((lenV k).bind (asI .i64)).bind fun l=>
 let m:Int:=IntKind.wrap .i64 (l-1)
 let n:Int:=if 0>m then 0 else m
 let o:Int:=IntKind.wrap .i64 (24+n)
 some (0,[p',.int .i64 o],st)) (
 some (0,[p',.int .i64 n'],st)))))
theorem zaY [Sym] (p':Value) (n':Int) (t6':Int) (t7':Bool) (st:SS) {r:Nat×List Value×SS} (h:za2 cc zaw p' n' t6' t7' st=some r):zaw 1000007 [p',.int .i64 n',.int .i64 t6',.bool t7'] st=some r:=
 za5 zak zaq (key:=1000007) (I:=zec) rfl (by kernel_rfl) (by kernel_rfl) rfl rfl (.trans (by kernel_rfl) h)
noncomputable def za9 (cf:zao) (lf:zab) (p':Value) (n':Int) (st:SS):Option (Nat×List Value×SS):=
 cond (decide (n'<16)) (
 (zaf p').bind fun a=>
 (addr? a).bind fun b=>
 (st.ld b.1 b.2).bind fun c=>
 (cf 31 [c,.int .i64 n'] st).bind fun d=>
 ((some d.1).bind (asI .u32)).bind fun e=>
 (zaf p').bind fun f=>
 (addr? f).bind fun g=>
 ((d.2.ld g.1 (g.2+85)).bind (asI .i64)).bind fun h=>
 cond (decide (h=n')) (
 (zaf p').bind fun i=>
 (addr? i).bind fun j=>
 ((d.2.ld j.1 (j.2+85+2)).bind (asI .i64)).bind fun k=>
 cond (decide (0<k)) (
 (zaf p').bind fun l=>
 (addr? l).bind fun m=>
 ((d.2.ld m.1 (m.2+85+1)).bind (asI .u32)).bind fun n=>
 (zaf p').bind fun o=>
 (addr? o).bind fun p=>
 ((d.2.ld p.1 (p.2+85+2)).bind (asI .i64)).bind fun q=>
 (cf 32 [.int .u32 e,.int .u32 n,.int .i64 q] d.2).bind fun r=>
 ((some r.1).bind (asI .u32)).bind fun s=>
 some (0,[.int .u32 s],r.2)) (
 some (0,[.int .u32 e],d.2))) (
 some (0,[.int .u32 e],d.2))) (
 (zaf p').bind fun t=>
 (addr? t).bind fun u=>
 ((st.ld u.1 (u.2+85)).bind (asI .i64)).bind fun v=>
 cond (decide (v=n')) (
 (zaf p').bind fun w=>
 (addr? w).bind fun x=>
 ((st.ld x.1 (x.2+85+2)).bind (asI .i64)).bind fun y=>
 cond (decide (0<y)) (
 (zaf p').bind fun z=>
 (addr? z).bind fun A=>
 ((st.ld A.1 (A.2+85+1)).bind (asI .u32)).bind fun B=>
 some (0,[.int .u32 B],st)) (
 (lf 1000025 [p',.int .i64 n'] st).bind fun C=>
 ((C.2.1[0]?).bind (asI .u32)).bind fun D=>
 some (0,[.int .u32 D],C.2.2))) (
 (lf 1000025 [p',.int .i64 n'] st).bind fun E=>
 ((E.2.1[0]?).bind (asI .u32)).bind fun F=>
 some (0,[.int .u32 F],E.2.2)))
theorem za7 [Sym] (p':Value) (n':Int) (st:SS) {r:Nat×List Value×SS} (h:za9 cc zaw p' n' st=some r):zaw 1000018 [p',.int .i64 n'] st=some r:=
 za5 zak zaq (key:=1000018) (I:=zdY) rfl (by kernel_rfl) (by kernel_rfl) rfl rfl (.trans (by kernel_rfl) h)
noncomputable def zbV (cf:zao) (lf:zab) (p':Value) (n':Int) (st:SS):Option (Nat×List Value×SS):=
 cond (decide (n'=38)) (
 (zaf p').bind fun a=>
 (addr? a).bind fun b=>
 (st.ld b.1 b.2).bind fun c=>
 (cf 33 [c] st).bind fun d=>
 ((some d.1).bind (asI .u32)).bind fun e=>
 some (0,[.int .u32 e],d.2)) (
 cond (decide (n'=48)) (
 (lf 1000030 [p',.int .i64 n',.int .i64 n',.bool (decide (n'=48))] st).bind fun f=>
 cond (Nat.beq f.1 0) (
 (f.2.1[0]?).bind fun g=>
 ((f.2.1[1]?).bind (asI .i64)).bind fun h=>
 cond (decide (60≤h)) (
 some (0,[.int .u32 0],f.2.2)) (
 (zaf g).bind fun i=>
 (addr? i).bind fun j=>
 (zaT (ptr j.1 (j.2+1)) 60 h 1).bind fun k=>
 ((f.2.2.ld k.1 k.2).bind (asI .u32)).bind fun l=>
 some (0,[.int .u32 l],f.2.2))) (
 ((f.2.1[0]?).bind (asI .u32)).bind fun m=>
 some (0,[.int .u32 m],f.2.2))) (
 (lf 1000030 [p',.int .i64 n',.int .i64 n',.bool (decide (n'=49))] st).bind fun n=>
 cond (Nat.beq n.1 0) (
 (n.2.1[0]?).bind fun o=>
 ((n.2.1[1]?).bind (asI .i64)).bind fun p=>
 cond (decide (60≤p)) (
 some (0,[.int .u32 0],n.2.2)) (
 (zaf o).bind fun q=>
 (addr? q).bind fun r=>
 (zaT (ptr r.1 (r.2+1)) 60 p 1).bind fun s=>
 ((n.2.2.ld s.1 s.2).bind (asI .u32)).bind fun t=>
 some (0,[.int .u32 t],n.2.2))) (
 ((n.2.1[0]?).bind (asI .u32)).bind fun u=>
 some (0,[.int .u32 u],n.2.2))))
theorem zcb [Sym] (p':Value) (n':Int) (st:SS) {r:Nat×List Value×SS} (h:zbV cc zaw p' n' st=some r):zaw 1000025 [p',.int .i64 n'] st=some r:=
 za5 zak zaq (key:=1000025) (I:=zdX) rfl (by kernel_rfl) (by kernel_rfl) rfl rfl (.trans (by kernel_rfl) h)
noncomputable def zaU (cf:zao) (lf:zab) (p':Value) (n':Int) (t99':Int) (t107':Bool) (st:SS):Option (Nat×List Value×SS):=
 cond t107' (
 (zaf p').bind fun a=>
 (addr? a).bind fun b=>
 (st.ld b.1 b.2).bind fun c=>
 (cf 33 [c] st).bind fun d=>
 ((some d.1).bind (asI .u32)).bind fun e=>
 (cf 34 [.int .u32 e] d.2).bind fun f=>
 ((some f.1).bind asB).bind fun g=>
 cond (g==(decide (n'=49))) (
 (cf 11 [p',.int .i64 14] f.2).bind fun h=>
 ((some h.1).bind (asI .u32)).bind fun i=>
 some (1,[.int .u32 i],h.2)) (
 (zaf p').bind fun j=>
 (addr? j).bind fun k=>
 (f.2.ld k.1 k.2).bind fun l=>
 (cf 35 [l,.bool (decide (n'=49))] f.2).bind fun m=>
 ((some m.1).bind (asI .u32)).bind fun n=>
 some (1,[.int .u32 n],m.2))) (
 cond (decide (t99'=51)) (
 (zaf p').bind fun o=>
 (addr? o).bind fun p=>
 ((st.ld p.1 (p.2+75)).bind (asI .i64)).bind fun q=>
 let r:Int:=IntKind.wrap .u32 q
 some (1,[.int .u32 r],st)) (
 cond (decide (t99'=52)) (
 (cf 11 [p',.int .i64 15] (st.ro st.next)).bind fun s=>
 ((some s.1).bind (asI .u32)).bind fun t=>
 (zaf p').bind fun u=>
 (addr? u).bind fun v=>
 (zaT (ptr v.1 (v.2+1)) 60 46 1).bind fun w=>
 (((s.2.ro st.lim).ld w.1 w.2).bind (asI .u32)).bind fun x=>
 let y:Int:=IntKind.wrap .u32 (t-x)
 some (1,[.int .u32 y],(s.2.ro st.lim))) (
 cond (decide (t99'=58)) (
 (zaf p').bind fun z=>
 (addr? z).bind fun A=>
 (st.ld A.1 (A.2+77)).bind fun B=>
 ((lenV B).bind (asI .i64)).bind fun C=>
 let D:Int:=IntKind.wrap .u32 C
 some (1,[.int .u32 D],st)) (
 cond (decide (t99'=42)) (
 cond (decide (t99'=42)) (
 some (1,[.int .u32 0],st)) (
 some (0,[p',.int .i64 n'],st))) (
 cond (decide (t99'=41)) (
 some (1,[.int .u32 0],st)) (
 some (0,[p',.int .i64 n'],st)))))))
theorem zaQ [Sym] (p':Value) (n':Int) (t99':Int) (t107':Bool) (st:SS) {r:Nat×List Value×SS} (h:zaU cc zaw p' n' t99' t107' st=some r):zaw 1000030 [p',.int .i64 n',.int .i64 t99',.bool t107'] st=some r:=
 za5 zak zaq (key:=1000030) (I:=zdW) rfl (by kernel_rfl) (by kernel_rfl) rfl rfl (.trans (by kernel_rfl) h)
noncomputable def zc4 (cf:zao) (lf:zab) (p':Value) (st:SS):Option (Value×SS):=
 (zaf p').bind fun a=>
 (addr? a).bind fun b=>
 ((st.ld b.1 (b.2+85+2)).bind (asI .i64)).bind fun c=>
 cond (decide (0<c)) (
 (zaf p').bind fun d=>
 (addr? d).bind fun e=>
 ((st.ld e.1 (e.2+85)).bind (asI .i64)).bind fun f=>
 (zaf p').bind fun g=>
 (addr? g).bind fun h=>
 ((st.ld h.1 (h.2+85+1)).bind (asI .u32)).bind fun i=>
 (zaf p').bind fun j=>
 (addr? j).bind fun k=>
 ((st.ld k.1 (k.2+85+2)).bind (asI .i64)).bind fun l=>
 (cf 10 [p',.int .i64 f,.int .u32 i,.int .i64 l] st).bind fun m=>
 (zaf p').bind fun n=>
 (addr? n).bind fun o=>
 (m.2.st o.1 (o.2+85) [.int .i64 0,.int .u32 0,.int .i64 0]).bind fun p=>
 some (.tuple #[],p)) (
 (zaf p').bind fun q=>
 (addr? q).bind fun r=>
 (st.st r.1 (r.2+85) [.int .i64 0,.int .u32 0,.int .i64 0]).bind fun s=>
 some (.tuple #[],s))
noncomputable abbrev zhj:zab:=lS Tryd.prog Lk0 Tryd.f17 zau
theorem zhk:Lk0.func 17=some (17,Tryd.f17):=by kernel_rfl
theorem zdZ [Sym] (p':Value) (st:SS) {r:Value×SS} (h:zc4 cc zhj p' st=some r):cc 17 [p'] st=some r:=
 zah (li:=zau) zak zaq zhk rfl (fun _=>rfl) (.trans (by kernel_rfl) h)
noncomputable def zfD (cf:zao) (lf:zab) (p':Value) (st:SS):Option (Value×SS):=
 (cf 17 [p'] st).bind fun a=>
 (zaf p').bind fun b=>
 (addr? b).bind fun c=>
 (a.2.ld c.1 c.2).bind fun d=>
 (cf 40 [d] a.2).bind fun e=>
 (zaf p').bind fun f=>
 (addr? f).bind fun g=>
 (e.2.ld g.1 g.2).bind fun h=>
 (cf 31 [h,.int .i64 15] (e.2.ro e.2.next)).bind fun i=>
 ((some i.1).bind (asI .u32)).bind fun j=>
 (zaf p').bind fun k=>
 (addr? k).bind fun l=>
 ((i.2.ro e.2.lim).ld l.1 l.2).bind fun m=>
 (cf 33 [m] (i.2.ro e.2.lim)).bind fun n=>
 ((some n.1).bind (asI .u32)).bind fun o=>
 (zaf p').bind fun p=>
 (addr? p).bind fun q=>
 (zaT (ptr q.1 (q.2+1)) 60 46 1).bind fun r=>
 (n.2.st r.1 r.2 [.int .u32 j]).bind fun s=>
 (zaf p').bind fun t=>
 (addr? t).bind fun u=>
 (s.st u.1 (u.2+84) [.int .u32 o]).bind fun v=>
 (cf 41 [p',.agg #[.int .i64 0,.string ⟨#[]⟩,.int .i64 0,.int .i64 0,.slice none 0 0]] v).bind fun w=>
 some (.tuple #[],w.2)
noncomputable abbrev zhB:zab:=lS Tryd.prog Lk0 Tryd.f21 zau
theorem zhC:Lk0.func 21=some (21,Tryd.f21):=by kernel_rfl
theorem zhD [Sym] (p':Value) (st:SS) {r:Value×SS} (h:zfD cc zhB p' st=some r):cc 21 [p'] st=some r:=
 zah (li:=zau) zak zaq zhC rfl (fun _=>rfl) (.trans (by kernel_rfl) h)
noncomputable def zfY (cf:zao) (lf:zab) (p':Value) (n':Int) (st:SS):Option (Value×SS):=
 cond (decide (n'=3)) (
 (zaf p').bind fun a=>
 (addr? a).bind fun b=>
 (((st.ro st.next).ld b.1 (b.2+75)).bind (asI .i64)).bind fun c=>
 some (.int .i64 c,st.adv (st.ro st.next).next)) (
 ((aI .shl .i64 1 n').bind (asI .i64)).bind fun d=>
 some (.int .i64 d,st.adv (st.ro st.next).next))
noncomputable abbrev zit:zab:=lS Tryd.prog Lk0 Tryd.f22 zau
theorem ziu:Lk0.func 22=some (22,Tryd.f22):=by kernel_rfl
theorem ziv [Sym] (p':Value) (n':Int) (st:SS) {r:Value×SS} (h:zfY cc zit p' n' st=some r):cc 22 [p',.int .i64 n'] st=some r:=
 zah (li:=zau) zak zaq ziu rfl (fun _=>rfl) (.trans (by kernel_rfl) h)
def zcS:LoopI:=⟨[(0,.any),(1,.int .i64),(2,.int .u32),(3,.int .u32),(4,.int .i64),(11,.any),(12,.bool),(27,.int .i64),(62,.bool)],[(.normal,[(11,.any),(13,.int .u32)]),(.ret,[(10,.int .u32),(11,.any)])]⟩
def zdd:LoopI:=⟨[(0,.any),(1,.int .i64),(2,.int .u32),(3,.int .u32),(4,.int .i64),(11,.any),(12,.bool)],[(.ret,[(10,.int .u32),(11,.any)])]⟩
def zd0 (n:Nat):Option LoopI:=cond (Nat.beq n 1000007) (some zdd) (cond (Nat.beq n 1000012) (some zcS) (none))
noncomputable def zc5 (cf:zao) (lf:zab) (p':Value) (op':Int) (a':Int) (b':Int) (size':Int) (st:SS):Option (Value×SS):=
 let a:SS:=st.new (.cells [.bool false,.bool false,.bool false,.bool false] 0)
 (zaf p').bind fun b=>
 (addr? b).bind fun c=>
 (a.ld c.1 c.2).bind fun d=>
 (cf 33 [d] a).bind fun e=>
 ((some e.1).bind (asI .u32)).bind fun f=>
 (cf 42 [.int .u32 f] e.2).bind fun g=>
 ((zjF Lk0 58 3 g.1).bind asB).bind fun h=>
 cond (decide (op'=19)) (
 (lf 1000012 [p',.int .i64 op',.int .u32 a',.int .u32 b',.int .i64 size',ptr st.next 0,.bool h,.int .i64 op',.bool (decide (op'=19))] g.2).bind fun i=>
 cond (Nat.beq i.1 0) (
 (i.2.1[0]?).bind fun j=>
 ((i.2.1[1]?).bind (asI .u32)).bind fun k=>
 (cf 50 [.int .u32 k,.int .i64 4] i.2.2).bind fun l=>
 (addr? j).bind fun m=>
 (l.2.stV m.1 m.2 4 l.1).bind fun n=>
 (addr? j).bind fun o=>
 (n.rdN o.1 o.2 4).bind fun p=>
 some (.tuple #[.int .u32 k,p],n)) (
 ((i.2.1[0]?).bind (asI .u32)).bind fun q=>
 (i.2.1[1]?).bind fun r=>
 (addr? r).bind fun s=>
 (i.2.2.rdN s.1 s.2 4).bind fun t=>
 some (.tuple #[.int .u32 q,t],i.2.2))) (
 (lf 1000012 [p',.int .i64 op',.int .u32 a',.int .u32 b',.int .i64 size',ptr st.next 0,.bool h,.int .i64 op',.bool (decide (op'=20))] g.2).bind fun u=>
 cond (Nat.beq u.1 0) (
 (u.2.1[0]?).bind fun v=>
 ((u.2.1[1]?).bind (asI .u32)).bind fun w=>
 (cf 50 [.int .u32 w,.int .i64 4] u.2.2).bind fun x=>
 (addr? v).bind fun y=>
 (x.2.stV y.1 y.2 4 x.1).bind fun z=>
 (addr? v).bind fun A=>
 (z.rdN A.1 A.2 4).bind fun B=>
 some (.tuple #[.int .u32 w,B],z)) (
 ((u.2.1[0]?).bind (asI .u32)).bind fun C=>
 (u.2.1[1]?).bind fun D=>
 (addr? D).bind fun E=>
 (u.2.2.rdN E.1 E.2 4).bind fun F=>
 some (.tuple #[.int .u32 C,F],u.2.2)))
noncomputable abbrev zaK:zab:=lS Tryd.prog Lk0 Tryd.f23 zd0
theorem zhl:Lk0.func 23=some (23,Tryd.f23):=by kernel_rfl
theorem zd1 [Sym] (p':Value) (op':Int) (a':Int) (b':Int) (size':Int) (st:SS) {r:Value×SS} (h:zc5 cc zaK p' op' a' b' size' st=some r):cc 23 [p',.int .i64 op',.int .u32 a',.int .u32 b',.int .i64 size'] st=some r:=
 zah (li:=zd0) zak zaq zhl rfl (fun _=>rfl) (.trans (by kernel_rfl) h)
noncomputable def zbE (cf:zao) (lf:zab) (p':Value) (op':Int) (a':Int) (b':Int) (size':Int) (t11':Value) (c':Bool) (st:SS):Option (Nat×List Value×SS):=
 (cf 49 [.int .i64 op',.int .u32 a',.int .u32 b',.bool c',.int .i64 size'] st).bind fun a=>
 ((zaS a.1 0).bind (asI .u32)).bind fun b=>
 (zaS a.1 1).bind fun c=>
 ((zaS a.1 2).bind asB).bind fun d=>
 let e:SS:=a.2.new (.cells [.bool false,.bool false,.bool false,.bool false] 0)
 (e.stV a.2.next 0 4 c).bind fun f=>
 (zaf p').bind fun g=>
 (addr? g).bind fun h=>
 ((f.ld h.1 (h.2+82)).bind asB).bind fun i=>
 cond i (
 (zaf p').bind fun j=>
 (addr? j).bind fun k=>
 (f.st k.1 (k.2+82) [.bool true]).bind fun l=>
 (l.ldN a.2.next 0 4).bind fun m=>
 (addr? t11').bind fun n=>
 (l.stV n.1 n.2 4 m).bind fun o=>
 some (0,[.int .u32 b,t11'],o)) (
 cond (decide (op'=11)) (
 (zaf p').bind fun p=>
 (addr? p).bind fun q=>
 (f.st q.1 (q.2+82) [.bool (!d)]).bind fun r=>
 (r.ldN a.2.next 0 4).bind fun s=>
 (addr? t11').bind fun t=>
 (r.stV t.1 t.2 4 s).bind fun u=>
 some (0,[.int .u32 b,t11'],u)) (
 (zaf p').bind fun v=>
 (addr? v).bind fun w=>
 (f.st w.1 (w.2+82) [.bool false]).bind fun x=>
 (x.ldN a.2.next 0 4).bind fun y=>
 (addr? t11').bind fun z=>
 (x.stV z.1 z.2 4 y).bind fun A=>
 some (0,[.int .u32 b,t11'],A)))
theorem zbQ [Sym] (p':Value) (op':Int) (a':Int) (b':Int) (size':Int) (t11':Value) (c':Bool) (st:SS) {r:Nat×List Value×SS} (h:zbE cc zaK p' op' a' b' size' t11' c' st=some r):zaK 1000007 [p',.int .i64 op',.int .u32 a',.int .u32 b',.int .i64 size',t11',.bool c'] st=some r:=
 za5 zak zaq (key:=1000007) (I:=zdd) rfl (by kernel_rfl) (by kernel_rfl) rfl rfl (.trans (by kernel_rfl) h)
noncomputable def zaz (cf:zao) (lf:zab) (p':Value) (op':Int) (a':Int) (b':Int) (size':Int) (t11':Value) (c':Bool) (t27':Int) (t62':Bool) (st:SS):Option (Nat×List Value×SS):=
 cond t62' (
 let a:Int:=IntKind.wrap .i64 (op'-18)
 (cf 43 [.int .u32 a',.int .i64 a] st).bind fun b=>
 ((some b.1).bind (asI .u32)).bind fun c=>
 some (0,[t11',.int .u32 c],b.2)) (
 cond (decide (t27'=21)) (
 let d:Int:=zai .u32 a' 255
 some (0,[t11',.int .u32 d],st)) (
 cond (decide (t27'=22)) (
 let e:Int:=zai .u32 a' 65535
 some (0,[t11',.int .u32 e],st)) (
 cond (decide (t27'=23)) (
 let f:Int:=zai .u32 a' 31
 ((aI .shl .u32 b' f).bind (asI .u32)).bind fun g=>
 some (0,[t11',.int .u32 g],st)) (
 cond (decide (t27'=24)) (
 let h:Int:=zai .u32 a' 31
 ((aI .shr .u32 b' h).bind (asI .u32)).bind fun i=>
 some (0,[t11',.int .u32 i],st)) (
 cond (decide (t27'=25)) (
 let j:Int:=IntKind.wrap .u8 a'
 (cf 44 [.int .u8 j,.int .u32 b'] st).bind fun k=>
 ((zaS k.1 0).bind (asI .u32)).bind fun l=>
 (zaS k.1 1).bind fun m=>
 (addr? t11').bind fun n=>
 (k.2.stV n.1 n.2 4 m).bind fun o=>
 some (1,[.int .u32 l,t11'],o)) (
 cond (decide (t27'=26)) (
 let p:Int:=IntKind.wrap .u8 a'
 (cf 45 [.int .u8 p,.int .u32 b',.bool c'] st).bind fun q=>
 ((zaS q.1 0).bind (asI .u32)).bind fun r=>
 (zaS q.1 1).bind fun s=>
 (addr? t11').bind fun t=>
 (q.2.stV t.1 t.2 4 s).bind fun u=>
 some (1,[.int .u32 r,t11'],u)) (
 cond (decide (t27'=28)) (
 (zaf p').bind fun v=>
 (addr? v).bind fun w=>
 ((st.ld w.1 (w.2+75)).bind (asI .i64)).bind fun x=>
 (cf 43 [.int .u32 a',.int .i64 x] st).bind fun y=>
 ((some y.1).bind (asI .u32)).bind fun z=>
 some (0,[t11',.int .u32 z],y.2)) (
 cond (decide (t27'=29)) (
 (zaf p').bind fun A=>
 (addr? A).bind fun B=>
 ((st.ld B.1 (B.2+76)).bind (asI .u64)).bind fun C=>
 let D:Int:=zai .u32 a' 31
 let E:Int:=IntKind.wrap .i64 D
 let F:Int:=if 32<b' then 32 else b'
 let G:Int:=IntKind.wrap .i64 F
 (zaf p').bind fun H=>
 (addr? H).bind fun I=>
 ((st.ld I.1 (I.2+67+3)).bind (asI .i64)).bind fun J=>
 (cf 46 [.int .u64 C,.int .i64 E,.int .i64 G,.bool (decide (J=1))] st).bind fun K=>
 ((some K.1).bind (asI .u32)).bind fun L=>
 some (0,[t11',.int .u32 L],K.2)) (
 cond (decide (t27'=30)) (
 (zaf p').bind fun M=>
 (addr? M).bind fun N=>
 ((st.ld N.1 (N.2+76)).bind (asI .u64)).bind fun O=>
 let P:Int:=zai .u32 a' 31
 let Q:Int:=IntKind.wrap .i64 P
 let R:Int:=if 32<b' then 32 else b'
 let S:Int:=IntKind.wrap .i64 R
 (cf 11 [p',.int .i64 36] (st.ro st.next)).bind fun T=>
 ((some T.1).bind (asI .u32)).bind fun U=>
 (cf 47 [.int .u64 O,.int .i64 Q,.int .i64 S,.int .u32 U] (T.2.ro st.lim)).bind fun V=>
 ((some V.1).bind (asI .u64)).bind fun W=>
 (zaf p').bind fun X=>
 (addr? X).bind fun Y=>
 (V.2.st Y.1 (Y.2+76) [.int .u64 W]).bind fun Z=>
 (zaf p').bind fun aA=>
 (addr? aA).bind fun aB=>
 ((Z.ld aB.1 (aB.2+76)).bind (asI .u64)).bind fun aC=>
 let aD:Int:=IntKind.wrap .u32 aC
 some (0,[t11',.int .u32 aD],Z)) (
 cond (decide (t27'=31)) (
 (zaf p').bind fun aE=>
 (addr? aE).bind fun aF=>
 (st.ld aF.1 (aF.2+67+4)).bind fun aG=>
 ((lenV aG).bind (asI .i64)).bind fun aH=>
 cond (decide (0<aH)) (
 (zaf p').bind fun aJ=>
 (addr? aJ).bind fun aK=>
 (st.ld aK.1 (aK.2+67+4)).bind fun aL=>
 (za8 aL 0 2).bind fun aM=>
 ((st.ld aM.1 (aM.2+1)).bind (asI .i64)).bind fun aN=>
 (zaf p').bind fun aO=>
 (addr? aO).bind fun aP=>
 (st.ld aP.1 (aP.2+67+4)).bind fun aQ=>
 (cf 30 [p'] (st.ro st.next)).bind fun aR=>
 ((some aR.1).bind (asI .i64)).bind fun aS=>
 (za8 aQ aS 2).bind fun aT=>
 (((aR.2.ro st.lim).ld aT.1 (aT.2+1)).bind (asI .i64)).bind fun aU=>
 (zaf p').bind fun aV=>
 (addr? aV).bind fun aW=>
 (((aR.2.ro st.lim).ld aW.1 (aW.2+67+2)).bind (asI .i64)).bind fun aX=>
 (cf 48 [.int .u32 a',.int .i64 aN,.int .i64 aU,.bool (decide (aX=18)),.bool c'] (aR.2.ro st.lim)).bind fun aY=>
 ((zaS aY.1 0).bind (asI .u32)).bind fun aZ=>
 (zaS aY.1 1).bind fun bA=>
 (addr? t11').bind fun bB=>
 (aY.2.stV bB.1 bB.2 4 bA).bind fun bC=>
 some (1,[.int .u32 aZ,t11'],bC)) (
 (zaf p').bind fun bD=>
 (addr? bD).bind fun bE=>
 ((st.ld bE.1 (bE.2+67+2)).bind (asI .i64)).bind fun bF=>
 (cf 48 [.int .u32 a',.int .i64 4,.int .i64 4,.bool (decide (bF=18)),.bool c'] st).bind fun bG=>
 ((zaS bG.1 0).bind (asI .u32)).bind fun bH=>
 (zaS bG.1 1).bind fun bI=>
 (addr? t11').bind fun bJ=>
 (bG.2.stV bJ.1 bJ.2 4 bI).bind fun bK=>
 some (1,[.int .u32 bH,t11'],bK))) (
 cond (decide (op'=27)) (
 (zaf p').bind fun bL=>
 (addr? bL).bind fun bM=>
 ((st.ld bM.1 (bM.2+67+3)).bind (asI .i64)).bind fun bN=>
 (lf 1000007 [p',.int .i64 bN,.int .u32 a',.int .u32 b',.int .i64 size',t11',.bool c'] st).bind fun bO=>
 ((bO.2.1[0]?).bind (asI .u32)).bind fun bP=>
 (bO.2.1[1]?).bind fun bQ=>
 some (1,[.int .u32 bP,bQ],bO.2.2)) (
 (lf 1000007 [p',.int .i64 op',.int .u32 a',.int .u32 b',.int .i64 size',t11',.bool c'] st).bind fun bR=>
 ((bR.2.1[0]?).bind (asI .u32)).bind fun bS=>
 (bR.2.1[1]?).bind fun bT=>
 some (1,[.int .u32 bS,bT],bR.2.2)))))))))))))
theorem zfE [Sym] (p':Value) (op':Int) (a':Int) (b':Int) (size':Int) (t11':Value) (c':Bool) (t27':Int) (t62':Bool) (st:SS) {r:Nat×List Value×SS} (h:zaz cc zaK p' op' a' b' size' t11' c' t27' t62' st=some r):zaK 1000012 [p',.int .i64 op',.int .u32 a',.int .u32 b',.int .i64 size',t11',.bool c',.int .i64 t27',.bool t62'] st=some r:=
 za5 zak zaq (key:=1000012) (I:=zcS) rfl (by kernel_rfl) (by kernel_rfl) rfl rfl (.trans (by kernel_rfl) h)
def zdG:LoopI:=⟨[(0,.any),(2,.int .i64),(4,.any)],[(.normal,[])]⟩
def zed (n:Nat):Option LoopI:=cond (Nat.beq n 1000004) (some zdG) (none)
noncomputable def zcm (cf:zao) (lf:zab) (p':Value) (f':Value) (how':Int) (st:SS):Option (Value×SS):=
 let a:SS:=st.new (.cells (f':Value).cells.toList 0)
 cond (decide (how'=2)) (
 (zaf p').bind fun b=>
 (addr? b).bind fun c=>
 (a.ld c.1 c.2).bind fun d=>
 (cf 33 [d] a).bind fun e=>
 ((some e.1).bind (asI .u32)).bind fun f=>
 (cf 42 [.int .u32 f] e.2).bind fun g=>
 ((zjF Lk0 58 3 g.1).bind asB).bind fun h=>
 (g.2.st st.next 3 [.bool h]).bind fun i=>
 (lf 1000004 [p',.int .i64 how',ptr st.next 0] i).bind fun j=>
 some (.tuple #[],j.2.2)) (
 (lf 1000004 [p',.int .i64 how',ptr st.next 0] a).bind fun k=>
 some (.tuple #[],k.2.2))
noncomputable abbrev zbN:zab:=lS Tryd.prog Lk0 Tryd.f24 zed
theorem zhE:Lk0.func 24=some (24,Tryd.f24):=by kernel_rfl
theorem zcy [Sym] (p':Value) (f':Value) (how':Int) (st:SS) {r:Value×SS} (h:zcm cc zbN p' f' how' st=some r):cc 24 [p',f',.int .i64 how'] st=some r:=
 zah (li:=zed) zak zaq zhE rfl (fun _=>rfl) (.trans (by kernel_rfl) h)
noncomputable def zcz (cf:zao) (lf:zab) (p':Value) (how':Int) (f':Value) (st:SS):Option (Nat×List Value×SS):=
 cond (decide (how'=1)) (
 (zaf p').bind fun a=>
 (addr? a).bind fun b=>
 (st.ld b.1 b.2).bind fun c=>
 (zaf p').bind fun d=>
 (addr? d).bind fun e=>
 (st.ld e.1 e.2).bind fun f=>
 (cf 33 [f] (st.ro st.next)).bind fun g=>
 ((some g.1).bind (asI .u32)).bind fun h=>
 (addr? f').bind fun i=>
 ((g.2.ro st.lim).ldN i.1 i.2 4).bind fun j=>
 (cf 51 [.int .u32 h,j] ((g.2.ro st.lim).ro (g.2.ro st.lim).next)).bind fun k=>
 ((some k.1).bind (asI .u32)).bind fun l=>
 (cf 28 [c,.int .u32 l] (k.2.ro (g.2.ro st.lim).lim)).bind fun m=>
 some (0,[],m.2)) (
 cond (decide (how'=2)) (
 (zaf p').bind fun n=>
 (addr? n).bind fun o=>
 (st.ld o.1 o.2).bind fun p=>
 (zaf p').bind fun q=>
 (addr? q).bind fun r=>
 (st.ld r.1 r.2).bind fun s=>
 (cf 33 [s] (st.ro st.next)).bind fun t=>
 ((some t.1).bind (asI .u32)).bind fun u=>
 (addr? f').bind fun v=>
 ((t.2.ro st.lim).ldN v.1 v.2 4).bind fun w=>
 (cf 51 [.int .u32 u,w] ((t.2.ro st.lim).ro (t.2.ro st.lim).next)).bind fun x=>
 ((some x.1).bind (asI .u32)).bind fun y=>
 (cf 28 [p,.int .u32 y] (x.2.ro (t.2.ro st.lim).lim)).bind fun z=>
 some (0,[],z.2)) (
 some (0,[],st)))
theorem zde [Sym] (p':Value) (how':Int) (f':Value) (st:SS) {r:Nat×List Value×SS} (h:zcz cc zbN p' how' f' st=some r):zbN 1000004 [p',.int .i64 how',f'] st=some r:=
 za5 zak zaq (key:=1000004) (I:=zdG) rfl (by kernel_rfl) (by kernel_rfl) rfl rfl (.trans (by kernel_rfl) h)
noncomputable def zfF (cf:zao) (lf:zab) (p':Value) (n':Int) (st:SS):Option (Value×SS):=
 cond (decide (n'=39)) (
 (zaf p').bind fun a=>
 (addr? a).bind fun b=>
 (((st.ro st.next).ld b.1 (b.2+73)).bind (asI .i64)).bind fun c=>
 some (.int .i64 c,st.adv (st.ro st.next).next)) (
 cond (decide (n'=54)) (
 (cf 52 [p'] (st.ro st.next)).bind fun d=>
 ((some d.1).bind (asI .i64)).bind fun e=>
 let f:Int:=IntKind.wrap .i64 (24+e)
 some (.int .i64 f,st.adv d.2.next)) (
 cond (decide (n'=55)) (
 (cf 52 [p'] (st.ro st.next)).bind fun g=>
 ((some g.1).bind (asI .i64)).bind fun h=>
 let i:Int:=IntKind.wrap .i64 (30+h)
 some (.int .i64 i,st.adv g.2.next)) (
 cond (decide (n'=57)) (
 (cf 30 [p'] (st.ro st.next)).bind fun j=>
 ((some j.1).bind (asI .i64)).bind fun k=>
 (zaf p').bind fun l=>
 (addr? l).bind fun m=>
 (zaT (ptr m.1 (m.2+61)) 6 k 1).bind fun n=>
 ((j.2.ld n.1 n.2).bind (asI .i64)).bind fun o=>
 some (.int .i64 o,st.adv j.2.next)) (
 cond (decide (n'<36)) (
 some (.int .i64 n',st.adv (st.ro st.next).next)) (
 cond (decide (n'=36)) (
 some (.int .i64 n',st.adv (st.ro st.next).next)) (
 cond (decide (n'=37)) (
 some (.int .i64 n',st.adv (st.ro st.next).next)) (
 cond (decide (n'=38)) (
 some (.int .i64 n',st.adv (st.ro st.next).next)) (
 cond (decide (43≤n')) (
 cond (decide (n'≤45)) (
 some (.int .i64 n',st.adv (st.ro st.next).next)) (
 cond (decide (n'=53)) (
 some (.int .i64 n',st.adv (st.ro st.next).next)) (
 cond (decide (n'=59)) (
 some (.int .i64 n',st.adv (st.ro st.next).next)) (
 some (.int .i64 (-1),st.adv (st.ro st.next).next))))) (
 cond (decide (n'=53)) (
 some (.int .i64 n',st.adv (st.ro st.next).next)) (
 cond (decide (n'=59)) (
 some (.int .i64 n',st.adv (st.ro st.next).next)) (
 some (.int .i64 (-1),st.adv (st.ro st.next).next))))))))))))
noncomputable abbrev zhF:zab:=lS Tryd.prog Lk0 Tryd.f25 zau
theorem zhG:Lk0.func 25=some (25,Tryd.f25):=by kernel_rfl
theorem zhH [Sym] (p':Value) (n':Int) (st:SS) {r:Value×SS} (h:zfF cc zhF p' n' st=some r):cc 25 [p',.int .i64 n'] st=some r:=
 zah (li:=zau) zak zaq zhG rfl (fun _=>rfl) (.trans (by kernel_rfl) h)
def zdH:LoopI:=⟨[(0,.any),(141,.int .u32),(142,.int .u32)],[(.exit 7,[])]⟩
def zdI:LoopI:=⟨[(0,.any),(11,.int .i64)],[(.exit 5,[])]⟩
def zdJ:LoopI:=⟨[(0,.any),(6,.int .i64),(8,.int .u32),(64,.any),(65,.int .i64),(66,.int .i64)],[(.exit 3,[(0,.any),(6,.int .i64),(8,.int .u32)])]⟩
def zd2:LoopI:=⟨[(0,.any),(21,.int .i64),(22,.int .i64)],[(.exit 1,[])]⟩
def zee (n:Nat):Option LoopI:=cond (Nat.beq n 5) (some zd2) (cond (Nat.beq n 14) (some zdJ) (cond (Nat.beq n 24) (some zdI) (cond (Nat.beq n 30) (some zdH) (none))))
noncomputable def zdw (cf:zao) (lf:zab) (p':Value) (w':Value) (a':Int) (st:SS):Option (Value×SS):=
 let a:SS:=st.new (.cells (w':Value).cells.toList 0)
 ((a.ld st.next 5).bind (asI .i64)).bind fun b=>
 (cf 22 [p',.int .i64 b] a).bind fun c=>
 ((some c.1).bind (asI .i64)).bind fun d=>
 ((c.2.ld st.next 7).bind (asI .i64)).bind fun e=>
 cond (decide (e=6)) (
 (lf 5 [p',.int .i64 d,.int .i64 0] c.2).bind fun f=>
 some (.tuple #[],f.2.2)) (
 cond (decide (e=7)) (
 (zaf p').bind fun g=>
 (addr? g).bind fun h=>
 (c.2.ld h.1 (h.2+77)).bind fun i=>
 ((lenV i).bind (asI .i64)).bind fun j=>
 let k:Int:=if j<d then j else d
 (zaf p').bind fun l=>
 (addr? l).bind fun m=>
 (c.2.ld m.1 (m.2+77)).bind fun n=>
 (c.2.resl n 1 0 k).bind fun o=>
 ((lenV o).bind (asI .i64)).bind fun p=>
 (lf 14 [p',.int .i64 k,.int .u32 0,o,.int .i64 p,.int .i64 0] c.2).bind fun q=>
 (q.2.1[0]?).bind fun r=>
 ((q.2.1[1]?).bind (asI .i64)).bind fun s=>
 ((q.2.1[2]?).bind (asI .u32)).bind fun t=>
 (zaf r).bind fun u=>
 (addr? u).bind fun v=>
 (q.2.2.ld v.1 (v.2+77)).bind fun w=>
 (sliceLen w).bind fun x=>
 (q.2.2.resl w 1 s x).bind fun y=>
 (zaf r).bind fun z=>
 (addr? z).bind fun A=>
 (zaT (ptr A.1 (A.2+1)) 60 36 1).bind fun B=>
 cond (zcK w (ptr B.1 B.2)) (
 (q.2.2.st B.1 B.2 [.int .u32 t]).bind fun C=>
 (zaf r).bind fun D=>
 (addr? D).bind fun E=>
 (C.stV E.1 (E.2+77) 1 y).bind fun F=>
 some (.tuple #[],F)) (
 none)) (
 cond (decide (e=8)) (
 (zaf p').bind fun G=>
 (addr? G).bind fun H=>
 (c.2.st H.1 (H.2+77) [.slice none 0 0]).bind fun I=>
 some (.tuple #[],I)) (
 cond (decide (e=12)) (
 (zaf p').bind fun J=>
 (addr? J).bind fun K=>
 (c.2.st K.1 (K.2+76) [.int .u64 0]).bind fun L=>
 (lf 24 [p',.int .i64 0] L).bind fun M=>
 some (.tuple #[],M.2.2)) (
 cond (decide (e=13)) (
 (zaf p').bind fun N=>
 (addr? N).bind fun O=>
 (c.2.st O.1 (O.2+77) [.slice none 0 0]).bind fun P=>
 (zaf p').bind fun Q=>
 (addr? Q).bind fun R=>
 (zaT (ptr R.1 (R.2+1)) 60 23 1).bind fun S=>
 ((P.ld S.1 S.2).bind (asI .u32)).bind fun T=>
 let U:Int:=if 8<T then 8 else T
 (lf 30 [p',.int .u32 U,.int .u32 0] P).bind fun V=>
 some (.tuple #[],V.2.2)) (
 cond (decide (e=14)) (
 let W:Int:=IntKind.wrap .u64 a'
 (zaf p').bind fun X=>
 (addr? X).bind fun Y=>
 (c.2.st Y.1 (Y.2+76) [.int .u64 W]).bind fun Z=>
 some (.tuple #[],Z)) (
 some (.tuple #[],c.2)))))))
noncomputable abbrev zaE:zab:=lS Tryd.prog Lk0 Tryd.f26 zee
theorem zhI:Lk0.func 26=some (26,Tryd.f26):=by kernel_rfl
theorem zef [Sym] (p':Value) (w':Value) (a':Int) (st:SS) {r:Value×SS} (h:zdw cc zaE p' w' a' st=some r):cc 26 [p',w',.int .u32 a'] st=some r:=
 zah (li:=zee) zak zaq zhI rfl (fun _=>rfl) (.trans (by kernel_rfl) h)
noncomputable def zbO (cf:zao) (lf:zab) (p':Value) (t21':Int) (t22':Int) (st:SS):Option (Nat×List Value×SS):=
 cond (decide (t22'<t21')) (
 (zaf p').bind fun a=>
 (addr? a).bind fun b=>
 (st.ld b.1 (b.2+77)).bind fun c=>
 ((lenV c).bind (asI .i64)).bind fun d=>
 cond (decide (d<256)) (
 (zaf p').bind fun e=>
 (addr? e).bind fun f=>
 (st.ld f.1 (f.2+77)).bind fun g=>
 (zaf p').bind fun h=>
 (addr? h).bind fun i=>
 (zaT (ptr i.1 (i.2+1)) 60 36 1).bind fun j=>
 ((st.ld j.1 j.2).bind (asI .u32)).bind fun k=>
 let l:Int:=IntKind.wrap .i64 (8*t22')
 ((aI .shr .u32 k l).bind (asI .u32)).bind fun m=>
 let n:Int:=IntKind.wrap .u8 m
 let o:SS:=st.new (.cells ([.int .u8 n]) 1)
 (o.app 1 1 g (.slice (some ⟨st.next,0,none⟩) 1 1)).bind fun p=>
 (zaf p').bind fun q=>
 (addr? q).bind fun r=>
 (p.2.stV r.1 (r.2+77) 1 p.1).bind fun s=>
 let t:Int:=IntKind.wrap .i64 (t22'+1)
 lf 5 [p',.int .i64 t21',.int .i64 t] s) (
 let u:Int:=IntKind.wrap .i64 (t22'+1)
 lf 5 [p',.int .i64 t21',.int .i64 u] st)) (
 some (0,[],st))
theorem zb0 [Sym] (p':Value) (t21':Int) (t22':Int) (st:SS) {r:Nat×List Value×SS} (h:zbO cc zaE p' t21' t22' st=some r):zaE 5 [p',.int .i64 t21',.int .i64 t22'] st=some r:=
 zbD zak zaq (key:=5) (I:=zd2) rfl (by kernel_rfl) (by kernel_rfl) rfl rfl (.trans (by kernel_rfl) h)
noncomputable def zcn (cf:zao) (lf:zab) (p':Value) (n':Int) (x':Int) (t64':Value) (t65':Int) (t66':Int) (st:SS):Option (Nat×List Value×SS):=
 cond (decide (t66'<t65')) (
 (za8 t64' t66' 1).bind fun a=>
 ((st.ld a.1 a.2).bind (asI .u8)).bind fun b=>
 let c:Int:=IntKind.wrap .u32 b
 let d:Int:=IntKind.wrap .i64 (8*t66')
 ((aI .shl .u32 c d).bind (asI .u32)).bind fun e=>
 let f:Int:=orI .u32 x' e
 let g:Int:=IntKind.wrap .i64 (t66'+1)
 lf 14 [p',.int .i64 n',.int .u32 f,t64',.int .i64 t65',.int .i64 g] st) (
 some (0,[p',.int .i64 n',.int .u32 x'],st))
theorem zcT [Sym] (p':Value) (n':Int) (x':Int) (t64':Value) (t65':Int) (t66':Int) (st:SS) {r:Nat×List Value×SS} (h:zcn cc zaE p' n' x' t64' t65' t66' st=some r):zaE 14 [p',.int .i64 n',.int .u32 x',t64',.int .i64 t65',.int .i64 t66'] st=some r:=
 zbD zak zaq (key:=14) (I:=zdJ) rfl (by kernel_rfl) (by kernel_rfl) rfl rfl (.trans (by kernel_rfl) h)
noncomputable def zco (cf:zao) (lf:zab) (p':Value) (i':Int) (st:SS):Option (Nat×List Value×SS):=
 (zaf p').bind fun a=>
 (addr? a).bind fun b=>
 (st.ld b.1 (b.2+77)).bind fun c=>
 ((lenV c).bind (asI .i64)).bind fun d=>
 let e:Int:=if 8<d then 8 else d
 cond (decide (i'<e)) (
 (zaf p').bind fun f=>
 (addr? f).bind fun g=>
 ((st.ld g.1 (g.2+76)).bind (asI .u64)).bind fun h=>
 (zaf p').bind fun i=>
 (addr? i).bind fun j=>
 (st.ld j.1 (j.2+77)).bind fun k=>
 (za8 k i' 1).bind fun l=>
 ((st.ld l.1 l.2).bind (asI .u8)).bind fun m=>
 let n:Int:=IntKind.wrap .u64 m
 let o:Int:=IntKind.wrap .i64 (8*i')
 ((aI .shl .u64 n o).bind (asI .u64)).bind fun p=>
 let q:Int:=orI .u64 h p
 (zaf p').bind fun r=>
 (addr? r).bind fun s=>
 (st.st s.1 (s.2+76) [.int .u64 q]).bind fun t=>
 let u:Int:=IntKind.wrap .i64 (i'+1)
 lf 24 [p',.int .i64 u] t) (
 some (0,[],st))
theorem zcU [Sym] (p':Value) (i':Int) (st:SS) {r:Nat×List Value×SS} (h:zco cc zaE p' i' st=some r):zaE 24 [p',.int .i64 i'] st=some r:=
 zbD zak zaq (key:=24) (I:=zdI) rfl (by kernel_rfl) (by kernel_rfl) rfl rfl (.trans (by kernel_rfl) h)
noncomputable def zcp (cf:zao) (lf:zab) (p':Value) (t141':Int) (t142':Int) (st:SS):Option (Nat×List Value×SS):=
 cond (decide (t142'<t141')) (
 (zaf p').bind fun a=>
 (addr? a).bind fun b=>
 (st.ld b.1 (b.2+77)).bind fun c=>
 (zaf p').bind fun d=>
 (addr? d).bind fun e=>
 ((st.ld e.1 (e.2+76)).bind (asI .u64)).bind fun f=>
 let g:Int:=IntKind.wrap .u32 (8*t142')
 ((aI .shr .u64 f g).bind (asI .u64)).bind fun h=>
 let i:Int:=IntKind.wrap .u8 h
 let j:SS:=st.new (.cells ([.int .u8 i]) 1)
 (j.app 1 1 c (.slice (some ⟨st.next,0,none⟩) 1 1)).bind fun k=>
 (zaf p').bind fun l=>
 (addr? l).bind fun m=>
 (k.2.stV m.1 (m.2+77) 1 k.1).bind fun n=>
 let o:Int:=IntKind.wrap .u32 (t142'+1)
 lf 30 [p',.int .u32 t141',.int .u32 o] n) (
 some (0,[],st))
theorem zcV [Sym] (p':Value) (t141':Int) (t142':Int) (st:SS) {r:Nat×List Value×SS} (h:zcp cc zaE p' t141' t142' st=some r):zaE 30 [p',.int .u32 t141',.int .u32 t142'] st=some r:=
 zbD zak zaq (key:=30) (I:=zdH) rfl (by kernel_rfl) (by kernel_rfl) rfl rfl (.trans (by kernel_rfl) h)
noncomputable def zfG (cf:zao) (lf:zab) (p':Value) (w':Value) (a':Int) (st:SS):Option (Value×SS):=
 let a:SS:=st.new (.cells (w':Value).cells.toList 0)
 ((a.ld st.next 11).bind (asI .i64)).bind fun b=>
 cond (decide (b=1)) (
 (zaf p').bind fun c=>
 (addr? c).bind fun d=>
 (a.ld d.1 d.2).bind fun e=>
 (zaf p').bind fun f=>
 (addr? f).bind fun g=>
 ((a.ld g.1 (g.2+73)).bind (asI .i64)).bind fun h=>
 (cf 53 [e,.int .i64 h,.int .u32 a'] a).bind fun i=>
 ((some i.1).bind (asI .i64)).bind fun j=>
 some (.tuple #[],i.2)) (
 cond (decide (b=2)) (
 (zaf p').bind fun k=>
 (addr? k).bind fun l=>
 (a.ld l.1 l.2).bind fun m=>
 (cf 54 [m] a).bind fun n=>
 (zaf p').bind fun o=>
 (addr? o).bind fun p=>
 (n.2.ld p.1 p.2).bind fun q=>
 (zaf p').bind fun r=>
 (addr? r).bind fun s=>
 ((n.2.ld s.1 (s.2+84)).bind (asI .u32)).bind fun t=>
 (cf 28 [q,.int .u32 t] n.2).bind fun u=>
 some (.tuple #[],u.2)) (
 cond (decide (b=3)) (
 (zaf p').bind fun v=>
 (addr? v).bind fun w=>
 (a.ld w.1 w.2).bind fun x=>
 (zaf p').bind fun y=>
 (addr? y).bind fun z=>
 (a.ld z.1 z.2).bind fun A=>
 (cf 33 [A] (a.ro a.next)).bind fun B=>
 ((some B.1).bind (asI .u32)).bind fun C=>
 let D:Int:=orI .u32 C 134217728
 (cf 28 [x,.int .u32 D] (B.2.ro a.lim)).bind fun E=>
 some (.tuple #[],E.2)) (
 cond (decide (b=4)) (
 (zaf p').bind fun F=>
 (addr? F).bind fun G=>
 (a.ld G.1 G.2).bind fun H=>
 (zaf p').bind fun I=>
 (addr? I).bind fun J=>
 (a.ld J.1 J.2).bind fun K=>
 (cf 33 [K] (a.ro a.next)).bind fun L=>
 ((some L.1).bind (asI .u32)).bind fun M=>
 let N:Int:=zbj .u32 M 134217728
 (cf 28 [H,.int .u32 N] (L.2.ro a.lim)).bind fun O=>
 some (.tuple #[],O.2)) (
 cond (decide (b=6)) (
 (cf 52 [p'] (a.ro a.next)).bind fun P=>
 ((some P.1).bind (asI .i64)).bind fun Q=>
 (zaf p').bind fun R=>
 (addr? R).bind fun S=>
 (((P.2.ro a.lim).ld S.1 (S.2+73)).bind (asI .i64)).bind fun T=>
 (zaf p').bind fun U=>
 (addr? U).bind fun V=>
 (zaT (ptr V.1 (V.2+61)) 6 Q 1).bind fun W=>
 ((P.2.ro a.lim).st W.1 W.2 [.int .i64 T]).bind fun X=>
 some (.tuple #[],X)) (
 cond (decide (b=7)) (
 (zaf p').bind fun Y=>
 (addr? Y).bind fun Z=>
 ((a.ld Z.1 (Z.2+73)).bind (asI .i64)).bind fun aA=>
 (zaf p').bind fun aB=>
 (addr? aB).bind fun aC=>
 (a.st aC.1 (aC.2+74) [.int .i64 aA]).bind fun aD=>
 some (.tuple #[],aD)) (
 cond (decide (b=15)) (
 let aE:Int:=zai .u32 a' 15
 let aF:Int:=IntKind.wrap .i64 aE
 (zaf p').bind fun aG=>
 (addr? aG).bind fun aH=>
 (a.st aH.1 (aH.2+73) [.int .i64 aF]).bind fun aI=>
 some (.tuple #[],aI)) (
 cond (decide (b=16)) (
 ((a.ld st.next 4).bind (asI .i64)).bind fun aJ=>
 let aK:Int:=if 5<aJ then 5 else aJ
 (zaf p').bind fun aL=>
 (addr? aL).bind fun aM=>
 (zaT (ptr aM.1 (aM.2+61)) 6 aK 1).bind fun aN=>
 ((a.ld aN.1 aN.2).bind (asI .i64)).bind fun aO=>
 let aP:Int:=if 0>aO then 0 else aO
 (zaf p').bind fun aQ=>
 (addr? aQ).bind fun aR=>
 (a.st aR.1 (aR.2+73) [.int .i64 aP]).bind fun aS=>
 some (.tuple #[],aS)) (
 cond (decide (b=17)) (
 (zaf p').bind fun aT=>
 (addr? aT).bind fun aU=>
 (a.ld aU.1 (aU.2+67+4)).bind fun aV=>
 ((lenV aV).bind (asI .i64)).bind fun aW=>
 cond (decide (0<aW)) (
 (zaf p').bind fun aX=>
 (addr? aX).bind fun aY=>
 (a.ld aY.1 (aY.2+67+4)).bind fun aZ=>
 (cf 30 [p'] (a.ro a.next)).bind fun bA=>
 ((some bA.1).bind (asI .i64)).bind fun bB=>
 (za8 aZ bB 2).bind fun bC=>
 (((bA.2.ro a.lim).ld bC.1 (bC.2+1)).bind (asI .i64)).bind fun bD=>
 (zaf p').bind fun bE=>
 (addr? bE).bind fun bF=>
 ((bA.2.ro a.lim).st bF.1 (bF.2+75) [.int .i64 bD]).bind fun bG=>
 some (.tuple #[],bG)) (
 some (.tuple #[],a))) (
 cond (decide (b=18)) (
 (cf 55 [p'] a).bind fun bH=>
 some (.tuple #[],bH.2)) (
 cond (decide (b=20)) (
 ((a.ld st.next 4).bind (asI .i64)).bind fun bI=>
 let bJ:Int:=IntKind.wrap .u32 bI
 (zaf p').bind fun bK=>
 (addr? bK).bind fun bL=>
 (zaT (ptr bL.1 (bL.2+1)) 60 59 1).bind fun bM=>
 (a.st bM.1 bM.2 [.int .u32 bJ]).bind fun bN=>
 some (.tuple #[],bN)) (
 cond (decide (b=21)) (
 (zaf p').bind fun bO=>
 (addr? bO).bind fun bP=>
 (zaT (ptr bP.1 (bP.2+1)) 60 21 1).bind fun bQ=>
 ((a.ld bQ.1 bQ.2).bind (asI .u32)).bind fun bR=>
 (cf 56 [.int .u32 bR] a).bind fun bS=>
 ((some bS.1).bind (asI .i64)).bind fun bT=>
 let bU:Int:=IntKind.wrap .i64 (4*bT)
 let bV:Int:=IntKind.wrap .u32 bU
 (zaf p').bind fun bW=>
 (addr? bW).bind fun bX=>
 (zaT (ptr bX.1 (bX.2+1)) 60 23 1).bind fun bY=>
 (bS.2.st bY.1 bY.2 [.int .u32 bV]).bind fun bZ=>
 some (.tuple #[],bZ)) (
 some (.tuple #[],a)))))))))))))
noncomputable abbrev zhJ:zab:=lS Tryd.prog Lk0 Tryd.f27 zau
theorem zhK:Lk0.func 27=some (27,Tryd.f27):=by kernel_rfl
theorem zhL [Sym] (p':Value) (w':Value) (a':Int) (st:SS) {r:Value×SS} (h:zfG cc zhJ p' w' a' st=some r):cc 27 [p',w',.int .u32 a'] st=some r:=
 zah (li:=zau) zak zaq zhK rfl (fun _=>rfl) (.trans (by kernel_rfl) h)
def zdK:LoopI:=⟨[(0,.any),(3,.int .i64)],[(.exit 0,[]),(.ret,[(2,.int .i64)])]⟩
def zd3 (n:Nat):Option LoopI:=cond (Nat.beq n 2) (some zdK) (none)
noncomputable def zeV (cf:zao) (lf:zab) (p':Value) (st:SS):Option (Value×SS):=
 (zaf p').bind fun a=>
 (addr? a).bind fun b=>
 ((st.ro st.next).ld b.1 (b.2+67+4)).bind fun c=>
 ((lenV c).bind (asI .i64)).bind fun d=>
 let e:Int:=IntKind.wrap .i64 (d-1)
 (lf 2 [p',.int .i64 e] (st.ro st.next)).bind fun f=>
 cond (Nat.beq f.1 0) (
 some (.int .i64 0,st.adv f.2.2.next)) (
 ((f.2.1[0]?).bind (asI .i64)).bind fun g=>
 some (.int .i64 g,st.adv f.2.2.next))
noncomputable abbrev zbF:zab:=lS Tryd.prog Lk0 Tryd.f30 zd3
theorem zhm:Lk0.func 30=some (30,Tryd.f30):=by kernel_rfl
theorem zhn [Sym] (p':Value) (st:SS) {r:Value×SS} (h:zeV cc zbF p' st=some r):cc 30 [p'] st=some r:=
 zah (li:=zd3) zak zaq zhm rfl (fun _=>rfl) (.trans (by kernel_rfl) h)
noncomputable def zbG (cf:zao) (lf:zab) (p':Value) (i':Int) (st:SS):Option (Nat×List Value×SS):=
 cond (decide (0≤i')) (
 (zaf p').bind fun a=>
 (addr? a).bind fun b=>
 (st.ld b.1 (b.2+67+4)).bind fun c=>
 (za8 c i' 2).bind fun d=>
 ((st.ld d.1 d.2).bind (asI .u8)).bind fun e=>
 cond (!(decide (e=98))) (
 some (1,[.int .i64 i'],st)) (
 let f:Int:=IntKind.wrap .i64 (i'-1)
 lf 2 [p',.int .i64 f] st)) (
 some (0,[],st))
theorem zbR [Sym] (p':Value) (i':Int) (st:SS) {r:Nat×List Value×SS} (h:zbG cc zbF p' i' st=some r):zbF 2 [p',.int .i64 i'] st=some r:=
 zbD zak zaq (key:=2) (I:=zdK) rfl (by kernel_rfl) (by kernel_rfl) rfl rfl (.trans (by kernel_rfl) h)
noncomputable def zfZ (cf:zao) (lf:zab) (p':Value) (op':Value) (st:SS):Option (Value×SS):=
 let a:SS:=st.new (.cells (op':Value).cells.toList 0)
 (a.ldN st.next 0 5).bind fun b=>
 (zaf p').bind fun c=>
 (addr? c).bind fun d=>
 (a.stV d.1 (d.2+67) 5 b).bind fun e=>
 (zaf p').bind fun f=>
 (addr? f).bind fun g=>
 (e.st g.1 (g.2+72) [.int .i64 (-1)]).bind fun h=>
 (zaf p').bind fun i=>
 (addr? i).bind fun j=>
 (h.st j.1 (j.2+73) [.int .i64 0]).bind fun k=>
 (zaf p').bind fun l=>
 (addr? l).bind fun m=>
 (k.st m.1 (m.2+74) [.int .i64 (-1)]).bind fun n=>
 (zaf p').bind fun o=>
 (addr? o).bind fun p=>
 (n.st p.1 (p.2+75) [.int .i64 4]).bind fun q=>
 (zaf p').bind fun r=>
 (addr? r).bind fun s=>
 (q.st s.1 (s.2+61) [.int .i64 (-1),.int .i64 (-1),.int .i64 (-1),.int .i64 (-1),.int .i64 (-1),.int .i64 (-1)]).bind fun t=>
 (zaf p').bind fun u=>
 (addr? u).bind fun v=>
 (t.st v.1 (v.2+82) [.bool false]).bind fun w=>
 (zaf p').bind fun x=>
 (addr? x).bind fun y=>
 (w.st y.1 (y.2+83) [.bool false]).bind fun z=>
 (zaf p').bind fun A=>
 (addr? A).bind fun B=>
 (zky B.1 (B.2+1) 60 1 24 36).bind fun C=>
 (z.clr [.int .u32 0] C).bind fun D=>
 (cf 58 [p'] D).bind fun E=>
 some (.tuple #[],E.2)
noncomputable abbrev ziw:zab:=lS Tryd.prog Lk0 Tryd.f41 zau
theorem zix:Lk0.func 41=some (41,Tryd.f41):=by kernel_rfl
theorem ziy [Sym] (p':Value) (op':Value) (st:SS) {r:Value×SS} (h:zfZ cc ziw p' op' st=some r):cc 41 [p',op'] st=some r:=
 zah (li:=zau) zak zaq zix rfl (fun _=>rfl) (.trans (by kernel_rfl) h)
noncomputable def zhu (cf:zao) (lf:zab) (p':Value) (st:SS):Option (Value×SS):=
 (zaf p').bind fun a=>
 (addr? a).bind fun b=>
 (((st.ro st.next).ld b.1 (b.2+72)).bind (asI .i64)).bind fun c=>
 let d:Int:=if 0>c then 0 else c
 let e:Int:=if 5<d then 5 else d
 some (.int .i64 e,st.adv (st.ro st.next).next)
noncomputable abbrev zj6:zab:=lS Tryd.prog Lk0 Tryd.f52 zau
theorem zj7:Lk0.func 52=some (52,Tryd.f52):=by kernel_rfl
theorem zj8 [Sym] (p':Value) (st:SS) {r:Value×SS} (h:zhu cc zj6 p' st=some r):cc 52 [p'] st=some r:=
 zah (li:=zau) zak zaq zj7 rfl (fun _=>rfl) (.trans (by kernel_rfl) h)
noncomputable def zd4 (cf:zao) (lf:zab) (p':Value) (st:SS):Option (Value×SS):=
 (zaf p').bind fun a=>
 (addr? a).bind fun b=>
 (zaT (ptr b.1 (b.2+1)) 60 21 1).bind fun c=>
 ((st.ld c.1 c.2).bind (asI .u32)).bind fun d=>
 (zaf p').bind fun e=>
 (addr? e).bind fun f=>
 (st.st f.1 (f.2+83) [.bool (decide (d=0))]).bind fun g=>
 cond (!(decide (d=0))) (
 (cf 71 [.int .u32 d] g).bind fun h=>
 ((some h.1).bind (asI .i64)).bind fun i=>
 let j:Int:=IntKind.wrap .u32 i
 (zaf p').bind fun k=>
 (addr? k).bind fun l=>
 (zaT (ptr l.1 (l.2+1)) 60 22 1).bind fun m=>
 (h.2.st m.1 m.2 [.int .u32 j]).bind fun n=>
 let o:Int:=IntKind.wrap .u32 (d-1)
 let p:Int:=zai .u32 d o
 (zaf p').bind fun q=>
 (addr? q).bind fun r=>
 (zaT (ptr r.1 (r.2+1)) 60 21 1).bind fun s=>
 (n.st s.1 s.2 [.int .u32 p]).bind fun t=>
 some (.tuple #[],t)) (
 some (.tuple #[],g))
noncomputable abbrev ziz:zab:=lS Tryd.prog Lk0 Tryd.f55 zau
theorem ziA:Lk0.func 55=some (55,Tryd.f55):=by kernel_rfl
theorem zeJ [Sym] (p':Value) (st:SS) {r:Value×SS} (h:zd4 cc ziz p' st=some r):cc 55 [p'] st=some r:=
 zah (li:=zau) zak zaq ziA rfl (fun _=>rfl) (.trans (by kernel_rfl) h)
noncomputable def zdx (cf:zao) (lf:zab) (p':Value) (st:SS):Option (Value×SS):=
 (zaf p').bind fun a=>
 (addr? a).bind fun b=>
 (st.st b.1 (b.2+75) [.int .i64 4]).bind fun c=>
 (zaf p').bind fun d=>
 (addr? d).bind fun e=>
 (c.ld e.1 (e.2+67+4)).bind fun f=>
 ((lenV f).bind (asI .i64)).bind fun g=>
 cond (decide (0<g)) (
 (zaf p').bind fun h=>
 (addr? h).bind fun i=>
 (c.ld i.1 (i.2+67+4)).bind fun j=>
 (za8 j 0 2).bind fun k=>
 ((c.ld k.1 (k.2+1)).bind (asI .i64)).bind fun l=>
 (zaf p').bind fun m=>
 (addr? m).bind fun n=>
 (c.st n.1 (n.2+75) [.int .i64 l]).bind fun o=>
 some (.tuple #[],o)) (
 some (.tuple #[],c))
noncomputable abbrev zhM:zab:=lS Tryd.prog Lk0 Tryd.f58 zau
theorem zhN:Lk0.func 58=some (58,Tryd.f58):=by kernel_rfl
theorem zeg [Sym] (p':Value) (st:SS) {r:Value×SS} (h:zdx cc zhM p' st=some r):cc 58 [p'] st=some r:=
 zah (li:=zau) zak zaq zhN rfl (fun _=>rfl) (.trans (by kernel_rfl) h)
noncomputable def zf0 (cf:zao) (lf:zab) (p':Value) (st:SS):Option (Value×SS):=
 (zaf p').bind fun a=>
 (addr? a).bind fun b=>
 (st.ld b.1 b.2).bind fun c=>
 some (c,st)
noncomputable abbrev ziB:zab:=lS Tryd.prog Lk0 Tryd.f18 zau
theorem ziC:Lk0.func 18=some (18,Tryd.f18):=by kernel_rfl
theorem ziD [Sym] (p':Value) (st:SS) {r:Value×SS} (h:zf0 cc ziB p' st=some r):cc 18 [p'] st=some r:=
 zah (li:=zau) zak zaq ziC rfl (fun _=>rfl) (.trans (by kernel_rfl) h)
end Go.Proofs.YtlpigjmjgclgiaaDoorE
namespace Go.Proofs.YtlpigjmjgclgiaaDoorE
set_option maxRecDepth 100000
open Go Go.E Go.Proofs
def up (r:Nat→Int) (i:Nat) (x:Int):Nat→Int:=fun j=>if j=i then x else r j
def nums (k:IntKind) (n:Nat) (r:Nat→Int):List Value:=(List.range n).map fun i=>Value.int k (r i)
theorem zal (k:IntKind) (n:Nat) (r:Nat→Int):(nums k n r).length=n:=by simp [nums]
theorem zes (k:IntKind) {n i:Nat} (r:Nat→Int) (h:i<n):(nums k n r)[i]?=some (.int k (r i)):=by simp [nums,h]
theorem zj9 (k:IntKind) {n i:Nat} (r:Nat→Int) (h:i<n) (x:Int):(nums k n r).set i (.int k x)=nums k n (up r i x):=by
 apply List.ext_getElem?
 intro j
 by_cases hj:j<n
 ·rw [zes k _ hj,List.getElem?_set]
  unfold up
  by_cases hi:i=j
  ·subst hi;simp [zal,h]
  ·rw [if_neg hi,zes k _ hj,if_neg (fun e=>hi e.symm)]
 ·rw [List.getElem?_eq_none (by simp [zal];omega),List.getElem?_eq_none (by simp [zal];omega)]
theorem zka (k:IntKind) (n:Nat) (r:Nat→Int):(nums k n r).all one=true:=by
 rw [List.all_eq_true];intro x hx;simp [nums] at hx;obtain ⟨i,_,rfl⟩:=hx;rfl
structure FM where
 r:Nat→Int
 psl:Int
 ksp:Int
 usp:Int
 steps:Value
def FM.row (f:FM):List Value:=nums .u32 16 f.r++[.int .u32 f.psl,.int .u32 f.ksp,.int .u32 f.usp,f.steps]
theorem FM.len (f:FM):f.row.length=20:=by unfold FM.row;rw [List.length_append,zal];rfl
theorem FM.get (f:FM) {i:Nat} (h:i<16):f.row[i]?=some (.int .u32 (f.r i)):=by unfold FM.row;rw [List.getElem?_append_left (by rw [zal];exact h),zes _ _ h]
theorem FM.set (f:FM) {i:Nat} (h:i<16) (x:Int):f.row.set i (.int .u32 x)=FM.row { f with r:=up f.r i x }:=by unfold FM.row;rw [List.set_append_left _ _ (by rw [zal];exact h),zj9 _ _ h]
theorem FM.g16 (f:FM):f.row[16]?=some (.int .u32 f.psl):=rfl
theorem FM.g17 (f:FM):f.row[17]?=some (.int .u32 f.ksp):=rfl
theorem FM.g19 (f:FM):f.row[19]?=some f.steps:=rfl
theorem FM.s16 (f:FM) (x:Int):f.row.set 16 (.int .u32 x)=FM.row { f with psl:=x }:=rfl
theorem FM.s17 (f:FM) (x:Int):f.row.set 17 (.int .u32 x)=FM.row { f with ksp:=x }:=rfl
theorem FM.s18 (f:FM) (x:Int):f.row.set 18 (.int .u32 x)=FM.row { f with usp:=x }:=rfl
theorem FM.s19 (f:FM) (x:Value):f.row.set 19 x=FM.row { f with steps:=x }:=rfl
structure PM where
 fp:Nat
 r:Nat→Int
 k:Nat→Int
 code:Int
 name:ByteArray
 cls:Int
 alu:Int
 ops:Value
 cur:Int
 rn:Int
 rx:Int
 own:Int
 row:Int
 buf:Value
 u:Fl
 div:Bool
 fl:Bool
 was:Int
 wt:Int
 wx:Int
 ws:Int
def PM.tl (m:PM):List Value:=[.int .i64 m.code,.string m.name,.int .i64 m.cls,.int .i64 m.alu,m.ops,.int .i64 m.cur,.int .i64 m.rn,.int .i64 m.rx,.int .i64 m.own,.int .u64 m.row,m.buf,.bool m.u.n,.bool m.u.z,.bool m.u.v,.bool m.u.c,.bool m.div,.bool m.fl,.int .u32 m.was,.int .i64 m.wt,.int .u32 m.wx,.int .i64 m.ws]
def PM.rw (m:PM):List Value:=ptr m.fp 0::(nums .u32 60 m.r++(nums .i64 6 m.k++m.tl))
theorem PM.len (m:PM):m.rw.length=88:=by unfold PM.rw;simp only [List.length_cons,List.length_append,zal];rfl
theorem PM.g0 (m:PM):m.rw[0]?=some (ptr m.fp 0):=rfl
theorem PM.getR (m:PM) {i:Nat} (h:i<60):m.rw[1+i]?=some (.int .u32 (m.r i)):=by
 unfold PM.rw;rw [Nat.add_comm,zgs,List.getElem?_append_left (by rw [zal];exact h),zes _ _ h]
theorem PM.setR (m:PM) {i:Nat} (h:i<60) (x:Int):m.rw.set (1+i) (.int .u32 x)=PM.rw { m with r:=up m.r i x }:=by
 unfold PM.rw;rw [Nat.add_comm,List.set_cons_succ,List.set_append_left _ _ (by rw [zal];exact h),zj9 _ _ h];rfl
theorem PM.getK (m:PM) {i:Nat} (h:i<6):m.rw[61+i]?=some (.int .i64 (m.k i)):=by
 unfold PM.rw
 rw [show 61+i=(60+i)+1 by omega,zgs,List.getElem?_append_right (by rw [zal];omega),zal,Nat.add_sub_cancel_left,List.getElem?_append_left (by rw [zal];exact h),zes _ _ h]
theorem PM.setK (m:PM) {i:Nat} (h:i<6) (x:Int):m.rw.set (61+i) (.int .i64 x)=PM.rw { m with k:=up m.k i x }:=by
 unfold PM.rw
 rw [show 61+i=(60+i)+1 by omega,List.set_cons_succ,List.set_append_right _ _ (by rw [zal];omega),zal,Nat.add_sub_cancel_left,List.set_append_left _ _ (by rw [zal];exact h),zj9 _ _ h];rfl
theorem PM.getT (m:PM) (j:Nat):m.rw[67+j]?=m.tl[j]?:=by
 unfold PM.rw
 rw [show 67+j=(66+j)+1 by omega,zgs,List.getElem?_append_right (by rw [zal];omega),zal,show 66+j-60=6+j by omega,List.getElem?_append_right (by rw [zal];omega),zal,Nat.add_sub_cancel_left]
theorem PM.setT (m:PM) (j:Nat) (v:Value):m.rw.set (67+j) v=ptr m.fp 0::(nums .u32 60 m.r++(nums .i64 6 m.k++m.tl.set j v)):=by
 unfold PM.rw
 rw [show 67+j=(66+j)+1 by omega,List.set_cons_succ,List.set_append_right _ _ (by rw [zal];omega),zal,show 66+j-60=6+j by omega,List.set_append_right _ _ (by rw [zal];omega),zal,Nat.add_sub_cancel_left]
theorem PM.g71 (m:PM):m.rw[71]?=some m.ops:=m.getT 4
theorem PM.g69 (m:PM):m.rw[69]?=some (.int .i64 m.cls):=m.getT 2
theorem PM.g70 (m:PM):m.rw[70]?=some (.int .i64 m.alu):=m.getT 3
theorem PM.g72 (m:PM):m.rw[72]?=some (.int .i64 m.cur):=m.getT 5
theorem PM.g73 (m:PM):m.rw[73]?=some (.int .i64 m.rn):=m.getT 6
theorem PM.g74 (m:PM):m.rw[74]?=some (.int .i64 m.rx):=m.getT 7
theorem PM.g75 (m:PM):m.rw[75]?=some (.int .i64 m.own):=m.getT 8
theorem PM.g76 (m:PM):m.rw[76]?=some (.int .u64 m.row):=m.getT 9
theorem PM.g77 (m:PM):m.rw[77]?=some m.buf:=m.getT 10
theorem PM.g82 (m:PM):m.rw[82]?=some (.bool m.div):=m.getT 15
theorem PM.g84 (m:PM):m.rw[84]?=some (.int .u32 m.was):=m.getT 17
theorem PM.g85 (m:PM):m.rw[85]?=some (.int .i64 m.wt):=m.getT 18
theorem PM.g86 (m:PM):m.rw[86]?=some (.int .u32 m.wx):=m.getT 19
theorem PM.g87 (m:PM):m.rw[87]?=some (.int .i64 m.ws):=m.getT 20
theorem PM.s72 (m:PM) (x:Int):m.rw.set 72 (.int .i64 x)=PM.rw { m with cur:=x }:=m.setT 5 _
theorem PM.s73 (m:PM) (x:Int):m.rw.set 73 (.int .i64 x)=PM.rw { m with rn:=x }:=m.setT 6 _
theorem PM.s74 (m:PM) (x:Int):m.rw.set 74 (.int .i64 x)=PM.rw { m with rx:=x }:=m.setT 7 _
theorem PM.s75 (m:PM) (x:Int):m.rw.set 75 (.int .i64 x)=PM.rw { m with own:=x }:=m.setT 8 _
theorem PM.s76 (m:PM) (x:Int):m.rw.set 76 (.int .u64 x)=PM.rw { m with row:=x }:=m.setT 9 _
theorem PM.s77 (m:PM) (x:Value):m.rw.set 77 x=PM.rw { m with buf:=x }:=m.setT 10 _
theorem PM.s82 (m:PM) (x:Bool):m.rw.set 82 (.bool x)=PM.rw { m with div:=x }:=m.setT 15 _
theorem PM.s83 (m:PM) (x:Bool):m.rw.set 83 (.bool x)=PM.rw { m with fl:=x }:=m.setT 16 _
theorem PM.s84 (m:PM) (x:Int):m.rw.set 84 (.int .u32 x)=PM.rw { m with was:=x }:=m.setT 17 _
end Go.Proofs.YtlpigjmjgclgiaaDoorE
namespace Go.E
open Go
def SL (B:Nat) (s:SS) (z:Nat) (v:Value) (c:List Value) (n:Nat):Prop:=
 c.length=n*z∧((v=.slice none 0 0∧n=0)∨∃ j o cap C,v=.slice (some ⟨j,o,none⟩) n cap∧n≤cap∧s.mem.get j=some (.cells C z)∧o+cap*z≤C.length∧(C.drop o).take (n*z)=c∧B≤j∧j<s.next)
section
variable {B : Nat} {s s' : SS} {z n m : Nat} {v : Value} {c row : List Value}
theorem SL.nil:SL B s z (.slice none 0 0) [] 0:=⟨by simp,.inl ⟨rfl,rfl⟩⟩
theorem SL.cell (h:SL B s z v c n):v.cells.toList=[v]∧one v=true:=by
 obtain ⟨_,⟨rfl,_⟩ | ⟨j,o,cap,C,rfl,_⟩⟩:=h<;>exact ⟨rfl,rfl⟩
theorem SL.len (h:SL B s z v c n):lenV v=some (.int .i64 (n:Int)):=by
 obtain ⟨_,⟨rfl,rfl⟩ | ⟨j,o,cap,C,rfl,_⟩⟩:=h<;>rfl
theorem SL.lenI (h:SL B s z v c n):(lenV v).bind (asI .i64)=some (n:Int):=by rw [h.len];rfl
theorem SL.sl (h:SL B s z v c n):sliceLen v=some (n:Int):=by
 obtain ⟨_,⟨rfl,rfl⟩ | ⟨j,o,cap,C,rfl,_⟩⟩:=h<;>rfl
theorem SL.blk (h:SL B s z v c n):∀ i o l q,v=.slice (some ⟨i,o,none⟩) l q→B≤i∧i<s.next:=fun i o l q e=>by
 obtain ⟨_,⟨rfl,_⟩ | ⟨j,o',cap,C,rfl,_,_,_,_,h5,h6⟩⟩:=h
 ·cases e
 ·cases e;exact ⟨h5,h6⟩
theorem SL.keep (h:SL B s z v c n) (hn:s.next≤s'.next) (hk:∀ i o l q,v=.slice (some ⟨i,o,none⟩) l q→s'.mem.get i=s.mem.get i):SL B s' z v c n:=by
 refine ⟨h.1,h.2.imp (fun h=>h) ?_⟩
 rintro ⟨j,o,cap,C,e,h1,h2,h3,h4,h5,h6⟩
 exact ⟨j,o,cap,C,e,h1,(hk j o _ _ e).trans h2,h3,h4,h5,by omega⟩
theorem SL.ext (h:SL B s z v c n) (x:Ext s s'):SL B s' z v c n:=h.keep x.next fun i o l q e=>x.keep i (h.blk i o l q e).2
theorem SL.mod {S:List Nat} (h:SL B s z v c n) (m:Mod S s s') (hS:∀ j,j∈S→j<B):SL B s' z v c n:=h.keep m.next fun i o l q e=>m.keep i (h.blk i o l q e).2 fun hm=>by have:=hS i hm;have:=(h.blk i o l q e).1;omega
theorem SL.up {B':Nat} (h:SL B s z v c n) (hb:∀ i o l q,v=.slice (some ⟨i,o,none⟩) l q→B'≤i):SL B' s z v c n:=by
 refine ⟨h.1,h.2.imp (fun h=>h) ?_⟩
 rintro ⟨j,o,cap,C,e,h1,h2,h3,h4,h5,h6⟩
 exact ⟨j,o,cap,C,e,h1,h2,h3,h4,hb j o _ _ e,h6⟩
theorem SL.push {by':Nat} (h:SL B s z v c n) (hb:B≤s.next) (hl:s.lim≤B) (hr:row.length=z) (hz:0<z) (h1:row.all one=true) (hs:(n+2)*by'≤2^44) (hn:n+1≤2^44):
  ∃ s',(s.new (.cells row z)).app z by' v (.slice (some ⟨s.next,0,none⟩) 1 1)=some (.slice (some ⟨s.next+1,0,none⟩) (n+1) (n+1),s')∧s'.next=s.next+2∧s'.lim=s.lim∧SL B s' z (.slice (some ⟨s.next+1,0,none⟩) (n+1) (n+1)) (c++row) (n+1)∧
   ∀ i,i<s.next→(∀ o l q,v≠.slice (some ⟨i,o,none⟩) l q)→s'.mem.get i=s.mem.get i:=by
 have hx:(s.new (.cells row z)).first z 1 (.slice (some ⟨s.next,0,none⟩) 1 1)=some row:=by
  unfold SS.first
  simp only [SS.new_get,zob]
  exact zdB (by omega)
 have e1:zdl (.slice (some ⟨s.next,0,none⟩) 1 1)=some 1:=rfl
 have m0:Nat.beq 1 0=false:=rfl
 have hlen:(c++row).length=(n+1)*z:=by rw [List.length_append,h.1,hr,Nat.add_mul];omega
 obtain ⟨hc,⟨rfl,rfl⟩ | ⟨j,o,cap,C,rfl,h1',h2,h3,h4,h5,h6⟩⟩:=h
 ·have:c=[]:=by simpa using hc
  subst this
  refine ⟨(s.new (.cells row z)).new (.cells row z),?_,rfl,rfl,⟨hlen,.inr ⟨s.next+1,0,1,row,rfl,zlr _,SS.new_get (st:=s.new (.cells row z)),by omega,?_,by omega,by show s.next+1<s.next+1+1;omega⟩⟩,fun i hi _=>?_⟩
  ·unfold SS.app
   rw [e1]
   simp only [zob,m0,zcf]
   have q:(Nat.ble ((1+1)*by') (2^44)&&Nat.ble 1 (2^44))=true:=by
    simp only [zae,Nat.ble_eq];exact ⟨by simpa using hs,by omega⟩
   rw [q,hx]
   rfl
  ·rw [List.drop_zero,Nat.zero_add,Nat.one_mul,List.take_of_length_le (by omega)];rfl
  ·rw [SS.new_old (by simp;omega),SS.new_old (by omega)]
 ·have hj:(s.new (.cells row z)).mem.get j=some (.cells C z):=by rw [SS.new_old (by omega)];exact h2
  have hcut:cut C o (n*z)=some c:=zgv h4 hc
  refine ⟨((s.new (.cells row z)).set j none).new (.cells (c++row) z),?_,rfl,rfl,⟨hlen,.inr ⟨s.next+1,0,n+1,c++row,rfl,zlr _,SS.new_get (st:=(s.new (.cells row z)).set j none),by omega,?_,by omega,by show s.next+1<s.next+1+1;omega⟩⟩,fun i hi hne=>?_⟩
  ·unfold SS.app
   rw [e1]
   simp only [zob,m0,zcf]
   have q:(Nat.ble ((n+1+1)*by') (2^44)&&Nat.ble (n+1) (2^44)&&Nat.ble (s.new (.cells row z)).lim j)=true:=by
    simp only [zae,Nat.ble_eq]
    exact ⟨⟨hs,hn⟩,by show s.lim≤j;omega⟩
   have q2:(Nat.beq z z&&(Nat.blt cap (n+1)||Nat.ble (o+cap*z) C.length))=true:=by
    have a1:Nat.ble (o+cap*z) C.length=true:=by rw [Nat.ble_eq];omega
    have a2:Nat.beq z z=true:=by rw [zan];simp
    rw [a1,a2,Bool.or_true];rfl
   rw [q]
   simp only [zct,hj,zob,q2,hcut,hx,h1]
   rfl
  ·rw [List.drop_zero,List.take_of_length_le (by omega)]
  ·rw [SS.new_old (by simp;omega),SS.set_old (fun e=>hne o _ _ (by rw [e])),SS.new_old (by omega)]
theorem SL.resl (h:SL B s z v c n) {l k:Nat} (hl:l≤k) (hk:k≤n):∃ v',s.resl v z (l:Int) (k:Int)=some v'∧SL B s z v' ((c.drop (l*z)).take ((k-l)*z)) (k-l)∧∀ i o q r,v'=.slice (some ⟨i,o,none⟩) q r→∃ o' q' r',v=.slice (some ⟨i,o',none⟩) q' r':=by
 have hle:=Nat.mul_le_mul_right z hk
 have hle2:=Nat.mul_le_mul_right z hl
 have hlen:((c.drop (l*z)).take ((k-l)*z)).length=(k-l)*z:=by
  rw [List.length_take,List.length_drop,h.1,Nat.sub_mul];omega
 obtain ⟨hc,⟨rfl,rfl⟩ | ⟨j,o,cap,C,rfl,h1,h2,h3,h4,h5,h6⟩⟩:=h
 ·have e0:k=0:=by omega
  have e1:l=0:=by omega
  subst e0;subst e1
  exact ⟨.slice none 0 0,rfl,⟨hlen,.inl ⟨rfl,rfl⟩⟩,fun i o q r e=>by cases e⟩
 ·have hcap:=Nat.mul_le_mul_right z h1
  have e1:decide ((l:Int)≤(k:Int))=true:=zdt (by omega)
  have e2:decide ((k:Int)≤(cap:Int))=true:=zdt (by omega)
  have e0:decide ((0:Int)≤(l:Int))=true:=zdt (by omega)
  have q:(Nat.beq z z||Nat.beq z 0)=true:=by
   have:Nat.beq z z=true:=by rw [zan];simp
   rw [this];rfl
  have hsub:(cap-l)*z=cap*z-l*z:=Nat.sub_mul _ _ _
  have hsub2:(k-l)*z=k*z-l*z:=Nat.sub_mul _ _ _
  by_cases hcl:cap=l
  ·have e3:Nat.beq cap l=true:=by rw [zan];exact zdt hcl
   have hk0:k-l=0:=by omega
   refine ⟨.slice (some ⟨j,o,none⟩) (k-l) (cap-l),?_,⟨hlen,.inr ⟨j,o,cap-l,C,rfl,by omega,h2,by omega,?_,h5,h6⟩⟩,fun i o' q' r e=>by cases e;exact ⟨_,_,_,rfl⟩⟩
   ·unfold SS.resl
    simp only [e0,e1,e2,Bool.and_self,zct,h2,zob,q,Int.toNat_natCast,e3]
   ·rw [hk0];simp
  ·have e3:Nat.beq cap l=false:=by rw [zan];exact zdf hcl
   refine ⟨.slice (some ⟨j,o+l*z,none⟩) (k-l) (cap-l),?_,⟨hlen,.inr ⟨j,o+l*z,cap-l,C,rfl,by omega,h2,by omega,?_,h5,h6⟩⟩,fun i o' q' r e=>by cases e;exact ⟨_,_,_,rfl⟩⟩
   ·unfold SS.resl
    simp only [e0,e1,e2,Bool.and_self,zct,h2,zob,q,Int.toNat_natCast,e3,zcf]
   ·rw [← h4,← List.drop_drop,List.drop_take,List.take_take,Nat.min_eq_left (by omega)]
theorem SL.load (h:SL B s z v c n) {j:Nat} (hj:j<n):∃ p,za8 v (j:Int) z=some p∧s.ldN p.1 p.2 z=some (.agg ((c.drop (j*z)).take z).toArray)∧∀ k x,((c.drop (j*z)).take z)[k]?=some x→s.ld p.1 (p.2+k)=some x:=by
 have hle:(j+1)*z≤n*z:=Nat.mul_le_mul_right z hj
 rw [Nat.add_mul,Nat.one_mul] at hle
 obtain ⟨hc,⟨rfl,rfl⟩ | ⟨i,o,cap,C,rfl,h1,h2,h3,h4,h5,h6⟩⟩:=h
 ·omega
 have e0:za8 (.slice (some ⟨i,o,none⟩) n cap) (j:Int) z=some (i,o+j*z):=by
  unfold za8
  simp only [zdt (show (0:Int)≤(j:Int) by omega),zdt (show (j:Int)<(n:Int) by omega),Bool.and_self,zct,Int.toNat_natCast]
 have hd:(C.drop (o+j*z)).take z=(c.drop (j*z)).take z:=by
  rw [← h4,← List.drop_drop,List.drop_take,List.take_take,Nat.min_eq_left (by omega)]
 have hlen:((c.drop (j*z)).take z).length=z:=by rw [List.length_take,List.length_drop,hc];omega
 refine ⟨_,e0,?_,fun k x hx=>?_⟩
 ·rw [SS.ldN_cells h2,zgv hd hlen];rfl
 ·rw [SS.ld_cells h2]
  rw [← hd,List.getElem?_take] at hx
  split at hx
  ·rw [List.getElem?_drop] at hx;exact hx
  ·cases hx
end
theorem zad (i k:Nat):zaf (ptr i k)=some (ptr i k):=rfl
theorem At.w {st:SS} {c k:Nat} {row row':List Value} {x:Value} (h:At st c row) (hk:k<row.length) (h1:one x=true) (e:row.set k x=row'):∃ st',st.st c k [x]=some st'∧At st' c row'∧Mod [c] st st'∧st'.next=st.next:=by
 subst e;exact h.set1 hk h1
theorem At.wV {st:SS} {c k:Nat} {row row':List Value} {x:Value} (h:At st c row) (hk:k<row.length) (hc:x.cells.toList=[x]) (h1:one x=true) (e:row.set k x=row'):∃ st',st.stV c k 1 x=some st'∧At st' c row'∧Mod [c] st st'∧st'.next=st.next:=by
 subst e;exact h.set1V hc hk h1
end Go.E
namespace Go.Proofs.YtlpigjmjgclgiaaDoorE
open Go Go.E Go.Proofs
theorem zaZ (i k:Nat):zbJ (ptr i k)=some false:=rfl
theorem zaF {i k len z:Nat} {n:Nat} (h:n<len):zaT (ptr i k) len (n:Int) z=some (i,k+n*z):=by
 unfold zaT ptr
 simp only [zdt (show (0:Int)≤(n:Int) by omega),zdt (show (n:Int)<(len:Int) by omega),Bool.and_self,zct,Int.toNat_natCast]
def getF (f:FM) (n:Int):Int:=if n<0∨15<n then 0 else f.r n.toNat
section
variable {st : SS} {c : Nat} {f : FM}
theorem zoy [Sym] (h:st.mem.get c=some (.cells f.row 0)) (n:Int):cc 31 [ptr c 0,.int .i64 n] st=some (.int .u32 (getF f n),st):=by
 refine zjY _ _ st ?_
 unfold zhs getF
 simp only [zaZ,zob,zat,zcf]
 by_cases h0:n<0
 ·simp only [h0,decide_true,zct,true_or,if_true];rfl
 by_cases h1:15<n
 ·simp only [h0,h1,decide_false,decide_true,zcf,zct,or_true,if_true];rfl
 obtain ⟨k,rfl⟩:∃ k:Nat,n=(k:Int):=⟨n.toNat,by omega⟩
 simp only [h0,h1,decide_false,zcf,or_self,if_false,zad,zaa,zob]
 refine bs (zaF (n:=k) (by omega)) (bs (show (((st.ro st.next).ld c (0+k*1)).bind (asI .u32))=some (f.r k) from ?_) rfl)
 show (st.ld c (0+k*1)).bind (asI .u32)=_
 rw [SS.ld_cells h,Nat.zero_add,Nat.mul_one,f.get (by omega)];rfl
theorem zdL [Sym] (h:st.mem.get c=some (.cells f.row 0)):cc 33 [ptr c 0] st=some (.int .u32 f.psl,st):=by
 refine zj1 _ st ?_
 unfold zht
 simp only [zaZ,zob,zat,zcf,zad,zaa]
 refine bs (show (((st.ro st.next).ld c (0+16)).bind (asI .u32))=some f.psl from ?_) rfl
 show (st.ld c 16).bind (asI .u32)=_
 rw [SS.ld_cells h,f.g16];rfl
def ziE (f:FM) (u:Bool):Int:=cond (u==isUser f.psl) (f.r 14) (cond u f.usp f.ksp)
theorem zpZ [Sym] (h:st.mem.get c=some (.cells f.row 0)) (u:Bool):∃ n,st.next≤n∧cc 35 [ptr c 0,.bool u] st=some (.int .u32 (ziE f u),st.adv n):=by
 obtain ⟨n,hn,e⟩:=zeH f.psl (st.ro st.next)
 have ld:∀ k,((st.ro st.next).adv n).ld c k=f.row[k]?:=fun k=>SS.ld_cells h
 refine ⟨n,hn,zio _ _ st ?_⟩
 unfold zfW ziE
 simp only [zaZ,zob,zat,zcf,zad,zaa]
 refine bs (show (((st.ro st.next).ld c (0+16)).bind (asI .u32))=some f.psl from by show (st.ld c 16).bind (asI .u32)=_;rw [SS.ld_cells h,f.g16];rfl) ?_
 refine bs e ?_
 simp only [zob,zat]
 cases hu:(u==isUser f.psl) with
 | true=>
   simp only [zct]
   refine bs (zaF (n:=14) (by omega)) ?_
   refine bs (show (((st.ro st.next).adv n).ld c (0+14*1)).bind (asI .u32)=some (f.r 14) from by rw [ld];rw [show 0+14*1=14 from rfl,f.get (by omega)];rfl) rfl
 | false=>
   simp only [zcf]
   cases u with
   | true=>simp only [zct];refine bs (show (((st.ro st.next).adv n).ld c (0+18)).bind (asI .u32)=some f.usp from by rw [ld];rfl) rfl
   | false=>simp only [zcf];refine bs (show (((st.ro st.next).adv n).ld c (0+17)).bind (asI .u32)=some f.ksp from by rw [ld];rfl) rfl
theorem ziF [Sym] (h:st.mem.get c=some (.cells f.row 0)) {k:Int} (hk:lenV f.steps=some (.int .i64 k)):cc 20 [ptr c 0] st=some (.int .i64 k,st):=by
 refine zis _ st ?_
 unfold zfX
 simp only [zaZ,zob,zat,zcf,zad,zaa]
 refine bs (show ((st.ro st.next).ld c (0+19))=some f.steps from by show st.ld c 19=_;rw [SS.ld_cells h];rfl) ?_
 rw [hk];rfl
def putF (f:FM) (x:Int):FM:=if isUser x=isUser f.psl then { f with psl:=x } else if isUser x=true then { f with ksp:=f.r 14,r:=up f.r 14 f.usp,psl:=x } else { f with usp:=f.r 14,r:=up f.r 14 f.ksp,psl:=x }
theorem zgM [Sym] (h:At st c f.row) (x:Int):∃ st',cc 28 [ptr c 0,.int .u32 x] st=some (.tuple #[],st')∧At st' c (putF f x).row∧Mod [c] st st':=by
 obtain ⟨n1,h1,e1⟩:=zeH x (st.ro st.next)
 have h1':st.next≤n1:=h1
 obtain ⟨n2,h2,e2⟩:=zeH f.psl (st.adv n1)
 have h2':n1≤n2:=h2
 have a2:At (st.adv n2) c f.row:=h.adv (by omega)
 have m2:Mod [c] st (st.adv n2):=.ofExt (Ext.advR st (by omega))
 have ld:∀ k,(st.adv n1).ld c k=f.row[k]?:=fun k=>h.ld
 by_cases hu:isUser x=isUser f.psl
 ·obtain ⟨s4,e4,a4,m4,_⟩:=a2.w (k:=0+16) (x:=.int .u32 x) (by rw [f.len];omega) rfl (f.s16 x)
  have hP:putF f x={ f with psl:=x }:=by unfold putF;rw [if_pos hu]
  rw [hP]
  refine ⟨s4,zdv _ _ st ?_,a4,m2.then m4⟩
  unfold zdj
  simp only [zaZ,zob,zat,zcf]
  refine bs e1 ?_
  simp only [zob,zat,zad,zaa]
  refine bs (show ((st.adv n1).ld c (0+16)).bind (asI .u32)=some f.psl from by rw [ld];rfl) (bs e2 ?_)
  simp only [zob,zat,hu,beq_self_eq_true,znt,zcf]
  exact bs e4 rfl
 ·obtain ⟨n9,h9,e9⟩:=zeH x (st.adv n2)
  have h9':n2≤n9:=h9
  have a9:At (st.adv n9) c f.row:=h.adv (by omega)
  have m9:Mod [c] st (st.adv n9):=.ofExt (Ext.advR st (by omega))
  have l14:((st.adv n9).ld c (0+14*1)).bind (asI .u32)=some (f.r 14):=by rw [a9.ld,show 0+14*1=14 from rfl,f.get (by omega)];rfl
  have hb:(!(isUser x==isUser f.psl))=true:=by simpa using hu
  cases hx:isUser x with
  | true=>
    have l17:((st.adv n9).ld c (0+18)).bind (asI .u32)=some f.usp:=by rw [a9.ld];rfl
    obtain ⟨s20,e20,a20,m20,_⟩:=a9.w (k:=0+17) (x:=.int .u32 (f.r 14)) (by rw [f.len];omega) rfl (f.s17 _)
    obtain ⟨s24,e24,a24,m24,_⟩:=a20.w (k:=0+14*1) (x:=.int .u32 f.usp) (by rw [FM.len];omega) rfl (FM.set _ (i:=14) (by omega) _)
    obtain ⟨s27,e27,a27,m27,_⟩:=a24.w (k:=0+16) (x:=.int .u32 x) (by rw [FM.len];omega) rfl (FM.s16 _ x)
    have hP:putF f x={ f with ksp:=f.r 14,r:=up f.r 14 f.usp,psl:=x }:=by unfold putF;rw [if_neg hu,if_pos hx]
    rw [hP]
    refine ⟨s27,zdv _ _ st ?_,a27,((m9.then m20).then m24).then m27⟩
    unfold zdj
    simp only [zaZ,zob,zat,zcf]
    refine bs e1 ?_
    simp only [zob,zat,zad,zaa]
    refine bs (show ((st.adv n1).ld c (0+16)).bind (asI .u32)=some f.psl from by rw [ld];rfl) (bs e2 ?_)
    simp only [zob,zat,hb,zct]
    refine bs e9 ?_
    simp only [zob,zat,hx,zct]
    refine bs (zaF (n:=14) (by omega)) (bs l14 (bs l17 (bs e20 (bs (zaF (n:=14) (by omega)) (bs e24 (bs e27 rfl))))))
  | false=>
    have l17:((st.adv n9).ld c (0+17)).bind (asI .u32)=some f.ksp:=by rw [a9.ld];rfl
    obtain ⟨s20,e20,a20,m20,_⟩:=a9.w (k:=0+18) (x:=.int .u32 (f.r 14)) (by rw [f.len];omega) rfl (f.s18 _)
    obtain ⟨s24,e24,a24,m24,_⟩:=a20.w (k:=0+14*1) (x:=.int .u32 f.ksp) (by rw [FM.len];omega) rfl (FM.set _ (i:=14) (by omega) _)
    obtain ⟨s27,e27,a27,m27,_⟩:=a24.w (k:=0+16) (x:=.int .u32 x) (by rw [FM.len];omega) rfl (FM.s16 _ x)
    have hP:putF f x={ f with usp:=f.r 14,r:=up f.r 14 f.ksp,psl:=x }:=by unfold putF;rw [if_neg hu,if_neg (by rw [hx];simp)]
    rw [hP]
    refine ⟨s27,zdv _ _ st ?_,a27,((m9.then m20).then m24).then m27⟩
    unfold zdj
    simp only [zaZ,zob,zat,zcf]
    refine bs e1 ?_
    simp only [zob,zat,zad,zaa]
    refine bs (show ((st.adv n1).ld c (0+16)).bind (asI .u32)=some f.psl from by rw [ld];rfl) (bs e2 ?_)
    simp only [zob,zat,hb,zct]
    refine bs e9 ?_
    simp only [zob,zat,hx,zcf]
    refine bs (zaF (n:=14) (by omega)) (bs l14 (bs l17 (bs e20 (bs (zaF (n:=14) (by omega)) (bs e24 (bs e27 rfl))))))
def setF (f:FM) (n x s:Int):FM:=if n<0∨15<n∨zaB s=0 then f else { f with r:=up f.r n.toNat (zlm (f.r n.toNat) x s) }
theorem zrl [Sym] (h:At st c f.row) (n x s:Int):∃ st' e,cc 29 [ptr c 0,.int .i64 n,.int .u32 x,.int .i64 s] st=some (.int .i64 e,st')∧At st' c (setF f n x s).row∧Mod [c] st st':=by
 unfold setF
 by_cases h0:n<0
 ·refine ⟨st,1,zck _ _ _ _ st ?_,by rw [if_pos (.inl h0)];exact h,.refl _⟩
  simp only [zcr,zaZ,zob,zat,zcf,h0,decide_true,zct]
 by_cases h1:15<n
 ·refine ⟨st,1,zck _ _ _ _ st ?_,by rw [if_pos (.inr (.inl h1))];exact h,.refl _⟩
  simp only [zcr,zaZ,zob,zat,zcf,h0,h1,decide_false,decide_true,zct]
 obtain ⟨n2,g2,e2⟩:=za6 s st
 by_cases hm:zaB s=0
 ·refine ⟨st.adv n2,1,zck _ _ _ _ st ?_,by rw [if_pos (.inr (.inr hm))];exact h.adv g2,.ofExt (Ext.advR st g2)⟩
  unfold zcr
  simp only [zaZ,zob,zat,zcf,h0,h1,decide_false]
  refine bs e2 ?_
  simp only [zob,zac,hm,decide_true,zct]
 obtain ⟨k,rfl⟩:∃ k:Nat,n=(k:Int):=⟨n.toNat,by omega⟩
 rw [if_neg (by omega),Int.toNat_natCast]
 obtain ⟨n8,g8,e8⟩:=zpT (f.r k) x s (st.adv n2)
 have g8':n2≤n8:=g8
 have a8:At (st.adv n8) c f.row:=h.adv (by omega)
 obtain ⟨s13,e13,a13,m13,_⟩:=a8.w (k:=0+k*1) (row':=FM.row { f with r:=up f.r k (zlm (f.r k) x s) }) (x:=.int .u32 (zlm (f.r k) x s)) (by rw [f.len];omega) rfl (by rw [Nat.zero_add,Nat.mul_one];exact f.set (by omega) _)
 refine ⟨s13,0,zck _ _ _ _ st ?_,a13,(Mod.ofExt (Ext.advR st (by omega))).then m13⟩
 unfold zcr
 simp only [zaZ,zob,zat,zcf,h0,h1,decide_false]
 refine bs e2 ?_
 simp only [zob,zac,hm,decide_false,zcf,zad,zaa]
 refine bs (zaF (n:=k) (by omega)) ?_
 refine bs (show ((st.adv n2).ld c (0+k*1)).bind (asI .u32)=some (f.r k) from by rw [zpS,h.ld,Nat.zero_add,Nat.mul_one,f.get (by omega)];rfl) (bs e8 ?_)
 simp only [zob,zac]
 exact bs (zaF (n:=k) (by omega)) (bs e13 rfl)
theorem zo7 [Sym] (h:At st c f.row):∃ st',cc 40 [ptr c 0] st=some (.tuple #[],st')∧At st' c (FM.row { f with steps:=.slice none 0 0 })∧Mod [c] st st':=by
 obtain ⟨s4,e4,a4,m4,_⟩:=h.w (k:=0+19) (x:=.slice none 0 0) (by rw [f.len];omega) rfl (f.s19 _)
 refine ⟨s4,zhy _ st ?_,a4,m4⟩
 unfold zfB
 simp only [zaZ,zob,zat,znf,zct,zad,zaa]
 exact bs e4 rfl
end
def stepR (x:Nat×Int):List Value:=[.int .i64 (x.1:Int),.int .u32 x.2]
theorem ziG (x:Nat×Int):(stepR x).length=2:=rfl
structure Fi (B:Nat) (st:SS) (c:Nat) (f:FM) (l:List (Nat×Int)):Prop where
 at':At st c f.row
 sl:SL B st 2 f.steps (rowsF stepR l) l.length
 lt:c<B
 hB:B≤st.next
 hl:st.lim≤B
 in':∀ x∈l,x.1<16
 len:l.length≤1000000
def zcP (f:FM) (n:Nat) (d:Int):FM:={ f with r:=up f.r n (IntKind.wrap .u32 (f.r n+d)) }
structure Frm (B:Nat) (S:List Nat) (k:Value) (s s':SS):Prop where
 next:s.next≤s'.next
 lim:s'.lim=s.lim
 keep:∀ i,i<s.next→i∉S→(∀ o l c,k≠.slice (some ⟨i,o,none⟩) l c)→s'.mem.get i=s.mem.get i
theorem zqE [Sym] {B:Nat} {st:SS} {c:Nat} {f:FM} {l:List (Nat×Int)} (h:Fi B st c f l) {n:Nat} (hn:n<16) (hlen:l.length<1000000) (d:Int):
  ∃ st' v,cc 53 [ptr c 0,.int .i64 n,.int .u32 d] st=some (.int .i64 0,st')∧Fi B st' c { zcP f n d with steps:=v } (l++[(n,d)])∧Frm B [c] f.steps st st'∧∀ i o q r,v=.slice (some ⟨i,o,none⟩) q r→st.next≤i:=by
 have h0:¬ (n:Int)<0:=by omega
 have h1:¬ 15<(n:Int):=by omega
 have hcB:=h.lt
 have hBn:=h.hB
 obtain ⟨s9,e9,a9,m9,n9⟩:=h.at'.w (k:=0+n*1) (row':=(zcP f n d).row) (x:=.int .u32 (IntKind.wrap .u32 (f.r n+d))) (by rw [f.len];omega) rfl (by rw [Nat.zero_add,Nat.mul_one];exact f.set hn _)
 have sl9:=h.sl.mod m9 (by simp;omega)
 obtain ⟨s14,e14,n14,l14,sl14,k14⟩:=sl9.push (row:=stepR (n,d)) (by':=16) (by omega) (by rw [m9.lim];exact h.hl) rfl (by omega) rfl (by omega) (by omega)
 have hcs:∀ o q r,f.steps≠.slice (some ⟨c,o,none⟩) q r:=fun o q r e=>by have:=(h.sl.blk c o q r e).1;omega
 have a14:At s14 c (zcP f n d).row:=⟨(k14 c (by have:=h.at'.2.1;omega) hcs).trans a9.1,by have:=h.at'.2.1;omega,by rw [l14,m9.lim];exact h.at'.2.2⟩
 have hv:=sl14.cell
 obtain ⟨s17,e17,a17,m17,n17⟩:=a14.wV (k:=0+19) (x:=.slice (some ⟨s9.next+1,0,none⟩) (l.length+1) (l.length+1)) (by rw [FM.len];omega) rfl rfl (FM.s19 _ _)
 have hin:∀ x∈l++[(n,d)],x.1<16:=fun x hx=>by
  rcases List.mem_append.1 hx with hx | hx
  ·exact h.in' x hx
  ·have:x=(n,d):=by simpa using hx
   rw [this];exact hn
 refine ⟨s17,.slice (some ⟨s9.next+1,0,none⟩) (l.length+1) (l.length+1),zi7 _ _ _ st ?_,⟨a17,?_,hcB,by omega,by rw [m17.lim,l14,m9.lim];exact h.hl,hin,by rw [List.length_append];simp;omega⟩,⟨by omega,by rw [m17.lim,l14,m9.lim],fun i hi hS hk=>?_⟩,fun i o q r e=>by cases e;omega⟩
 ·unfold zgJ
  simp only [zaZ,zob,zat,zcf,h0,h1,decide_false]
  refine bs (zhi _ _ _ st (r:=(0,[.int .i64 0],s17)) ?_) rfl
  unfold zeR
  simp only [zad,zaa,zob]
  refine bs (zaF (n:=n) hn) ?_
  refine bs (show ((st.ld c (0+n*1)).bind (asI .u32))=some (f.r n) from by rw [h.at'.ld,Nat.zero_add,Nat.mul_one,f.get hn];rfl) ?_
  refine bs (zaF (n:=n) hn) (bs e9 ?_)
  refine bs (show s9.ld c (0+19)=some f.steps from by rw [a9.ld];rfl) (bs e14 (bs e17 rfl))
 ·have:=sl14.mod m17 (by simp;omega)
  have e1:rowsF stepR (l++[(n,d)])=rowsF stepR l++stepR (n,d):=by rw [zih,zlX]
  have e2:(l++[(n,d)]).length=l.length+1:=by simp
  rw [e1,e2];exact this
 ·exact (m17.keep i (by omega) hS).trans ((k14 i (by omega) hk).trans (m9.keep i hi hS))
def undoF (f:FM):List (Nat×Int)→FM
 | []=>f
 | x::r=>undoF { f with r:=up f.r x.1 (IntKind.wrap .u32 (f.r x.1-x.2)) } r
end Go.Proofs.YtlpigjmjgclgiaaDoorE
namespace Go.Proofs.YtlpigjmjgclgiaaDoorE
open Go Go.E Go.Proofs
def Blk (v w:Value):Prop:=∀ i o l q,w=.slice (some ⟨i,o,none⟩) l q→∃ o' l' q',v=.slice (some ⟨i,o',none⟩) l' q'
theorem Blk.refl (v:Value):Blk v v:=fun i o l q e=>⟨o,l,q,e⟩
theorem Blk.trans {u v w:Value} (h:Blk u v) (k:Blk v w):Blk u w:=fun i o l q e=>by
 obtain ⟨o',l',q',e'⟩:=k i o l q e
 exact h i o' l' q' e'
theorem zjy (l:List (Nat×Int)):∀ (f:FM) (v w:Value),({ undoF { f with steps:=v } l with steps:=w }:FM)={ undoF f l with steps:=w }:=by
 induction l with
 | nil=>intro f v w;rfl
 | cons x r ih=>intro f v w;exact ih { f with r:=up f.r x.1 (IntKind.wrap .u32 (f.r x.1-x.2)) } v w
theorem zkS [Sym] {B c:Nat}:∀ (k:Nat) (l:List (Nat×Int)) (f:FM) (st:SS),l.length=k→Fi B st c f l→
  ∃ st' v,zb2 0 [ptr c 0] st=some (0,[],st')∧Fi B st' c { undoF f l.reverse with steps:=v } []∧Mod [c] st st'∧Blk f.steps v
 | 0,l,f,st,hk,h=>by
   have hl:l=[]:=List.length_eq_zero_iff.1 hk
   subst hl
   have e1:=ziF h.at'.1 (k:=0) h.sl.len
   refine ⟨st,f.steps,zdV _ st ?_,h,.refl _,.refl _⟩
   unfold zc2
   refine bs e1 ?_
   rfl
 | k+1,l,f,st,hk,h=>by
   obtain ⟨l',x,rfl⟩:∃ l' x,l=l'++[x]:=by
    rcases List.eq_nil_or_concat l with rfl | ⟨l',x,rfl⟩
    ·simp at hk
    ·exact ⟨l',x,List.concat_eq_append⟩
   have hlen:(l'++[x]).length=l'.length+1:=by simp
   have hk':l'.length=k:=by omega
   have hcB:=h.lt
   have hBn:=h.hB
   have hll:st.lim≤st.next:=by have:=h.hl;omega
   have hl1:=h.len
   have hx:=h.in' x (by simp)
   have e1:=ziF h.at'.1 h.sl.len
   have hpos:(0:Int)<((l'++[x]).length:Int):=by omega
   have hw:IntKind.wrap .i64 (((l'++[x]).length:Int)-1)=(l'.length:Int):=by rw [hlen,wrap64 (by omega) (by omega)];omega
   obtain ⟨p,b1,b2,b3⟩:=h.sl.load (j:=l'.length) (by omega)
   have hrow:((rowsF stepR (l'++[x])).drop (l'.length*2)).take 2=stepR x:=zdE ziG _ _ x (by simp)
   rw [hrow] at b2
   obtain ⟨s14,e14,a14,x14,n14⟩:=zgG (st:=st) hll (r:=[.int .i64 0,.int .u32 0]) (zeM (stepR x)) (n:=2) (ziG x) rfl rfl
   have sl14:=h.sl.ext x14
   have c14:=h.at'.ext x14
   obtain ⟨v23,e23,sl23,bk⟩:=sl14.resl (l:=0) (k:=l'.length) (by omega) (by omega)
   have hsl:((rowsF stepR (l'++[x])).drop (0*2)).take ((l'.length-0)*2)=rowsF stepR l':=by
    rw [Nat.zero_mul,List.drop_zero,Nat.sub_zero,zo5 ziG,List.take_append_of_le_length (zlr _),List.take_length]
   rw [hsl,Nat.sub_zero] at sl23
   have hv:=sl23.cell
   obtain ⟨s26,e26,a26,m26,n26⟩:=c14.wV (k:=0+19) (x:=v23) (by rw [f.len];omega) hv.1 hv.2 (f.s19 _)
   have t26:At s26 st.next (stepR x):=a14.mod m26 (by simp;have:=h.at'.2.1;omega)
   have l27:(s26.ld st.next 0).bind (asI .i64)=some (x.1:Int):=by rw [t26.ld];rfl
   have l32:(s26.ld st.next 1).bind (asI .u32)=some x.2:=by rw [t26.ld];rfl
   have l31:(s26.ld c (0+x.1*1)).bind (asI .u32)=some (f.r x.1):=by rw [a26.ld,Nat.zero_add,Nat.mul_one,FM.get _ hx];rfl
   obtain ⟨s37,e37,a37,m37,n37⟩:=a26.w (k:=0+x.1*1) (row':=FM.row { r:=up f.r x.1 (IntKind.wrap .u32 (f.r x.1-x.2)),psl:=f.psl,ksp:=f.ksp,usp:=f.usp,steps:=v23 }) (x:=.int .u32 (IntKind.wrap .u32 (f.r x.1-x.2))) (by rw [FM.len];omega) rfl (by rw [Nat.zero_add,Nat.mul_one];exact FM.set _ hx _)
   have hmod:Mod [c] st s37:=((Mod.ofExt x14).then m26).then m37
   have sl37:=sl23.mod (m26.then m37) (by simp;omega)
   have h37:Fi B s37 c { r:=up f.r x.1 (IntKind.wrap .u32 (f.r x.1-x.2)),psl:=f.psl,ksp:=f.ksp,usp:=f.usp,steps:=v23 } l':=⟨a37,sl37,hcB,by have:=hmod.next;omega,by rw [hmod.lim];exact h.hl,fun y hy=>h.in' y (by simp [hy]),by omega⟩
   obtain ⟨st',v,ih,hf,hm,hb⟩:=zkS k l' _ s37 hk' h37
   refine ⟨st',v,zdV _ st ?_,?_,hmod.then hm,fun i o q r e=>by
    obtain ⟨o',q',r',e'⟩:=hb i o q r e
    exact bk i o' q' r' e'⟩
   ·unfold zc2
    refine bs e1 ?_
    simp only [zob,zac,zdt hpos,zct,zad,zaa]
    have ls:st.ld c (0+19)=some f.steps:=by rw [h.at'.ld];rfl
    have ls14:s14.ld c (0+19)=some f.steps:=by rw [c14.ld];rfl
    refine bs ls (bs ls (bs h.sl.lenI ?_))
    rw [hw]
    refine bs b1 (bs b2 (bs e14 (bs ls14 (bs ls14 (bs h.sl.lenI ?_)))))
    rw [hw]
    refine bs e23 (bs e26 (bs l27 (bs (zaF hx) (bs l31 (bs l32 (bs (zaF hx) (bs e37 ih)))))))
   ·rw [List.reverse_append,List.reverse_singleton]
    have:=zjy l'.reverse { f with r:=up f.r x.1 (IntKind.wrap .u32 (f.r x.1-x.2)) } v23 v
    show Fi B st' c { undoF { f with r:=up f.r x.1 (IntKind.wrap .u32 (f.r x.1-x.2)) } l'.reverse with steps:=v } []
    rw [← this]
    exact hf
theorem zqF [Sym] {B:Nat} {st:SS} {c:Nat} {f:FM} {l:List (Nat×Int)} (h:Fi B st c f l):
  ∃ st' v,cc 54 [ptr c 0] st=some (.tuple #[],st')∧Fi B st' c { undoF f l.reverse with steps:=v } []∧Mod [c] st st'∧Blk f.steps v:=by
 obtain ⟨st',v,e,h1,h2,h3⟩:=zkS l.length l f st rfl h
 refine ⟨st',v,zi9 _ st ?_,h1,h2,h3⟩
 unfold zgK
 exact bs e rfl
structure StM where
 r:Nat→Int
 psl:Int
 ksp:Int
 usp:Int
 t0:Int
 t1:Int
 t2:Int
 t3:Int
 t4:Int
 scbb:Int
 halt:Int
def StM.row (s:StM):List Value:=nums .u32 16 s.r++[.int .u32 s.psl,.int .u32 s.ksp,.int .u32 s.usp,.int .u32 s.t0,.int .u32 s.t1,.int .u32 s.t2,.int .u32 s.t3,.int .u32 s.t4,.int .u32 s.scbb,.int .i64 s.halt]
def StM.val (s:StM):Value:=.agg s.row.toArray
theorem StM.len (s:StM):s.row.length=26:=by unfold StM.row;rw [List.length_append,zal];rfl
theorem StM.one (s:StM):s.row.all E.one=true:=by unfold StM.row;rw [List.all_append,zka];rfl
theorem StM.cut16 (s:StM):cut s.row 0 16=some (nums .u32 16 s.r):=by
 unfold StM.row
 exact zgv (by rw [List.drop_zero,List.take_left' (zal _ _ _)]) (zal _ _ _)
theorem FM.cut16 (f:FM):cut f.row 0 16=some (nums .u32 16 f.r):=by
 unfold FM.row
 exact zgv (by rw [List.drop_zero,List.take_left' (zal _ _ _)]) (zal _ _ _)
theorem zp0 (k:IntKind) (n:Nat) (r:Nat→Int):(nums k n r).all zaR=true:=by
 rw [List.all_eq_true];intro x hx;simp [nums] at hx;obtain ⟨i,_,rfl⟩:=hx;rfl
theorem zqG [Sym] {st:SS} {c:Nat} {f:FM} (h:At st c f.row) (hll:st.lim≤st.next) (s:StM):∃ st',cc 37 [ptr c 0,s.val] st=some (.tuple #[],st')∧At st' c (FM.row ⟨s.r,s.psl,s.ksp,s.usp,.slice none 0 0⟩)∧Mod [c] st st':=by
 have x1:Ext st (st.new (.cells s.row 0)):=(Ext.refl _).new _
 have a1:At (st.new (.cells s.row 0)) st.next s.row:=At.new hll _
 have c1:=h.ext x1
 have hc:s.val.cells.toList=s.row:=zeM _
 have hrow:spl (spl (spl (spl [.int .u32 0,.int .u32 0,.int .u32 0,.int .u32 0,.int .u32 0,.int .u32 0,.int .u32 0,.int .u32 0,.int .u32 0,.int .u32 0,.int .u32 0,.int .u32 0,.int .u32 0,.int .u32 0,.int .u32 0,.int .u32 0,.int .u32 0,.int .u32 0,.int .u32 0,.slice none 0 0] 0 (nums .u32 16 s.r)) 16 [.int .u32 s.psl]) 17 [.int .u32 s.ksp]) 18 [.int .u32 s.usp]=FM.row ⟨s.r,s.psl,s.ksp,s.usp,.slice none 0 0⟩:=rfl
 obtain ⟨s10,e10,a10,m10,n10⟩:=c1.stV (k:=0) (n:=20) (v:=.agg (FM.row ⟨s.r,s.psl,s.ksp,s.usp,.slice none 0 0⟩).toArray) (zeM _) (FM.len _) (by unfold FM.row;rw [List.all_append,zka];rfl) (row':=FM.row ⟨s.r,s.psl,s.ksp,s.usp,.slice none 0 0⟩) (by rw [zbk (by rw [FM.len,FM.len];omega),FM.len,List.drop_of_length_le (by rw [FM.len];omega)];simp)
 refine ⟨s10,zjc _ _ st ?_,a10,(Mod.ofExt x1).then m10⟩
 unfold zgL
 rw [hc]
 simp only [zaZ,zob,zat,znf,zct,zad,zaa]
 refine bs (show (st.new (.cells s.row 0)).ldN st.next 0 16=some (.agg (nums .u32 16 s.r).toArray) from by rw [SS.ldN_cells a1.1,s.cut16];rfl) ?_
 refine bs (show ((st.new (.cells s.row 0)).ld st.next 16).bind (asI .u32)=some s.psl from by rw [a1.ld];rfl) ?_
 refine bs (show ((st.new (.cells s.row 0)).ld st.next 17).bind (asI .u32)=some s.ksp from by rw [a1.ld];rfl) ?_
 refine bs (show ((st.new (.cells s.row 0)).ld st.next 18).bind (asI .u32)=some s.usp from by rw [a1.ld];rfl) ?_
 refine bs (show zeC (.agg (nums .u32 16 s.r).toArray) 16=some (nums .u32 16 s.r) from by unfold zeC;rw [zeM];simp [Value.cells,zal]) ?_
 rw [hrow]
 exact bs e10 rfl
end Go.Proofs.YtlpigjmjgclgiaaDoorE
namespace Go.Proofs.YtlpigjmjgclgiaaDoorE
open Go Go.E Go.Proofs
def zew (f:FM) (s:StM):StM:={ s with r:=f.r,psl:=f.psl,ksp:=f.ksp,usp:=f.usp }
theorem zqH {c n i j:Nat} (h:c<n):zcK (ptr c i) (ptr n j)=true:=by
 unfold zcK ptr
 have:Nat.beq c n=false:=by rw [zan];exact zdf (by omega)
 simp only [this,znf]
theorem StM.flat (s:StM):flat3 s.val=true:=by
 show (s.row.toArray.toList.all zaR)=true
 rw [List.toList_toArray]
 unfold StM.row
 rw [List.all_append,zp0];rfl
theorem zqI [Sym] {st:SS} {c:Nat} {f:FM} (h:At st c f.row) (s:StM):∃ n,st.next≤n∧cc 19 [ptr c 0,s.val] st=some ((zew f s).val,st.adv n):=by
 have hcn:=h.2.1
 have a1:At ((st.ro st.next).new (.cells s.row 0)) st.next s.row:=At.new (st:=st.ro st.next) (zlr _) _
 obtain ⟨s1,hs1⟩:∃ s1,(st.ro st.next).new (.cells s.row 0)=s1:=⟨_,rfl⟩
 have n1:s1.next=st.next+1:=by rw [← hs1];rfl
 have l1:s1.lim=st.next:=by rw [← hs1];rfl
 have g1:s1.mem.get c=some (.cells f.row 0):=by rw [← hs1];exact (SS.new_old (st:=st.ro st.next) (by show c≠st.next;omega)).trans h.1
 rw [hs1] at a1
 let z:List Value:=[.int .u32 0,.int .u32 0,.int .u32 0,.int .u32 0,.int .u32 0,.int .u32 0,.int .u32 0,.int .u32 0,.int .u32 0,.int .u32 0,.int .u32 0,.int .u32 0,.int .u32 0,.int .u32 0,.int .u32 0,.int .u32 0,.int .u32 0,.int .u32 0,.int .u32 0,.int .u32 0,.int .u32 0,.int .u32 0,.int .u32 0,.int .u32 0,.int .u32 0,.int .i64 0]
 have b2:At (s1.new (.cells z 0)) s1.next z:=At.new (by omega) _
 have a2:At (s1.new (.cells z 0)) st.next s.row:=a1.ext ((Ext.refl _).new _)
 have g2:(s1.new (.cells z 0)).mem.get c=some (.cells f.row 0):=(SS.new_old (by omega)).trans g1
 obtain ⟨s2,hs2⟩:∃ s2,s1.new (.cells z 0)=s2:=⟨_,rfl⟩
 have n2:s2.next=st.next+2:=by rw [← hs2];show s1.next+1=_;omega
 rw [hs2] at a2 b2 g2
 have ld:∀ k,s2.ld c k=f.row[k]?:=fun k=>SS.ld_cells g2
 have r16:zaI s.row 0 (nums .u32 16 f.r)=some (StM.row { s with r:=f.r }):=by
  rw [zbk (by rw [zal,s.len];omega),zal]
  unfold StM.row
  rw [List.drop_append_of_le_length (by rw [zal];omega),List.drop_of_length_le (by rw [zal];omega)]
  simp
 obtain ⟨s16,e16,a16,m16,_⟩:=a2.stV (k:=0) (n:=16) (v:=.agg (nums .u32 16 f.r).toArray) (zeM _) (zal _ _ _) (zka _ _ _) r16
 obtain ⟨s17,e17,a17,m17,_⟩:=a16.w (k:=16) (x:=.int .u32 f.psl) (by rw [StM.len];omega) rfl (row':=StM.row { s with r:=f.r,psl:=f.psl }) rfl
 obtain ⟨s18,e18,a18,m18,_⟩:=a17.w (k:=17) (x:=.int .u32 f.ksp) (by rw [StM.len];omega) rfl (row':=StM.row { s with r:=f.r,psl:=f.psl,ksp:=f.ksp }) rfl
 obtain ⟨s19,e19,a19,m19,_⟩:=a18.w (k:=18) (x:=.int .u32 f.usp) (by rw [StM.len];omega) rfl (row':=(zew f s).row) rfl
 have hm:=((m16.then m17).then m18).then m19
 have b19:=b2.mod hm (by simp;omega)
 have l20:s19.ldN st.next 0 26=some (zew f s).val:=a19.ldN (StM.len _)
 obtain ⟨s21,e21,a21,m21,n21⟩:=b19.stV (k:=0) (n:=26) (v:=(zew f s).val) (zeM _) (StM.len _) (StM.one _) (row':=(zew f s).row) (by rw [zbk (by rw [StM.len];show 26≤26;omega),StM.len];simp [z])
 have l22:s21.rdN s1.next 0 26=some (zew f s).val:=a21.rdN (StM.len _)
 have hn21:st.next≤s21.next:=by have:=hm.next;omega
 refine ⟨s21.next,hn21,zi5 _ _ st ?_⟩
 unfold zgI
 have hc:s.val.cells.toList=s.row:=zeM _
 rw [hc]
 simp only [hs1]
 show _=_
 have hz:s1.new (.cells [.int .u32 0,.int .u32 0,.int .u32 0,.int .u32 0,.int .u32 0,.int .u32 0,.int .u32 0,.int .u32 0,.int .u32 0,.int .u32 0,.int .u32 0,.int .u32 0,.int .u32 0,.int .u32 0,.int .u32 0,.int .u32 0,.int .u32 0,.int .u32 0,.int .u32 0,.int .u32 0,.int .u32 0,.int .u32 0,.int .u32 0,.int .u32 0,.int .u32 0,.int .i64 0] 0)=s2:=hs2
 simp only [hz,zaZ,zob,zat,znf,zct,zad,zaa,SS.ro_next,Nat.zero_add]
 refine bs (show s2.ldN c 0 16=some (.agg (nums .u32 16 f.r).toArray) from by rw [SS.ldN_cells g2,f.cut16];rfl) ?_
 refine bs (show (s2.ld c 16).bind (asI .u32)=some f.psl from by rw [ld];rfl) ?_
 refine bs (show (s2.ld c 17).bind (asI .u32)=some f.ksp from by rw [ld];rfl) ?_
 refine bs (show (s2.ld c 18).bind (asI .u32)=some f.usp from by rw [ld];rfl) ?_
 simp only [zqH hcn,zct]
 refine bs e16 (bs e17 (bs e18 (bs e19 (bs l20 (bs e21 (bs l22 ?_))))))
 rw [StM.flat];rfl
end Go.Proofs.YtlpigjmjgclgiaaDoorE
namespace Go.Proofs.YtlpigjmjgclgiaaDoorE
open Go Go.E Go.Proofs
structure Rw (st:SS) (b c:Nat) (m:PM) (f:FM):Prop where
 p:st.mem.get b=some (.cells m.rw 0)
 f:st.mem.get c=some (.cells f.row 0)
 fp:m.fp=c
theorem Rw.adv {st:SS} {b c:Nat} {m:PM} {f:FM} (h:Rw st b c m f) (n:Nat):Rw (st.adv n) b c m f:=⟨h.p,h.f,h.fp⟩
theorem Rw.ro {st:SS} {b c:Nat} {m:PM} {f:FM} (h:Rw st b c m f) (n:Nat):Rw (st.ro n) b c m f:=⟨h.p,h.f,h.fp⟩
theorem Rw.ld {st:SS} {b c k:Nat} {m:PM} {f:FM} (h:Rw st b c m f):st.ld b k=m.rw[k]?:=SS.ld_cells h.p
theorem Rw.ld0 {st:SS} {b c:Nat} {m:PM} {f:FM} (h:Rw st b c m f):st.ld b 0=some (ptr c 0):=by rw [h.ld,m.g0,h.fp]
theorem Rw.ldR {st:SS} {b c i:Nat} {m:PM} {f:FM} (h:Rw st b c m f) (hi:i<60):(st.ld b (0+1+i*1)).bind (asI .u32)=some (m.r i):=by rw [h.ld,show 0+1+i*1=1+i by omega,m.getR hi];rfl
theorem Rw.ldK {st:SS} {b c i:Nat} {m:PM} {f:FM} (h:Rw st b c m f) (hi:i<6):(st.ld b (0+61+i*1)).bind (asI .i64)=some (m.k i):=by rw [h.ld,show 0+61+i*1=61+i by omega,m.getK hi];rfl
def opR (x:Int×Int):List Value:=[.int .u8 x.1,.int .i64 x.2]
theorem zdM (x:Int×Int):(opR x).length=2:=rfl
def Os (st:SS) (m:PM) (OL:List (Int×Int)):Prop:=Rg st m.ops (rowsF opR OL) 2 OL.length∧OL.length≤6
def atT (m:PM):Int:=if 5<(if 0>m.cur then 0 else m.cur) then 5 else if 0>m.cur then 0 else m.cur
theorem zo8 (m:PM):0≤atT m∧atT m≤5:=by unfold atT;split<;>split<;>omega
def zgi:List (Int×Int)→Nat→Nat
 | _,0=>0
 | OL,k+1=>match OL[k]? with
   | none=>0
   | some x=>if x.1=98 then zgi OL k else k
def resT (OL:List (Int×Int)):Nat:=zgi OL OL.length
theorem zoz (OL:List (Int×Int)):∀ k,k≤OL.length→0<OL.length→zgi OL k<OL.length
 | 0,_,h=>by unfold zgi;exact h
 | k+1,hk,h=>by
   unfold zgi
   rw [zge (by omega)]
   simp only
   split
   ·exact zoz OL k (by omega) h
   ·omega
theorem zlp {OL:List (Int×Int)} (h:0<OL.length):resT OL<OL.length:=zoz OL _ (zlr _) h
theorem znm {OL:List (Int×Int)} (h:OL.length≤6):resT OL<6:=by
 by_cases h0:0<OL.length
 ·have:=zlp h0;omega
 ·have:OL=[]:=List.length_eq_zero_iff.1 (by omega)
  subst this
  show 0<6
  omega
section
variable {st : SS} {b c : Nat} {m : PM} {f : FM} {OL : List (Int × Int)}
theorem znn [Sym] (h:Rw st b c m f):cc 52 [ptr b 0] st=some (.int .i64 (atT m),st):=by
 refine zj8 _ st ?_
 unfold zhu
 simp only [zad,zaa,zob]
 exact bs (show ((st.ro st.next).ld b (0+72)).bind (asI .i64)=some m.cur from by rw [(h.ro _).ld,show 0+72=72 from rfl,m.g72];rfl) rfl
theorem zno [Sym] (h:Rw st b c m f) (ho:Os st m OL):∀ (k:Nat),k≤OL.length→
  ∃ e vs,zbF 2 [ptr b 0,.int .i64 ((k:Int)-1)] st=some (e,vs,st)∧(e=0∧zgi OL k=0∨e=1∧vs=[.int .i64 (zgi OL k:Int)])
 | 0,hk=>by
   refine ⟨0,[],zbR _ _ st ?_,.inl ⟨rfl,rfl⟩⟩
   have:¬ (0:Int)≤((0:Nat):Int)-1:=by omega
   simp only [zbG,this,decide_false,zcf]
 | k+1,hk=>by
   have h0:(0:Int)≤((k+1:Nat):Int)-1:=by omega
   have hk1:((k+1:Nat):Int)-1=(k:Int):=by omega
   have hw:IntKind.wrap .i64 ((k:Int)-1)=(k:Int)-1:=wrap64 (by omega) (by have:=ho.2;omega)
   obtain ⟨x,hx⟩:∃ x,OL[k]?=some x:=⟨_,zge (by omega)⟩
   obtain ⟨p,b1,b2,b3⟩:=ho.1.load (j:=(k:Int)) (by omega) (by omega) (zdE zdM OL k x hx) (zdM x)
   have l6:(st.ld p.1 p.2).bind (asI .u8)=some x.1:=by rw [show p.2=p.2+0 from rfl,b3 0 _ rfl];rfl
   have hr:zgi OL (k+1)=if x.1=98 then zgi OL k else k:=by conv=>lhs;unfold zgi;rw [hx]
   obtain ⟨e,vs,ih,h2⟩:=zno h ho k (by omega)
   have lo:st.ld b (0+67+4)=some m.ops:=by rw [h.ld];exact m.g71
   rw [hr]
   by_cases hb:x.1=98
   ·refine ⟨e,vs,zbR _ _ st ?_,by rw [if_pos hb];exact h2⟩
    unfold zbG
    rw [zdt h0]
    simp only [zct,zad,zaa,zob]
    rw [hk1]
    refine bs lo (bs b1 (bs l6 ?_))
    simp only [hb,decide_true,znt,zcf,hw]
    exact ih
   ·refine ⟨1,[.int .i64 (k:Int)],zbR _ _ st ?_,by rw [if_neg hb];exact .inr ⟨rfl,rfl⟩⟩
    unfold zbG
    rw [zdt h0]
    simp only [zct,zad,zaa,zob]
    rw [hk1]
    refine bs lo (bs b1 (bs l6 ?_))
    simp only [hb,decide_false,znf,zct]
theorem Os.ro {n:Nat} (ho:Os st m OL):Os (st.ro n) m OL:=⟨ho.1,ho.2⟩
theorem Os.adv {n:Nat} (ho:Os st m OL) (hn:st.next≤n):Os (st.adv n) m OL:=⟨ho.1.ext ((Ext.refl _).adv hn),ho.2⟩
theorem zkT [Sym] (h:Rw st b c m f) (ho:Os st m OL):cc 30 [ptr b 0] st=some (.int .i64 (resT OL:Int),st):=by
 obtain ⟨e,vs,hl,h2⟩:=zno (h.ro st.next) ho.ro OL.length (zlr _)
 have hw:IntKind.wrap .i64 ((OL.length:Int)-1)=(OL.length:Int)-1:=wrap64 (by omega) (by have:=ho.2;omega)
 refine zhn _ st ?_
 unfold zeV
 simp only [zad,zaa,zob]
 refine bs (show (st.ro st.next).ld b (0+67+4)=some m.ops from by rw [(h.ro _).ld];exact m.g71) (bs ho.1.lenI ?_)
 rw [hw]
 refine bs hl ?_
 rcases h2 with ⟨rfl,h2⟩ | ⟨rfl,rfl⟩
 ·unfold resT;rw [h2];rfl
 ·rfl
def zfH (m:PM) (OL:List (Int×Int)) (n:Int):Int:=
 if n=39 then m.rn else if n=54 then 24+atT m else if n=55 then 30+atT m else if n=57 then m.k (resT OL)
 else if n<36∨n=36∨n=37∨n=38∨(43≤n∧n≤45)∨n=53∨n=59 then n else -1
theorem znp [Sym] (h:Rw st b c m f) (ho:Os st m OL) (n:Int):cc 25 [ptr b 0,.int .i64 n] st=some (.int .i64 (zfH m OL n),st):=by
 have ha:=zo8 m
 refine zhH _ _ st ?_
 unfold zfF zfH
 by_cases h1:n=39
 ·rw [if_pos h1]
  simp only [h1,decide_true,zct,zad,zaa,zob]
  exact bs (show ((st.ro st.next).ld b (0+73)).bind (asI .i64)=some m.rn from by rw [(h.ro _).ld,show 0+73=73 from rfl,m.g73];rfl) rfl
 rw [if_neg h1]
 simp only [h1,decide_false,zcf]
 by_cases h2:n=54
 ·rw [if_pos h2]
  simp only [h2,decide_true,zct]
  refine bs (znn (h.ro st.next)) ?_
  simp only [zob,zac]
  rw [wrap64 (by omega) (by omega)];rfl
 rw [if_neg h2]
 simp only [h2,decide_false,zcf]
 by_cases h3:n=55
 ·rw [if_pos h3]
  simp only [h3,decide_true,zct]
  refine bs (znn (h.ro st.next)) ?_
  simp only [zob,zac]
  rw [wrap64 (by omega) (by omega)];rfl
 rw [if_neg h3]
 simp only [h3,decide_false,zcf]
 by_cases h4:n=57
 ·rw [if_pos h4]
  simp only [h4,decide_true,zct]
  refine bs (zkT (h.ro st.next) ho.ro) ?_
  simp only [zob,zac,zad,zaa]
  refine bs (zaF (znm ho.2)) (bs ((h.ro st.next).ldK (znm ho.2)) rfl)
 rw [if_neg h4]
 simp only [h4,decide_false,zcf]
 by_cases h5:n<36
 ·simp only [h5,decide_true,zct,true_or,if_true];rfl
 by_cases h6:n=36
 ·simp only [h5,h6,decide_false,decide_true,zcf,zct,true_or,or_true,if_true];rfl
 by_cases h7:n=37
 ·simp only [h5,h6,h7,decide_false,decide_true,zcf,zct,true_or,or_true,if_true];rfl
 by_cases h8:n=38
 ·simp only [h5,h6,h7,h8,decide_false,decide_true,zcf,zct,true_or,or_true,if_true];rfl
 simp only [h5,h6,h7,h8,decide_false,zcf,false_or]
 by_cases h9:43≤n
 ·by_cases h10:n≤45
  ·simp only [h9,h10,decide_true,zct,and_self,true_or,if_true];rfl
  ·by_cases h11:n=53
   ·simp only [h9,h10,h11,decide_false,decide_true,zcf,zct,and_false,false_or,true_or,if_true];rfl
   ·by_cases h12:n=59
    ·simp only [h9,h10,h11,h12,decide_false,decide_true,zcf,zct,and_false,false_or,if_true];rfl
    ·simp only [h9,h10,h11,h12,decide_false,decide_true,zcf,zct,and_false,or_self,if_false];rfl
 ·by_cases h11:n=53
  ·simp only [h9,h11,decide_false,decide_true,zcf,zct,false_and,false_or,true_or,if_true];rfl
  ·by_cases h12:n=59
   ·simp only [h9,h11,h12,decide_false,decide_true,zcf,zct,false_and,false_or,if_true];rfl
   ·simp only [h9,h11,h12,decide_false,zcf,false_and,or_self,if_false];rfl
def sizeT (m:PM) (n:Int):Int:=if n=3 then m.own else zbZ .i64 1 n
theorem zlq [Sym] (h:Rw st b c m f) {n:Int} (hn:0≤n):cc 22 [ptr b 0,.int .i64 n] st=some (.int .i64 (sizeT m n),st):=by
 refine ziv _ _ st ?_
 unfold zfY sizeT
 by_cases h1:n=3
 ·rw [if_pos h1]
  simp only [h1,decide_true,zct,zad,zaa,zob]
  exact bs (show ((st.ro st.next).ld b (0+75)).bind (asI .i64)=some m.own from by rw [(h.ro _).ld,show 0+75=75 from rfl,m.g75];rfl) rfl
 ·rw [if_neg h1]
  simp only [h1,decide_false,zcf]
  exact bs (show (aI .shl .i64 1 n).bind (asI .i64)=some (zbZ .i64 1 n) from by rw [zda hn];rfl) rfl
end
end Go.Proofs.YtlpigjmjgclgiaaDoorE
namespace Go.Proofs.YtlpigjmjgclgiaaDoorE
open Go Go.E Go.Proofs
def ziH (m:PM) (f:FM) (n:Int):Int:=if m.wt=n∧0<m.ws then zlm (getF f n) m.wx m.ws else getF f n
def zex (m:PM) (OL:List (Int×Int)) (n:Int):Option Int:=
 if n=39∨n=54∨n=55∨n=57 then (if zfH m OL n<0 then none else some (zfH m OL n))
 else if n=40 then (if m.rx<0 then none else some m.rx)
 else if n=56 then some (30+resT OL) else if n=50 then some (24+((OL.length-1:Nat):Int)) else some n
def zdk (m:PM) (f:FM) (U:Nat) (n:Int):Int:=
 if n=38 then f.psl else if n=48∨n=49 then (if isUser f.psl=decide (n=49) then ziH m f 14 else ziE f (decide (n=49)))
 else if n=51 then IntKind.wrap .u32 m.own else if n=52 then IntKind.wrap .u32 (ziH m f 15-m.r 46) else if n=58 then IntKind.wrap .u32 (U:Int)
 else if n=42 then 0 else if n=41 then 0 else if 60≤n then 0 else m.r n.toNat
def zfI (m:PM) (f:FM) (U:Nat) (n:Int):Int:=if n<16 then ziH m f n else if m.wt=n∧0<m.ws then m.wx else zdk m f U n
def getT (m:PM) (f:FM) (OL:List (Int×Int)) (U:Nat) (n:Int):Int:=match zex m OL n with
 | none=>0
 | some k=>zfI m f U k
section
variable {st : SS} {b c : Nat} {m : PM} {f : FM} {OL : List (Int × Int)} {U : Nat}
theorem Rw.l85 (h:Rw st b c m f):(st.ld b (0+85)).bind (asI .i64)=some m.wt:=by rw [h.ld,show 0+85=85 from rfl,m.g85];rfl
theorem Rw.l86 (h:Rw st b c m f):(st.ld b (0+85+1)).bind (asI .u32)=some m.wx:=by rw [h.ld,show 0+85+1=86 from rfl,m.g86];rfl
theorem Rw.l87 (h:Rw st b c m f):(st.ld b (0+85+2)).bind (asI .i64)=some m.ws:=by rw [h.ld,show 0+85+2=87 from rfl,m.g87];rfl
theorem zlZ [Sym] (h:Rw st b c m f) {n:Int} (hn:n<16):∃ k,st.next≤k∧zaw 1000018 [ptr b 0,.int .i64 n] st=some (0,[.int .u32 (ziH m f n)],st.adv k):=by
 have e4:=zoy h.f n
 unfold ziH
 by_cases hw:m.wt=n
 ·by_cases hs:0<m.ws
  ·obtain ⟨k,hk,e⟩:=zpT (getF f n) m.wx m.ws st
   rw [if_pos ⟨hw,hs⟩]
   refine ⟨k,hk,za7 _ _ st ?_⟩
   unfold za9
   simp only [hn,decide_true,zct,zad,zaa,zob]
   refine bs h.ld0 (bs e4 ?_)
   simp only [zob,zac]
   refine bs h.l85 ?_
   simp only [hw,decide_true,zct]
   refine bs h.l87 ?_
   simp only [hs,decide_true,zct]
   exact bs h.l86 (bs h.l87 (bs e rfl))
  ·rw [if_neg (fun e=>hs e.2)]
   refine ⟨st.next,zlr _,za7 _ _ st ?_⟩
   unfold za9
   simp only [hn,decide_true,zct,zad,zaa,zob]
   refine bs h.ld0 (bs e4 ?_)
   simp only [zob,zac]
   refine bs h.l85 ?_
   simp only [hw,decide_true,zct]
   refine bs h.l87 ?_
   simp only [hs,decide_false,zcf]
   rfl
 ·rw [if_neg (fun e=>hw e.1)]
  refine ⟨st.next,zlr _,za7 _ _ st ?_⟩
  unfold za9
  simp only [hn,decide_true,zct,zad,zaa,zob]
  refine bs h.ld0 (bs e4 ?_)
  simp only [zob,zac]
  refine bs h.l85 ?_
  simp only [hw,decide_false,zcf]
  rfl
theorem get7 [Sym] (h:Rw st b c m f) (ho:Os st m OL) (n:Int) (is:Bool) (his:is=true↔n=39∨n=54∨n=55∨n=57):
  zaw 1000007 [ptr b 0,.int .i64 n,.int .i64 n,.bool is] st=match zex m OL n with
   | none=>some (1,[.int .u32 0],st)
   | some k=>some (0,[ptr b 0,.int .i64 k],st):=by
 have hlen:=ho.2
 unfold zex
 cases is with
 | true=>
   have hx:=his.1 rfl
   rw [if_pos hx]
   have e1:=znp h ho n
   by_cases hw:zfH m OL n<0
   ·rw [if_pos hw]
    refine zaY _ _ _ _ st ?_
    unfold za2
    simp only [zct]
    refine bs e1 ?_
    simp only [zob,zac,hw,decide_true,zct]
   ·rw [if_neg hw]
    refine zaY _ _ _ _ st ?_
    unfold za2
    simp only [zct]
    refine bs e1 ?_
    simp only [zob,zac,hw,decide_false,zcf]
 | false=>
   have hx:¬ (n=39∨n=54∨n=55∨n=57):=fun e=>by have:=his.2 e;cases this
   rw [if_neg hx]
   by_cases h40:n=40
   ·rw [if_pos h40]
    have l74:(st.ld b (0+74)).bind (asI .i64)=some m.rx:=by rw [h.ld,show 0+74=74 from rfl,m.g74];rfl
    by_cases hr:m.rx<0
    ·rw [if_pos hr]
     refine zaY _ _ _ _ st ?_
     unfold za2
     simp only [zcf,h40,decide_true,zct,zad,zaa,zob]
     refine bs l74 ?_
     simp only [hr,decide_true,zct]
    ·rw [if_neg hr]
     refine zaY _ _ _ _ st ?_
     unfold za2
     simp only [zcf,h40,decide_true,zct,zad,zaa,zob]
     refine bs l74 ?_
     simp only [hr,decide_false,zcf]
   rw [if_neg h40]
   by_cases h56:n=56
   ·rw [if_pos h56]
    have hr:=znm hlen
    refine zaY _ _ _ _ st ?_
    unfold za2
    simp only [zcf,h40,h56,decide_false,decide_true,zct]
    refine bs (zkT h ho) ?_
    simp only [zob,zac]
    rw [wrap64 (by omega) (by omega)]
   rw [if_neg h56]
   by_cases h50:n=50
   ·rw [if_pos h50]
    have lo:st.ld b (0+67+4)=some m.ops:=by rw [h.ld];exact m.g71
    have hw:IntKind.wrap .i64 ((OL.length:Int)-1)=(OL.length:Int)-1:=wrap64 (by omega) (by omega)
    have hm:(if 0>(OL.length:Int)-1 then 0 else (OL.length:Int)-1)=((OL.length-1:Nat):Int):=by split<;>omega
    refine zaY _ _ _ _ st ?_
    unfold za2
    simp only [zcf,h40,h56,h50,decide_false,decide_true,zct,zad,zaa,zob]
    refine bs lo (bs ho.1.lenI ?_)
    rw [hw,hm,wrap64 (by omega) (by omega)]
   rw [if_neg h50]
   refine zaY _ _ _ _ st ?_
   unfold za2
   simp only [zcf,h40,h56,h50,decide_false]
theorem znq [Sym] (h:Rw st b c m f) (ho:Os st m OL) (n:Int) {v:Int}
  (hv:∀ k,zex m OL n=some k→∃ j,st.next≤j∧zaw 1000018 [ptr b 0,.int .i64 k] (st.ro st.next)=some (0,[.int .u32 v],(st.ro st.next).adv j)) (h0:zex m OL n=none→v=0):
  ∃ k,st.next≤k∧cc 11 [ptr b 0,.int .i64 n] st=some (.int .u32 v,st.adv k):=by
 have go:∀ is:Bool,(is=true↔n=39∨n=54∨n=55∨n=57)→∃ k,st.next≤k∧∀ (F:Nat×List Value×SS→Option (Value×SS)),(∀ r,F r=cond (Nat.beq r.1 0) ((r.2.1[0]?).bind fun v2=>((r.2.1[1]?).bind (asI .i64)).bind fun n3=>(zaw 1000018 [v2,.int .i64 n3] r.2.2).bind fun r4=>((r4.2.1[0]?).bind (asI .u32)).bind fun n5=>some (.int .u32 n5,st.adv r4.2.2.next)) (((r.2.1[0]?).bind (asI .u32)).bind fun n6=>some (.int .u32 n6,st.adv r.2.2.next)))→
   (zaw 1000007 [ptr b 0,.int .i64 n,.int .i64 n,.bool is] (st.ro st.next)).bind F=some (.int .u32 v,st.adv k):=fun is his=>by
  have e7:=get7 (h.ro st.next) ho.ro n is his
  cases hk:zex m OL n with
  | none=>
    rw [hk] at e7
    refine ⟨st.next,zlr _,fun F hF=>?_⟩
    rw [e7,zob,hF,h0 hk];rfl
  | some k=>
    rw [hk] at e7
    obtain ⟨j,hj,e⟩:=hv k hk
    refine ⟨j,hj,fun F hF=>?_⟩
    rw [e7,zob,hF]
    show (zaw 1000018 [ptr b 0,.int .i64 k] (st.ro st.next)).bind _=_
    rw [e];rfl
 by_cases h1:n=39
 ·obtain ⟨k,hk,g⟩:=go true (by simp [h1])
  refine ⟨k,hk,zb4 _ _ st ?_⟩
  unfold zca
  rw [zdt h1]
  exact g _ fun r=>rfl
 by_cases h2:n=54
 ·obtain ⟨k,hk,g⟩:=go true (by simp [h2])
  refine ⟨k,hk,zb4 _ _ st ?_⟩
  unfold zca
  rw [zdf h1,zdt h2]
  exact g _ fun r=>rfl
 by_cases h3:n=55
 ·obtain ⟨k,hk,g⟩:=go true (by simp [h3])
  refine ⟨k,hk,zb4 _ _ st ?_⟩
  unfold zca
  rw [zdf h1,zdf h2,zdt h3]
  exact g _ fun r=>rfl
 obtain ⟨k,hk,g⟩:=go (decide (n=57)) (by simp [h1,h2,h3])
 refine ⟨k,hk,zb4 _ _ st ?_⟩
 unfold zca
 rw [zdf h1,zdf h2,zdf h3]
 exact g _ fun r=>rfl
theorem zey {n:Int} (h:n<39):zex m OL n=some n:=by
 unfold zex
 rw [if_neg (by omega),if_neg (by omega),if_neg (by omega),if_neg (by omega)]
theorem zoA [Sym] (h:Rw st b c m f) (ho:Os st m OL) {n:Int} (hn:n<16):∃ k,st.next≤k∧cc 11 [ptr b 0,.int .i64 n] st=some (.int .u32 (ziH m f n),st.adv k):=by
 refine znq h ho n (fun k hk=>?_) (fun hk=>by rw [zey (by omega)] at hk;cases hk)
 rw [zey (by omega)] at hk;cases hk
 exact zlZ (h.ro st.next) hn
theorem get30 [Sym] (h:Rw st b c m f) (ho:Os st m OL) (hU:lenV m.buf=some (.int .i64 (U:Int))) (n:Int) (is:Bool) (his:is=true↔n=48∨n=49) (hn38:n≠38) (h16:16≤n):
  ∃ k,st.next≤k∧(zaw 1000030 [ptr b 0,.int .i64 n,.int .i64 n,.bool is] st=some (1,[.int .u32 (zdk m f U n)],st.adv k)∨
   (zaw 1000030 [ptr b 0,.int .i64 n,.int .i64 n,.bool is] st=some (0,[ptr b 0,.int .i64 n],st.adv k)∧zdk m f U n=if 60≤n then 0 else m.r n.toNat)):=by
 unfold zdk
 rw [if_neg hn38]
 cases is with
 | true=>
   have hx:=his.1 rfl
   rw [if_pos hx]
   obtain ⟨k6,g6,e6⟩:=zeH f.psl st
   by_cases hu:isUser f.psl=decide (n=49)
   ·obtain ⟨k8,g8,e8⟩:=zoA (h.adv k6) (ho.adv g6) (n:=14) (by omega)
    have g8':k6≤k8:=g8
    rw [if_pos hu]
    refine ⟨k8,by omega,.inl (zaQ _ _ _ _ st ?_)⟩
    unfold zaU
    simp only [zct,zad,zaa,zob]
    refine bs h.ld0 (bs (zdL h.f) ?_)
    simp only [zob,zac]
    refine bs e6 ?_
    simp only [zob,zat,hu,beq_self_eq_true,zct]
    refine bs e8 rfl
   ·obtain ⟨k13,g13,e13⟩:=zpZ (st:=st.adv k6) h.f (decide (n=49))
    have g13':k6≤k13:=g13
    have hb:(isUser f.psl==decide (n=49))=false:=by simpa using hu
    rw [if_neg hu]
    refine ⟨k13,by omega,.inl (zaQ _ _ _ _ st ?_)⟩
    unfold zaU
    simp only [zct,zad,zaa,zob]
    refine bs h.ld0 (bs (zdL h.f) ?_)
    simp only [zob,zac]
    refine bs e6 ?_
    simp only [zob,zat,hb,zcf]
    refine bs (h.adv k6).ld0 (bs e13 rfl)
 | false=>
   have hx:¬ (n=48∨n=49):=fun e=>by have:=his.2 e;cases this
   rw [if_neg hx]
   by_cases h51:n=51
   ·rw [if_pos h51]
    refine ⟨st.next,zlr _,.inl (zaQ _ _ _ _ st ?_)⟩
    unfold zaU
    simp only [zcf,h51,decide_true,zct,zad,zaa,zob]
    exact bs (show (st.ld b (0+75)).bind (asI .i64)=some m.own from by rw [h.ld,show 0+75=75 from rfl,m.g75];rfl) rfl
   rw [if_neg h51]
   by_cases h52:n=52
   ·rw [if_pos h52]
    obtain ⟨k,g,e⟩:=zoA (h.ro st.next) ho.ro (n:=15) (by omega)
    refine ⟨k,g,.inl (zaQ _ _ _ _ st ?_)⟩
    unfold zaU
    simp only [zcf,h51,h52,decide_false,decide_true,zct]
    refine bs e ?_
    simp only [zob,zac,zad,zaa]
    refine bs (zaF (n:=46) (by omega)) (bs (((h.ro st.next).adv k).ro st.lim |>.ldR (i:=46) (by omega)) rfl)
   rw [if_neg h52]
   by_cases h58:n=58
   ·rw [if_pos h58]
    refine ⟨st.next,zlr _,.inl (zaQ _ _ _ _ st ?_)⟩
    unfold zaU
    simp only [zcf,h51,h52,h58,decide_false,decide_true,zct,zad,zaa,zob]
    refine bs (show st.ld b (0+77)=some m.buf from by rw [h.ld];exact m.g77) ?_
    rw [hU];rfl
   rw [if_neg h58]
   by_cases h42:n=42
   ·rw [if_pos h42]
    refine ⟨st.next,zlr _,.inl (zaQ _ _ _ _ st ?_)⟩
    simp only [zaU,zcf,h51,h52,h58,h42,decide_false,decide_true,zct]
    rfl
   rw [if_neg h42]
   by_cases h41:n=41
   ·rw [if_pos h41]
    refine ⟨st.next,zlr _,.inl (zaQ _ _ _ _ st ?_)⟩
    simp only [zaU,zcf,h51,h52,h58,h42,h41,decide_false,decide_true,zct]
    rfl
   rw [if_neg h41]
   refine ⟨st.next,zlr _,.inr ⟨zaQ _ _ _ _ st ?_,rfl⟩⟩
   simp only [zaU,zcf,h51,h52,h58,h42,h41,decide_false]
   rfl
theorem get25 [Sym] (h:Rw st b c m f) (ho:Os st m OL) (hU:lenV m.buf=some (.int .i64 (U:Int))) {n:Int} (h16:16≤n):∃ k,st.next≤k∧zaw 1000025 [ptr b 0,.int .i64 n] st=some (0,[.int .u32 (zdk m f U n)],st.adv k):=by
 by_cases h38:n=38
 ·refine ⟨st.next,zlr _,zcb _ _ st ?_⟩
  unfold zbV zdk
  rw [if_pos h38]
  simp only [h38,decide_true,zct,zad,zaa,zob]
  exact bs h.ld0 (bs (zdL h.f) rfl)
 have fin:∀ is:Bool,(is=true↔n=48∨n=49)→∃ k,st.next≤k∧∀ (F:Nat×List Value×SS→Option (Nat×List Value×SS)),(∀ r,F r=cond (Nat.beq r.1 0) ((r.2.1[0]?).bind fun v7=>((r.2.1[1]?).bind (asI .i64)).bind fun n8=>cond (decide (60≤n8)) (some (0,[.int .u32 0],r.2.2)) ((zaf v7).bind fun v9=>(addr? v9).bind fun p10=>(zaT (ptr p10.1 (p10.2+1)) 60 n8 1).bind fun p11=>((r.2.2.ld p11.1 p11.2).bind (asI .u32)).bind fun n12=>some (0,[.int .u32 n12],r.2.2))) (((r.2.1[0]?).bind (asI .u32)).bind fun n13=>some (0,[.int .u32 n13],r.2.2)))→
   (zaw 1000030 [ptr b 0,.int .i64 n,.int .i64 n,.bool is] st).bind F=some (0,[.int .u32 (zdk m f U n)],st.adv k):=fun is his=>by
  obtain ⟨k,hk,e⟩:=get30 h ho hU n is his h38 h16
  refine ⟨k,hk,fun F hF=>?_⟩
  rcases e with e | ⟨e,hb⟩
  ·rw [e,zob,hF];rfl
  ·rw [e,zob,hF,hb]
   show cond (decide (60≤n)) _ _=_
   by_cases h60:60≤n
   ·rw [zdt h60,if_pos h60];rfl
   ·rw [zdf h60,if_neg h60]
    simp only [zcf,zad,zaa,zob]
    obtain ⟨j,rfl⟩:∃ j:Nat,n=(j:Int):=⟨n.toNat,by omega⟩
    exact bs (zaF (n:=j) (by omega)) (bs ((h.adv k).ldR (by omega)) rfl)
 by_cases h48:n=48
 ·obtain ⟨k,hk,g⟩:=fin true (by simp [h48])
  refine ⟨k,hk,zcb _ _ st ?_⟩
  unfold zbV
  rw [zdf h38,zdt h48]
  exact g _ fun r=>rfl
 ·obtain ⟨k,hk,g⟩:=fin (decide (n=49)) (by simp [h48])
  refine ⟨k,hk,zcb _ _ st ?_⟩
  unfold zbV
  rw [zdf h38,zdf h48]
  exact g _ fun r=>rfl
theorem get18 [Sym] (h:Rw st b c m f) (ho:Os st m OL) (hU:lenV m.buf=some (.int .i64 (U:Int))) (n:Int):∃ k,st.next≤k∧zaw 1000018 [ptr b 0,.int .i64 n] st=some (0,[.int .u32 (zfI m f U n)],st.adv k):=by
 unfold zfI
 by_cases hn:n<16
 ·rw [if_pos hn];exact zlZ h hn
 rw [if_neg hn]
 obtain ⟨k,hk,e⟩:=get25 h ho hU (n:=n) (by omega)
 by_cases hw:m.wt=n
 ·by_cases hs:0<m.ws
  ·rw [if_pos ⟨hw,hs⟩]
   refine ⟨st.next,zlr _,za7 _ _ st ?_⟩
   unfold za9
   simp only [hn,decide_false,zcf,zad,zaa,zob]
   refine bs h.l85 ?_
   simp only [hw,decide_true,zct]
   refine bs h.l87 ?_
   simp only [hs,decide_true,zct]
   exact bs h.l86 rfl
  ·rw [if_neg (fun e=>hs e.2)]
   refine ⟨k,hk,za7 _ _ st ?_⟩
   unfold za9
   simp only [hn,decide_false,zcf,zad,zaa,zob]
   refine bs h.l85 ?_
   simp only [hw,decide_true,zct]
   refine bs h.l87 ?_
   simp only [hs,decide_false,zcf]
   exact bs e rfl
 ·rw [if_neg (fun e=>hw e.1)]
  refine ⟨k,hk,za7 _ _ st ?_⟩
  unfold za9
  simp only [hn,decide_false,zcf,zad,zaa,zob]
  refine bs h.l85 ?_
  simp only [hw,decide_false,zcf]
  exact bs e rfl
theorem znr [Sym] (h:Rw st b c m f) (ho:Os st m OL) (hU:lenV m.buf=some (.int .i64 (U:Int))) (n:Int):∃ k,st.next≤k∧cc 11 [ptr b 0,.int .i64 n] st=some (.int .u32 (getT m f OL U n),st.adv k):=by
 refine znq h ho n (fun k hk=>?_) (fun hk=>by unfold getT;rw [hk])
 have:getT m f OL U n=zfI m f U k:=by unfold getT;rw [hk]
 rw [this]
 exact get18 (h.ro st.next) ho.ro hU k
end
end Go.Proofs.YtlpigjmjgclgiaaDoorE
namespace Go.Proofs.YtlpigjmjgclgiaaDoorE
open Go Go.E Go.Proofs
structure Tw (st:SS) (b c:Nat) (m:PM) (f:FM):Prop where
 p:At st b m.rw
 f:At st c f.row
 fp:m.fp=c
 ne:b≠c
 ll:st.lim≤st.next
section
variable {st st' : SS} {b c : Nat} {m m' : PM} {f f' : FM} {OL : List (Int × Int)}
theorem Tw.rw (h:Tw st b c m f):Rw st b c m f:=⟨h.p.mem,h.f.mem,h.fp⟩
theorem Tw.adv (h:Tw st b c m f) {n:Nat} (hn:st.next≤n):Tw (st.adv n) b c m f:=⟨h.p.adv hn,h.f.adv hn,h.fp,h.ne,zlt h.ll hn⟩
theorem Tw.modC (h:Tw st b c m f) (a:At st' c f'.row) (k:Mod [c] st st'):Tw st' b c m f':=⟨h.p.mod k (by simpa using h.ne),a,h.fp,h.ne,k.ll h.ll⟩
theorem Tw.modB (h:Tw st b c m f) (a:At st' b m'.rw) (k:Mod [b] st st') (e:m'.fp=m.fp):Tw st' b c m' f:=⟨a,h.f.mod k (by simpa using h.ne.symm),e.trans h.fp,h.ne,k.ll h.ll⟩
theorem Tw.ext (h:Tw st b c m f) (k:Ext st st'):Tw st' b c m f:=⟨h.p.ext k,h.f.ext k,h.fp,h.ne,k.ll h.ll⟩
theorem Tw.new (h:Tw st b c m f) (ob:AObj):Tw (st.new ob) b c m f:=h.ext ((Ext.refl st).new ob)
theorem inB (k:Mod [b] st st'):Mod [b,c] st st':=k.mono (by simp)
theorem inC (k:Mod [c] st st'):Mod [b,c] st st':=k.mono (by simp)
theorem Tw.setR (h:Tw st b c m f) {i:Nat} (hi:i<60) (x:Int):∃ st',st.st b (0+1+i*1) [.int .u32 x]=some st'∧Tw st' b c { m with r:=up m.r i x } f∧Mod [b,c] st st'∧st'.next=st.next:=by
 obtain ⟨s,e,a,k,n⟩:=h.p.w (k:=0+1+i*1) (row':=PM.rw { m with r:=up m.r i x }) (x:=.int .u32 x) (by rw [m.len];omega) rfl (by rw [show 0+1+i*1=1+i by omega];exact m.setR hi x)
 exact ⟨s,e,h.modB a k rfl,inB k,n⟩
theorem Tw.w (h:Tw st b c m f) {k:Nat} {x:Value} (m':PM) (hk:k<88) (h1:one x=true) (e:m.rw.set k x=m'.rw) (hf:m'.fp=m.fp):∃ st',st.st b k [x]=some st'∧Tw st' b c m' f∧Mod [b,c] st st'∧st'.next=st.next:=by
 obtain ⟨s,e,a,k,n⟩:=h.p.w (row':=m'.rw) (by rw [m.len];exact hk) h1 e
 exact ⟨s,e,h.modB a k hf,inB k,n⟩
theorem Tw.ws (h:Tw st b c m f) {k:Nat} {vs:List Value} (m':PM) (h1:vs.all one=true) (e:zaI m.rw k vs=some m'.rw) (hf:m'.fp=m.fp):∃ st',st.st b k vs=some st'∧Tw st' b c m' f∧Mod [b,c] st st'∧st'.next=st.next:=by
 obtain ⟨s,e,a,k,n⟩:=h.p.sto h1 e
 exact ⟨s,e,h.modB a k hf,inB k,n⟩
def putP (m:PM) (n x:Int):PM:=if 16≤n∧n<60∧n≠38 then { m with r:=up m.r n.toNat x } else m
def putQ (f:FM) (n x s:Int):FM:=if n=38 then putF f x else setF f n x s
theorem zfJ {n:Int} (h:n<0∨15<n) (f:FM) (x s:Int):setF f n x s=f:=by unfold setF;rw [if_pos (by omega)]
theorem zrm [Sym] (h:Tw st b c m f) (n x s:Int):∃ st',cc 10 [ptr b 0,.int .i64 n,.int .u32 x,.int .i64 s] st=some (.tuple #[],st')∧Tw st' b c (putP m n x) (putQ f n x s)∧Mod [b,c] st st':=by
 by_cases h0:n<0
 ·refine ⟨st,zbB _ _ _ _ st ?_,?_,.refl _⟩
  ·unfold zbI
   rw [zdt h0]
   exact bs (zbn _ _ _ _ _ st rfl) rfl
  ·unfold putP putQ;rw [if_neg (by omega),if_neg (by omega),zfJ (by omega)];exact h
 by_cases h60:60≤n
 ·refine ⟨st,zbB _ _ _ _ st ?_,?_,.refl _⟩
  ·unfold zbI
   rw [zdf h0,zdt h60]
   exact bs (zbn _ _ _ _ _ st rfl) rfl
  ·unfold putP putQ;rw [if_neg (by omega),if_neg (by omega),zfJ (by omega)];exact h
 by_cases h16:n<16
 ·obtain ⟨s',e,g1,g2,g3⟩:=zrl h.f n x s
  refine ⟨s',zbB _ _ _ _ st ?_,?_,inC g3⟩
  ·unfold zbI
   rw [zdf h0,zdf h60]
   refine bs (zbn _ _ _ _ _ st (r:=(0,[],s')) ?_) rfl
   unfold zb3
   simp only [zcf,h16,decide_true,zct,zad,zaa,zob]
   exact bs h.rw.ld0 (bs g1 rfl)
  ·unfold putP putQ;rw [if_neg (by omega),if_neg (by omega)];exact h.modC g2 g3
 by_cases h38:n=38
 ·obtain ⟨s',g1,g2,g3⟩:=zgM h.f x
  refine ⟨s',zbB _ _ _ _ st ?_,?_,inC g3⟩
  ·unfold zbI
   rw [zdf h0,zdf h60]
   refine bs (zbn _ _ _ _ _ st (r:=(0,[],s')) ?_) rfl
   unfold zb3
   simp only [zcf,h16,h38,decide_false,decide_true,zct,zad,zaa,zob]
   exact bs h.rw.ld0 (bs g1 rfl)
  ·unfold putP putQ;rw [if_neg (by omega),if_pos h38];exact h.modC g2 g3
 obtain ⟨k,rfl⟩:∃ k:Nat,n=(k:Int):=⟨n.toNat,by omega⟩
 obtain ⟨s',g1,g2,g3,_⟩:=h.setR (i:=k) (by omega) x
 refine ⟨s',zbB _ _ _ _ st ?_,?_,g3⟩
 ·unfold zbI
  rw [zdf h0,zdf h60]
  refine bs (zbn _ _ _ _ _ st (r:=(0,[],s')) ?_) rfl
  unfold zb3
  simp only [zcf,h16,h38,decide_false,zad,zaa,zob]
  exact bs (zaF (n:=k) (by omega)) (bs g1 rfl)
 ·unfold putP putQ;rw [if_pos (by omega),if_neg h38,zfJ (by omega),Int.toNat_natCast];exact g2
def zbb (m:PM):PM:={ (if 0<m.ws then putP m m.wt m.wx else m) with wt:=0,wx:=0,ws:=0 }
def zbh (m:PM) (f:FM):FM:=if 0<m.ws then putQ f m.wt m.wx m.ws else f
theorem PM.s85 (m:PM) (t x s:Int):zaI m.rw (0+85) [.int .i64 t,.int .u32 x,.int .i64 s]=some (PM.rw { m with wt:=t,wx:=x,ws:=s }):=by
 rw [zbk (by rw [m.len];exact zlr _)]
 refine congrArg some ?_
 have e:m.rw.take (0+85)=ptr m.fp 0::(nums .u32 60 m.r++(nums .i64 6 m.k++m.tl.take 18)):=by
  unfold PM.rw
  rw [show 0+85=84+1 by rfl,List.take_succ_cons,List.take_append,zal,List.take_append,zal,List.take_of_length_le (by rw [zal];omega),List.take_of_length_le (by rw [zal];omega)]
 rw [e,List.drop_of_length_le (by rw [m.len];exact zlr _)]
 unfold PM.rw PM.tl
 simp
theorem zl0 [Sym] (h:Tw st b c m f):∃ st',cc 17 [ptr b 0] st=some (.tuple #[],st')∧Tw st' b c (zbb m) (zbh m f)∧Mod [b,c] st st':=by
 by_cases hs:0<m.ws
 ·obtain ⟨s1,e1,t1,k1⟩:=zrm h m.wt m.wx m.ws
  obtain ⟨s2,e2,t2,k2,_⟩:=t1.ws (k:=0+85) (zbb m) rfl (by rw [PM.s85];unfold zbb;rw [if_pos hs]) (by unfold zbb;rw [if_pos hs])
  refine ⟨s2,zdZ _ st ?_,by unfold zbh;rw [if_pos hs];exact t2,k1.then k2⟩
  unfold zc4
  simp only [zad,zaa,zob]
  refine bs h.rw.l87 ?_
  simp only [hs,decide_true,zct]
  exact bs h.rw.l85 (bs h.rw.l86 (bs h.rw.l87 (bs e1 (bs e2 rfl))))
 ·obtain ⟨s2,e2,t2,k2,_⟩:=h.ws (k:=0+85) (zbb m) rfl (by rw [PM.s85];unfold zbb;rw [if_neg hs]) (by unfold zbb;rw [if_neg hs])
  refine ⟨s2,zdZ _ st ?_,by unfold zbh;rw [if_neg hs];exact t2,k2⟩
  unfold zc4
  simp only [zad,zaa,zob]
  refine bs h.rw.l87 ?_
  simp only [hs,decide_false,zcf]
  exact bs e2 rfl
def ownT (OL:List (Int×Int)):Int:=match OL with
 | []=>4
 | x::_=>x.2
theorem zqJ [Sym] (h:Tw st b c m f) (ho:Os st m OL) (hb:∀ i o l q,m.ops=.slice (some ⟨i,o,none⟩) l q→i≠b∧i≠c):∃ st',cc 58 [ptr b 0] st=some (.tuple #[],st')∧Tw st' b c { m with own:=ownT OL } f∧Mod [b,c] st st':=by
 obtain ⟨s1,e1,t1,k1,_⟩:=h.w (k:=0+75) (x:=.int .i64 4) { m with own:=4 } (by omega) rfl (m.s75 4) rfl
 have ho1:Rg s1 m.ops (rowsF opR OL) 2 OL.length:=ho.1.mod k1 (by intro i l q e;have:=hb i 0 l q e;simp;exact this)
 have l1:s1.ld b (0+67+4)=some m.ops:=by rw [t1.rw.ld];exact PM.g71 _
 cases OL with
 | nil=>
   refine ⟨s1,zeg _ st ?_,t1,k1⟩
   unfold zdx
   simp only [zad,zaa,zob]
   refine bs e1 (bs l1 ?_)
   rw [ho1.len]
   rfl
 | cons x r=>
   obtain ⟨p,ep,_,hl⟩:=ho1.load (j:=0) (by omega) (by simp) (row:=opR x) (by simp [rowsF,opR]) rfl
   obtain ⟨s2,e2,t2,k2,_⟩:=t1.w (k:=0+75) (x:=.int .i64 x.2) { m with own:=x.2 } (by omega) rfl (PM.s75 _ _) rfl
   refine ⟨s2,zeg _ st ?_,t2,k1.then k2⟩
   unfold zdx
   simp only [zad,zaa,zob]
   refine bs e1 (bs l1 ?_)
   rw [ho1.len]
   simp only [zac,zob,List.length_cons]
   rw [zdt (by omega),zct]
   refine bs l1 (bs ep (bs (a:=x.2) ?_ (bs e2 rfl)))
   rw [hl 1 (.int .i64 x.2) rfl];rfl
end
end Go.Proofs.YtlpigjmjgclgiaaDoorE
namespace Go.Proofs.YtlpigjmjgclgiaaDoorE
open Go Go.E Go.Proofs
structure OpM where
 code:Int
 name:ByteArray
 cls:Int
 alu:Int
 ops:Value
def OpM.row (o:OpM):List Value:=[.int .i64 o.code,.string o.name,.int .i64 o.cls,.int .i64 o.alu,o.ops]
def OpM.val (o:OpM):Value:=.agg #[.int .i64 o.code,.string o.name,.int .i64 o.cls,.int .i64 o.alu,o.ops]
def op0:OpM:=⟨0,⟨#[]⟩,0,0,.slice none 0 0⟩
def PM.withOp (m:PM) (o:OpM):PM:={ m with code:=o.code,name:=o.name,cls:=o.cls,alu:=o.alu,ops:=o.ops }
def zls (r:Nat→Int):Nat→Int:=fun i=>if 24≤i∧i<36 then 0 else r i
theorem PM.s67 (m:PM) (o:OpM):zaI m.rw (0+67) o.row=some (m.withOp o).rw:=by
 rw [zbk (by rw [m.len];show 0+67+5≤88;omega)]
 refine congrArg some ?_
 have e:m.rw.take (0+67)=ptr m.fp 0::(nums .u32 60 m.r++nums .i64 6 m.k):=by
  unfold PM.rw
  rw [show 0+67=66+1 by rfl,List.take_succ_cons,List.take_append,zal,List.take_append,zal,List.take_of_length_le (by rw [zal];omega),List.take_of_length_le (by rw [zal];omega),show 66-60-6=0 by rfl,List.take_zero,List.append_nil]
 have d:m.rw.drop (0+67+o.row.length)=m.tl.drop 5:=by
  unfold PM.rw
  rw [show 0+67+o.row.length=71+1 by rfl,List.drop_succ_cons,List.drop_append,zal,List.drop_append,zal,List.drop_of_length_le (by rw [zal];omega),List.drop_of_length_le (by rw [zal];omega)];rfl
 rw [e,d]
 unfold PM.rw PM.tl OpM.row PM.withOp
 simp
theorem PM.s61 (m:PM):zaI m.rw (0+61) [.int .i64 (-1),.int .i64 (-1),.int .i64 (-1),.int .i64 (-1),.int .i64 (-1),.int .i64 (-1)]=some (PM.rw { m with k:=fun _=> -1 }):=by
 rw [zbk (by rw [m.len];decide+kernel)]
 refine congrArg some ?_
 have e:m.rw.take (0+61)=ptr m.fp 0::nums .u32 60 m.r:=by
  unfold PM.rw
  rw [show 0+61=60+1 by rfl,List.take_succ_cons,List.take_append,zal,List.take_of_length_le (by rw [zal];omega),Nat.sub_self,List.take_zero,List.append_nil]
 have d:m.rw.drop (0+61+6)=m.tl:=by
  unfold PM.rw
  rw [show 0+61+6=66+1 by rfl,List.drop_succ_cons,List.drop_append,zal,List.drop_append,zal,List.drop_of_length_le (by rw [zal];omega),List.drop_of_length_le (by rw [zal];omega)];rfl
 show m.rw.take (0+61)++(_++m.rw.drop (0+61+6))=_
 rw [e,d]
 rfl
theorem zqK (r:Nat→Int):(nums .u32 60 r).take 24++(List.replicate 12 (.int .u32 0)++(nums .u32 60 r).drop 36)=nums .u32 60 (zls r):=by kernel_rfl
theorem PM.s25 (m:PM):zaI m.rw (0+1+24*1) (List.replicate 12 (.int .u32 0))=some (PM.rw { m with r:=zls m.r }):=by
 rw [zbk (by rw [m.len];decide+kernel)]
 refine congrArg some ?_
 have e:m.rw.take (0+1+24*1)=ptr m.fp 0::(nums .u32 60 m.r).take 24:=by
  unfold PM.rw
  rw [show 0+1+24*1=24+1 by rfl,List.take_succ_cons,List.take_append,zal,show 24-60=0 by rfl,List.take_zero,List.append_nil]
 have d:m.rw.drop (0+1+24*1+(List.replicate 12 (Value.int .u32 0)).length)=(nums .u32 60 m.r).drop 36++(nums .i64 6 m.k++m.tl):=by
  unfold PM.rw
  rw [show 0+1+24*1+(List.replicate 12 (Value.int .u32 0)).length=36+1 by rfl,List.drop_succ_cons,List.drop_append,zal];rfl
 rw [e,d]
 unfold PM.rw
 rw [← zqK]
 simp only [List.cons_append,List.append_assoc]
 rfl
def takeP (m:PM) (o:OpM) (OL:List (Int×Int)):PM:={ m.withOp o with cur:= -1,rn:=0,rx:= -1,own:=ownT OL,k:=fun _=> -1,div:=false,fl:=false,r:=zls m.r }
section
variable {st st' : SS} {b c : Nat} {m m' : PM} {f f' : FM} {OL : List (Int × Int)}
theorem zrn [Sym] (h:Tw st b c m f) {o:OpM} (hc:o.ops.cells.toList=[o.ops]∧one o.ops=true) (ho:Rg st o.ops (rowsF opR OL) 2 OL.length) (h6:OL.length≤6) (hb:∀ i k l q,o.ops=.slice (some ⟨i,k,none⟩) l q→i≠b∧i≠c):
  ∃ st',cc 41 [ptr b 0,o.val] st=some (.tuple #[],st')∧Tw st' b c (takeP m o OL) f∧Mod [b,c] st st':=by
 have e1:o.val.cells.toList=o.row:=rfl
 have h1:=h.new (.cells o.row 0)
 have e2:(st.new (.cells o.row 0)).ldN st.next 0 5=some (.agg o.row.toArray):=by rw [zfz];rfl
 have q:o.row.all one=true:=by show (true&&(true&&(true&&(true&&(one o.ops&&true)))))=true;rw [hc.2];rfl
 obtain ⟨s5,g5,a5,k5,_⟩:=h1.p.stV (k:=0+67) (zeM o.row) (n:=5) rfl q (m.s67 o)
 have t5:Tw s5 b c (m.withOp o) f:=h1.modB a5 k5 rfl
 obtain ⟨s8,g8,t8,k8,_⟩:=t5.w (k:=0+72) (x:=.int .i64 (-1)) _ (by omega) rfl (PM.s72 _ (-1)) rfl
 obtain ⟨s11,g11,t11,k11,_⟩:=t8.w (k:=0+73) (x:=.int .i64 0) _ (by omega) rfl (PM.s73 _ 0) rfl
 obtain ⟨s14,g14,t14,k14,_⟩:=t11.w (k:=0+74) (x:=.int .i64 (-1)) _ (by omega) rfl (PM.s74 _ (-1)) rfl
 obtain ⟨s17,g17,t17,k17,_⟩:=t14.w (k:=0+75) (x:=.int .i64 4) _ (by omega) rfl (PM.s75 _ 4) rfl
 obtain ⟨s20,g20,t20,k20,_⟩:=t17.ws (k:=0+61) _ rfl (PM.s61 _) rfl
 obtain ⟨s23,g23,t23,k23,_⟩:=t20.w (k:=0+82) (x:=.bool false) _ (by omega) rfl (PM.s82 _ false) rfl
 obtain ⟨s26,g26,t26,k26,_⟩:=t23.w (k:=0+83) (x:=.bool false) _ (by omega) rfl (PM.s83 _ false) rfl
 obtain ⟨s30,g30,t30,k30,_⟩:=t26.ws (k:=0+1+24*1) (vs:=List.replicate 12 (.int .u32 0)) _ rfl (PM.s25 _) rfl
 have k:Mod [b,c] st s30:=(((((((((((Mod.new (st:=st) (.cells o.row 0)).mono (T:=[b,c]) (by simp)).then (inB k5)).then k8).then k11).then k14).then k17).then k20).then k23).then k26).then k30)
 have ho':Os s30 ({ m.withOp o with cur:= -1,rn:=0,rx:= -1,own:=4,k:=fun _=> -1,div:=false,fl:=false,r:=zls m.r }:PM) OL:=⟨ho.mod k (by intro i l q e;have:=hb i 0 l q e;simp;exact this),h6⟩
 obtain ⟨s31,g31,t31,k31⟩:=zqJ t30 ho' hb
 refine ⟨s31,ziy _ _ st ?_,t31,k.then k31⟩
 unfold zfZ
 rw [e1]
 refine bs e2 ?_
 simp only [zad,zaa,zob]
 refine bs (show (st.new (.cells o.row 0)).stV b (0+67) 5 (.agg o.row.toArray)=some s5 from g5) ?_
 refine bs g8 (bs g11 (bs g14 (bs g17 (bs g20 (bs g23 (bs g26 ?_))))))
 refine bs (show zky b (0+1) 60 1 24 36=some (.slice (some ⟨b,0+1+24*1,none⟩) 12 36) from rfl) ?_
 refine bs (show s26.clr [.int .u32 0] (.slice (some ⟨b,0+1+24*1,none⟩) 12 36)=some s30 from by
  have z:(Builtin.zeroCells [Value.int .u32 0].toArray 12).toList=List.replicate 12 (.int .u32 0):=by kernel_rfl
  show s26.st b (0+1+24*1) (Builtin.zeroCells [Value.int .u32 0].toArray 12).toList=some s30
  rw [z];exact g30) ?_
 exact bs g31 rfl
def begP (m:PM) (f:FM):PM:=takeP { zbb m with r:=up (zbb m).r 46 ((zbh m f).r 15),was:=(zbh m f).psl } op0 []
def begQ (m:PM) (f:FM):FM:={ zbh m f with steps:=.slice none 0 0 }
theorem zkU {α:Type} (g:α→List Value) (z:Nat):Rg st (.slice none 0 0) (rowsF g []) z 0:=⟨by simp [rowsF],.inl ⟨rfl,rfl⟩⟩
theorem zqL [Sym] (h:Tw st b c m f):∃ st',cc 21 [ptr b 0] st=some (.tuple #[],st')∧Tw st' b c (begP m f) (begQ m f)∧Mod [b,c] st st':=by
 obtain ⟨s1,g1,t1,k1⟩:=zl0 h
 obtain ⟨s5,g5,a5,k5⟩:=zo7 t1.f
 have t5:Tw s5 b c (zbb m) (begQ m f):=t1.modC a5 k5
 have g9:=zoy (st:=s5.ro s5.next) t5.f.mem 15
 have g14:=zdL (st:=(s5.ro s5.next).ro s5.lim) t5.f.mem
 obtain ⟨s19,g19,t19,k19,_⟩:=t5.setR (i:=46) (by omega) ((zbh m f).r 15)
 obtain ⟨s22,g22,t22,k22,_⟩:=t19.w (k:=0+84) (x:=.int .u32 (zbh m f).psl) _ (by omega) rfl (PM.s84 _ _) rfl
 obtain ⟨s23,g23,t23,k23⟩:=zrn t22 (o:=op0) (OL:=[]) ⟨rfl,rfl⟩ (zkU _ _) (by simp) (by intro i k l q e;cases e)
 refine ⟨s23,zhD _ st ?_,t23,(((k1.then (inC k5)).then k19).then k22).then k23⟩
 unfold zfD
 refine bs g1 ?_
 simp only [zad,zaa,zob]
 refine bs t1.rw.ld0 (bs g5 (bs t5.rw.ld0 (bs g9 ?_)))
 simp only [zob,zac]
 refine bs (show ((s5.ro s5.next).ro s5.lim).ld b 0=some (ptr c 0) from t5.rw.ld0) (bs g14 ?_)
 simp only [zob,zac]
 refine bs (zaF (n:=46) (by omega)) ?_
 have e15:getF (begQ m f) 15=(zbh m f).r 15:=rfl
 rw [e15]
 refine bs (show ((s5.ro s5.next).ro s5.lim).st b (0+1+46*1) [.int .u32 ((zbh m f).r 15)]=some s19 from ?_) (bs g22 (bs g23 rfl))
 exact g19
def fm0:FM:=⟨fun _=>0,0,0,0,.slice none 0 0⟩
def pm0 (c:Nat):PM:=⟨c,fun _=>0,fun _=>0,0,⟨#[]⟩,0,0,.slice none 0 0,0,0,0,0,0,.slice none 0 0,⟨false,false,false,false⟩,false,false,0,0,0,0⟩
theorem zro [Sym] (hl:st.lim≤st.next):cc 8 [] st=some (ptr st.next 0,st.new (.cells fm0.row 0))∧At (st.new (.cells fm0.row 0)) st.next fm0.row:=
 ⟨zoa st rfl,At.new hl _⟩
theorem zrp [Sym] (h:At st c f.row) (hl:st.lim≤st.next):∃ st',cc 7 [ptr c 0] st=some (ptr st.next 0,st')∧Tw st' st.next c (begP (pm0 c) f) (begQ (pm0 c) f)∧Mod [c] st st':=by
 have h1:Tw (st.new (.cells (pm0 c).rw 0)) st.next c (pm0 c) f:=⟨At.new hl _,h.ext ((Ext.refl st).new _),rfl,by have:=h.lt;omega,zlt hl (Nat.le_succ _)⟩
 obtain ⟨s2,g2,t2,k2⟩:=zqL h1
 refine ⟨s2,znl _ st ?_,t2,?_⟩
 ·unfold zlY
  refine bs (a:=[ptr c 0]) rfl ?_
  refine bs (show cc 21 [ptr st.next 0] (st.new (.cells (pm0 c).rw 0))=some (.tuple #[],s2) from g2) rfl
 ·have:=(Mod.new (st:=st) (.cells (pm0 c).rw 0)).mono (T:=[c]) (by simp)
  refine this.trans k2 fun j hj hlt=>?_
  simp only [List.mem_cons,List.not_mem_nil,or_false] at hj
  rcases hj with hj | hj
  ·omega
  ·simp [hj]
end
end Go.Proofs.YtlpigjmjgclgiaaDoorE
namespace Go.Proofs.YtlpigjmjgclgiaaDoorE
set_option maxRecDepth 100000
open Go Go.E Go.Proofs
def zbp:Nat→Nat→Nat
 | 0,_=>0
 | f+1,x=>x%2+zbp f (x/2)
theorem zfc:∀ f x,zbp f x≤f
 | 0,x=>zlr _
 | f+1,x=>by have:=zfc f (x/2);unfold zbp;omega
theorem ze8:∀ (a b x:Nat),zbp (a+b) x=zbp a (x%2^a)+zbp b (x/2^a)
 | 0,b,x=>by rw [Nat.zero_add,Nat.pow_zero,Nat.div_one];show _=0+_;omega
 | a+1,b,x=>by
   have ih:=ze8 a b (x/2)
   rw [show a+1+b=(a+b)+1 by omega]
   have e1:x%2^(a+1)%2=x%2:=Nat.mod_mod_of_dvd x ⟨2^a,by rw [Nat.pow_succ];omega⟩
   have e2:x%2^(a+1)/2=x/2%2^a:=by rw [Nat.pow_succ,Nat.mul_comm];exact Nat.mod_mul_right_div_self x 2 (2^a)
   have e3:x/2^(a+1)=x/2/2^a:=by rw [Nat.pow_succ,Nat.mul_comm,Nat.div_div_eq_div_mul]
   show x%2+zbp (a+b) (x/2)=(x%2^(a+1)%2+zbp a (x%2^(a+1)/2))+zbp b (x/2^(a+1))
   rw [ih,e1,e2,e3]
   omega
theorem and_even (y a b:Nat) (ha:a≤1) (hb:b≤1) (h:a*b=0) (z:Nat):(2*y+a)&&& (2*z+b)=2*(y&&& z):=by
 apply Nat.eq_of_testBit_eq
 intro i
 cases i with
 | zero=>
   simp only [Nat.testBit_and,Nat.testBit_zero]
   have:a=0∨b=0:=Nat.mul_eq_zero.1 h
   rcases this with rfl | rfl
   ·simp [Nat.add_mod]
   ·simp [Nat.add_mod]
 | succ i=>
   rw [Nat.testBit_and,Nat.testBit_succ,Nat.testBit_succ,Nat.testBit_succ,show (2*y+a)/2=y by omega,show (2*z+b)/2=z by omega,show 2*(y&&& z)/2=y&&& z by omega,Nat.testBit_and]
theorem zns:∀ (f x:Nat),x≠0→x<2^f→zbp f (x&&& (x-1))+1=zbp f x∧x.testBit (Lib.ctzFrom f x)=true∧(∀ i,(x&&& (x-1)).testBit i=true→Lib.ctzFrom f x<i)∧(2^Lib.ctzFrom f x||| (x&&& (x-1)))=x∧Lib.ctzFrom f x<f
 | 0,x,h0,h=>by simp at h;omega
 | f+1,x,h0,h=>by
   by_cases h1:x%2=1
   ·have e:x&&& (x-1)=2*(x/2):=by
     have e1:x=2*(x/2)+1:=by omega
     have e2:x-1=2*(x/2)+0:=by omega
     calc x&&& (x-1)=(2*(x/2)+1)&&& (2*(x/2)+0):=by rw [← e1,← e2]
      _=2*(x/2&&& x/2):=and_even _ _ _ (by omega) (by omega) rfl _
      _=_:=by rw [Nat.and_self]
    have hc:Lib.ctzFrom (f+1) x=0:=by unfold Lib.ctzFrom;rw [if_pos h1]
    rw [hc,e]
    refine ⟨?_,?_,fun i hi=>?_,?_,by omega⟩
    ·unfold zbp;rw [show 2*(x/2)%2=0 by omega,show 2*(x/2)/2=x/2 by omega,h1];omega
    ·simp [Nat.testBit_zero,h1]
    ·cases i with
     | zero=>simp [Nat.testBit_zero] at hi
     | succ i=>omega
    ·apply Nat.eq_of_testBit_eq
     intro i
     rw [Nat.testBit_or]
     cases i with
     | zero=>simp [Nat.testBit_zero,h1]
     | succ i=>rw [Nat.testBit_succ,Nat.testBit_succ,Nat.testBit_succ,show 2*(x/2)/2=x/2 by omega];simp
   ·have hc:Lib.ctzFrom (f+1) x=1+Lib.ctzFrom f (x/2):=by rw [Lib.ctzFrom];rw [if_neg h1]
    obtain ⟨g1,g2,g3,g4,g5⟩:=zns f (x/2) (by omega) (by rw [Nat.pow_succ] at h;omega)
    have e:x&&& (x-1)=2*(x/2&&& (x/2-1)):=by
     have e1:x=2*(x/2)+0:=by omega
     have e2:x-1=2*(x/2-1)+1:=by omega
     calc x&&& (x-1)=(2*(x/2)+0)&&& (2*(x/2-1)+1):=by rw [← e1,← e2]
      _=2*(x/2&&& (x/2-1)):=and_even _ _ _ (by omega) (by omega) rfl _
    have h0':x%2=0:=by omega
    rw [hc,e,Nat.add_comm 1]
    refine ⟨?_,?_,fun i hi=>?_,?_,by omega⟩
    ·unfold zbp;rw [show 2*(x/2&&& (x/2-1))%2=0 by omega,show 2*(x/2&&& (x/2-1))/2=x/2&&& (x/2-1) by omega,h0'];omega
    ·rw [Nat.testBit_succ];exact g2
    ·cases i with
     | zero=>simp [Nat.testBit_zero] at hi
     | succ i=>rw [Nat.testBit_succ,show 2*(x/2&&& (x/2-1))/2=x/2&&& (x/2-1) by omega] at hi;have:=g3 i hi;omega
    ·apply Nat.eq_of_testBit_eq
     intro i
     rw [Nat.testBit_or]
     cases i with
     | zero=>simp [Nat.testBit_zero,h0',Nat.pow_succ]
     | succ i=>
       rw [Nat.testBit_succ,Nat.testBit_succ,Nat.testBit_succ,show 2*(x/2&&& (x/2-1))/2=x/2&&& (x/2-1) by omega,show 2^(Lib.ctzFrom f (x/2)+1)/2=2^Lib.ctzFrom f (x/2) by rw [Nat.pow_succ];omega,← Nat.testBit_or,g4]
theorem bv32 {a:Nat} (ha:a<4294967296):(BitVec.ofInt 32 (a:Int)).toNat=a:=by
 rw [BitVec.ofInt_natCast,BitVec.toNat_ofNat];exact Nat.mod_eq_of_lt (by omega)
theorem and32 {a b:Nat} (ha:a<4294967296) (hb:b<4294967296):zai .u32 (a:Int) (b:Int)=((a&&& b:Nat):Int):=by
 have hx:a&&& b<2^32:=Nat.and_lt_two_pow _ (by omega)
 show IntKind.wrap .u32 ((BitVec.ofInt 32 (a:Int)&&& BitVec.ofInt 32 (b:Int)).toNat:Int)=_
 rw [BitVec.toNat_and,bv32 ha,bv32 hb]
 exact zcN (by omega) (by omega)
theorem zo9 (a s:Nat) (hs:s≤32):zbm .u32 (a:Int) (s:Int)=((a/2^s:Nat):Int):=by
 unfold zbm
 rw [Int.toNat_natCast,show IntKind.u32.bits=32 from rfl,Nat.min_eq_left (by omega),show (2:Int)^s=((2^s:Nat):Int) by rw [Int.natCast_pow];rfl,Int.fdiv_eq_ediv_of_nonneg _ (Int.natCast_nonneg _),Int.natCast_ediv]
def zfK:ByteArray:=⟨#[0,1,1,2,1,2,2,3,1,2,2,3,2,3,3,4,1,2,2,3,2,3,3,4,2,3,3,4,3,4,4,5,1,2,2,3,2,3,3,4,2,3,3,4,3,4,4,5,2,3,3,4,3,4,4,5,3,4,4,5,4,5,5,6,1,2,2,3,2,3,3,4,2,3,3,4,3,4,4,5,2,3,3,4,3,4,4,5,3,4,4,5,4,5,5,6,2,3,3,4,3,4,4,5,3,4,4,5,4,5,5,6,3,4,4,5,4,5,5,6,4,5,5,6,5,6,6,7,1,2,2,3,2,3,3,4,2,3,3,4,3,4,4,5,2,3,3,4,3,4,4,5,3,4,4,5,4,5,5,6,2,3,3,4,3,4,4,5,3,4,4,5,4,5,5,6,3,4,4,5,4,5,5,6,4,5,5,6,5,6,6,7,2,3,3,4,3,4,4,5,3,4,4,5,4,5,5,6,3,4,4,5,4,5,5,6,4,5,5,6,5,6,6,7,3,4,4,5,4,5,5,6,4,5,5,6,5,6,6,7,4,5,5,6,5,6,6,7,5,6,6,7,6,7,7,8]⟩
def znu (v:Nat):Bool:=match (zdO zfK (v:Int)).bind (asI .u8) with
 | some n=>decide (n=(zbp 8 v:Int))
 | none=>false
theorem zpa:(List.range 256).all znu=true:=by kernel_rfl
theorem zf1 {v:Nat} (h:v<256):(zdO zfK (v:Int)).bind (asI .u8)=some (zbp 8 v:Int):=by
 have:=List.all_eq_true.1 zpa v (List.mem_range.2 h)
 unfold znu at this
 revert this
 cases (zdO zfK (v:Int)).bind (asI .u8) with
 | none=>intro h;cases h
 | some n=>intro h;rw [of_decide_eq_true h]
theorem sum4 {a b c d:Nat} (ha:a≤8) (hb:b≤8) (hc:c≤8) (hd:d≤8):IntKind.wrap .i64 (IntKind.wrap .u8 (IntKind.wrap .u8 (IntKind.wrap .u8 ((a:Int)+(b:Int))+(c:Int))+(d:Int)))=((d+(c+(b+a)):Nat):Int):=by
 rw [zmI (n:=(a:Int)+b) (by omega) (by omega),zmI (n:=(a:Int)+b+c) (by omega) (by omega),zmI (n:=(a:Int)+b+c+d) (by omega) (by omega),wrap64 (by omega) (by omega)]
 omega
theorem zrq (x:Int) (st:SS):zdC cc zcD x st=(((zdO zfK (zbm .u32 x 24)).bind (asI .u8)).bind fun n2=>((zdO zfK (zai .u32 (zbm .u32 x 16) 255)).bind (asI .u8)).bind fun n5=>((zdO zfK (zai .u32 (zbm .u32 x 8) 255)).bind (asI .u8)).bind fun n9=>((zdO zfK (zai .u32 x 255)).bind (asI .u8)).bind fun n12=>some (.int .i64 (IntKind.wrap .i64 (IntKind.wrap .u8 (IntKind.wrap .u8 (IntKind.wrap .u8 (n2+n5)+n9)+n12))),st.adv st.next)):=by kernel_rfl
theorem zrr [Sym] {x:Nat} (hx:x<4294967296):Pf 56 [.int .u32 (x:Int)] (.int .i64 (zbp 32 x:Int)):=fun st=>by
 refine ⟨st.next,zlr _,zfx _ st ?_⟩
 have l1:=zfc 8 (x/2^24)
 have l2:=zfc 8 (x/2^16%2^8)
 have l3:=zfc 8 (x/2^8%2^8)
 have l4:=zfc 8 (x%2^8)
 have hs:zbp 32 x=zbp 8 (x%2^8)+(zbp 8 (x/2^8%2^8)+(zbp 8 (x/2^16%2^8)+zbp 8 (x/2^24))):=by
  have a1:=ze8 8 24 x
  have a2:=ze8 8 16 (x/2^8)
  have a3:=ze8 8 8 (x/2^8/2^8)
  rw [Nat.div_div_eq_div_mul] at a2 a3
  rw [Nat.div_div_eq_div_mul] at a3
  exact a1.trans (congrArg _ (a2.trans (congrArg _ a3)))
 have ha:∀ y:Nat,y<4294967296→zai .u32 (y:Int) 255=((y%2^8:Nat):Int):=fun y hy=>by
  rw [show (255:Int)=((255:Nat):Int) from rfl,and32 hy (by omega),show (255:Nat)=2^8-1 from rfl,Nat.and_two_pow_sub_one_eq_mod]
 rw [zrq]
 rw [show (24:Int)=((24:Nat):Int) from rfl,zo9 x 24 (by omega),show (16:Int)=((16:Nat):Int) from rfl,zo9 x 16 (by omega),show (8:Int)=((8:Nat):Int) from rfl,zo9 x 8 (by omega)]
 rw [ha (x/2^16) (by omega),ha (x/2^8) (by omega),ha x hx]
 refine bs (zf1 (v:=x/2^24) (by omega)) ?_
 refine bs (zf1 (v:=x/2^16%2^8) (by omega)) ?_
 refine bs (zf1 (v:=x/2^8%2^8) (by omega)) ?_
 refine bs (zf1 (v:=x%2^8) (by omega)) ?_
 rw [sum4 l1 l2 l3 l4,hs]
end Go.Proofs.YtlpigjmjgclgiaaDoorE
namespace Go.Proofs.YtlpigjmjgclgiaaDoorE
open Go Go.E Go.Proofs
def zkV (x:Int) (i:Int):Int:=IntKind.wrap .u8 (zbm .u32 x (IntKind.wrap .i64 (8*i)))
def pushB (l:List Int) (v:Int):List Int:=if l.length<256 then l++[v] else l
def pushes (l:List Int) (x:Int):Nat→Nat→List Int
 | _,0=>l
 | i,k+1=>pushes (pushB l (zkV x i)) x (i+1) k
def sumT:List Int→Nat→Int→Int
 | [],_,x=>x
 | y::r,i,x=>sumT r (i+1) (orI .u32 x (zbZ .u32 (IntKind.wrap .u32 y) (IntKind.wrap .i64 (8*(i:Int)))))
end Go.Proofs.YtlpigjmjgclgiaaDoorE
