/- Parts of the proof of DpathBlocks, packed by a program: an evaluator over the given code, functions as plain texts, their laws. -/
import Derived.KernelRfl
import Derived.Test.YtlpigjmjgclgiaaDoorPBB
set_option linter.unusedVariables false
set_option linter.unusedSimpArgs false
namespace Go.E
open Go
def PT.vals {α:Type}:PT α→(Nat→Nat)→List (Nat×α)
 | .nil,_=>[]
 | .node l v r,f=>(match v with | some x=>[(f 0,x)] | none=>[])++(l.vals (fun k=>f (2*k+1))++r.vals (fun k=>f (2*k+2)))
theorem PT.all_vals {α:Type} {p:Nat→α→Prop}:∀ (t:PT α) (f:Nat→Nat),(∀ x∈t.vals f,p x.1 x.2)→t.All p f
 | .nil,_,_=>trivial
 | .node l v r,f,h=>⟨fun x hx=>by
   subst hx
   exact h (f 0,x) (by simp [PT.vals]),PT.all_vals l _ fun x hx=>h x (by simp [PT.vals,hx]),PT.all_vals r _ fun x hx=>h x (by simp [PT.vals,hx])⟩
theorem PT.all_map {α β:Type} {p:Nat→α→Prop} {g h:Nat×α→β} {t:PT α} (hp:∀ x:Nat×α,g x=h x→p x.1 x.2) (e:(t.vals fun k=>k).map g=(t.vals fun k=>k).map h):t.All p fun k=>k:=
 PT.all_vals t _ fun x hx=>hp x (List.map_inj_left.1 e x hx)
noncomputable def zL {α:Type} (x:α):PT α:=.node .nil (some x) .nil
noncomputable def zN {α:Type} (l:PT α) (x:α) (r:PT α):PT α:=.node l (some x) r
end Go.E
namespace Go.Proofs.YtlpigjmjgclgiaaDoorE
open Go Go.E Go.Proofs
set_option maxRecDepth 100000
open Tryd in
noncomputable def tyT:PT TypeInfo:=zN (zN (zN (zN (zN (zN (zN (zL t127) t63 .nil) t31 (zL t95)) t15 (zN (zL t79) t47 (zL t111))) t7 (zN (zN (zL t71) t39 (zL t103)) t23 (zN (zL t87) t55 (zL t119)))) t3 (zN (zN (zN (zL t67)
 t35 (zL t99)) t19 (zN (zL t83) t51 (zL t115))) t11 (zN (zN (zL t75) t43 (zL t107)) t27 (zN (zL t91) t59 (zL t123))))) t1 (zN (zN (zN (zN (zL t65) t33 (zL t97)) t17 (zN (zL t81) t49 (zL t113))) t9 (zN (zN (zL t73) t41 (zL t105)) t25 (zN (zL
 t89) t57 (zL t121)))) t5 (zN (zN (zN (zL t69) t37 (zL t101)) t21 (zN (zL t85) t53 (zL t117))) t13 (zN (zN (zL t77) t45 (zL t109)) t29 (zN (zL t93) t61 (zL t125)))))) t0 (zN (zN (zN (zN (zN (zN (zL t128) t64 .nil) t32 (zL t96)) t16 (zN (zL
 t80) t48 (zL t112))) t8 (zN (zN (zL t72) t40 (zL t104)) t24 (zN (zL t88) t56 (zL t120)))) t4 (zN (zN (zN (zL t68) t36 (zL t100)) t20 (zN (zL t84) t52 (zL t116))) t12 (zN (zN (zL t76) t44 (zL t108)) t28 (zN (zL t92) t60 (zL t124))))) t2 (zN
 (zN (zN (zN (zL t66) t34 (zL t98)) t18 (zN (zL t82) t50 (zL t114))) t10 (zN (zN (zL t74) t42 (zL t106)) t26 (zN (zL t90) t58 (zL t122)))) t6 (zN (zN (zN (zL t70) t38 (zL t102)) t22 (zN (zL t86) t54 (zL t118))) t14 (zN (zN (zL t78) t46 (zL
 t110)) t30 (zN (zL t94) t62 (zL t126))))))
open Tryd in
noncomputable def unT:PT TypeDesc:=zN (zN (zN (zN (zN (zN (zN (zL t126.desc) t63.desc .nil) t31.desc (zL t95.desc)) t15.desc (zN (zL t79.desc) t47.desc (zL t111.desc))) t7.desc (zN (zN (zL t71.desc) t39.desc (zL t103.desc))
 t23.desc (zN (zL t87.desc) t54.desc (zL t118.desc)))) t3.desc (zN (zN (zN (zL t67.desc) t35.desc (zL t99.desc)) t18.desc (zN (zL t83.desc) t51.desc (zL t115.desc))) t9.desc (zN (zN (zL t75.desc) t43.desc (zL t107.desc)) t27.desc (zN (zL
 t91.desc) t59.desc (zL t123.desc))))) t1.desc (zN (zN (zN (zN (zL t64.desc) t33.desc (zL t97.desc)) t17.desc (zN (zL t81.desc) t49.desc (zL t113.desc))) t9.desc (zN (zN (zL t73.desc) t41.desc (zL t105.desc)) t25.desc (zN (zL t89.desc)
 t57.desc (zL t5.desc)))) t5.desc (zN (zN (zN (zL t69.desc) t37.desc (zL t101.desc)) t21.desc (zN (zL t85.desc) t53.desc (zL t117.desc))) t13.desc (zN (zN (zL t77.desc) t45.desc (zL t108.desc)) t29.desc (zN (zL t93.desc) t61.desc (zL
 t21.desc)))))) t0.desc (zN (zN (zN (zN (zN (zN (zL t128.desc) t64.desc .nil) t32.desc (zL t96.desc)) t16.desc (zN (zL t80.desc) t48.desc (zL t112.desc))) t7.desc (zN (zN (zL t3.desc) t40.desc (zL t104.desc)) t24.desc (zN (zL t88.desc)
 t56.desc (zL t5.desc)))) t4.desc (zN (zN (zN (zL t68.desc) t36.desc (zL t100.desc)) t20.desc (zN (zL t84.desc) t52.desc (zL t115.desc))) t12.desc (zN (zN (zL t76.desc) t43.desc (zL t108.desc)) t28.desc (zN (zL t92.desc) t59.desc (zL
 t21.desc))))) t2.desc (zN (zN (zN (zN (zL t66.desc) t34.desc (zL t98.desc)) t18.desc (zN (zL t82.desc) t50.desc (zL t114.desc))) t9.desc (zN (zN (zL t74.desc) t41.desc (zL t106.desc)) t26.desc (zN (zL t89.desc) t57.desc (zL t122.desc))))
 t5.desc (zN (zN (zN (zL t70.desc) t38.desc (zL t102.desc)) t22.desc (zN (zL t86.desc) t54.desc (zL t118.desc))) t13.desc (zN (zN (zL t78.desc) t46.desc (zL t110.desc)) t29.desc (zN (zL t94.desc) t61.desc (zL t126.desc))))))
open Tryd in
noncomputable def fnT:PT (FuncId×Func):=(.node (.node (zN (zN (zN (zN (zL (63,f63)) (31,f31) .nil) (15,f15) (zL (47,f47))) (7,f7) (zN (zN (zL (71,f71)) (39,f39) .nil) (23,f23) (zL (55,f55)))) (3,f3) (zN (zN (zN
 (zL (67,f67)) (35,f35) .nil) (19,f19) (zL (51,f51))) (11,f11) (zN (zL (43,f43)) (27,f27) (zL (59,f59))))) none (zN (zN (zN (zN (zL (65,f65)) (33,f33) .nil) (17,f17) (zL (49,f49))) (9,f9) (zN (zN (zL (73,f73)) (41,f41) .nil)
 (25,f25) (zL (57,f57)))) (5,f5) (zN (zN (zN (zL (69,f69)) (37,f37) .nil) (21,f21) (zL (53,f53))) (13,f13) (zN (zL (45,f45)) (29,f29) (zN (zL (93,f93)) (61,f61) .nil))))) none (zN (zN (zN (zN (zN (zL (64,f64)) (32,f32) .nil)
 (16,f16) (zL (48,f48))) (8,f8) (zN (zN (zL (72,f72)) (40,f40) .nil) (24,f24) (zL (56,f56)))) (4,f4) (zN (zN (zN (zL (68,f68)) (36,f36) .nil) (20,f20) (zL (52,f52))) (12,f12) (zN (zL (44,f44)) (28,f28) (zL (60,f60))))) (2,
 f2) (zN (zN (zN (zN (zL (66,f66)) (34,f34) .nil) (18,f18) (zL (50,f50))) (10,f10) (zN (zL (42,f42)) (26,f26) (zL (58,f58)))) (6,f6) (zN (zN (zN (zL (70,f70)) (38,f38) .nil) (22,f22) (zL (54,f54))) (14,f14) (zN (zL (46,f46))
 (30,f30) (zL (62,f62)))))))
theorem tyT_ok:tyT.All (InfP Tryd.prog) (fun k=>k):=PT.all_map (g:=fun x=>Tryd.prog.info? x.1) (h:=fun x=>some x.2) (fun _ e=>e) (by kernel_rfl)
theorem unT_ok:unT.All (UndP Tryd.prog) (fun k=>k):=PT.all_map (g:=fun x=>Tryd.prog.underlying x.1) (h:=fun x=>some x.2) (fun _ e=>e) (by kernel_rfl)
theorem fnT_ok:fnT.All (FnP Tryd.prog) (fun k=>k):=PT.all_map (g:=fun x=>(fun args w=>(callFunc x.1 args).run Tryd.prog w,Tryd.prog.funcs[x.2.1]?)) (h:=fun x=>(fun args w=>.ok (.enter x.2.1 args) w,some x.2.2)) (fun _ e=>⟨fun args w=>congrFun (congrFun (congrArg Prod.fst e) args) w,congrArg Prod.snd e⟩) (by kernel_rfl)
def pureL:List Nat:=[31,33,35,20,19,34,42,51,70,32,57,43,50,59,72,66,65,67,68,69,73,44,45,46,47,60,62,48,49,63,64,56,61,13,36,16,52,22,30,25,11,14,6]
def deBr:List Value:=Lib.deBruijn32tab.map fun (z:Nat)=>.int .u8 (z:Int)
def ctzC (nx:Nat) (x:Int):Con:=⟨nx,nx,[(0,.table deBr)],[],.int .i64 (Lib.ctz 32 x.toNat)⟩
def conF (f:Nat) (vs:List Value) (nx:Nat):Option Con:=
 cond (Nat.beq f 71) (match vs with
  | [.int .u32 x]=>cond (decide (0≤x)&&decide (x<4294967296)) (some (ctzC nx x)) none
  | _=>none) none
noncomputable def Lk0:Lk where
 info t:=tyT.get t
 und t:=unT.get t
 func f:=fnT.get f
 glob g:=Nat.beq g 0
 ext _ _:=none
 con:=conF
 pureF f:=pureL.any (Nat.beq f)
 barF _:=false
theorem zav [Sym]:Lk0.Ok Tryd.prog where
 symOp _ _ _ _ _ h:=by cases h
 symLen _ _ h:=by cases h
 info t i h:=PT.all_get tyT _ tyT_ok t i h
 und t d h:=PT.all_get unT _ unT_ok t d h
 func f j fn h:=PT.all_get fnT _ fnT_ok f (j,fn) h
 mixed:=by kernel_rfl
 ext f vs v h:=by cases h
theorem zaB:LkS Lk0:=⟨fun _ _ _ _=>rfl⟩
theorem con0 [Sym]:zhd Tryd.prog Lk0:=by
 intro f vs nx c h
 have h0:conF f vs nx=some c:=h
 clear h
 unfold conF at h0
 obtain ⟨hf,h1⟩:=zan h0
 clear h0
 have:=beq_true hf
 subst this
 split at h1
 ·rename_i x
  obtain ⟨hq,h2⟩:=zan h1
  clear h1
  cases h2
  simp only [zae,decide_eq_true_eq] at hq
  refine ⟨fun x hx=>by simp at hx;subst hx;rfl,71,Tryd.call71,fun w pl hob=>?_⟩
  obtain ⟨hb,hoo,obj,hobj,_,arr,T,fr,rfl,hcells⟩:=hob (0,.table deBr) (by simp [ctzC])
  have hT:TabAt 0 Lib.deBruijn32tab w:=fun j hj=>by
   have hx:deBr[j]?=some (.int .u8 (Lib.deBruijn32tab.getD j 0:Nat)):=by
    unfold deBr
    rw [List.getElem?_map,zge hj,List.getD_eq_getElem?_getD,zge hj];rfl
   obtain ⟨v',hv',hvr⟩:=hcells j _ hx
   have hv2:v'=.int .u8 (Lib.deBruijn32tab.getD j 0:Nat):=by cases hvr;rfl
   subst hv2
   unfold World.cell?
   simp only [hobj]
   rw [hoo,Nat.zero_add] at hv'
   simpa using hv'
  have hc:=Tryd.bits_TrailingZeros32 x.toNat (by omega) w (fun _=>hT)
  rw [Int.toNat_of_nonneg hq.1] at hc
  refine hc.mono fun e w' ⟨h1,h2⟩=>?_
  subst h2
  refine ⟨_,fun _=>none,h1,?_⟩
  exact ⟨.int _ _,⟨rfl,rfl,rfl,zlr _,fun _ _=>rfl⟩,fun i p hp=>(by cases hp),fun i p hp=>(by cases hp),fun i p ob hp ho=>(by cases hp),fun i j p q hp hq=>(by cases hp)⟩
 ·cases h1
noncomputable abbrev cc:zaw:=cS Tryd.prog Lk0
end Go.Proofs.YtlpigjmjgclgiaaDoorE
namespace Go.Proofs.YtlpigjmjgclgiaaDoorE
set_option maxRecDepth 20000
open Go Go.E Go.Proofs
noncomputable def zi1 (cf:zaw) (lf:zaj) (old':Int) (x':Int) (size':Int) (st:SS):Option (Value×SS):=
 (cf 57 [.int .i64 size'] (st.ro st.next)).bind fun a=>
 ((some a.1).bind (asI .u32)).bind fun b=>
 let c:Int:=zeh .u32 old' b
 (cf 57 [.int .i64 size'] a.2).bind fun d=>
 ((some d.1).bind (asI .u32)).bind fun e=>
 let f:Int:=zgK .u32 x' e
 let g:Int:=orI .u32 c f
 some (.int .u32 g,st.adv d.2.next)
noncomputable abbrev zjw:zaj:=lS Tryd.prog Lk0 Tryd.f32 zaJ
theorem zjx:Lk0.func 32=some (32,Tryd.f32):=by kernel_rfl
theorem zjy [Sym] (old':Int) (x':Int) (size':Int) (st:SS) {r:Value×SS} (h:zi1 cc zjw old' x' size' st=some r):cc 32 [.int .u32 old',.int .u32 x',.int .i64 size'] st=some r:=
 zar (li:=zaJ) zav zaB zjx rfl (fun _=>rfl) (.trans (by kernel_rfl) h)
noncomputable def zde (cf:zaw) (lf:zaj) (size':Int) (st:SS):Option (Value×SS):=
 cond (decide (size'=1)) (
 some (.int .u32 255,st.adv (st.ro st.next).next)) (
 cond (decide (size'=2)) (
 some (.int .u32 65535,st.adv (st.ro st.next).next)) (
 cond (decide (size'=4)) (
 some (.int .u32 4294967295,st.adv (st.ro st.next).next)) (
 some (.int .u32 0,st.adv (st.ro st.next).next))))
noncomputable abbrev zi2:zaj:=lS Tryd.prog Lk0 Tryd.f57 zaJ
theorem zi3:Lk0.func 57=some (57,Tryd.f57):=by kernel_rfl
theorem zi4 [Sym] (size':Int) (st:SS) {r:Value×SS} (h:zde cc zi2 size' st=some r):cc 57 [.int .i64 size'] st=some r:=
 zar (li:=zaJ) zav zaB zi3 rfl (fun _=>rfl) (.trans (by kernel_rfl) h)
noncomputable def zks (cf:zaw) (lf:zaj) (x':Int) (st:SS):Option (Value×SS):=
 let n1:Int:=zgK .u32 x' 16777216
 some (.bool (!(decide (n1=0))),st.adv (st.ro st.next).next)
noncomputable abbrev ziv:zaj:=lS Tryd.prog Lk0 Tryd.f34 zaJ
theorem ziw:Lk0.func 34=some (34,Tryd.f34):=by kernel_rfl
theorem zix [Sym] (x':Int) (st:SS) {r:Value×SS} (h:zks cc ziv x' st=some r):cc 34 [.int .u32 x'] st=some r:=
 zar (li:=zaJ) zav zaB ziw rfl (fun _=>rfl) (.trans (by kernel_rfl) h)
noncomputable def zdg (cf:zaw) (lf:zaj) (x':Int) (size':Int) (st:SS):Option (Value×SS):=
 let a:Int:=IntKind.wrap .i64 x'
 (cf 36 [.int .i64 size'] (st.ro st.next)).bind fun b=>
 ((some b.1).bind (asI .i64)).bind fun c=>
 ((aI .rem .i64 a c).bind (asI .i64)).bind fun d=>
 some (.int .i64 d,st.adv b.2.next)
noncomputable abbrev zeq:zaj:=lS Tryd.prog Lk0 Tryd.f13 zaJ
theorem zer:Lk0.func 13=some (13,Tryd.f13):=by kernel_rfl
theorem zes [Sym] (x':Int) (size':Int) (st:SS) {r:Value×SS} (h:zdg cc zeq x' size' st=some r):cc 13 [.int .u32 x',.int .i64 size'] st=some r:=
 zar (li:=zaJ) zav zaB zer rfl (fun _=>rfl) (.trans (by kernel_rfl) h)
noncomputable def zfP (cf:zaw) (lf:zaj) (size':Int) (st:SS):Option (Value×SS):=
 cond (decide (size'=1)) (
 some (.int .i64 256,st.adv (st.ro st.next).next)) (
 cond (decide (size'=2)) (
 some (.int .i64 65536,st.adv (st.ro st.next).next)) (
 some (.int .i64 4294967296,st.adv (st.ro st.next).next)))
noncomputable abbrev zet:zaj:=lS Tryd.prog Lk0 Tryd.f36 zaJ
theorem zeu:Lk0.func 36=some (36,Tryd.f36):=by kernel_rfl
theorem zev [Sym] (size':Int) (st:SS) {r:Value×SS} (h:zfP cc zet size' st=some r):cc 36 [.int .i64 size'] st=some r:=
 zar (li:=zaJ) zav zaB zeu rfl (fun _=>rfl) (.trans (by kernel_rfl) h)
end Go.Proofs.YtlpigjmjgclgiaaDoorE
namespace Go.E
open Go
structure Mod (S:List Nat) (a b:SS):Prop where
 next:a.next≤b.next
 lim:b.lim=a.lim
 keep:∀ j,j<a.next→j∉S→b.mem.get j=a.mem.get j
section
variable {S T : List Nat} {a b c : SS} {i n : Nat}
theorem Mod.refl (a:SS):Mod S a a:=⟨zlr _,rfl,fun _ _ _=>rfl⟩
theorem Mod.ofExt (h:Ext a b):Mod S a b:=⟨h.next,h.lim,fun j hj _=>h.keep j hj⟩
theorem Mod.trans (h:Mod S a b) (k:Mod T b c) (hT:∀ j,j∈T→j<a.next→j∈S):Mod S a c:=
 ⟨zlt h.next k.next,k.lim.trans h.lim,fun j hj hS=>(k.keep j (zll hj h.next) (fun hm=>hS (hT j hm hj))).trans (h.keep j hj hS)⟩
theorem Mod.then (h:Mod S a b) (k:Mod S b c):Mod S a c:=h.trans k fun _ hj _=>hj
theorem Mod.thenE (h:Mod S a b) (k:Mod [] b c):Mod S a c:=h.trans k fun _ hj _=>by cases hj
theorem Mod.thenX (h:Mod S a b) (k:Ext b c):Mod S a c:=h.thenE (.ofExt k)
theorem Mod.mono (h:Mod S a b) (hS:∀ j,j∈S→j∈T):Mod T a b:=⟨h.next,h.lim,fun j hj hT=>h.keep j hj fun hm=>hT (hS j hm)⟩
theorem Mod.fresh (h:Mod S a b) (hS:∀ j,j∈S→a.next≤j):Ext a b:=⟨h.next,h.lim,fun j hj=>h.keep j hj fun hm=>by have:=hS j hm;omega⟩
theorem Mod.ll (h:Mod S a b) (hl:a.lim≤a.next):b.lim≤b.next:=by rw [h.lim];exact zlt hl h.next
theorem Ext.ll (h:Ext a b) (hl:a.lim≤a.next):b.lim≤b.next:=by rw [h.lim];exact zlt hl h.next
theorem Ext.advR (a:SS) (hn:a.next≤n):Ext a (a.adv n):=(Ext.refl a).adv hn
theorem Mod.get {x:Option AObj} (h:Mod S a b) (hi:i<a.next) (hS:i∉S) (hx:a.mem.get i=x):b.mem.get i=x:=(h.keep i hi hS).trans hx
theorem Rd.mod {v:Value} {c:List Value} {z n:Nat} (h:Rd a v c z n) (m:Mod S a b) (hv:∀ j k l q,v=.slice (some ⟨j,k,none⟩) l q→j∉S):Rd b v c z n:=by
 obtain ⟨h1,h2⟩:=h
 refine ⟨h1,h2.imp id ?_⟩
 rintro ⟨i,cap,e,⟨z',hm⟩,hi⟩
 exact ⟨i,cap,e,⟨z',m.get hi (hv i 0 n cap e) hm⟩,zll hi m.next⟩
theorem Own.mod {B:Nat} {v:Value} {c:List Value} {z n:Nat} (h:Own B a v c z n) (m:Mod S a b) (hv:∀ j k l q,v=.slice (some ⟨j,k,none⟩) l q→j∉S):Own B b v c z n:=by
 obtain ⟨h1,h2⟩:=h
 refine ⟨h1,h2.imp id ?_⟩
 rintro ⟨i,e,h0,hm,hb,hi⟩
 exact ⟨i,e,h0,m.get hi (hv i 0 n n e) hm,hb,zll hi m.next⟩
end
def At (st:SS) (i:Nat) (row:List Value):Prop:=st.mem.get i=some (.cells row 0)∧i<st.next∧st.lim≤i
section
variable {S : List Nat} {st st' : SS} {i k n : Nat} {row row' vs : List Value}
theorem At.mem (h:At st i row):st.mem.get i=some (.cells row 0):=h.1
theorem At.lt (h:At st i row):i<st.next:=h.2.1
theorem At.mod (h:At st i row) (m:Mod S st st') (hi:i∉S):At st' i row:=⟨m.get h.lt hi h.1,zll h.lt m.next,by rw [m.lim];exact h.2.2⟩
theorem At.ext (h:At st i row) (m:Ext st st'):At st' i row:=h.mod (S:=[]) (.ofExt m) (by simp)
theorem At.adv (h:At st i row) (hn:st.next≤n):At (st.adv n) i row:=h.ext (.advR st hn)
theorem At.ld (h:At st i row):st.ld i k=row[k]?:=SS.ld_cells h.1
theorem At.rd (h:At st i row):st.rd i k=row[k]?:=SS.rd_cells h.1
theorem At.ldN (h:At st i row) (hn:row.length=n):st.ldN i 0 n=some (.agg row.toArray):=by rw [SS.ldN_cells h.1,zcB hn];rfl
theorem At.rdN (h:At st i row) (hn:row.length=n):st.rdN i 0 n=some (.agg row.toArray):=by rw [SS.rdN_cells h.1,zcB hn];rfl
theorem At.sto (h:At st i row) (h1:vs.all one=true) (hs:zaC row k vs=some row'):∃ st',st.st i k vs=some st'∧At st' i row'∧Mod [i] st st'∧st'.next=st.next:=
 ⟨_,SS.st_cells h.1 h.2.2 h1 hs,⟨by simp,h.2.1,h.2.2⟩,⟨zlr _,rfl,fun j hj hS=>SS.set_old (by simpa using hS)⟩,rfl⟩
theorem At.stV (h:At st i row) {v:Value} (hv:v.cells.toList=vs) (hn:vs.length=n) (h1:vs.all one=true) (hs:zaC row k vs=some row'):∃ st',st.stV i k n v=some st'∧At st' i row'∧Mod [i] st st'∧st'.next=st.next:=by
 obtain ⟨st',a,b,c,d⟩:=h.sto h1 hs
 refine ⟨st',?_,b,c,d⟩
 unfold SS.stV
 have e:v.cells.size=n:=by rw [← hn,← hv];simp
 rw [e,hv,a]
 simp
theorem At.new (hl:st.lim≤st.next) (row:List Value):At (st.new (.cells row 0)) st.next row:=⟨by simp,by simp,hl⟩
theorem Mod.new (ob:AObj):Mod [] st (st.new ob):=.ofExt ((Ext.refl st).new ob)
theorem new_ok (hl:st.lim≤st.next) {r:List Value} (h1:row.all one=true) (hr:r.length=row.length):∃ st',(st.new (.cells r 0)).st st.next 0 row=some st'∧At st' st.next row∧Ext st st'∧st'.next=st.next+1:=by
 obtain ⟨st',a,b,c,d⟩:=(At.new hl r).sto (k:=0) (vs:=row) (row':=row) h1 (by rw [zb5 (by omega)];simp [hr])
 exact ⟨st',a,b,(((Mod.new (.cells r 0)).mono (T:=[st.next]) (by simp)).then c).fresh (by simp),d⟩
end
theorem aggC (row:List Value):(Value.agg row.toArray).cells.toList=row:=by simp [Value.cells]
theorem Rd.row1 {st:SS} {row:List Value} {z:Nat} (h:row.length=z):Rd (st.new (.cells row z)) (.slice (some ⟨st.next,0,none⟩) 1 1) row z 1:=
 ⟨by rw [h,Nat.one_mul],.inr ⟨st.next,1,rfl,⟨z,SS.new_get⟩,by simp⟩⟩
theorem Own.push {b:Nat} {st:SS} {v:Value} {c row:List Value} {z n bt:Nat} (h:Own b st v c z n) (hb:b≤st.next) (hl:st.lim≤b) (hr:row.length=z) (hz:0<z) (h1:row.all one=true) (hs:(n+2)*bt≤2^44) (hn:n+1≤2^44):
  ∃ v' st',(st.new (.cells row z)).app z bt v (.slice (some ⟨st.next,0,none⟩) 1 1)=some (v',st')∧Own b st' v' (c++row) z (n+1)∧(∀ st0,st0.next≤b→Ext st0 st→Ext st0 st')∧st'.lim=st.lim∧st.next≤st'.next∧
   ∀ j,j<st.next→(∀ q,v≠.slice (some ⟨j,0,none⟩) q q)→st'.mem.get j=st.mem.get j:=by
 obtain ⟨v',st',g1,g2,g3,g4,g5,g6⟩:=(h.ext ((Ext.refl st).new (.cells row z))).app (Rd.row1 (st:=st) hr) (zlt hb (Nat.le_succ _)) hl hz h1 (bt:=bt) (by simpa [Nat.add_assoc] using hs) hn
 exact ⟨v',st',g1,g2,fun st0 h0 he=>g5 st0 h0 (he.new _),g3,zlt (Nat.le_succ _) g4,fun j hj hv=>by rw [g6 j (by simp;omega) hv,SS.new_old (by omega)]⟩
structure Keep (B:Nat) (S:List Nat) (a b:SS):Prop where
 next:a.next≤b.next
 lim:b.lim=a.lim
 keep:∀ j,j<B→j∉S→b.mem.get j=a.mem.get j
section
variable {S : List Nat} {a b c : SS} {B i : Nat}
theorem Keep.refl (a:SS):Keep B S a a:=⟨zlr _,rfl,fun _ _ _=>rfl⟩
theorem Keep.then (h:Keep B S a b) (k:Keep B S b c):Keep B S a c:=⟨zlt h.next k.next,k.lim.trans h.lim,fun j hj hS=>(k.keep j hj hS).trans (h.keep j hj hS)⟩
theorem Mod.keepB (h:Mod S a b) (hB:B≤a.next):Keep B S a b:=⟨h.next,h.lim,fun j hj hS=>h.keep j (by omega) hS⟩
theorem Ext.keepB (h:Ext a b) (hB:B≤a.next):Keep B S a b:=⟨h.next,h.lim,fun j hj _=>h.keep j (by omega)⟩
theorem Keep.mod (h:Keep B S a b) (hB:a.next≤B):Mod S a b:=⟨h.next,h.lim,fun j hj hS=>h.keep j (by omega) hS⟩
theorem Keep.mono {B':Nat} {T:List Nat} (h:Keep B S a b) (hB:B'≤B) (hS:∀ j,j∈S→j<B'→j∈T):Keep B' T a b:=⟨h.next,h.lim,fun j hj hT=>h.keep j (by omega) fun hm=>hT (hS j hm hj)⟩
theorem Keep.thenX (h:Keep B S a b) (k:Ext b c) (hB:B≤b.next):Keep B S a c:=h.then (k.keepB hB)
theorem Keep.ll (h:Keep B S a b) (hl:a.lim≤a.next):b.lim≤b.next:=by rw [h.lim];exact zlt hl h.next
theorem At.keepB {row:List Value} (h:At a i row) (k:Keep B S a b) (hB:i<B) (hi:i∉S):At b i row:=⟨(k.keep i hB hi).trans h.1,zll h.2.1 k.next,by rw [k.lim];exact h.2.2⟩
theorem Own.cell {v:Value} {c:List Value} {z n:Nat} (h:Own B a v c z n):v.cells.toList=[v]∧one v=true:=by
 obtain ⟨_,⟨rfl,_⟩ | ⟨i,rfl,_⟩⟩:=h<;>exact ⟨rfl,rfl⟩
end
def rowsF {α:Type} (f:α→List Value) (l:List α):List Value:=l.flatMap f
section
variable {α : Type} {f : α → List Value} {z : Nat}
theorem zi5 (a b:List α):rowsF f (a++b)=rowsF f a++rowsF f b:=by simp [rowsF]
theorem zhF (a:α) (b:List α):rowsF f (a::b)=f a++rowsF f b:=by simp [rowsF]
theorem zk5 (a:α):rowsF f [a]=f a:=by simp [rowsF]
theorem zk6 (hz:∀ x,(f x).length=z) (l:List α):(rowsF f l).length=l.length*z:=by
 induction l with
 | nil=>simp [rowsF]
 | cons a l ih=>rw [zhF,List.length_append,ih,hz,List.length_cons,Nat.add_mul];omega
theorem zk7 (hz:∀ x,(f x).length=z) (l:List α) (i:Nat) (x:α) (h:l[i]?=some x):((rowsF f l).drop (i*z)).take z=f x:=by
 induction l generalizing i with
 | nil=>cases h
 | cons a l ih=>
   rw [zhF]
   cases i with
   | zero=>
     have:a=x:=by simpa using h
     subst this
     rw [Nat.zero_mul,List.drop_zero,List.take_append_of_le_length (by rw [hz];omega),List.take_of_length_le (by rw [hz];omega)]
   | succ i=>
     have e:(i+1)*z=(f a).length+i*z:=by rw [hz,Nat.add_mul];omega
     rw [e,List.drop_append,List.drop_of_length_le (by omega),List.nil_append,Nat.add_sub_cancel_left]
     exact ih i (by simpa using h)
end
end Go.E
namespace Go.E
open Go
def Rg (st:SS) (v:Value) (c:List Value) (z n:Nat):Prop:=
 c.length=n*z∧((v=.slice none 0 0∧n=0)∨∃ i cap C,v=.slice (some ⟨i,0,none⟩) n cap∧n≤cap∧i<st.next∧C.take (n*z)=c∧((∃ z',(z'=z∨z'=0)∧st.mem.get i=some (.cells C z'))∨st.mem.get i=some (.table C)))
section
variable {S : List Nat} {st st' : SS} {v : Value} {c : List Value} {z n B : Nat}
theorem Rg.len (h:Rg st v c z n):lenV v=some (.int .i64 (n:Int)):=by
 obtain ⟨_,⟨rfl,rfl⟩ | ⟨i,cap,C,rfl,_⟩⟩:=h<;>rfl
theorem Rg.lenI (h:Rg st v c z n):(lenV v).bind (asI .i64)=some (n:Int):=by rw [h.len];rfl
theorem Rg.sl (h:Rg st v c z n):sliceLen v=some (n:Int):=by
 obtain ⟨_,⟨rfl,rfl⟩ | ⟨i,cap,C,rfl,_⟩⟩:=h<;>rfl
theorem Rg.cell (h:Rg st v c z n):v.cells.toList=[v]∧one v=true:=by
 obtain ⟨_,⟨rfl,rfl⟩ | ⟨i,cap,C,rfl,_⟩⟩:=h<;>exact ⟨rfl,rfl⟩
theorem Own.rg (h:Own B st v c z n):Rg st v c z n:=by
 obtain ⟨h1,h2⟩:=h
 refine ⟨h1,h2.imp id ?_⟩
 rintro ⟨i,e,h0,hm,hb,hi⟩
 exact ⟨i,n,c,e,zlr _,hi,by rw [← h1,List.take_length],.inl ⟨z,.inl rfl,hm⟩⟩
theorem Rg.keep (h:Rg st v c z n) (hn:st.next≤st'.next) (hk:∀ i l cap,v=.slice (some ⟨i,0,none⟩) l cap→i<st.next→st'.mem.get i=st.mem.get i):Rg st' v c z n:=by
 obtain ⟨h1,h2⟩:=h
 refine ⟨h1,h2.imp id ?_⟩
 rintro ⟨i,cap,C,e,hc,hi,ht,hm⟩
 rw [← hk i _ _ e hi] at hm
 exact ⟨i,cap,C,e,hc,zll hi hn,ht,hm⟩
theorem Rg.ext (h:Rg st v c z n) (he:Ext st st'):Rg st' v c z n:=h.keep he.next fun i l cap e hi=>he.keep i hi
theorem Rg.mod (h:Rg st v c z n) (m:Mod S st st') (hv:∀ i l cap,v=.slice (some ⟨i,0,none⟩) l cap→i∉S):Rg st' v c z n:=h.keep m.next fun i l cap e hi=>m.keep i hi (hv i l cap e)
theorem zlE {C c:List Value} {n k z:Nat} (h:C.take n=c) (hk:k+z≤c.length):cut C k z=some ((c.drop k).take z):=by
 subst h
 rw [List.length_take] at hk
 refine zfL ?_ ?_
 ·rw [List.drop_take,List.take_take,Nat.min_eq_left (by omega)]
 ·simp;omega
theorem Rg.load (h:Rg st v c z n) {j:Int} (h0:0≤j) (h1:j<n) {row:List Value} (hr:(c.drop (j.toNat*z)).take z=row) (hz:row.length=z):
  ∃ p,zbh v j z=some p∧st.ldN p.1 p.2 z=some (.agg row.toArray)∧∀ k x,row[k]?=some x→st.ld p.1 (p.2+k)=some x:=by
 obtain ⟨hc,⟨rfl,rfl⟩ | ⟨i,cap,C,rfl,hcap,hi,ht,hm⟩⟩:=h
 ·omega
 have hb:j.toNat*z+z≤c.length:=by
  have h2:j.toNat+1≤n:=by omega
  have h3:=Nat.mul_le_mul_right z h2
  rw [Nat.add_mul,Nat.one_mul] at h3
  omega
 have e0:zbh (.slice (some ⟨i,0,none⟩) n cap) j z=some (i,0+j.toNat*z):=by
  unfold zbh
  simp only [zdt h0,zdt h1,Bool.and_self,zct]
 have hcut:=zlE (k:=j.toNat*z) (z:=z) ht hb
 rw [hr] at hcut
 have hget:∀ k x,row[k]?=some x→C[j.toNat*z+k]?=some x:=fun k x hx=>by
  rw [← hr,List.getElem?_take] at hx
  split at hx
  ·rw [List.getElem?_drop,← ht,List.getElem?_take] at hx
   split at hx
   ·exact hx
   ·cases hx
  ·cases hx
 refine ⟨_,e0,?_,fun k x hx=>?_⟩
 ·simp only [Nat.zero_add]
  rcases hm with ⟨z',_,hm⟩ | hm
  ·rw [SS.ldN_cells hm,hcut];rfl
  ·rw [SS.ldN_table hm,hcut];rfl
 ·simp only [Nat.zero_add]
  rcases hm with ⟨z',_,hm⟩ | hm
  ·rw [SS.ld_cells hm];exact hget k x hx
  ·rw [SS.ld_table hm];exact hget k x hx
theorem Rg.resl (h:Rg st v c z n) {m:Nat} (hm:m≤n):∃ v',st.resl v z 0 (m:Int)=some v'∧Rg st v' (c.take (m*z)) z m:=by
 obtain ⟨hc,⟨rfl,rfl⟩ | ⟨i,cap,C,rfl,hcap,hi,ht,hmm⟩⟩:=h
 ·have:m=0:=by omega
  subst this
  exact ⟨.slice none 0 0,rfl,by simp,.inl ⟨rfl,rfl⟩⟩
 have h1:decide ((m:Int)≤(cap:Int))=true:=zdt (by omega)
 have h2:decide ((0:Int)≤(m:Int))=true:=zdt (by omega)
 have h4:cond (Nat.beq cap 0) 0 (0+0*z)=0:=by cases Nat.beq cap 0<;>simp
 have hle:m*z≤n*z:=Nat.mul_le_mul_right z hm
 have hres:st.resl (.slice (some ⟨i,0,none⟩) n cap) z 0 (m:Int)=some (.slice (some ⟨i,0,none⟩) m cap):=by
  unfold SS.resl
  rcases hmm with ⟨z',hz',hmm⟩ | hmm
  ·have hq:(Nat.beq z' z||Nat.beq z' 0)=true:=by
    simp only [Bool.or_eq_true,zad,decide_eq_true_eq];exact hz'
   simp only [hmm,zob,hq,h1,h2,zct,Int.toNat_zero,h4,Int.toNat_natCast,Nat.sub_zero,Int.le_refl,decide_true,Bool.and_self]
  ·simp only [hmm,zob,h1,h2,zct,Int.toNat_zero,h4,Int.toNat_natCast,Nat.sub_zero,Int.le_refl,decide_true,Bool.and_self]
 exact ⟨_,hres,by rw [List.length_take];omega,.inr ⟨i,cap,C,rfl,by omega,hi,by rw [← ht,List.take_take,Nat.min_eq_left hle],hmm⟩⟩
theorem Tv.rg {α:Type} {f:α→List Value} {l:List α} {id:Nat} (hz:∀ x,(f x).length=z) (h:Tv id l.length v) (hm:st.mem.get id=some (.table (l.flatMap f))) (hi:id<st.next):Rg st v (rowsF f l) z l.length:=by
 have e:=zk6 (f:=f) (z:=z) hz l
 refine ⟨e,h.imp (fun h=>h) fun ⟨cap,h1,h2,_⟩=>⟨_,cap,l.flatMap f,h1,h2,hi,?_,.inr hm⟩⟩
 have e':(l.flatMap f).length=l.length*z:=e
 rw [← e',List.take_length];rfl
end
theorem zjT {row:List Value} {k:Nat} (x:Value) (h:k<row.length):zaC row k [x]=some (row.set k x):=by
 rw [zb5 (by simp;omega),List.set_eq_take_append_cons_drop]
 rw [if_pos h];rfl
theorem At.set1 {st:SS} {i k:Nat} {row:List Value} (h:At st i row) {x:Value} (hk:k<row.length) (h1:one x=true):∃ st',st.st i k [x]=some st'∧At st' i (row.set k x)∧Mod [i] st st'∧st'.next=st.next:=
 h.sto (by simp [h1]) (zjT x hk)
theorem At.set1V {st:SS} {i k:Nat} {row:List Value} (h:At st i row) {x:Value} (hc:x.cells.toList=[x]) (hk:k<row.length) (h1:one x=true):∃ st',st.stV i k 1 x=some st'∧At st' i (row.set k x)∧Mod [i] st st'∧st'.next=st.next:=
 h.stV hc rfl (by simp [h1]) (zjT x hk)
end Go.E
namespace Go.E
open Go
noncomputable def two (st:SS) (b c:Nat) (p f:List Value):SS:=(st.set b (some (.cells p 0))).set c (some (.cells f 0))
structure Ok2 (st:SS) (b c:Nat):Prop where
 ne:b≠c
 hb:b<st.next
 hc:c<st.next
 lb:st.lim≤b
 lc:st.lim≤c
 ll:st.lim≤st.next
section
variable {st : SS} {b c i k n : Nat} {p f p' f' vs : List Value} {ob : AObj}
end
section
variable {st : SS} {b c i k n : Nat} {p f p' f' vs : List Value} {ob : AObj}
theorem Ok2.new (h:Ok2 st b c):Ok2 (st.new ob) b c:=⟨h.ne,Nat.lt_succ_of_lt h.hb,Nat.lt_succ_of_lt h.hc,h.lb,h.lc,Nat.le_succ_of_le h.ll⟩
theorem Ok2.ext {st':SS} (h:Ok2 st b c) (x:Ext st st'):Ok2 st' b c:=⟨h.ne,zll h.hb x.next,zll h.hc x.next,by rw [x.lim];exact h.lb,by rw [x.lim];exact h.lc,x.ll h.ll⟩
end
end Go.E
namespace Go.E
open Go
section
variable {s : SS} {i j k n m z : Nat} {r r' vs : List Value} {v : Value} {ob : AObj}
theorem zi6:(s.adv n).st i k vs=(s.st i k vs).map fun t=>t.adv n:=by
 unfold SS.st
 show cond (Nat.ble s.lim i) _ _=_
 cases Nat.ble s.lim i with
 | false=>rfl
 | true=>
   simp only [zct,SS.adv_mem]
   cases s.mem.get i with
   | none=>rfl
   | some ob=>
     cases ob<;>try rfl
     simp only [zob]
     cases vs.all one with
     | false=>rfl
     | true=>
       simp only [zct]
       cases zaC _ k vs<;>rfl
theorem zh1:(s.adv n).stV i k m v=(s.stV i k m v).map fun t=>t.adv n:=by
 unfold SS.stV
 cases Nat.beq v.cells.size m with
 | false=>rfl
 | true=>exact zi6
theorem zk8:(s.adv n).ld i k=s.ld i k:=rfl
theorem zjU:(s.adv n).ldN i k m=s.ldN i k m:=rfl
theorem zjV:(s.adv n).rdN i k m=s.rdN i k m:=rfl
theorem zmo {x:AObj}:(s.new ob).set s.next (some x)=s.new x:=by
 unfold SS.new SS.set
 simp only [PT.upd_upd]
theorem zlF {x:Option AObj} (h:i≠s.next):(s.new ob).set i x=(s.set i x).new ob:=by
 unfold SS.new SS.set
 simp only
 rw [PT.upd_comm _ _ _ _ _ (fun e=>h e.symm)]
theorem zh2 (hl:s.lim≤s.next) (h1:vs.all one=true):(s.new (.cells r z)).st s.next k vs=(zaC r k vs).map fun r'=>s.new (.cells r' z):=by
 unfold SS.st
 have:Nat.ble (s.new (.cells r z)).lim s.next=true:=by rw [Nat.ble_eq];exact hl
 rw [this]
 simp only [zct,SS.new_get,zob,h1]
 cases zaC r k vs with
 | none=>rfl
 | some r'=>simp only [Option.map_some,zmo]
theorem zmp (h:i≠s.next):(s.new ob).st i k vs=(s.st i k vs).map fun t=>t.new ob:=by
 unfold SS.st
 rw [SS.new_old h]
 show cond (Nat.ble s.lim i) _ _=_
 cases Nat.ble s.lim i with
 | false=>rfl
 | true=>
   simp only [zct]
   cases s.mem.get i with
   | none=>rfl
   | some x=>
     cases x<;>try rfl
     simp only [zob]
     cases vs.all one with
     | false=>rfl
     | true=>
       simp only [zct]
       cases zaC _ k vs with
       | none=>rfl
       | some l=>simp only [Option.map_some,zlF h]
theorem zlG (hl:s.lim≤s.next) (hv:v.cells.toList=vs) (hn:vs.length=n) (h1:vs.all one=true):(s.new (.cells r z)).stV s.next k n v=(zaC r k vs).map fun r'=>s.new (.cells r' z):=by
 unfold SS.stV
 have e:v.cells.size=n:=by rw [← hn,← hv];simp
 have e2:Nat.beq v.cells.size n=true:=by rw [e,zad];simp
 rw [e2,zct,hv,zh2 hl h1]
theorem zlH (h:i≠s.next):(s.new ob).stV i k n v=(s.stV i k n v).map fun t=>t.new ob:=by
 unfold SS.stV
 cases Nat.beq v.cells.size n with
 | false=>rfl
 | true=>exact zmp h
theorem zew:(s.new (.cells r z)).ld s.next k=r[k]?:=SS.ld_cells SS.new_get
theorem zgS:(s.new (.cells r z)).ldN s.next k n=(cut r k n).map fun d=>.agg d.toArray:=SS.ldN_cells SS.new_get
theorem zlI:(s.new (.cells r z)).rdN s.next k n=(cut r k n).map fun d=>.agg d.toArray:=SS.rdN_cells SS.new_get
theorem zlJ (h:i≠s.next):(s.new ob).rdN i k n=s.rdN i k n:=by unfold SS.rdN;rw [SS.new_old h]
theorem zjW (hl:s.lim≤s.next) (h1:vs.all one=true) (hn:vs.length=n) (hr:r.length=n):(s.new (.cells r z)).stV s.next 0 n (.agg vs.toArray)=some (s.new (.cells vs z)):=by
 rw [zlG hl (aggC vs) hn h1,zb5 (by omega),List.drop_of_length_le (by omega)]
 simp
end
end Go.E
namespace Go.Proofs.YtlpigjmjgclgiaaDoorE
open Go Go.E Go.Proofs
def Pf [Sym] (f:Nat) (args:List Value) (v:Value):Prop:=∀ st:SS,∃ n,st.next≤n∧cc f args st=some (v,st.adv n)
structure Fl where
 n:Bool
 z:Bool
 v:Bool
 c:Bool
def Fl.row (f:Fl):List Value:=[.bool f.n,.bool f.z,.bool f.v,.bool f.c]
def Fl.val (f:Fl):Value:=.agg #[.bool f.n,.bool f.z,.bool f.v,.bool f.c]
theorem Fl.cells (f:Fl):f.val.cells.toList=f.row:=rfl
theorem Fl.one (f:Fl):f.row.all E.one=true:=rfl
theorem Fl.flat (f:Fl):flat3 f.val=true:=rfl
def fl0:List Value:=[.bool false,.bool false,.bool false,.bool false]
def zgi (s:Int):Int:=if s=1 then 255 else if s=2 then 65535 else if s=4 then 4294967295 else 0
theorem zh3 [Sym] (s:Int):Pf 57 [.int .i64 s] (.int .u32 (zgi s)):=fun st=>by
 refine ⟨st.next,zlr _,zi4 s st ?_⟩
 unfold zgi
 by_cases h1:s=1
 ·simp only [zde,h1,decide_true,zct,if_true];rfl
 by_cases h2:s=2
 ·simp only [zde,h1,h2,decide_false,decide_true,zcf,zct,if_false,if_true];rfl
 by_cases h4:s=4
 ·simp only [zde,h1,h2,h4,decide_false,decide_true,zcf,zct,if_false,if_true];rfl
 simp only [zde,h1,h2,h4,decide_false,zcf,if_false];rfl
def putT (old x s:Int):Int:=orI .u32 (zeh .u32 old (zgi s)) (zgK .u32 x (zgi s))
theorem zk9 [Sym] (old x s:Int):Pf 32 [.int .u32 old,.int .u32 x,.int .i64 s] (.int .u32 (putT old x s)):=fun st=>by
 obtain ⟨n1,h1,e1⟩:=zh3 s (st.ro st.next)
 obtain ⟨n2,h2,e2⟩:=zh3 s ((st.ro st.next).adv n1)
 refine ⟨n2,zlt h1 h2,zjy _ _ _ st ?_⟩
 simp only [zi1,e1,e2,zob,zaH];rfl
end Go.Proofs.YtlpigjmjgclgiaaDoorE
namespace Go.Proofs.YtlpigjmjgclgiaaDoorE
open Go Go.E Go.Proofs
section
variable {s : SS} {n m k j : Nat} {r g vs : List Value} {v : Value}
noncomputable abbrev V1 (s:SS) (r:List Value) (n:Nat):SS:=(s.new (.cells r 0)).adv n
noncomputable abbrev V2 (s:SS) (r:List Value) (n:Nat) (g:List Value) (m:Nat):SS:=(((s.new (.cells r 0)).adv n).new (.cells g 0)).adv m
theorem V1.st (hl:s.lim≤s.next) (h1:vs.all one=true):(V1 s r n).st s.next k vs=(zaC r k vs).map fun r'=>V1 s r' n:=by
 rw [zi6,zh2 hl h1]
 cases zaC r k vs<;>rfl
theorem V1.stW (hl:s.lim≤s.next) (h1:vs.all one=true) (hn:vs.length=m) (hr:r.length=m):(V1 s r n).stV s.next 0 m (.agg vs.toArray)=some (V1 s vs n):=by
 rw [zh1,zjW hl h1 hn hr];rfl
theorem V1.ld:(V1 s r n).ld s.next k=r[k]?:=by rw [zk8,zew]
theorem V1.rdN (h:r.length=m):(V1 s r n).rdN s.next 0 m=some (.agg r.toArray):=by rw [zjV,zlI,zcB h];rfl
theorem V1.ldN (h:r.length=m):(V1 s r n).ldN s.next 0 m=some (.agg r.toArray):=by rw [zjU,zgS,zcB h];rfl
theorem V2.st (hl:s.lim≤n) (h1:vs.all one=true):(V2 s r n g m).st n k vs=(zaC g k vs).map fun g'=>V2 s r n g' m:=by
 rw [zi6]
 have:=zh2 (s:=V1 s r n) (r:=g) (z:=0) (k:=k) (vs:=vs) hl h1
 rw [show (V1 s r n).next=n from rfl] at this
 rw [this]
 cases zaC g k vs<;>rfl
theorem V2.stW (hl:s.lim≤n) (h1:vs.all one=true) (hn:vs.length=j) (hg:g.length=j):(V2 s r n g m).stV n 0 j (.agg vs.toArray)=some (V2 s r n vs m):=by
 rw [zh1]
 have:=zjW (s:=V1 s r n) (r:=g) (z:=0) (vs:=vs) (n:=j) hl h1 hn hg
 rw [show (V1 s r n).next=n from rfl] at this
 rw [this];rfl
theorem V2.ld:(V2 s r n g m).ld n k=g[k]?:=zew (s:=V1 s r n)
theorem V2.ldN (h:g.length=j):(V2 s r n g m).ldN n 0 j=some (.agg g.toArray):=by
 rw [zjU]
 have:=zgS (s:=V1 s r n) (r:=g) (z:=0) (k:=0) (n:=j)
 rw [show (V1 s r n).next=n from rfl] at this
 rw [this,zcB h];rfl
theorem V2.stW1 (hn:s.next<n) (hl:s.lim≤s.next) (h1:vs.all one=true) (hv:vs.length=j) (hr:r.length=j):(V2 s r n g m).stV s.next 0 j (.agg vs.toArray)=some (V2 s vs n g m):=by
 rw [zh1,zlH (s:=V1 s r n) (show s.next≠n by omega),V1.stW hl h1 hv hr];rfl
theorem V2.rdN1 (hn:s.next<n) (h:r.length=j):(V2 s r n g m).rdN s.next 0 j=some (.agg r.toArray):=by
 rw [zjV,zlJ (s:=V1 s r n) (show s.next≠n by omega),V1.rdN h]
theorem V2.fin (hn:s.next<n) (hl:s.lim≤s.next) {f:Fl} (hr:r.length=4):(V2 s r n f.row m).ldN n 0 4=some f.val∧(V2 s r n f.row m).stV s.next 0 4 f.val=some (V2 s f.row n f.row m)∧(V2 s f.row n f.row m).rdN s.next 0 4=some f.val:=
 ⟨V2.ldN rfl,V2.stW1 hn hl (Fl.one f) rfl hr,V2.rdN1 hn rfl⟩
theorem Fl.spl (f:Fl) (b:Bool):zaC f.row 0 [.bool b]=some (Fl.row { f with n:=b })∧zaC f.row 1 [.bool b]=some (Fl.row { f with z:=b })∧zaC f.row 2 [.bool b]=some (Fl.row { f with v:=b })∧zaC f.row 3 [.bool b]=some (Fl.row { f with c:=b }):=⟨rfl,rfl,rfl,rfl⟩
theorem V2.fl (hl:s.lim≤n) (f:Fl) (b:Bool):(V2 s r n f.row m).st n 0 [.bool b]=some (V2 s r n (Fl.row { f with n:=b }) m)∧(V2 s r n f.row m).st n 2 [.bool b]=some (V2 s r n (Fl.row { f with v:=b }) m)∧(V2 s r n f.row m).st n 3 [.bool b]=some (V2 s r n (Fl.row { f with c:=b }) m):=by
 refine ⟨?_,?_,?_⟩<;>rw [V2.st hl rfl]
 ·rw [(Fl.spl f b).1];rfl
 ·rw [(Fl.spl f b).2.2.1];rfl
 ·rw [(Fl.spl f b).2.2.2];rfl
theorem V2.put (hl:s.lim≤n) (f:Fl):(V2 s r n fl0 (n+1)).stV n 0 4 f.val=some (V2 s r n f.row (n+1)):=V2.stW hl (Fl.one f) rfl rfl
end
end Go.Proofs.YtlpigjmjgclgiaaDoorE
namespace Go.Proofs.YtlpigjmjgclgiaaDoorE
open Go Go.E Go.Proofs
theorem bs {α β:Type} {x:Option α} {a:α} {f:α→Option β} {r:β} (h:x=some a) (k:f a=some r):x.bind f=some r:=by rw [h];exact k
end Go.Proofs.YtlpigjmjgclgiaaDoorE
namespace Go.Proofs.YtlpigjmjgclgiaaDoorE
open Go Go.E Go.Proofs
theorem zhG {k:IntKind} {a b:Int} (h:0≤b):aI .shl k a b=some (.int k (zdi k a b)):=by unfold aI;simp only;rw [zdf (by omega)];rfl
theorem aI_shr {k:IntKind} {a b:Int} (h:0≤b):aI .shr k a b=some (.int k (zhU k a b)):=by unfold aI;simp only;rw [zdf (by omega)];rfl
end Go.Proofs.YtlpigjmjgclgiaaDoorE
namespace Go.Proofs.YtlpigjmjgclgiaaDoorE
open Go Go.E Go.Proofs
def zbw (x:Int):Bool:=!decide (zgK .u32 x 16777216=0)
theorem zdh [Sym] (x:Int):Pf 34 [.int .u32 x] (.bool (zbw x)):=fun st=>⟨st.next,zlr _,zix _ st rfl⟩
end Go.Proofs.YtlpigjmjgclgiaaDoorE
namespace Go.Proofs.YtlpigjmjgclgiaaDoorE
set_option maxRecDepth 20000
open Go Go.E Go.Proofs
noncomputable def zlK (cf:zaw) (lf:zaj) (st:SS):Option (Value×SS):=
 let st1:SS:=st.new (.cells [.int .u32 0,.int .u32 0,.int .u32 0,.int .u32 0,.int .u32 0,.int .u32 0,.int .u32 0,.int .u32 0,.int .u32 0,.int .u32 0,.int .u32 0,.int .u32 0,.int .u32 0,.int .u32 0,.int .u32 0,.int .u32 0,.int .u32 0,.int .u32 0,.int .u32 0,.slice none 0 0] 0)
 some (ptr st.next 0,st1)
noncomputable abbrev zjz:zaj:=lS Tryd.prog Lk0 Tryd.f8 zaJ
theorem zjA:Lk0.func 8=some (8,Tryd.f8):=by kernel_rfl
theorem zjB [Sym] (st:SS) {r:Value×SS} (h:zlK cc zjz st=some r):cc 8 [] st=some r:=
 zar (li:=zaJ) zav zaB zjA rfl (fun _=>rfl) (.trans (by kernel_rfl) h)
noncomputable def ze3 (cf:zaw) (lf:zaj) (f':Value) (n':Int) (st:SS):Option (Value×SS):=
 (((zb3 f').bind fun r=>some (.bool r)).bind asB).bind fun a=>
 cond a (
 some (.int .u32 0,st.adv (st.ro st.next).next)) (
 cond (decide (n'<0)) (
 some (.int .u32 0,st.adv (st.ro st.next).next)) (
 cond (decide (15<n')) (
 some (.int .u32 0,st.adv (st.ro st.next).next)) (
 (zac f').bind fun b=>
 (addr? b).bind fun c=>
 (zaV (ptr c.1 c.2) 16 n' 1).bind fun d=>
 (((st.ro st.next).ld d.1 d.2).bind (asI .u32)).bind fun e=>
 some (.int .u32 e,st.adv (st.ro st.next).next))))
noncomputable abbrev zgT:zaj:=lS Tryd.prog Lk0 Tryd.f31 zaJ
theorem zgU:Lk0.func 31=some (31,Tryd.f31):=by kernel_rfl
theorem zgV [Sym] (f':Value) (n':Int) (st:SS) {r:Value×SS} (h:ze3 cc zgT f' n' st=some r):cc 31 [f',.int .i64 n'] st=some r:=
 zar (li:=zaJ) zav zaB zgU rfl (fun _=>rfl) (.trans (by kernel_rfl) h)
noncomputable def ze4 (cf:zaw) (lf:zaj) (f':Value) (st:SS):Option (Value×SS):=
 (((zb3 f').bind fun r=>some (.bool r)).bind asB).bind fun a=>
 cond a (
 some (.int .u32 0,st.adv (st.ro st.next).next)) (
 (zac f').bind fun b=>
 (addr? b).bind fun c=>
 (((st.ro st.next).ld c.1 (c.2+16)).bind (asI .u32)).bind fun d=>
 some (.int .u32 d,st.adv (st.ro st.next).next))
noncomputable abbrev zgW:zaj:=lS Tryd.prog Lk0 Tryd.f33 zaJ
theorem zgX:Lk0.func 33=some (33,Tryd.f33):=by kernel_rfl
theorem zgY [Sym] (f':Value) (st:SS) {r:Value×SS} (h:ze4 cc zgW f' st=some r):cc 33 [f'] st=some r:=
 zar (li:=zaJ) zav zaB zgX rfl (fun _=>rfl) (.trans (by kernel_rfl) h)
noncomputable def zd4 (cf:zaw) (lf:zaj) (f':Value) (user':Bool) (st:SS):Option (Value×SS):=
 (((zb3 f').bind fun r=>some (.bool r)).bind asB).bind fun a=>
 cond a (
 some (.int .u32 0,st.adv (st.ro st.next).next)) (
 (zac f').bind fun b=>
 (addr? b).bind fun c=>
 (((st.ro st.next).ld c.1 (c.2+16)).bind (asI .u32)).bind fun d=>
 (cf 34 [.int .u32 d] (st.ro st.next)).bind fun e=>
 ((some e.1).bind asB).bind fun f=>
 cond (user'==f) (
 (zac f').bind fun g=>
 (addr? g).bind fun h=>
 (zaV (ptr h.1 h.2) 16 14 1).bind fun i=>
 ((e.2.ld i.1 i.2).bind (asI .u32)).bind fun j=>
 some (.int .u32 j,st.adv e.2.next)) (
 cond user' (
 (zac f').bind fun k=>
 (addr? k).bind fun l=>
 ((e.2.ld l.1 (l.2+18)).bind (asI .u32)).bind fun m=>
 some (.int .u32 m,st.adv e.2.next)) (
 (zac f').bind fun n=>
 (addr? n).bind fun o=>
 ((e.2.ld o.1 (o.2+17)).bind (asI .u32)).bind fun p=>
 some (.int .u32 p,st.adv e.2.next))))
noncomputable abbrev zfQ:zaj:=lS Tryd.prog Lk0 Tryd.f35 zaJ
theorem zfR:Lk0.func 35=some (35,Tryd.f35):=by kernel_rfl
theorem zfS [Sym] (f':Value) (user':Bool) (st:SS) {r:Value×SS} (h:zd4 cc zfQ f' user' st=some r):cc 35 [f',.bool user'] st=some r:=
 zar (li:=zaJ) zav zaB zfR rfl (fun _=>rfl) (.trans (by kernel_rfl) h)
noncomputable def zcn (cf:zaw) (lf:zaj) (f':Value) (x':Int) (st:SS):Option (Value×SS):=
 (((zb3 f').bind fun r=>some (.bool r)).bind asB).bind fun a=>
 cond a (
 some (.tuple #[],st)) (
 (cf 34 [.int .u32 x'] (st.ro st.next)).bind fun b=>
 ((some b.1).bind asB).bind fun c=>
 (zac f').bind fun d=>
 (addr? d).bind fun e=>
 (((b.2.ro st.lim).ld e.1 (e.2+16)).bind (asI .u32)).bind fun f=>
 (cf 34 [.int .u32 f] (b.2.ro st.lim)).bind fun g=>
 ((some g.1).bind asB).bind fun h=>
 cond (!(c==h)) (
 (cf 34 [.int .u32 x'] g.2).bind fun i=>
 ((some i.1).bind asB).bind fun j=>
 cond j (
 (zac f').bind fun k=>
 (addr? k).bind fun l=>
 (zaV (ptr l.1 l.2) 16 14 1).bind fun m=>
 ((i.2.ld m.1 m.2).bind (asI .u32)).bind fun n=>
 (zac f').bind fun o=>
 (addr? o).bind fun p=>
 ((i.2.ld p.1 (p.2+18)).bind (asI .u32)).bind fun q=>
 (zac f').bind fun s=>
 (addr? s).bind fun t=>
 (i.2.st t.1 (t.2+17) [.int .u32 n]).bind fun u=>
 (zac f').bind fun v=>
 (addr? v).bind fun w=>
 (zaV (ptr w.1 w.2) 16 14 1).bind fun x=>
 (u.st x.1 x.2 [.int .u32 q]).bind fun y=>
 (zac f').bind fun z=>
 (addr? z).bind fun A=>
 (y.st A.1 (A.2+16) [.int .u32 x']).bind fun B=>
 some (.tuple #[],B)) (
 (zac f').bind fun C=>
 (addr? C).bind fun D=>
 (zaV (ptr D.1 D.2) 16 14 1).bind fun E=>
 ((i.2.ld E.1 E.2).bind (asI .u32)).bind fun F=>
 (zac f').bind fun G=>
 (addr? G).bind fun H=>
 ((i.2.ld H.1 (H.2+17)).bind (asI .u32)).bind fun I=>
 (zac f').bind fun J=>
 (addr? J).bind fun K=>
 (i.2.st K.1 (K.2+18) [.int .u32 F]).bind fun L=>
 (zac f').bind fun M=>
 (addr? M).bind fun N=>
 (zaV (ptr N.1 N.2) 16 14 1).bind fun O=>
 (L.st O.1 O.2 [.int .u32 I]).bind fun P=>
 (zac f').bind fun Q=>
 (addr? Q).bind fun R=>
 (P.st R.1 (R.2+16) [.int .u32 x']).bind fun S=>
 some (.tuple #[],S))) (
 (zac f').bind fun T=>
 (addr? T).bind fun U=>
 (g.2.st U.1 (U.2+16) [.int .u32 x']).bind fun V=>
 some (.tuple #[],V)))
noncomputable abbrev zgZ:zaj:=lS Tryd.prog Lk0 Tryd.f28 zaJ
theorem zg0:Lk0.func 28=some (28,Tryd.f28):=by kernel_rfl
theorem zcx [Sym] (f':Value) (x':Int) (st:SS) {r:Value×SS} (h:zcn cc zgZ f' x' st=some r):cc 28 [f',.int .u32 x'] st=some r:=
 zar (li:=zaJ) zav zaB zg0 rfl (fun _=>rfl) (.trans (by kernel_rfl) h)
noncomputable def zbW (cf:zaw) (lf:zaj) (f':Value) (n':Int) (x':Int) (size':Int) (st:SS):Option (Value×SS):=
 (((zb3 f').bind fun r=>some (.bool r)).bind asB).bind fun a=>
 cond a (
 some (.int .i64 2,st)) (
 cond (decide (n'<0)) (
 some (.int .i64 1,st)) (
 cond (decide (15<n')) (
 some (.int .i64 1,st)) (
 (cf 57 [.int .i64 size'] st).bind fun b=>
 ((some b.1).bind (asI .u32)).bind fun c=>
 cond (decide (c=0)) (
 some (.int .i64 1,b.2)) (
 (zac f').bind fun d=>
 (addr? d).bind fun e=>
 (zaV (ptr e.1 e.2) 16 n' 1).bind fun f=>
 ((b.2.ld f.1 f.2).bind (asI .u32)).bind fun g=>
 (cf 32 [.int .u32 g,.int .u32 x',.int .i64 size'] b.2).bind fun h=>
 ((some h.1).bind (asI .u32)).bind fun i=>
 (zac f').bind fun j=>
 (addr? j).bind fun k=>
 (zaV (ptr k.1 k.2) 16 n' 1).bind fun l=>
 (h.2.st l.1 l.2 [.int .u32 i]).bind fun m=>
 some (.int .i64 0,m)))))
noncomputable abbrev zg1:zaj:=lS Tryd.prog Lk0 Tryd.f29 zaJ
theorem zg2:Lk0.func 29=some (29,Tryd.f29):=by kernel_rfl
theorem zbU [Sym] (f':Value) (n':Int) (x':Int) (size':Int) (st:SS) {r:Value×SS} (h:zbW cc zg1 f' n' x' size' st=some r):cc 29 [f',.int .i64 n',.int .u32 x',.int .i64 size'] st=some r:=
 zar (li:=zaJ) zav zaB zg2 rfl (fun _=>rfl) (.trans (by kernel_rfl) h)
noncomputable def zdO (cf:zaw) (lf:zaj) (f':Value) (st:SS):Option (Value×SS):=
 (((zb3 f').bind fun r=>some (.bool !r)).bind asB).bind fun a=>
 cond a (
 (zac f').bind fun b=>
 (addr? b).bind fun c=>
 (st.st c.1 (c.2+19) [.slice none 0 0]).bind fun d=>
 some (.tuple #[],d)) (
 some (.tuple #[],st))
noncomputable abbrev ze6:zaj:=lS Tryd.prog Lk0 Tryd.f40 zaJ
theorem ze7:Lk0.func 40=some (40,Tryd.f40):=by kernel_rfl
theorem ze8 [Sym] (f':Value) (st:SS) {r:Value×SS} (h:zdO cc ze6 f' st=some r):cc 40 [f'] st=some r:=
 zar (li:=zaJ) zav zaB ze7 rfl (fun _=>rfl) (.trans (by kernel_rfl) h)
end Go.Proofs.YtlpigjmjgclgiaaDoorE
namespace Go.Proofs.YtlpigjmjgclgiaaDoorE
set_option maxRecDepth 20000
open Go Go.E Go.Proofs
noncomputable def zir (cf:zaw) (lf:zaj) (file':Value) (st:SS):Option (Value×SS):=
 (zfE file' 1).bind fun a=>
 let b:SS:=st.new (.cells (.agg ⟨spl [.pointer none,.int .u32 0,.int .u32 0,.int .u32 0,.int .u32 0,.int .u32 0,.int .u32 0,.int .u32 0,.int .u32 0,.int .u32 0,.int .u32 0,.int .u32 0,.int .u32 0,.int .u32 0,.int .u32 0,.int .u32 0,.int .u32 0,.int .u32 0,.int .u32 0,.int .u32 0,.int .u32 0,.int .u32 0,.int .u32 0,.int .u32 0,.int .u32 0,.int .u32 0,.int .u32 0,.int .u32 0,.int .u32 0,.int .u32 0,.int .u32 0,.int .u32 0,.int .u32 0,.int .u32 0,.int .u32 0,.int .u32 0,.int .u32 0,.int .u32 0,.int .u32 0,.int .u32 0,.int .u32 0,.int .u32 0,.int .u32 0,.int .u32 0,.int .u32 0,.int .u32 0,.int .u32 0,.int .u32 0,.int .u32 0,.int .u32 0,.int .u32 0,.int .u32 0,.int .u32 0,.int .u32 0,.int .u32 0,.int .u32 0,.int .u32 0,.int .u32 0,.int .u32 0,.int .u32 0,.int .u32 0,.int .i64 0,.int .i64 0,.int .i64 0,.int .i64 0,.int .i64 0,.int .i64 0,.int .i64 0,.string ⟨#[]⟩,.int .i64 0,.int .i64 0,.slice none 0 0,.int .i64 0,.int .i64 0,.int .i64 0,.int .i64 0,.int .u64 0,.slice none 0 0,.bool false,.bool false,.bool false,.bool false,.bool false,.bool false,.int .u32 0,.int .i64 0,.int .u32 0,.int .i64 0] 0 a⟩:Value).cells.toList 0)
 (cf 21 [ptr st.next 0] b).bind fun c=>
 some (ptr st.next 0,c.2)
noncomputable abbrev zi7:zaj:=lS Tryd.prog Lk0 Tryd.f7 zaJ
theorem zi8:Lk0.func 7=some (7,Tryd.f7):=by kernel_rfl
theorem zi9 [Sym] (file':Value) (st:SS) {r:Value×SS} (h:zir cc zi7 file' st=some r):cc 7 [file'] st=some r:=
 zar (li:=zaJ) zav zaB zi8 rfl (fun _=>rfl) (.trans (by kernel_rfl) h)
def zck:LoopI:=⟨[(0,.any),(3,.any),(4,.int .u32),(6,.any)],[(.normal,[])]⟩
def zcC:LoopI:=⟨[(0,.any),(3,.any),(4,.int .u32),(5,.int .u32)],[(.normal,[])]⟩
def zcR (n:Nat):Option LoopI:=cond (Nat.beq n 1000007) (some zcC) (cond (Nat.beq n 1000015) (some zck) (none))
noncomputable def zdP (cf:zaw) (lf:zaj) (p':Value) (w':Value) (st:SS):Option (Value×SS):=
 let a:SS:=st.new (.cells (w':Value).cells.toList 0)
 ((a.ld st.next 1).bind (asI .i64)).bind fun b=>
 (cf 11 [p',.int .i64 b] (a.ro a.next)).bind fun c=>
 ((some c.1).bind (asI .u32)).bind fun d=>
 (((c.2.ro a.lim).ld st.next 2).bind (asI .i64)).bind fun e=>
 (cf 11 [p',.int .i64 e] (c.2.ro a.lim)).bind fun f=>
 ((some f.1).bind (asI .u32)).bind fun g=>
 ((f.2.ld st.next 1).bind (asI .i64)).bind fun h=>
 cond (decide (h=41)) (
 ((f.2.ld st.next 4).bind (asI .i64)).bind fun i=>
 let j:Int:=IntKind.wrap .u32 i
 ((f.2.ld st.next 2).bind (asI .i64)).bind fun k=>
 cond (decide (k=41)) (
 ((f.2.ld st.next 4).bind (asI .i64)).bind fun l=>
 let m:Int:=IntKind.wrap .u32 l
 (lf 1000007 [p',ptr st.next 0,.int .u32 j,.int .u32 m] f.2).bind fun n=>
 some (.tuple #[],n.2.2)) (
 (lf 1000007 [p',ptr st.next 0,.int .u32 j,.int .u32 g] f.2).bind fun o=>
 some (.tuple #[],o.2.2))) (
 ((f.2.ld st.next 2).bind (asI .i64)).bind fun p=>
 cond (decide (p=41)) (
 ((f.2.ld st.next 4).bind (asI .i64)).bind fun q=>
 let r:Int:=IntKind.wrap .u32 q
 (lf 1000007 [p',ptr st.next 0,.int .u32 d,.int .u32 r] f.2).bind fun s=>
 some (.tuple #[],s.2.2)) (
 (lf 1000007 [p',ptr st.next 0,.int .u32 d,.int .u32 g] f.2).bind fun t=>
 some (.tuple #[],t.2.2)))
noncomputable abbrev za5:zaj:=lS Tryd.prog Lk0 Tryd.f9 zcR
theorem ze9:Lk0.func 9=some (9,Tryd.f9):=by kernel_rfl
theorem zfa [Sym] (p':Value) (w':Value) (st:SS) {r:Value×SS} (h:zdP cc za5 p' w' st=some r):cc 9 [p',w'] st=some r:=
 zar (li:=zcR) zav zaB ze9 rfl (fun _=>rfl) (.trans (by kernel_rfl) h)
noncomputable def zcS (cf:zaw) (lf:zaj) (p':Value) (w':Value) (a':Int) (b':Int) (st:SS):Option (Nat×List Value×SS):=
 (cf 17 [p'] st).bind fun a=>
 let b:SS:=a.2.new (.cells [.int .i64 0,.int .u32 0,.int .i64 0] 0)
 (b.st a.2.next 0 [.int .i64 (-1),.int .u32 0,.int .i64 0]).bind fun c=>
 (addr? w').bind fun d=>
 ((c.ld d.1 d.2).bind (asI .i64)).bind fun e=>
 cond (!(decide (e=0))) (
 (addr? w').bind fun f=>
 ((c.ld f.1 (f.2+5)).bind (asI .i64)).bind fun g=>
 (cf 22 [p',.int .i64 g] c).bind fun h=>
 ((some h.1).bind (asI .i64)).bind fun i=>
 (addr? w').bind fun j=>
 ((h.2.ld j.1 j.2).bind (asI .i64)).bind fun k=>
 (cf 23 [p',.int .i64 k,.int .u32 a',.int .u32 b',.int .i64 i] h.2).bind fun l=>
 ((tupG l.1 0).bind (asI .u32)).bind fun m=>
 (tupG l.1 1).bind fun n=>
 let o:SS:=l.2.new (.cells [.bool false,.bool false,.bool false,.bool false] 0)
 (o.stV l.2.next 0 4 n).bind fun p=>
 (p.ldN l.2.next 0 4).bind fun q=>
 (zac p').bind fun r=>
 (addr? r).bind fun s=>
 (p.stV s.1 (s.2+78) 4 q).bind fun t=>
 (t.ldN l.2.next 0 4).bind fun u=>
 (addr? w').bind fun v=>
 ((t.ld v.1 (v.2+6)).bind (asI .i64)).bind fun w=>
 (cf 24 [p',u,.int .i64 w] t).bind fun x=>
 (addr? w').bind fun y=>
 ((x.2.ld y.1 (y.2+3)).bind (asI .i64)).bind fun z=>
 (cf 25 [p',.int .i64 z] x.2).bind fun A=>
 ((some A.1).bind (asI .i64)).bind fun B=>
 (A.2.st a.2.next 0 [.int .i64 B,.int .u32 m,.int .i64 i]).bind fun C=>
 (lf 1000015 [p',w',.int .u32 a',ptr a.2.next 0] C).bind fun D=>
 some (0,[],D.2.2)) (
 (lf 1000015 [p',w',.int .u32 a',ptr a.2.next 0] c).bind fun E=>
 some (0,[],E.2.2))
theorem zec [Sym] (p':Value) (w':Value) (a':Int) (b':Int) (st:SS) {r:Nat×List Value×SS} (h:zcS cc za5 p' w' a' b' st=some r):za5 1000007 [p',w',.int .u32 a',.int .u32 b'] st=some r:=
 zbv zav zaB (key:=1000007) (I:=zcC) rfl (by kernel_rfl) (by kernel_rfl) rfl rfl (.trans (by kernel_rfl) h)
noncomputable def zcK (cf:zaw) (lf:zaj) (p':Value) (w':Value) (a':Int) (next':Value) (st:SS):Option (Nat×List Value×SS):=
 (addr? w').bind fun a=>
 (st.ldN a.1 a.2 12).bind fun b=>
 (cf 26 [p',b,.int .u32 a'] st).bind fun c=>
 (addr? w').bind fun d=>
 (c.2.ldN d.1 d.2 12).bind fun e=>
 (cf 27 [p',e,.int .u32 a'] c.2).bind fun f=>
 (addr? next').bind fun g=>
 ((f.2.ld g.1 g.2).bind (asI .i64)).bind fun h=>
 cond (decide (h=38)) (
 (zac p').bind fun i=>
 (addr? i).bind fun j=>
 (f.2.ld j.1 j.2).bind fun k=>
 (addr? next').bind fun l=>
 ((f.2.ld l.1 (l.2+1)).bind (asI .u32)).bind fun m=>
 (cf 28 [k,.int .u32 m] f.2).bind fun n=>
 some (0,[],n.2)) (
 (addr? next').bind fun o=>
 ((f.2.ld o.1 o.2).bind (asI .i64)).bind fun p=>
 cond (decide (0≤p)) (
 (addr? next').bind fun q=>
 (f.2.ldN q.1 q.2 3).bind fun r=>
 (zac p').bind fun s=>
 (addr? s).bind fun t=>
 (f.2.stV t.1 (t.2+85) 3 r).bind fun u=>
 some (0,[],u)) (
 some (0,[],f.2)))
theorem zdX [Sym] (p':Value) (w':Value) (a':Int) (next':Value) (st:SS) {r:Nat×List Value×SS} (h:zcK cc za5 p' w' a' next' st=some r):za5 1000015 [p',w',.int .u32 a',next'] st=some r:=
 zbv zav zaB (key:=1000015) (I:=zck) rfl (by kernel_rfl) (by kernel_rfl) rfl rfl (.trans (by kernel_rfl) h)
def zcT:LoopI:=⟨[(0,.any),(1,.int .i64),(2,.int .u32),(3,.int .i64),(14,.bool)],[(.normal,[])]⟩
def zdj (n:Nat):Option LoopI:=cond (Nat.beq n 1000003) (some zcT) (none)
noncomputable def zbm (cf:zaw) (lf:zaj) (p':Value) (n':Int) (x':Int) (size':Int) (st:SS):Option (Value×SS):=
 cond (decide (n'<0)) (
 (lf 1000003 [p',.int .i64 n',.int .u32 x',.int .i64 size',.bool true] st).bind fun a=>
 some (.tuple #[],a.2.2)) (
 (lf 1000003 [p',.int .i64 n',.int .u32 x',.int .i64 size',.bool (decide (60≤n'))] st).bind fun b=>
 some (.tuple #[],b.2.2))
noncomputable abbrev zcg:zaj:=lS Tryd.prog Lk0 Tryd.f10 zdj
theorem zgl:Lk0.func 10=some (10,Tryd.f10):=by kernel_rfl
theorem zbf [Sym] (p':Value) (n':Int) (x':Int) (size':Int) (st:SS) {r:Value×SS} (h:zbm cc zcg p' n' x' size' st=some r):cc 10 [p',.int .i64 n',.int .u32 x',.int .i64 size'] st=some r:=
 zar (li:=zdj) zav zaB zgl rfl (fun _=>rfl) (.trans (by kernel_rfl) h)
noncomputable def zbD (cf:zaw) (lf:zaj) (p':Value) (n':Int) (x':Int) (size':Int) (t14':Bool) (st:SS):Option (Nat×List Value×SS):=
 cond t14' (
 some (0,[],st)) (
 cond (decide (n'<16)) (
 (zac p').bind fun a=>
 (addr? a).bind fun b=>
 (st.ld b.1 b.2).bind fun c=>
 (cf 29 [c,.int .i64 n',.int .u32 x',.int .i64 size'] st).bind fun d=>
 ((some d.1).bind (asI .i64)).bind fun e=>
 some (0,[],d.2)) (
 cond (decide (n'=38)) (
 (zac p').bind fun f=>
 (addr? f).bind fun g=>
 (st.ld g.1 g.2).bind fun h=>
 (cf 28 [h,.int .u32 x'] st).bind fun i=>
 some (0,[],i.2)) (
 (zac p').bind fun j=>
 (addr? j).bind fun k=>
 (zaV (ptr k.1 (k.2+1)) 60 n' 1).bind fun l=>
 (st.st l.1 l.2 [.int .u32 x']).bind fun m=>
 some (0,[],m))))
theorem za2 [Sym] (p':Value) (n':Int) (x':Int) (size':Int) (t14':Bool) (st:SS) {r:Nat×List Value×SS} (h:zbD cc zcg p' n' x' size' t14' st=some r):zcg 1000003 [p',.int .i64 n',.int .u32 x',.int .i64 size',.bool t14'] st=some r:=
 zbv zav zaB (key:=1000003) (I:=zcT) rfl (by kernel_rfl) (by kernel_rfl) rfl rfl (.trans (by kernel_rfl) h)
def zcL:LoopI:=⟨[(0,.any),(1,.int .i64),(99,.int .i64),(107,.bool)],[(.normal,[(0,.any),(1,.int .i64)]),(.ret,[(4,.int .u32)])]⟩
def zcM:LoopI:=⟨[(0,.any),(1,.int .i64)],[(.ret,[(4,.int .u32)])]⟩
def zcN:LoopI:=⟨[(0,.any),(1,.int .i64)],[(.ret,[(4,.int .u32)])]⟩
def zcU:LoopI:=⟨[(0,.any),(1,.int .i64),(6,.int .i64),(7,.bool)],[(.normal,[(0,.any),(1,.int .i64)]),(.ret,[(4,.int .u32)])]⟩
def zdk (n:Nat):Option LoopI:=cond (Nat.beq n 1000007) (some zcU) (cond (Nat.beq n 1000018) (some zcN) (cond (Nat.beq n 1000025) (some zcM) (cond (Nat.beq n 1000030) (some zcL) (none))))
noncomputable def zbK (cf:zaw) (lf:zaj) (p':Value) (n':Int) (st:SS):Option (Value×SS):=
 cond (decide (n'=39)) (
 (lf 1000007 [p',.int .i64 n',.int .i64 n',.bool (decide (n'=39))] (st.ro st.next)).bind fun a=>
 cond (Nat.beq a.1 0) (
 (a.2.1[0]?).bind fun b=>
 ((a.2.1[1]?).bind (asI .i64)).bind fun c=>
 (lf 1000018 [b,.int .i64 c] a.2.2).bind fun d=>
 ((d.2.1[0]?).bind (asI .u32)).bind fun e=>
 some (.int .u32 e,st.adv d.2.2.next)) (
 ((a.2.1[0]?).bind (asI .u32)).bind fun f=>
 some (.int .u32 f,st.adv a.2.2.next))) (
 cond (decide (n'=54)) (
 (lf 1000007 [p',.int .i64 n',.int .i64 n',.bool (decide (n'=54))] (st.ro st.next)).bind fun g=>
 cond (Nat.beq g.1 0) (
 (g.2.1[0]?).bind fun h=>
 ((g.2.1[1]?).bind (asI .i64)).bind fun i=>
 (lf 1000018 [h,.int .i64 i] g.2.2).bind fun j=>
 ((j.2.1[0]?).bind (asI .u32)).bind fun k=>
 some (.int .u32 k,st.adv j.2.2.next)) (
 ((g.2.1[0]?).bind (asI .u32)).bind fun l=>
 some (.int .u32 l,st.adv g.2.2.next))) (
 cond (decide (n'=55)) (
 (lf 1000007 [p',.int .i64 n',.int .i64 n',.bool (decide (n'=55))] (st.ro st.next)).bind fun m=>
 cond (Nat.beq m.1 0) (
 (m.2.1[0]?).bind fun n=>
 ((m.2.1[1]?).bind (asI .i64)).bind fun o=>
 (lf 1000018 [n,.int .i64 o] m.2.2).bind fun p=>
 ((p.2.1[0]?).bind (asI .u32)).bind fun q=>
 some (.int .u32 q,st.adv p.2.2.next)) (
 ((m.2.1[0]?).bind (asI .u32)).bind fun r=>
 some (.int .u32 r,st.adv m.2.2.next))) (
 (lf 1000007 [p',.int .i64 n',.int .i64 n',.bool (decide (n'=57))] (st.ro st.next)).bind fun s=>
 cond (Nat.beq s.1 0) (
 (s.2.1[0]?).bind fun t=>
 ((s.2.1[1]?).bind (asI .i64)).bind fun u=>
 (lf 1000018 [t,.int .i64 u] s.2.2).bind fun v=>
 ((v.2.1[0]?).bind (asI .u32)).bind fun w=>
 some (.int .u32 w,st.adv v.2.2.next)) (
 ((s.2.1[0]?).bind (asI .u32)).bind fun x=>
 some (.int .u32 x,st.adv s.2.2.next)))))
noncomputable abbrev zam:zaj:=lS Tryd.prog Lk0 Tryd.f11 zdk
theorem zgm:Lk0.func 11=some (11,Tryd.f11):=by kernel_rfl
theorem zbE [Sym] (p':Value) (n':Int) (st:SS) {r:Value×SS} (h:zbK cc zam p' n' st=some r):cc 11 [p',.int .i64 n'] st=some r:=
 zar (li:=zdk) zav zaB zgm rfl (fun _=>rfl) (.trans (by kernel_rfl) h)
noncomputable def zaQ (cf:zaw) (lf:zaj) (p':Value) (n':Int) (t6':Int) (t7':Bool) (st:SS):Option (Nat×List Value×SS):=
 cond t7' (
 (cf 25 [p',.int .i64 n'] st).bind fun a=>
 ((some a.1).bind (asI .i64)).bind fun b=>
 cond (decide (b<0)) (
 some (1,[.int .u32 0],a.2)) (
 some (0,[p',.int .i64 b],a.2))) (
 cond (decide (t6'=40)) (
 (zac p').bind fun c=>
 (addr? c).bind fun d=>
 ((st.ld d.1 (d.2+74)).bind (asI .i64)).bind fun e=>
 cond (decide (e<0)) (
 some (1,[.int .u32 0],st)) (
 some (0,[p',.int .i64 e],st))) (
 cond (decide (t6'=56)) (
 (cf 30 [p'] st).bind fun f=>
 ((some f.1).bind (asI .i64)).bind fun g=>
 let h:Int:=IntKind.wrap .i64 (30+g)
 some (0,[p',.int .i64 h],f.2)) (
 cond (decide (t6'=50)) (
 (zac p').bind fun i=>
 (addr? i).bind fun j=>
 (st.ld j.1 (j.2+67+4)).bind fun k=>
 ((lenV k).bind (asI .i64)).bind fun l=>
 let m:Int:=IntKind.wrap .i64 (l-1)
 let n:Int:=if 0>m then 0 else m
 let o:Int:=IntKind.wrap .i64 (24+n)
 some (0,[p',.int .i64 o],st)) (
 some (0,[p',.int .i64 n'],st)))))
theorem zaO [Sym] (p':Value) (n':Int) (t6':Int) (t7':Bool) (st:SS) {r:Nat×List Value×SS} (h:zaQ cc zam p' n' t6' t7' st=some r):zam 1000007 [p',.int .i64 n',.int .i64 t6',.bool t7'] st=some r:=
 zbv zav zaB (key:=1000007) (I:=zcU) rfl (by kernel_rfl) (by kernel_rfl) rfl rfl (.trans (by kernel_rfl) h)
noncomputable def zaW (cf:zaw) (lf:zaj) (p':Value) (n':Int) (st:SS):Option (Nat×List Value×SS):=
 cond (decide (n'<16)) (
 (zac p').bind fun a=>
 (addr? a).bind fun b=>
 (st.ld b.1 b.2).bind fun c=>
 (cf 31 [c,.int .i64 n'] st).bind fun d=>
 ((some d.1).bind (asI .u32)).bind fun e=>
 (zac p').bind fun f=>
 (addr? f).bind fun g=>
 ((d.2.ld g.1 (g.2+85)).bind (asI .i64)).bind fun h=>
 cond (decide (h=n')) (
 (zac p').bind fun i=>
 (addr? i).bind fun j=>
 ((d.2.ld j.1 (j.2+85+2)).bind (asI .i64)).bind fun k=>
 cond (decide (0<k)) (
 (zac p').bind fun l=>
 (addr? l).bind fun m=>
 ((d.2.ld m.1 (m.2+85+1)).bind (asI .u32)).bind fun n=>
 (zac p').bind fun o=>
 (addr? o).bind fun p=>
 ((d.2.ld p.1 (p.2+85+2)).bind (asI .i64)).bind fun q=>
 (cf 32 [.int .u32 e,.int .u32 n,.int .i64 q] d.2).bind fun r=>
 ((some r.1).bind (asI .u32)).bind fun s=>
 some (0,[.int .u32 s],r.2)) (
 some (0,[.int .u32 e],d.2))) (
 some (0,[.int .u32 e],d.2))) (
 (zac p').bind fun t=>
 (addr? t).bind fun u=>
 ((st.ld u.1 (u.2+85)).bind (asI .i64)).bind fun v=>
 cond (decide (v=n')) (
 (zac p').bind fun w=>
 (addr? w).bind fun x=>
 ((st.ld x.1 (x.2+85+2)).bind (asI .i64)).bind fun y=>
 cond (decide (0<y)) (
 (zac p').bind fun z=>
 (addr? z).bind fun A=>
 ((st.ld A.1 (A.2+85+1)).bind (asI .u32)).bind fun B=>
 some (0,[.int .u32 B],st)) (
 (lf 1000025 [p',.int .i64 n'] st).bind fun C=>
 ((C.2.1[0]?).bind (asI .u32)).bind fun D=>
 some (0,[.int .u32 D],C.2.2))) (
 (lf 1000025 [p',.int .i64 n'] st).bind fun E=>
 ((E.2.1[0]?).bind (asI .u32)).bind fun F=>
 some (0,[.int .u32 F],E.2.2)))
theorem zaU [Sym] (p':Value) (n':Int) (st:SS) {r:Nat×List Value×SS} (h:zaW cc zam p' n' st=some r):zam 1000018 [p',.int .i64 n'] st=some r:=
 zbv zav zaB (key:=1000018) (I:=zcN) rfl (by kernel_rfl) (by kernel_rfl) rfl rfl (.trans (by kernel_rfl) h)
noncomputable def zbx (cf:zaw) (lf:zaj) (p':Value) (n':Int) (st:SS):Option (Nat×List Value×SS):=
 cond (decide (n'=38)) (
 (zac p').bind fun a=>
 (addr? a).bind fun b=>
 (st.ld b.1 b.2).bind fun c=>
 (cf 33 [c] st).bind fun d=>
 ((some d.1).bind (asI .u32)).bind fun e=>
 some (0,[.int .u32 e],d.2)) (
 cond (decide (n'=48)) (
 (lf 1000030 [p',.int .i64 n',.int .i64 n',.bool (decide (n'=48))] st).bind fun f=>
 cond (Nat.beq f.1 0) (
 (f.2.1[0]?).bind fun g=>
 ((f.2.1[1]?).bind (asI .i64)).bind fun h=>
 cond (decide (60≤h)) (
 some (0,[.int .u32 0],f.2.2)) (
 (zac g).bind fun i=>
 (addr? i).bind fun j=>
 (zaV (ptr j.1 (j.2+1)) 60 h 1).bind fun k=>
 ((f.2.2.ld k.1 k.2).bind (asI .u32)).bind fun l=>
 some (0,[.int .u32 l],f.2.2))) (
 ((f.2.1[0]?).bind (asI .u32)).bind fun m=>
 some (0,[.int .u32 m],f.2.2))) (
 (lf 1000030 [p',.int .i64 n',.int .i64 n',.bool (decide (n'=49))] st).bind fun n=>
 cond (Nat.beq n.1 0) (
 (n.2.1[0]?).bind fun o=>
 ((n.2.1[1]?).bind (asI .i64)).bind fun p=>
 cond (decide (60≤p)) (
 some (0,[.int .u32 0],n.2.2)) (
 (zac o).bind fun q=>
 (addr? q).bind fun r=>
 (zaV (ptr r.1 (r.2+1)) 60 p 1).bind fun s=>
 ((n.2.2.ld s.1 s.2).bind (asI .u32)).bind fun t=>
 some (0,[.int .u32 t],n.2.2))) (
 ((n.2.1[0]?).bind (asI .u32)).bind fun u=>
 some (0,[.int .u32 u],n.2.2))))
theorem zbL [Sym] (p':Value) (n':Int) (st:SS) {r:Nat×List Value×SS} (h:zbx cc zam p' n' st=some r):zam 1000025 [p',.int .i64 n'] st=some r:=
 zbv zav zaB (key:=1000025) (I:=zcM) rfl (by kernel_rfl) (by kernel_rfl) rfl rfl (.trans (by kernel_rfl) h)
noncomputable def zaK (cf:zaw) (lf:zaj) (p':Value) (n':Int) (t99':Int) (t107':Bool) (st:SS):Option (Nat×List Value×SS):=
 cond t107' (
 (zac p').bind fun a=>
 (addr? a).bind fun b=>
 (st.ld b.1 b.2).bind fun c=>
 (cf 33 [c] st).bind fun d=>
 ((some d.1).bind (asI .u32)).bind fun e=>
 (cf 34 [.int .u32 e] d.2).bind fun f=>
 ((some f.1).bind asB).bind fun g=>
 cond (g==(decide (n'=49))) (
 (cf 11 [p',.int .i64 14] f.2).bind fun h=>
 ((some h.1).bind (asI .u32)).bind fun i=>
 some (1,[.int .u32 i],h.2)) (
 (zac p').bind fun j=>
 (addr? j).bind fun k=>
 (f.2.ld k.1 k.2).bind fun l=>
 (cf 35 [l,.bool (decide (n'=49))] f.2).bind fun m=>
 ((some m.1).bind (asI .u32)).bind fun n=>
 some (1,[.int .u32 n],m.2))) (
 cond (decide (t99'=51)) (
 (zac p').bind fun o=>
 (addr? o).bind fun p=>
 ((st.ld p.1 (p.2+75)).bind (asI .i64)).bind fun q=>
 let r:Int:=IntKind.wrap .u32 q
 some (1,[.int .u32 r],st)) (
 cond (decide (t99'=52)) (
 (cf 11 [p',.int .i64 15] (st.ro st.next)).bind fun s=>
 ((some s.1).bind (asI .u32)).bind fun t=>
 (zac p').bind fun u=>
 (addr? u).bind fun v=>
 (zaV (ptr v.1 (v.2+1)) 60 46 1).bind fun w=>
 (((s.2.ro st.lim).ld w.1 w.2).bind (asI .u32)).bind fun x=>
 let y:Int:=IntKind.wrap .u32 (t-x)
 some (1,[.int .u32 y],(s.2.ro st.lim))) (
 cond (decide (t99'=58)) (
 (zac p').bind fun z=>
 (addr? z).bind fun A=>
 (st.ld A.1 (A.2+77)).bind fun B=>
 ((lenV B).bind (asI .i64)).bind fun C=>
 let D:Int:=IntKind.wrap .u32 C
 some (1,[.int .u32 D],st)) (
 cond (decide (t99'=42)) (
 cond (decide (t99'=42)) (
 some (1,[.int .u32 0],st)) (
 some (0,[p',.int .i64 n'],st))) (
 cond (decide (t99'=41)) (
 some (1,[.int .u32 0],st)) (
 some (0,[p',.int .i64 n'],st)))))))
theorem zaI [Sym] (p':Value) (n':Int) (t99':Int) (t107':Bool) (st:SS) {r:Nat×List Value×SS} (h:zaK cc zam p' n' t99' t107' st=some r):zam 1000030 [p',.int .i64 n',.int .i64 t99',.bool t107'] st=some r:=
 zbv zav zaB (key:=1000030) (I:=zcL) rfl (by kernel_rfl) (by kernel_rfl) rfl rfl (.trans (by kernel_rfl) h)
noncomputable def zch (cf:zaw) (lf:zaj) (p':Value) (st:SS):Option (Value×SS):=
 (zac p').bind fun a=>
 (addr? a).bind fun b=>
 ((st.ld b.1 (b.2+85+2)).bind (asI .i64)).bind fun c=>
 cond (decide (0<c)) (
 (zac p').bind fun d=>
 (addr? d).bind fun e=>
 ((st.ld e.1 (e.2+85)).bind (asI .i64)).bind fun f=>
 (zac p').bind fun g=>
 (addr? g).bind fun h=>
 ((st.ld h.1 (h.2+85+1)).bind (asI .u32)).bind fun i=>
 (zac p').bind fun j=>
 (addr? j).bind fun k=>
 ((st.ld k.1 (k.2+85+2)).bind (asI .i64)).bind fun l=>
 (cf 10 [p',.int .i64 f,.int .u32 i,.int .i64 l] st).bind fun m=>
 (zac p').bind fun n=>
 (addr? n).bind fun o=>
 (m.2.st o.1 (o.2+85) [.int .i64 0,.int .u32 0,.int .i64 0]).bind fun p=>
 some (.tuple #[],p)) (
 (zac p').bind fun q=>
 (addr? q).bind fun r=>
 (st.st r.1 (r.2+85) [.int .i64 0,.int .u32 0,.int .i64 0]).bind fun s=>
 some (.tuple #[],s))
noncomputable abbrev zeV:zaj:=lS Tryd.prog Lk0 Tryd.f17 zaJ
theorem zeW:Lk0.func 17=some (17,Tryd.f17):=by kernel_rfl
theorem zcO [Sym] (p':Value) (st:SS) {r:Value×SS} (h:zch cc zeV p' st=some r):cc 17 [p'] st=some r:=
 zar (li:=zaJ) zav zaB zeW rfl (fun _=>rfl) (.trans (by kernel_rfl) h)
noncomputable def zdQ (cf:zaw) (lf:zaj) (p':Value) (st:SS):Option (Value×SS):=
 (cf 17 [p'] st).bind fun a=>
 (zac p').bind fun b=>
 (addr? b).bind fun c=>
 (a.2.ld c.1 c.2).bind fun d=>
 (cf 40 [d] a.2).bind fun e=>
 (zac p').bind fun f=>
 (addr? f).bind fun g=>
 (e.2.ld g.1 g.2).bind fun h=>
 (cf 31 [h,.int .i64 15] (e.2.ro e.2.next)).bind fun i=>
 ((some i.1).bind (asI .u32)).bind fun j=>
 (zac p').bind fun k=>
 (addr? k).bind fun l=>
 ((i.2.ro e.2.lim).ld l.1 l.2).bind fun m=>
 (cf 33 [m] (i.2.ro e.2.lim)).bind fun n=>
 ((some n.1).bind (asI .u32)).bind fun o=>
 (zac p').bind fun p=>
 (addr? p).bind fun q=>
 (zaV (ptr q.1 (q.2+1)) 60 46 1).bind fun r=>
 (n.2.st r.1 r.2 [.int .u32 j]).bind fun s=>
 (zac p').bind fun t=>
 (addr? t).bind fun u=>
 (s.st u.1 (u.2+84) [.int .u32 o]).bind fun v=>
 (cf 41 [p',.agg #[.int .i64 0,.string ⟨#[]⟩,.int .i64 0,.int .i64 0,.slice none 0 0]] v).bind fun w=>
 some (.tuple #[],w.2)
noncomputable abbrev zfb:zaj:=lS Tryd.prog Lk0 Tryd.f21 zaJ
theorem zfc:Lk0.func 21=some (21,Tryd.f21):=by kernel_rfl
theorem zfd [Sym] (p':Value) (st:SS) {r:Value×SS} (h:zdQ cc zfb p' st=some r):cc 21 [p'] st=some r:=
 zar (li:=zaJ) zav zaB zfc rfl (fun _=>rfl) (.trans (by kernel_rfl) h)
noncomputable def zd5 (cf:zaw) (lf:zaj) (p':Value) (n':Int) (st:SS):Option (Value×SS):=
 cond (decide (n'=3)) (
 (zac p').bind fun a=>
 (addr? a).bind fun b=>
 (((st.ro st.next).ld b.1 (b.2+75)).bind (asI .i64)).bind fun c=>
 some (.int .i64 c,st.adv (st.ro st.next).next)) (
 ((aI .shl .i64 1 n').bind (asI .i64)).bind fun d=>
 some (.int .i64 d,st.adv (st.ro st.next).next))
noncomputable abbrev zfT:zaj:=lS Tryd.prog Lk0 Tryd.f22 zaJ
theorem zfU:Lk0.func 22=some (22,Tryd.f22):=by kernel_rfl
theorem zfV [Sym] (p':Value) (n':Int) (st:SS) {r:Value×SS} (h:zd5 cc zfT p' n' st=some r):cc 22 [p',.int .i64 n'] st=some r:=
 zar (li:=zaJ) zav zaB zfU rfl (fun _=>rfl) (.trans (by kernel_rfl) h)
noncomputable def zdR (cf:zaw) (lf:zaj) (p':Value) (n':Int) (st:SS):Option (Value×SS):=
 cond (decide (n'=39)) (
 (zac p').bind fun a=>
 (addr? a).bind fun b=>
 (((st.ro st.next).ld b.1 (b.2+73)).bind (asI .i64)).bind fun c=>
 some (.int .i64 c,st.adv (st.ro st.next).next)) (
 cond (decide (n'=54)) (
 (cf 52 [p'] (st.ro st.next)).bind fun d=>
 ((some d.1).bind (asI .i64)).bind fun e=>
 let f:Int:=IntKind.wrap .i64 (24+e)
 some (.int .i64 f,st.adv d.2.next)) (
 cond (decide (n'=55)) (
 (cf 52 [p'] (st.ro st.next)).bind fun g=>
 ((some g.1).bind (asI .i64)).bind fun h=>
 let i:Int:=IntKind.wrap .i64 (30+h)
 some (.int .i64 i,st.adv g.2.next)) (
 cond (decide (n'=57)) (
 (cf 30 [p'] (st.ro st.next)).bind fun j=>
 ((some j.1).bind (asI .i64)).bind fun k=>
 (zac p').bind fun l=>
 (addr? l).bind fun m=>
 (zaV (ptr m.1 (m.2+61)) 6 k 1).bind fun n=>
 ((j.2.ld n.1 n.2).bind (asI .i64)).bind fun o=>
 some (.int .i64 o,st.adv j.2.next)) (
 cond (decide (n'<36)) (
 some (.int .i64 n',st.adv (st.ro st.next).next)) (
 cond (decide (n'=36)) (
 some (.int .i64 n',st.adv (st.ro st.next).next)) (
 cond (decide (n'=37)) (
 some (.int .i64 n',st.adv (st.ro st.next).next)) (
 cond (decide (n'=38)) (
 some (.int .i64 n',st.adv (st.ro st.next).next)) (
 cond (decide (43≤n')) (
 cond (decide (n'≤45)) (
 some (.int .i64 n',st.adv (st.ro st.next).next)) (
 cond (decide (n'=53)) (
 some (.int .i64 n',st.adv (st.ro st.next).next)) (
 cond (decide (n'=59)) (
 some (.int .i64 n',st.adv (st.ro st.next).next)) (
 some (.int .i64 (-1),st.adv (st.ro st.next).next))))) (
 cond (decide (n'=53)) (
 some (.int .i64 n',st.adv (st.ro st.next).next)) (
 cond (decide (n'=59)) (
 some (.int .i64 n',st.adv (st.ro st.next).next)) (
 some (.int .i64 (-1),st.adv (st.ro st.next).next))))))))))))
noncomputable abbrev zfe:zaj:=lS Tryd.prog Lk0 Tryd.f25 zaJ
theorem zff:Lk0.func 25=some (25,Tryd.f25):=by kernel_rfl
theorem zfg [Sym] (p':Value) (n':Int) (st:SS) {r:Value×SS} (h:zdR cc zfe p' n' st=some r):cc 25 [p',.int .i64 n'] st=some r:=
 zar (li:=zaJ) zav zaB zff rfl (fun _=>rfl) (.trans (by kernel_rfl) h)
def zex:LoopI:=⟨[(0,.any),(141,.int .u32),(142,.int .u32)],[(.exit 7,[])]⟩
def zey:LoopI:=⟨[(0,.any),(11,.int .i64)],[(.exit 5,[])]⟩
def zcD:LoopI:=⟨[(0,.any),(6,.int .i64),(8,.int .u32),(64,.any),(65,.int .i64),(66,.int .i64)],[(.exit 3,[(0,.any),(6,.int .i64),(8,.int .u32)])]⟩
def zcP:LoopI:=⟨[(0,.any),(21,.int .i64),(22,.int .i64)],[(.exit 1,[])]⟩
def zcV (n:Nat):Option LoopI:=cond (Nat.beq n 5) (some zcP) (cond (Nat.beq n 14) (some zcD) (cond (Nat.beq n 24) (some zey) (cond (Nat.beq n 30) (some zex) (none))))
noncomputable def zdS (cf:zaw) (lf:zaj) (p':Value) (w':Value) (a':Int) (st:SS):Option (Value×SS):=
 let a:SS:=st.new (.cells (w':Value).cells.toList 0)
 ((a.ld st.next 5).bind (asI .i64)).bind fun b=>
 (cf 22 [p',.int .i64 b] a).bind fun c=>
 ((some c.1).bind (asI .i64)).bind fun d=>
 ((c.2.ld st.next 7).bind (asI .i64)).bind fun e=>
 cond (decide (e=6)) (
 (lf 5 [p',.int .i64 d,.int .i64 0] c.2).bind fun f=>
 some (.tuple #[],f.2.2)) (
 cond (decide (e=7)) (
 (zac p').bind fun g=>
 (addr? g).bind fun h=>
 (c.2.ld h.1 (h.2+77)).bind fun i=>
 ((lenV i).bind (asI .i64)).bind fun j=>
 let k:Int:=if j<d then j else d
 (zac p').bind fun l=>
 (addr? l).bind fun m=>
 (c.2.ld m.1 (m.2+77)).bind fun n=>
 (c.2.resl n 1 0 k).bind fun o=>
 ((lenV o).bind (asI .i64)).bind fun p=>
 (lf 14 [p',.int .i64 k,.int .u32 0,o,.int .i64 p,.int .i64 0] c.2).bind fun q=>
 (q.2.1[0]?).bind fun r=>
 ((q.2.1[1]?).bind (asI .i64)).bind fun s=>
 ((q.2.1[2]?).bind (asI .u32)).bind fun t=>
 (zac r).bind fun u=>
 (addr? u).bind fun v=>
 (q.2.2.ld v.1 (v.2+77)).bind fun w=>
 (sliceLen w).bind fun x=>
 (q.2.2.resl w 1 s x).bind fun y=>
 (zac r).bind fun z=>
 (addr? z).bind fun A=>
 (zaV (ptr A.1 (A.2+1)) 60 36 1).bind fun B=>
 cond (zhv w (ptr B.1 B.2)) (
 (q.2.2.st B.1 B.2 [.int .u32 t]).bind fun C=>
 (zac r).bind fun D=>
 (addr? D).bind fun E=>
 (C.stV E.1 (E.2+77) 1 y).bind fun F=>
 some (.tuple #[],F)) (
 none)) (
 cond (decide (e=8)) (
 (zac p').bind fun G=>
 (addr? G).bind fun H=>
 (c.2.st H.1 (H.2+77) [.slice none 0 0]).bind fun I=>
 some (.tuple #[],I)) (
 cond (decide (e=12)) (
 (zac p').bind fun J=>
 (addr? J).bind fun K=>
 (c.2.st K.1 (K.2+76) [.int .u64 0]).bind fun L=>
 (lf 24 [p',.int .i64 0] L).bind fun M=>
 some (.tuple #[],M.2.2)) (
 cond (decide (e=13)) (
 (zac p').bind fun N=>
 (addr? N).bind fun O=>
 (c.2.st O.1 (O.2+77) [.slice none 0 0]).bind fun P=>
 (zac p').bind fun Q=>
 (addr? Q).bind fun R=>
 (zaV (ptr R.1 (R.2+1)) 60 23 1).bind fun S=>
 ((P.ld S.1 S.2).bind (asI .u32)).bind fun T=>
 let U:Int:=if 8<T then 8 else T
 (lf 30 [p',.int .u32 U,.int .u32 0] P).bind fun V=>
 some (.tuple #[],V.2.2)) (
 cond (decide (e=14)) (
 let W:Int:=IntKind.wrap .u64 a'
 (zac p').bind fun X=>
 (addr? X).bind fun Y=>
 (c.2.st Y.1 (Y.2+76) [.int .u64 W]).bind fun Z=>
 some (.tuple #[],Z)) (
 some (.tuple #[],c.2)))))))
noncomputable abbrev zaS:zaj:=lS Tryd.prog Lk0 Tryd.f26 zcV
theorem zfh:Lk0.func 26=some (26,Tryd.f26):=by kernel_rfl
theorem zfi [Sym] (p':Value) (w':Value) (a':Int) (st:SS) {r:Value×SS} (h:zdS cc zaS p' w' a' st=some r):cc 26 [p',w',.int .u32 a'] st=some r:=
 zar (li:=zcV) zav zaB zfh rfl (fun _=>rfl) (.trans (by kernel_rfl) h)
noncomputable def zbq (cf:zaw) (lf:zaj) (p':Value) (t21':Int) (t22':Int) (st:SS):Option (Nat×List Value×SS):=
 cond (decide (t22'<t21')) (
 (zac p').bind fun a=>
 (addr? a).bind fun b=>
 (st.ld b.1 (b.2+77)).bind fun c=>
 ((lenV c).bind (asI .i64)).bind fun d=>
 cond (decide (d<256)) (
 (zac p').bind fun e=>
 (addr? e).bind fun f=>
 (st.ld f.1 (f.2+77)).bind fun g=>
 (zac p').bind fun h=>
 (addr? h).bind fun i=>
 (zaV (ptr i.1 (i.2+1)) 60 36 1).bind fun j=>
 ((st.ld j.1 j.2).bind (asI .u32)).bind fun k=>
 let l:Int:=IntKind.wrap .i64 (8*t22')
 ((aI .shr .u32 k l).bind (asI .u32)).bind fun m=>
 let n:Int:=IntKind.wrap .u8 m
 let o:SS:=st.new (.cells ([.int .u8 n]) 1)
 (o.app 1 1 g (.slice (some ⟨st.next,0,none⟩) 1 1)).bind fun p=>
 (zac p').bind fun q=>
 (addr? q).bind fun r=>
 (p.2.stV r.1 (r.2+77) 1 p.1).bind fun s=>
 let t:Int:=IntKind.wrap .i64 (t22'+1)
 lf 5 [p',.int .i64 t21',.int .i64 t] s) (
 let u:Int:=IntKind.wrap .i64 (t22'+1)
 lf 5 [p',.int .i64 t21',.int .i64 u] st)) (
 some (0,[],st))
theorem zbB [Sym] (p':Value) (t21':Int) (t22':Int) (st:SS) {r:Nat×List Value×SS} (h:zbq cc zaS p' t21' t22' st=some r):zaS 5 [p',.int .i64 t21',.int .i64 t22'] st=some r:=
 zcJ zav zaB (key:=5) (I:=zcP) rfl (by kernel_rfl) (by kernel_rfl) rfl rfl (.trans (by kernel_rfl) h)
noncomputable def zbV (cf:zaw) (lf:zaj) (p':Value) (n':Int) (x':Int) (t64':Value) (t65':Int) (t66':Int) (st:SS):Option (Nat×List Value×SS):=
 cond (decide (t66'<t65')) (
 (zbh t64' t66' 1).bind fun a=>
 ((st.ld a.1 a.2).bind (asI .u8)).bind fun b=>
 let c:Int:=IntKind.wrap .u32 b
 let d:Int:=IntKind.wrap .i64 (8*t66')
 ((aI .shl .u32 c d).bind (asI .u32)).bind fun e=>
 let f:Int:=orI .u32 x' e
 let g:Int:=IntKind.wrap .i64 (t66'+1)
 lf 14 [p',.int .i64 n',.int .u32 f,t64',.int .i64 t65',.int .i64 g] st) (
 some (0,[p',.int .i64 n',.int .u32 x'],st))
theorem zcc [Sym] (p':Value) (n':Int) (x':Int) (t64':Value) (t65':Int) (t66':Int) (st:SS) {r:Nat×List Value×SS} (h:zbV cc zaS p' n' x' t64' t65' t66' st=some r):zaS 14 [p',.int .i64 n',.int .u32 x',t64',.int .i64 t65',.int .i64 t66'] st=some r:=
 zcJ zav zaB (key:=14) (I:=zcD) rfl (by kernel_rfl) (by kernel_rfl) rfl rfl (.trans (by kernel_rfl) h)
noncomputable def zdT (cf:zaw) (lf:zaj) (p':Value) (w':Value) (a':Int) (st:SS):Option (Value×SS):=
 let a:SS:=st.new (.cells (w':Value).cells.toList 0)
 ((a.ld st.next 11).bind (asI .i64)).bind fun b=>
 cond (decide (b=1)) (
 (zac p').bind fun c=>
 (addr? c).bind fun d=>
 (a.ld d.1 d.2).bind fun e=>
 (zac p').bind fun f=>
 (addr? f).bind fun g=>
 ((a.ld g.1 (g.2+73)).bind (asI .i64)).bind fun h=>
 (cf 53 [e,.int .i64 h,.int .u32 a'] a).bind fun i=>
 ((some i.1).bind (asI .i64)).bind fun j=>
 some (.tuple #[],i.2)) (
 cond (decide (b=2)) (
 (zac p').bind fun k=>
 (addr? k).bind fun l=>
 (a.ld l.1 l.2).bind fun m=>
 (cf 54 [m] a).bind fun n=>
 (zac p').bind fun o=>
 (addr? o).bind fun p=>
 (n.2.ld p.1 p.2).bind fun q=>
 (zac p').bind fun r=>
 (addr? r).bind fun s=>
 ((n.2.ld s.1 (s.2+84)).bind (asI .u32)).bind fun t=>
 (cf 28 [q,.int .u32 t] n.2).bind fun u=>
 some (.tuple #[],u.2)) (
 cond (decide (b=3)) (
 (zac p').bind fun v=>
 (addr? v).bind fun w=>
 (a.ld w.1 w.2).bind fun x=>
 (zac p').bind fun y=>
 (addr? y).bind fun z=>
 (a.ld z.1 z.2).bind fun A=>
 (cf 33 [A] (a.ro a.next)).bind fun B=>
 ((some B.1).bind (asI .u32)).bind fun C=>
 let D:Int:=orI .u32 C 134217728
 (cf 28 [x,.int .u32 D] (B.2.ro a.lim)).bind fun E=>
 some (.tuple #[],E.2)) (
 cond (decide (b=4)) (
 (zac p').bind fun F=>
 (addr? F).bind fun G=>
 (a.ld G.1 G.2).bind fun H=>
 (zac p').bind fun I=>
 (addr? I).bind fun J=>
 (a.ld J.1 J.2).bind fun K=>
 (cf 33 [K] (a.ro a.next)).bind fun L=>
 ((some L.1).bind (asI .u32)).bind fun M=>
 let N:Int:=zeh .u32 M 134217728
 (cf 28 [H,.int .u32 N] (L.2.ro a.lim)).bind fun O=>
 some (.tuple #[],O.2)) (
 cond (decide (b=6)) (
 (cf 52 [p'] (a.ro a.next)).bind fun P=>
 ((some P.1).bind (asI .i64)).bind fun Q=>
 (zac p').bind fun R=>
 (addr? R).bind fun S=>
 (((P.2.ro a.lim).ld S.1 (S.2+73)).bind (asI .i64)).bind fun T=>
 (zac p').bind fun U=>
 (addr? U).bind fun V=>
 (zaV (ptr V.1 (V.2+61)) 6 Q 1).bind fun W=>
 ((P.2.ro a.lim).st W.1 W.2 [.int .i64 T]).bind fun X=>
 some (.tuple #[],X)) (
 cond (decide (b=7)) (
 (zac p').bind fun Y=>
 (addr? Y).bind fun Z=>
 ((a.ld Z.1 (Z.2+73)).bind (asI .i64)).bind fun aA=>
 (zac p').bind fun aB=>
 (addr? aB).bind fun aC=>
 (a.st aC.1 (aC.2+74) [.int .i64 aA]).bind fun aD=>
 some (.tuple #[],aD)) (
 cond (decide (b=15)) (
 let aE:Int:=zgK .u32 a' 15
 let aF:Int:=IntKind.wrap .i64 aE
 (zac p').bind fun aG=>
 (addr? aG).bind fun aH=>
 (a.st aH.1 (aH.2+73) [.int .i64 aF]).bind fun aI=>
 some (.tuple #[],aI)) (
 cond (decide (b=16)) (
 ((a.ld st.next 4).bind (asI .i64)).bind fun aJ=>
 let aK:Int:=if 5<aJ then 5 else aJ
 (zac p').bind fun aL=>
 (addr? aL).bind fun aM=>
 (zaV (ptr aM.1 (aM.2+61)) 6 aK 1).bind fun aN=>
 ((a.ld aN.1 aN.2).bind (asI .i64)).bind fun aO=>
 let aP:Int:=if 0>aO then 0 else aO
 (zac p').bind fun aQ=>
 (addr? aQ).bind fun aR=>
 (a.st aR.1 (aR.2+73) [.int .i64 aP]).bind fun aS=>
 some (.tuple #[],aS)) (
 cond (decide (b=17)) (
 (zac p').bind fun aT=>
 (addr? aT).bind fun aU=>
 (a.ld aU.1 (aU.2+67+4)).bind fun aV=>
 ((lenV aV).bind (asI .i64)).bind fun aW=>
 cond (decide (0<aW)) (
 (zac p').bind fun aX=>
 (addr? aX).bind fun aY=>
 (a.ld aY.1 (aY.2+67+4)).bind fun aZ=>
 (cf 30 [p'] (a.ro a.next)).bind fun bA=>
 ((some bA.1).bind (asI .i64)).bind fun bB=>
 (zbh aZ bB 2).bind fun bC=>
 (((bA.2.ro a.lim).ld bC.1 (bC.2+1)).bind (asI .i64)).bind fun bD=>
 (zac p').bind fun bE=>
 (addr? bE).bind fun bF=>
 ((bA.2.ro a.lim).st bF.1 (bF.2+75) [.int .i64 bD]).bind fun bG=>
 some (.tuple #[],bG)) (
 some (.tuple #[],a))) (
 cond (decide (b=18)) (
 (cf 55 [p'] a).bind fun bH=>
 some (.tuple #[],bH.2)) (
 cond (decide (b=20)) (
 ((a.ld st.next 4).bind (asI .i64)).bind fun bI=>
 let bJ:Int:=IntKind.wrap .u32 bI
 (zac p').bind fun bK=>
 (addr? bK).bind fun bL=>
 (zaV (ptr bL.1 (bL.2+1)) 60 59 1).bind fun bM=>
 (a.st bM.1 bM.2 [.int .u32 bJ]).bind fun bN=>
 some (.tuple #[],bN)) (
 cond (decide (b=21)) (
 (zac p').bind fun bO=>
 (addr? bO).bind fun bP=>
 (zaV (ptr bP.1 (bP.2+1)) 60 21 1).bind fun bQ=>
 ((a.ld bQ.1 bQ.2).bind (asI .u32)).bind fun bR=>
 (cf 56 [.int .u32 bR] a).bind fun bS=>
 ((some bS.1).bind (asI .i64)).bind fun bT=>
 let bU:Int:=IntKind.wrap .i64 (4*bT)
 let bV:Int:=IntKind.wrap .u32 bU
 (zac p').bind fun bW=>
 (addr? bW).bind fun bX=>
 (zaV (ptr bX.1 (bX.2+1)) 60 23 1).bind fun bY=>
 (bS.2.st bY.1 bY.2 [.int .u32 bV]).bind fun bZ=>
 some (.tuple #[],bZ)) (
 some (.tuple #[],a)))))))))))))
noncomputable abbrev zfj:zaj:=lS Tryd.prog Lk0 Tryd.f27 zaJ
theorem zfk:Lk0.func 27=some (27,Tryd.f27):=by kernel_rfl
theorem zfl [Sym] (p':Value) (w':Value) (a':Int) (st:SS) {r:Value×SS} (h:zdT cc zfj p' w' a' st=some r):cc 27 [p',w',.int .u32 a'] st=some r:=
 zar (li:=zaJ) zav zaB zfk rfl (fun _=>rfl) (.trans (by kernel_rfl) h)
def zcE:LoopI:=⟨[(0,.any),(3,.int .i64)],[(.exit 0,[]),(.ret,[(2,.int .i64)])]⟩
def zcQ (n:Nat):Option LoopI:=cond (Nat.beq n 2) (some zcE) (none)
noncomputable def zdl (cf:zaw) (lf:zaj) (p':Value) (st:SS):Option (Value×SS):=
 (zac p').bind fun a=>
 (addr? a).bind fun b=>
 ((st.ro st.next).ld b.1 (b.2+67+4)).bind fun c=>
 ((lenV c).bind (asI .i64)).bind fun d=>
 let e:Int:=IntKind.wrap .i64 (d-1)
 (lf 2 [p',.int .i64 e] (st.ro st.next)).bind fun f=>
 cond (Nat.beq f.1 0) (
 some (.int .i64 0,st.adv f.2.2.next)) (
 ((f.2.1[0]?).bind (asI .i64)).bind fun g=>
 some (.int .i64 g,st.adv f.2.2.next))
noncomputable abbrev zbj:zaj:=lS Tryd.prog Lk0 Tryd.f30 zcQ
theorem zeX:Lk0.func 30=some (30,Tryd.f30):=by kernel_rfl
theorem zeY [Sym] (p':Value) (st:SS) {r:Value×SS} (h:zdl cc zbj p' st=some r):cc 30 [p'] st=some r:=
 zar (li:=zcQ) zav zaB zeX rfl (fun _=>rfl) (.trans (by kernel_rfl) h)
noncomputable def zbk (cf:zaw) (lf:zaj) (p':Value) (i':Int) (st:SS):Option (Nat×List Value×SS):=
 cond (decide (0≤i')) (
 (zac p').bind fun a=>
 (addr? a).bind fun b=>
 (st.ld b.1 (b.2+67+4)).bind fun c=>
 (zbh c i' 2).bind fun d=>
 ((st.ld d.1 d.2).bind (asI .u8)).bind fun e=>
 cond (!(decide (e=98))) (
 some (1,[.int .i64 i'],st)) (
 let f:Int:=IntKind.wrap .i64 (i'-1)
 lf 2 [p',.int .i64 f] st)) (
 some (0,[],st))
theorem zbs [Sym] (p':Value) (i':Int) (st:SS) {r:Nat×List Value×SS} (h:zbk cc zbj p' i' st=some r):zbj 2 [p',.int .i64 i'] st=some r:=
 zcJ zav zaB (key:=2) (I:=zcE) rfl (by kernel_rfl) (by kernel_rfl) rfl rfl (.trans (by kernel_rfl) h)
noncomputable def zd6 (cf:zaw) (lf:zaj) (p':Value) (op':Value) (st:SS):Option (Value×SS):=
 let a:SS:=st.new (.cells (op':Value).cells.toList 0)
 (a.ldN st.next 0 5).bind fun b=>
 (zac p').bind fun c=>
 (addr? c).bind fun d=>
 (a.stV d.1 (d.2+67) 5 b).bind fun e=>
 (zac p').bind fun f=>
 (addr? f).bind fun g=>
 (e.st g.1 (g.2+72) [.int .i64 (-1)]).bind fun h=>
 (zac p').bind fun i=>
 (addr? i).bind fun j=>
 (h.st j.1 (j.2+73) [.int .i64 0]).bind fun k=>
 (zac p').bind fun l=>
 (addr? l).bind fun m=>
 (k.st m.1 (m.2+74) [.int .i64 (-1)]).bind fun n=>
 (zac p').bind fun o=>
 (addr? o).bind fun p=>
 (n.st p.1 (p.2+75) [.int .i64 4]).bind fun q=>
 (zac p').bind fun r=>
 (addr? r).bind fun s=>
 (q.st s.1 (s.2+61) [.int .i64 (-1),.int .i64 (-1),.int .i64 (-1),.int .i64 (-1),.int .i64 (-1),.int .i64 (-1)]).bind fun t=>
 (zac p').bind fun u=>
 (addr? u).bind fun v=>
 (t.st v.1 (v.2+82) [.bool false]).bind fun w=>
 (zac p').bind fun x=>
 (addr? x).bind fun y=>
 (w.st y.1 (y.2+83) [.bool false]).bind fun z=>
 (zac p').bind fun A=>
 (addr? A).bind fun B=>
 (zhs B.1 (B.2+1) 60 1 24 36).bind fun C=>
 (z.clr [.int .u32 0] C).bind fun D=>
 (cf 58 [p'] D).bind fun E=>
 some (.tuple #[],E.2)
noncomputable abbrev zfW:zaj:=lS Tryd.prog Lk0 Tryd.f41 zaJ
theorem zfX:Lk0.func 41=some (41,Tryd.f41):=by kernel_rfl
theorem zfY [Sym] (p':Value) (op':Value) (st:SS) {r:Value×SS} (h:zd6 cc zfW p' op' st=some r):cc 41 [p',op'] st=some r:=
 zar (li:=zaJ) zav zaB zfX rfl (fun _=>rfl) (.trans (by kernel_rfl) h)
noncomputable def ze5 (cf:zaw) (lf:zaj) (p':Value) (st:SS):Option (Value×SS):=
 (zac p').bind fun a=>
 (addr? a).bind fun b=>
 (((st.ro st.next).ld b.1 (b.2+72)).bind (asI .i64)).bind fun c=>
 let d:Int:=if 0>c then 0 else c
 let e:Int:=if 5<d then 5 else d
 some (.int .i64 e,st.adv (st.ro st.next).next)
noncomputable abbrev zg3:zaj:=lS Tryd.prog Lk0 Tryd.f52 zaJ
theorem zg4:Lk0.func 52=some (52,Tryd.f52):=by kernel_rfl
theorem zg5 [Sym] (p':Value) (st:SS) {r:Value×SS} (h:ze5 cc zg3 p' st=some r):cc 52 [p'] st=some r:=
 zar (li:=zaJ) zav zaB zg4 rfl (fun _=>rfl) (.trans (by kernel_rfl) h)
noncomputable def zcy (cf:zaw) (lf:zaj) (p':Value) (st:SS):Option (Value×SS):=
 (zac p').bind fun a=>
 (addr? a).bind fun b=>
 (st.st b.1 (b.2+75) [.int .i64 4]).bind fun c=>
 (zac p').bind fun d=>
 (addr? d).bind fun e=>
 (c.ld e.1 (e.2+67+4)).bind fun f=>
 ((lenV f).bind (asI .i64)).bind fun g=>
 cond (decide (0<g)) (
 (zac p').bind fun h=>
 (addr? h).bind fun i=>
 (c.ld i.1 (i.2+67+4)).bind fun j=>
 (zbh j 0 2).bind fun k=>
 ((c.ld k.1 (k.2+1)).bind (asI .i64)).bind fun l=>
 (zac p').bind fun m=>
 (addr? m).bind fun n=>
 (c.st n.1 (n.2+75) [.int .i64 l]).bind fun o=>
 some (.tuple #[],o)) (
 some (.tuple #[],c))
noncomputable abbrev zfm:zaj:=lS Tryd.prog Lk0 Tryd.f58 zaJ
theorem zfn:Lk0.func 58=some (58,Tryd.f58):=by kernel_rfl
theorem zcW [Sym] (p':Value) (st:SS) {r:Value×SS} (h:zcy cc zfm p' st=some r):cc 58 [p'] st=some r:=
 zar (li:=zaJ) zav zaB zfn rfl (fun _=>rfl) (.trans (by kernel_rfl) h)
noncomputable def zdU (cf:zaw) (lf:zaj) (p':Value) (st:SS):Option (Value×SS):=
 (zac p').bind fun a=>
 (addr? a).bind fun b=>
 (st.ld b.1 (b.2+77)).bind fun c=>
 (st.app 1 1 (.slice none 0 0) c).bind fun d=>
 some (d.1,d.2)
noncomputable abbrev zfo:zaj:=lS Tryd.prog Lk0 Tryd.f12 zaJ
theorem zfp:Lk0.func 12=some (12,Tryd.f12):=by kernel_rfl
theorem zfq [Sym] (p':Value) (st:SS) {r:Value×SS} (h:zdU cc zfo p' st=some r):cc 12 [p'] st=some r:=
 zar (li:=zaJ) zav zaB zfp rfl (fun _=>rfl) (.trans (by kernel_rfl) h)
end Go.Proofs.YtlpigjmjgclgiaaDoorE
namespace Go.Proofs.YtlpigjmjgclgiaaDoorE
set_option maxRecDepth 100000
open Go Go.E Go.Proofs
def up (r:Nat→Int) (i:Nat) (x:Int):Nat→Int:=fun j=>if j=i then x else r j
def nums (k:IntKind) (n:Nat) (r:Nat→Int):List Value:=(List.range n).map fun i=>Value.int k (r i)
theorem zao (k:IntKind) (n:Nat) (r:Nat→Int):(nums k n r).length=n:=by simp [nums]
theorem zdV (k:IntKind) {n i:Nat} (r:Nat→Int) (h:i<n):(nums k n r)[i]?=some (.int k (r i)):=by simp [nums,h]
theorem zja (k:IntKind) {n i:Nat} (r:Nat→Int) (h:i<n) (x:Int):(nums k n r).set i (.int k x)=nums k n (up r i x):=by
 apply List.ext_getElem?
 intro j
 by_cases hj:j<n
 ·rw [zdV k _ hj,List.getElem?_set]
  unfold up
  by_cases hi:i=j
  ·subst hi;simp [zao,h]
  ·rw [if_neg hi,zdV k _ hj,if_neg (fun e=>hi e.symm)]
 ·rw [List.getElem?_eq_none (by simp [zao];omega),List.getElem?_eq_none (by simp [zao];omega)]
theorem zlL (k:IntKind) (n:Nat) (r:Nat→Int):(nums k n r).all one=true:=by
 rw [List.all_eq_true];intro x hx;simp [nums] at hx;obtain ⟨i,_,rfl⟩:=hx;rfl
structure FM where
 r:Nat→Int
 psl:Int
 ksp:Int
 usp:Int
 steps:Value
def FM.row (f:FM):List Value:=nums .u32 16 f.r++[.int .u32 f.psl,.int .u32 f.ksp,.int .u32 f.usp,f.steps]
theorem FM.len (f:FM):f.row.length=20:=by unfold FM.row;rw [List.length_append,zao];rfl
theorem FM.get (f:FM) {i:Nat} (h:i<16):f.row[i]?=some (.int .u32 (f.r i)):=by unfold FM.row;rw [List.getElem?_append_left (by rw [zao];exact h),zdV _ _ h]
theorem FM.set (f:FM) {i:Nat} (h:i<16) (x:Int):f.row.set i (.int .u32 x)=FM.row { f with r:=up f.r i x }:=by unfold FM.row;rw [List.set_append_left _ _ (by rw [zao];exact h),zja _ _ h]
theorem FM.g16 (f:FM):f.row[16]?=some (.int .u32 f.psl):=rfl
theorem FM.g17 (f:FM):f.row[17]?=some (.int .u32 f.ksp):=rfl
theorem FM.g19 (f:FM):f.row[19]?=some f.steps:=rfl
theorem FM.s16 (f:FM) (x:Int):f.row.set 16 (.int .u32 x)=FM.row { f with psl:=x }:=rfl
theorem FM.s17 (f:FM) (x:Int):f.row.set 17 (.int .u32 x)=FM.row { f with ksp:=x }:=rfl
theorem FM.s18 (f:FM) (x:Int):f.row.set 18 (.int .u32 x)=FM.row { f with usp:=x }:=rfl
theorem FM.s19 (f:FM) (x:Value):f.row.set 19 x=FM.row { f with steps:=x }:=rfl
structure PM where
 fp:Nat
 r:Nat→Int
 k:Nat→Int
 code:Int
 name:ByteArray
 cls:Int
 alu:Int
 ops:Value
 cur:Int
 rn:Int
 rx:Int
 own:Int
 row:Int
 buf:Value
 u:Fl
 div:Bool
 fl:Bool
 was:Int
 wt:Int
 wx:Int
 ws:Int
def PM.tl (m:PM):List Value:=[.int .i64 m.code,.string m.name,.int .i64 m.cls,.int .i64 m.alu,m.ops,.int .i64 m.cur,.int .i64 m.rn,.int .i64 m.rx,.int .i64 m.own,.int .u64 m.row,m.buf,.bool m.u.n,.bool m.u.z,.bool m.u.v,.bool m.u.c,.bool m.div,.bool m.fl,.int .u32 m.was,.int .i64 m.wt,.int .u32 m.wx,.int .i64 m.ws]
def PM.rw (m:PM):List Value:=ptr m.fp 0::(nums .u32 60 m.r++(nums .i64 6 m.k++m.tl))
theorem PM.len (m:PM):m.rw.length=88:=by unfold PM.rw;simp only [List.length_cons,List.length_append,zao];rfl
theorem PM.g0 (m:PM):m.rw[0]?=some (ptr m.fp 0):=rfl
theorem PM.getR (m:PM) {i:Nat} (h:i<60):m.rw[1+i]?=some (.int .u32 (m.r i)):=by
 unfold PM.rw;rw [Nat.add_comm,zgs,List.getElem?_append_left (by rw [zao];exact h),zdV _ _ h]
theorem PM.setR (m:PM) {i:Nat} (h:i<60) (x:Int):m.rw.set (1+i) (.int .u32 x)=PM.rw { m with r:=up m.r i x }:=by
 unfold PM.rw;rw [Nat.add_comm,List.set_cons_succ,List.set_append_left _ _ (by rw [zao];exact h),zja _ _ h];rfl
theorem PM.getK (m:PM) {i:Nat} (h:i<6):m.rw[61+i]?=some (.int .i64 (m.k i)):=by
 unfold PM.rw
 rw [show 61+i=(60+i)+1 by omega,zgs,List.getElem?_append_right (by rw [zao];omega),zao,Nat.add_sub_cancel_left,List.getElem?_append_left (by rw [zao];exact h),zdV _ _ h]
theorem PM.getT (m:PM) (j:Nat):m.rw[67+j]?=m.tl[j]?:=by
 unfold PM.rw
 rw [show 67+j=(66+j)+1 by omega,zgs,List.getElem?_append_right (by rw [zao];omega),zao,show 66+j-60=6+j by omega,List.getElem?_append_right (by rw [zao];omega),zao,Nat.add_sub_cancel_left]
theorem PM.setT (m:PM) (j:Nat) (v:Value):m.rw.set (67+j) v=ptr m.fp 0::(nums .u32 60 m.r++(nums .i64 6 m.k++m.tl.set j v)):=by
 unfold PM.rw
 rw [show 67+j=(66+j)+1 by omega,List.set_cons_succ,List.set_append_right _ _ (by rw [zao];omega),zao,show 66+j-60=6+j by omega,List.set_append_right _ _ (by rw [zao];omega),zao,Nat.add_sub_cancel_left]
theorem PM.g71 (m:PM):m.rw[71]?=some m.ops:=m.getT 4
theorem PM.g72 (m:PM):m.rw[72]?=some (.int .i64 m.cur):=m.getT 5
theorem PM.g73 (m:PM):m.rw[73]?=some (.int .i64 m.rn):=m.getT 6
theorem PM.g74 (m:PM):m.rw[74]?=some (.int .i64 m.rx):=m.getT 7
theorem PM.g75 (m:PM):m.rw[75]?=some (.int .i64 m.own):=m.getT 8
theorem PM.g77 (m:PM):m.rw[77]?=some m.buf:=m.getT 10
theorem PM.g85 (m:PM):m.rw[85]?=some (.int .i64 m.wt):=m.getT 18
theorem PM.g86 (m:PM):m.rw[86]?=some (.int .u32 m.wx):=m.getT 19
theorem PM.g87 (m:PM):m.rw[87]?=some (.int .i64 m.ws):=m.getT 20
theorem PM.s72 (m:PM) (x:Int):m.rw.set 72 (.int .i64 x)=PM.rw { m with cur:=x }:=m.setT 5 _
theorem PM.s73 (m:PM) (x:Int):m.rw.set 73 (.int .i64 x)=PM.rw { m with rn:=x }:=m.setT 6 _
theorem PM.s74 (m:PM) (x:Int):m.rw.set 74 (.int .i64 x)=PM.rw { m with rx:=x }:=m.setT 7 _
theorem PM.s75 (m:PM) (x:Int):m.rw.set 75 (.int .i64 x)=PM.rw { m with own:=x }:=m.setT 8 _
theorem PM.s77 (m:PM) (x:Value):m.rw.set 77 x=PM.rw { m with buf:=x }:=m.setT 10 _
theorem PM.s82 (m:PM) (x:Bool):m.rw.set 82 (.bool x)=PM.rw { m with div:=x }:=m.setT 15 _
theorem PM.s83 (m:PM) (x:Bool):m.rw.set 83 (.bool x)=PM.rw { m with fl:=x }:=m.setT 16 _
theorem PM.s84 (m:PM) (x:Int):m.rw.set 84 (.int .u32 x)=PM.rw { m with was:=x }:=m.setT 17 _
end Go.Proofs.YtlpigjmjgclgiaaDoorE
namespace Go.E
open Go
def SL (B:Nat) (s:SS) (z:Nat) (v:Value) (c:List Value) (n:Nat):Prop:=
 c.length=n*z∧((v=.slice none 0 0∧n=0)∨∃ j o cap C,v=.slice (some ⟨j,o,none⟩) n cap∧n≤cap∧s.mem.get j=some (.cells C z)∧o+cap*z≤C.length∧(C.drop o).take (n*z)=c∧B≤j∧j<s.next)
section
variable {B : Nat} {s s' : SS} {z n m : Nat} {v : Value} {c row : List Value}
theorem SL.nil:SL B s z (.slice none 0 0) [] 0:=⟨by simp,.inl ⟨rfl,rfl⟩⟩
theorem SL.cell (h:SL B s z v c n):v.cells.toList=[v]∧one v=true:=by
 obtain ⟨_,⟨rfl,_⟩ | ⟨j,o,cap,C,rfl,_⟩⟩:=h<;>exact ⟨rfl,rfl⟩
theorem SL.len (h:SL B s z v c n):lenV v=some (.int .i64 (n:Int)):=by
 obtain ⟨_,⟨rfl,rfl⟩ | ⟨j,o,cap,C,rfl,_⟩⟩:=h<;>rfl
theorem SL.lenI (h:SL B s z v c n):(lenV v).bind (asI .i64)=some (n:Int):=by rw [h.len];rfl
theorem SL.sl (h:SL B s z v c n):sliceLen v=some (n:Int):=by
 obtain ⟨_,⟨rfl,rfl⟩ | ⟨j,o,cap,C,rfl,_⟩⟩:=h<;>rfl
theorem SL.blk (h:SL B s z v c n):∀ i o l q,v=.slice (some ⟨i,o,none⟩) l q→B≤i∧i<s.next:=fun i o l q e=>by
 obtain ⟨_,⟨rfl,_⟩ | ⟨j,o',cap,C,rfl,_,_,_,_,h5,h6⟩⟩:=h
 ·cases e
 ·cases e;exact ⟨h5,h6⟩
theorem SL.keep (h:SL B s z v c n) (hn:s.next≤s'.next) (hk:∀ i o l q,v=.slice (some ⟨i,o,none⟩) l q→s'.mem.get i=s.mem.get i):SL B s' z v c n:=by
 refine ⟨h.1,h.2.imp (fun h=>h) ?_⟩
 rintro ⟨j,o,cap,C,e,h1,h2,h3,h4,h5,h6⟩
 exact ⟨j,o,cap,C,e,h1,(hk j o _ _ e).trans h2,h3,h4,h5,by omega⟩
theorem SL.ext (h:SL B s z v c n) (x:Ext s s'):SL B s' z v c n:=h.keep x.next fun i o l q e=>x.keep i (h.blk i o l q e).2
theorem SL.mod {S:List Nat} (h:SL B s z v c n) (m:Mod S s s') (hS:∀ j,j∈S→j<B):SL B s' z v c n:=h.keep m.next fun i o l q e=>m.keep i (h.blk i o l q e).2 fun hm=>by have:=hS i hm;have:=(h.blk i o l q e).1;omega
theorem SL.up {B':Nat} (h:SL B s z v c n) (hb:∀ i o l q,v=.slice (some ⟨i,o,none⟩) l q→B'≤i):SL B' s z v c n:=by
 refine ⟨h.1,h.2.imp (fun h=>h) ?_⟩
 rintro ⟨j,o,cap,C,e,h1,h2,h3,h4,h5,h6⟩
 exact ⟨j,o,cap,C,e,h1,h2,h3,h4,hb j o _ _ e,h6⟩
theorem SL.push {by':Nat} (h:SL B s z v c n) (hb:B≤s.next) (hl:s.lim≤B) (hr:row.length=z) (hz:0<z) (h1:row.all one=true) (hs:(n+2)*by'≤2^44) (hn:n+1≤2^44):
  ∃ s',(s.new (.cells row z)).app z by' v (.slice (some ⟨s.next,0,none⟩) 1 1)=some (.slice (some ⟨s.next+1,0,none⟩) (n+1) (n+1),s')∧s'.next=s.next+2∧s'.lim=s.lim∧SL B s' z (.slice (some ⟨s.next+1,0,none⟩) (n+1) (n+1)) (c++row) (n+1)∧
   ∀ i,i<s.next→(∀ o l q,v≠.slice (some ⟨i,o,none⟩) l q)→s'.mem.get i=s.mem.get i:=by
 have hx:(s.new (.cells row z)).first z 1 (.slice (some ⟨s.next,0,none⟩) 1 1)=some row:=by
  unfold SS.first
  simp only [SS.new_get,zob]
  exact zcB (by omega)
 have e1:zcq (.slice (some ⟨s.next,0,none⟩) 1 1)=some 1:=rfl
 have m0:Nat.beq 1 0=false:=rfl
 have hlen:(c++row).length=(n+1)*z:=by rw [List.length_append,h.1,hr,Nat.add_mul];omega
 obtain ⟨hc,⟨rfl,rfl⟩ | ⟨j,o,cap,C,rfl,h1',h2,h3,h4,h5,h6⟩⟩:=h
 ·have:c=[]:=by simpa using hc
  subst this
  refine ⟨(s.new (.cells row z)).new (.cells row z),?_,rfl,rfl,⟨hlen,.inr ⟨s.next+1,0,1,row,rfl,zlr _,SS.new_get (st:=s.new (.cells row z)),by omega,?_,by omega,by show s.next+1<s.next+1+1;omega⟩⟩,fun i hi _=>?_⟩
  ·unfold SS.app
   rw [e1]
   simp only [zob,m0,zcf]
   have q:(Nat.ble ((1+1)*by') (2^44)&&Nat.ble 1 (2^44))=true:=by
    simp only [zae,Nat.ble_eq];exact ⟨by simpa using hs,by omega⟩
   rw [q,hx]
   rfl
  ·rw [List.drop_zero,Nat.zero_add,Nat.one_mul,List.take_of_length_le (by omega)];rfl
  ·rw [SS.new_old (by simp;omega),SS.new_old (by omega)]
 ·have hj:(s.new (.cells row z)).mem.get j=some (.cells C z):=by rw [SS.new_old (by omega)];exact h2
  have hcut:cut C o (n*z)=some c:=zfL h4 hc
  refine ⟨((s.new (.cells row z)).set j none).new (.cells (c++row) z),?_,rfl,rfl,⟨hlen,.inr ⟨s.next+1,0,n+1,c++row,rfl,zlr _,SS.new_get (st:=(s.new (.cells row z)).set j none),by omega,?_,by omega,by show s.next+1<s.next+1+1;omega⟩⟩,fun i hi hne=>?_⟩
  ·unfold SS.app
   rw [e1]
   simp only [zob,m0,zcf]
   have q:(Nat.ble ((n+1+1)*by') (2^44)&&Nat.ble (n+1) (2^44)&&Nat.ble (s.new (.cells row z)).lim j)=true:=by
    simp only [zae,Nat.ble_eq]
    exact ⟨⟨hs,hn⟩,by show s.lim≤j;omega⟩
   have q2:(Nat.beq z z&&(Nat.blt cap (n+1)||Nat.ble (o+cap*z) C.length))=true:=by
    have a1:Nat.ble (o+cap*z) C.length=true:=by rw [Nat.ble_eq];omega
    have a2:Nat.beq z z=true:=by rw [zad];simp
    rw [a1,a2,Bool.or_true];rfl
   rw [q]
   simp only [zct,hj,zob,q2,hcut,hx,h1]
   rfl
  ·rw [List.drop_zero,List.take_of_length_le (by omega)]
  ·rw [SS.new_old (by simp;omega),SS.set_old (fun e=>hne o _ _ (by rw [e])),SS.new_old (by omega)]
theorem SL.resl (h:SL B s z v c n) {l k:Nat} (hl:l≤k) (hk:k≤n):∃ v',s.resl v z (l:Int) (k:Int)=some v'∧SL B s z v' ((c.drop (l*z)).take ((k-l)*z)) (k-l)∧∀ i o q r,v'=.slice (some ⟨i,o,none⟩) q r→∃ o' q' r',v=.slice (some ⟨i,o',none⟩) q' r':=by
 have hle:=Nat.mul_le_mul_right z hk
 have hle2:=Nat.mul_le_mul_right z hl
 have hlen:((c.drop (l*z)).take ((k-l)*z)).length=(k-l)*z:=by
  rw [List.length_take,List.length_drop,h.1,Nat.sub_mul];omega
 obtain ⟨hc,⟨rfl,rfl⟩ | ⟨j,o,cap,C,rfl,h1,h2,h3,h4,h5,h6⟩⟩:=h
 ·have e0:k=0:=by omega
  have e1:l=0:=by omega
  subst e0;subst e1
  exact ⟨.slice none 0 0,rfl,⟨hlen,.inl ⟨rfl,rfl⟩⟩,fun i o q r e=>by cases e⟩
 ·have hcap:=Nat.mul_le_mul_right z h1
  have e1:decide ((l:Int)≤(k:Int))=true:=zdt (by omega)
  have e2:decide ((k:Int)≤(cap:Int))=true:=zdt (by omega)
  have e0:decide ((0:Int)≤(l:Int))=true:=zdt (by omega)
  have q:(Nat.beq z z||Nat.beq z 0)=true:=by
   have:Nat.beq z z=true:=by rw [zad];simp
   rw [this];rfl
  have hsub:(cap-l)*z=cap*z-l*z:=Nat.sub_mul _ _ _
  have hsub2:(k-l)*z=k*z-l*z:=Nat.sub_mul _ _ _
  by_cases hcl:cap=l
  ·have e3:Nat.beq cap l=true:=by rw [zad];exact zdt hcl
   have hk0:k-l=0:=by omega
   refine ⟨.slice (some ⟨j,o,none⟩) (k-l) (cap-l),?_,⟨hlen,.inr ⟨j,o,cap-l,C,rfl,by omega,h2,by omega,?_,h5,h6⟩⟩,fun i o' q' r e=>by cases e;exact ⟨_,_,_,rfl⟩⟩
   ·unfold SS.resl
    simp only [e0,e1,e2,Bool.and_self,zct,h2,zob,q,Int.toNat_natCast,e3]
   ·rw [hk0];simp
  ·have e3:Nat.beq cap l=false:=by rw [zad];exact zdf hcl
   refine ⟨.slice (some ⟨j,o+l*z,none⟩) (k-l) (cap-l),?_,⟨hlen,.inr ⟨j,o+l*z,cap-l,C,rfl,by omega,h2,by omega,?_,h5,h6⟩⟩,fun i o' q' r e=>by cases e;exact ⟨_,_,_,rfl⟩⟩
   ·unfold SS.resl
    simp only [e0,e1,e2,Bool.and_self,zct,h2,zob,q,Int.toNat_natCast,e3,zcf]
   ·rw [← h4,← List.drop_drop,List.drop_take,List.take_take,Nat.min_eq_left (by omega)]
theorem SL.load (h:SL B s z v c n) {j:Nat} (hj:j<n):∃ p,zbh v (j:Int) z=some p∧s.ldN p.1 p.2 z=some (.agg ((c.drop (j*z)).take z).toArray)∧∀ k x,((c.drop (j*z)).take z)[k]?=some x→s.ld p.1 (p.2+k)=some x:=by
 have hle:(j+1)*z≤n*z:=Nat.mul_le_mul_right z hj
 rw [Nat.add_mul,Nat.one_mul] at hle
 obtain ⟨hc,⟨rfl,rfl⟩ | ⟨i,o,cap,C,rfl,h1,h2,h3,h4,h5,h6⟩⟩:=h
 ·omega
 have e0:zbh (.slice (some ⟨i,o,none⟩) n cap) (j:Int) z=some (i,o+j*z):=by
  unfold zbh
  simp only [zdt (show (0:Int)≤(j:Int) by omega),zdt (show (j:Int)<(n:Int) by omega),Bool.and_self,zct,Int.toNat_natCast]
 have hd:(C.drop (o+j*z)).take z=(c.drop (j*z)).take z:=by
  rw [← h4,← List.drop_drop,List.drop_take,List.take_take,Nat.min_eq_left (by omega)]
 have hlen:((c.drop (j*z)).take z).length=z:=by rw [List.length_take,List.length_drop,hc];omega
 refine ⟨_,e0,?_,fun k x hx=>?_⟩
 ·rw [SS.ldN_cells h2,zfL hd hlen];rfl
 ·rw [SS.ld_cells h2]
  rw [← hd,List.getElem?_take] at hx
  split at hx
  ·rw [List.getElem?_drop] at hx;exact hx
  ·cases hx
end
theorem zak (i k:Nat):zac (ptr i k)=some (ptr i k):=rfl
theorem At.w {st:SS} {c k:Nat} {row row':List Value} {x:Value} (h:At st c row) (hk:k<row.length) (h1:one x=true) (e:row.set k x=row'):∃ st',st.st c k [x]=some st'∧At st' c row'∧Mod [c] st st'∧st'.next=st.next:=by
 subst e;exact h.set1 hk h1
theorem At.wV {st:SS} {c k:Nat} {row row':List Value} {x:Value} (h:At st c row) (hk:k<row.length) (hc:x.cells.toList=[x]) (h1:one x=true) (e:row.set k x=row'):∃ st',st.stV c k 1 x=some st'∧At st' c row'∧Mod [c] st st'∧st'.next=st.next:=by
 subst e;exact h.set1V hc hk h1
end Go.E
namespace Go.Proofs.YtlpigjmjgclgiaaDoorE
open Go Go.E Go.Proofs
theorem za3 (i k:Nat):zb3 (ptr i k)=some false:=rfl
theorem za1 {i k len z:Nat} {n:Nat} (h:n<len):zaV (ptr i k) len (n:Int) z=some (i,k+n*z):=by
 unfold zaV ptr
 simp only [zdt (show (0:Int)≤(n:Int) by omega),zdt (show (n:Int)<(len:Int) by omega),Bool.and_self,zct,Int.toNat_natCast]
def zh4 (f:FM) (n:Int):Int:=if n<0∨15<n then 0 else f.r n.toNat
section
variable {st : SS} {c : Nat} {f : FM}
theorem zjX [Sym] (h:st.mem.get c=some (.cells f.row 0)) (n:Int):cc 31 [ptr c 0,.int .i64 n] st=some (.int .u32 (zh4 f n),st):=by
 refine zgV _ _ st ?_
 unfold ze3 zh4
 simp only [za3,zob,zaG,zcf]
 by_cases h0:n<0
 ·simp only [h0,decide_true,zct,true_or,if_true];rfl
 by_cases h1:15<n
 ·simp only [h0,h1,decide_false,decide_true,zcf,zct,or_true,if_true];rfl
 obtain ⟨k,rfl⟩:∃ k:Nat,n=(k:Int):=⟨n.toNat,by omega⟩
 simp only [h0,h1,decide_false,zcf,or_self,if_false,zak,zai,zob]
 refine bs (za1 (n:=k) (by omega)) (bs (show (((st.ro st.next).ld c (0+k*1)).bind (asI .u32))=some (f.r k) from ?_) rfl)
 show (st.ld c (0+k*1)).bind (asI .u32)=_
 rw [SS.ld_cells h,Nat.zero_add,Nat.mul_one,f.get (by omega)];rfl
theorem zgj [Sym] (h:st.mem.get c=some (.cells f.row 0)):cc 33 [ptr c 0] st=some (.int .u32 f.psl,st):=by
 refine zgY _ st ?_
 unfold ze4
 simp only [za3,zob,zaG,zcf,zak,zai]
 refine bs (show (((st.ro st.next).ld c (0+16)).bind (asI .u32))=some f.psl from ?_) rfl
 show (st.ld c 16).bind (asI .u32)=_
 rw [SS.ld_cells h,f.g16];rfl
def zjb (f:FM) (u:Bool):Int:=cond (u==zbw f.psl) (f.r 14) (cond u f.usp f.ksp)
theorem zla [Sym] (h:st.mem.get c=some (.cells f.row 0)) (u:Bool):∃ n,st.next≤n∧cc 35 [ptr c 0,.bool u] st=some (.int .u32 (zjb f u),st.adv n):=by
 obtain ⟨n,hn,e⟩:=zdh f.psl (st.ro st.next)
 have ld:∀ k,((st.ro st.next).adv n).ld c k=f.row[k]?:=fun k=>SS.ld_cells h
 refine ⟨n,hn,zfS _ _ st ?_⟩
 unfold zd4 zjb
 simp only [za3,zob,zaG,zcf,zak,zai]
 refine bs (show (((st.ro st.next).ld c (0+16)).bind (asI .u32))=some f.psl from by show (st.ld c 16).bind (asI .u32)=_;rw [SS.ld_cells h,f.g16];rfl) ?_
 refine bs e ?_
 simp only [zob,zaG]
 cases hu:(u==zbw f.psl) with
 | true=>
   simp only [zct]
   refine bs (za1 (n:=14) (by omega)) ?_
   refine bs (show (((st.ro st.next).adv n).ld c (0+14*1)).bind (asI .u32)=some (f.r 14) from by rw [ld];rw [show 0+14*1=14 from rfl,f.get (by omega)];rfl) rfl
 | false=>
   simp only [zcf]
   cases u with
   | true=>simp only [zct];refine bs (show (((st.ro st.next).adv n).ld c (0+18)).bind (asI .u32)=some f.usp from by rw [ld];rfl) rfl
   | false=>simp only [zcf];refine bs (show (((st.ro st.next).adv n).ld c (0+17)).bind (asI .u32)=some f.ksp from by rw [ld];rfl) rfl
def zfZ (f:FM) (x:Int):FM:=if zbw x=zbw f.psl then { f with psl:=x } else if zbw x=true then { f with ksp:=f.r 14,r:=up f.r 14 f.usp,psl:=x } else { f with usp:=f.r 14,r:=up f.r 14 f.ksp,psl:=x }
theorem zmq [Sym] (h:At st c f.row) (x:Int):∃ st',cc 28 [ptr c 0,.int .u32 x] st=some (.tuple #[],st')∧At st' c (zfZ f x).row∧Mod [c] st st':=by
 obtain ⟨n1,h1,e1⟩:=zdh x (st.ro st.next)
 have h1':st.next≤n1:=h1
 obtain ⟨n2,h2,e2⟩:=zdh f.psl (st.adv n1)
 have h2':n1≤n2:=h2
 have a2:At (st.adv n2) c f.row:=h.adv (by omega)
 have m2:Mod [c] st (st.adv n2):=.ofExt (Ext.advR st (by omega))
 have ld:∀ k,(st.adv n1).ld c k=f.row[k]?:=fun k=>h.ld
 by_cases hu:zbw x=zbw f.psl
 ·obtain ⟨s4,e4,a4,m4,_⟩:=a2.w (k:=0+16) (x:=.int .u32 x) (by rw [f.len];omega) rfl (f.s16 x)
  have hP:zfZ f x={ f with psl:=x }:=by unfold zfZ;rw [if_pos hu]
  rw [hP]
  refine ⟨s4,zcx _ _ st ?_,a4,m2.then m4⟩
  unfold zcn
  simp only [za3,zob,zaG,zcf]
  refine bs e1 ?_
  simp only [zob,zaG,zak,zai]
  refine bs (show ((st.adv n1).ld c (0+16)).bind (asI .u32)=some f.psl from by rw [ld];rfl) (bs e2 ?_)
  simp only [zob,zaG,hu,beq_self_eq_true,znt,zcf]
  exact bs e4 rfl
 ·obtain ⟨n9,h9,e9⟩:=zdh x (st.adv n2)
  have h9':n2≤n9:=h9
  have a9:At (st.adv n9) c f.row:=h.adv (by omega)
  have m9:Mod [c] st (st.adv n9):=.ofExt (Ext.advR st (by omega))
  have l14:((st.adv n9).ld c (0+14*1)).bind (asI .u32)=some (f.r 14):=by rw [a9.ld,show 0+14*1=14 from rfl,f.get (by omega)];rfl
  have hb:(!(zbw x==zbw f.psl))=true:=by simpa using hu
  cases hx:zbw x with
  | true=>
    have l17:((st.adv n9).ld c (0+18)).bind (asI .u32)=some f.usp:=by rw [a9.ld];rfl
    obtain ⟨s20,e20,a20,m20,_⟩:=a9.w (k:=0+17) (x:=.int .u32 (f.r 14)) (by rw [f.len];omega) rfl (f.s17 _)
    obtain ⟨s24,e24,a24,m24,_⟩:=a20.w (k:=0+14*1) (x:=.int .u32 f.usp) (by rw [FM.len];omega) rfl (FM.set _ (i:=14) (by omega) _)
    obtain ⟨s27,e27,a27,m27,_⟩:=a24.w (k:=0+16) (x:=.int .u32 x) (by rw [FM.len];omega) rfl (FM.s16 _ x)
    have hP:zfZ f x={ f with ksp:=f.r 14,r:=up f.r 14 f.usp,psl:=x }:=by unfold zfZ;rw [if_neg hu,if_pos hx]
    rw [hP]
    refine ⟨s27,zcx _ _ st ?_,a27,((m9.then m20).then m24).then m27⟩
    unfold zcn
    simp only [za3,zob,zaG,zcf]
    refine bs e1 ?_
    simp only [zob,zaG,zak,zai]
    refine bs (show ((st.adv n1).ld c (0+16)).bind (asI .u32)=some f.psl from by rw [ld];rfl) (bs e2 ?_)
    simp only [zob,zaG,hb,zct]
    refine bs e9 ?_
    simp only [zob,zaG,hx,zct]
    refine bs (za1 (n:=14) (by omega)) (bs l14 (bs l17 (bs e20 (bs (za1 (n:=14) (by omega)) (bs e24 (bs e27 rfl))))))
  | false=>
    have l17:((st.adv n9).ld c (0+17)).bind (asI .u32)=some f.ksp:=by rw [a9.ld];rfl
    obtain ⟨s20,e20,a20,m20,_⟩:=a9.w (k:=0+18) (x:=.int .u32 (f.r 14)) (by rw [f.len];omega) rfl (f.s18 _)
    obtain ⟨s24,e24,a24,m24,_⟩:=a20.w (k:=0+14*1) (x:=.int .u32 f.ksp) (by rw [FM.len];omega) rfl (FM.set _ (i:=14) (by omega) _)
    obtain ⟨s27,e27,a27,m27,_⟩:=a24.w (k:=0+16) (x:=.int .u32 x) (by rw [FM.len];omega) rfl (FM.s16 _ x)
    have hP:zfZ f x={ f with usp:=f.r 14,r:=up f.r 14 f.ksp,psl:=x }:=by unfold zfZ;rw [if_neg hu,if_neg (by rw [hx];simp)]
    rw [hP]
    refine ⟨s27,zcx _ _ st ?_,a27,((m9.then m20).then m24).then m27⟩
    unfold zcn
    simp only [za3,zob,zaG,zcf]
    refine bs e1 ?_
    simp only [zob,zaG,zak,zai]
    refine bs (show ((st.adv n1).ld c (0+16)).bind (asI .u32)=some f.psl from by rw [ld];rfl) (bs e2 ?_)
    simp only [zob,zaG,hb,zct]
    refine bs e9 ?_
    simp only [zob,zaG,hx,zcf]
    refine bs (za1 (n:=14) (by omega)) (bs l14 (bs l17 (bs e20 (bs (za1 (n:=14) (by omega)) (bs e24 (bs e27 rfl))))))
def setF (f:FM) (n x s:Int):FM:=if n<0∨15<n∨zgi s=0 then f else { f with r:=up f.r n.toNat (putT (f.r n.toNat) x s) }
theorem zmr [Sym] (h:At st c f.row) (n x s:Int):∃ st' e,cc 29 [ptr c 0,.int .i64 n,.int .u32 x,.int .i64 s] st=some (.int .i64 e,st')∧At st' c (setF f n x s).row∧Mod [c] st st':=by
 unfold setF
 by_cases h0:n<0
 ·refine ⟨st,1,zbU _ _ _ _ st ?_,by rw [if_pos (.inl h0)];exact h,.refl _⟩
  simp only [zbW,za3,zob,zaG,zcf,h0,decide_true,zct]
 by_cases h1:15<n
 ·refine ⟨st,1,zbU _ _ _ _ st ?_,by rw [if_pos (.inr (.inl h1))];exact h,.refl _⟩
  simp only [zbW,za3,zob,zaG,zcf,h0,h1,decide_false,decide_true,zct]
 obtain ⟨n2,g2,e2⟩:=zh3 s st
 by_cases hm:zgi s=0
 ·refine ⟨st.adv n2,1,zbU _ _ _ _ st ?_,by rw [if_pos (.inr (.inr hm))];exact h.adv g2,.ofExt (Ext.advR st g2)⟩
  unfold zbW
  simp only [za3,zob,zaG,zcf,h0,h1,decide_false]
  refine bs e2 ?_
  simp only [zob,zaH,hm,decide_true,zct]
 obtain ⟨k,rfl⟩:∃ k:Nat,n=(k:Int):=⟨n.toNat,by omega⟩
 rw [if_neg (by omega),Int.toNat_natCast]
 obtain ⟨n8,g8,e8⟩:=zk9 (f.r k) x s (st.adv n2)
 have g8':n2≤n8:=g8
 have a8:At (st.adv n8) c f.row:=h.adv (by omega)
 obtain ⟨s13,e13,a13,m13,_⟩:=a8.w (k:=0+k*1) (row':=FM.row { f with r:=up f.r k (putT (f.r k) x s) }) (x:=.int .u32 (putT (f.r k) x s)) (by rw [f.len];omega) rfl (by rw [Nat.zero_add,Nat.mul_one];exact f.set (by omega) _)
 refine ⟨s13,0,zbU _ _ _ _ st ?_,a13,(Mod.ofExt (Ext.advR st (by omega))).then m13⟩
 unfold zbW
 simp only [za3,zob,zaG,zcf,h0,h1,decide_false]
 refine bs e2 ?_
 simp only [zob,zaH,hm,decide_false,zcf,zak,zai]
 refine bs (za1 (n:=k) (by omega)) ?_
 refine bs (show ((st.adv n2).ld c (0+k*1)).bind (asI .u32)=some (f.r k) from by rw [zk8,h.ld,Nat.zero_add,Nat.mul_one,f.get (by omega)];rfl) (bs e8 ?_)
 simp only [zob,zaH]
 exact bs (za1 (n:=k) (by omega)) (bs e13 rfl)
theorem zkt [Sym] (h:At st c f.row):∃ st',cc 40 [ptr c 0] st=some (.tuple #[],st')∧At st' c (FM.row { f with steps:=.slice none 0 0 })∧Mod [c] st st':=by
 obtain ⟨s4,e4,a4,m4,_⟩:=h.w (k:=0+19) (x:=.slice none 0 0) (by rw [f.len];omega) rfl (f.s19 _)
 refine ⟨s4,ze8 _ st ?_,a4,m4⟩
 unfold zdO
 simp only [za3,zob,zaG,znf,zct,zak,zai]
 exact bs e4 rfl
end
structure Frm (B:Nat) (S:List Nat) (k:Value) (s s':SS):Prop where
 next:s.next≤s'.next
 lim:s'.lim=s.lim
 keep:∀ i,i<s.next→i∉S→(∀ o l c,k≠.slice (some ⟨i,o,none⟩) l c)→s'.mem.get i=s.mem.get i
end Go.Proofs.YtlpigjmjgclgiaaDoorE
namespace Go.Proofs.YtlpigjmjgclgiaaDoorE
open Go Go.E Go.Proofs
def Blk (v w:Value):Prop:=∀ i o l q,w=.slice (some ⟨i,o,none⟩) l q→∃ o' l' q',v=.slice (some ⟨i,o',none⟩) l' q'
theorem Blk.refl (v:Value):Blk v v:=fun i o l q e=>⟨o,l,q,e⟩
theorem Blk.trans {u v w:Value} (h:Blk u v) (k:Blk v w):Blk u w:=fun i o l q e=>by
 obtain ⟨o',l',q',e'⟩:=k i o l q e
 exact h i o' l' q' e'
structure StM where
 r:Nat→Int
 psl:Int
 ksp:Int
 usp:Int
 t0:Int
 t1:Int
 t2:Int
 t3:Int
 t4:Int
 scbb:Int
 halt:Int
def StM.row (s:StM):List Value:=nums .u32 16 s.r++[.int .u32 s.psl,.int .u32 s.ksp,.int .u32 s.usp,.int .u32 s.t0,.int .u32 s.t1,.int .u32 s.t2,.int .u32 s.t3,.int .u32 s.t4,.int .u32 s.scbb,.int .i64 s.halt]
def StM.val (s:StM):Value:=.agg s.row.toArray
theorem StM.len (s:StM):s.row.length=26:=by unfold StM.row;rw [List.length_append,zao];rfl
theorem StM.one (s:StM):s.row.all E.one=true:=by unfold StM.row;rw [List.all_append,zlL];rfl
theorem zlb (k:IntKind) (n:Nat) (r:Nat→Int):(nums k n r).all zaL=true:=by
 rw [List.all_eq_true];intro x hx;simp [nums] at hx;obtain ⟨i,_,rfl⟩:=hx;rfl
end Go.Proofs.YtlpigjmjgclgiaaDoorE
namespace Go.Proofs.YtlpigjmjgclgiaaDoorE
open Go Go.E Go.Proofs
theorem StM.flat (s:StM):flat3 s.val=true:=by
 show (s.row.toArray.toList.all zaL)=true
 rw [List.toList_toArray]
 unfold StM.row
 rw [List.all_append,zlb];rfl
end Go.Proofs.YtlpigjmjgclgiaaDoorE
namespace Go.Proofs.YtlpigjmjgclgiaaDoorE
open Go Go.E Go.Proofs
structure Rw (st:SS) (b c:Nat) (m:PM) (f:FM):Prop where
 p:st.mem.get b=some (.cells m.rw 0)
 f:st.mem.get c=some (.cells f.row 0)
 fp:m.fp=c
theorem Rw.adv {st:SS} {b c:Nat} {m:PM} {f:FM} (h:Rw st b c m f) (n:Nat):Rw (st.adv n) b c m f:=⟨h.p,h.f,h.fp⟩
theorem Rw.ro {st:SS} {b c:Nat} {m:PM} {f:FM} (h:Rw st b c m f) (n:Nat):Rw (st.ro n) b c m f:=⟨h.p,h.f,h.fp⟩
theorem Rw.ld {st:SS} {b c k:Nat} {m:PM} {f:FM} (h:Rw st b c m f):st.ld b k=m.rw[k]?:=SS.ld_cells h.p
theorem Rw.ld0 {st:SS} {b c:Nat} {m:PM} {f:FM} (h:Rw st b c m f):st.ld b 0=some (ptr c 0):=by rw [h.ld,m.g0,h.fp]
theorem Rw.ldR {st:SS} {b c i:Nat} {m:PM} {f:FM} (h:Rw st b c m f) (hi:i<60):(st.ld b (0+1+i*1)).bind (asI .u32)=some (m.r i):=by rw [h.ld,show 0+1+i*1=1+i by omega,m.getR hi];rfl
theorem Rw.ldK {st:SS} {b c i:Nat} {m:PM} {f:FM} (h:Rw st b c m f) (hi:i<6):(st.ld b (0+61+i*1)).bind (asI .i64)=some (m.k i):=by rw [h.ld,show 0+61+i*1=61+i by omega,m.getK hi];rfl
def opR (x:Int×Int):List Value:=[.int .u8 x.1,.int .i64 x.2]
theorem zjY (x:Int×Int):(opR x).length=2:=rfl
def Os (st:SS) (m:PM) (OL:List (Int×Int)):Prop:=Rg st m.ops (rowsF opR OL) 2 OL.length∧OL.length≤6
def atT (m:PM):Int:=if 5<(if 0>m.cur then 0 else m.cur) then 5 else if 0>m.cur then 0 else m.cur
theorem atT_b (m:PM):0≤atT m∧atT m≤5:=by unfold atT;split<;>split<;>omega
def zed:List (Int×Int)→Nat→Nat
 | _,0=>0
 | OL,k+1=>match OL[k]? with
   | none=>0
   | some x=>if x.1=98 then zed OL k else k
def resT (OL:List (Int×Int)):Nat:=zed OL OL.length
theorem zjZ (OL:List (Int×Int)):∀ k,k≤OL.length→0<OL.length→zed OL k<OL.length
 | 0,_,h=>by unfold zed;exact h
 | k+1,hk,h=>by
   unfold zed
   rw [zge (by omega)]
   simp only
   split
   ·exact zjZ OL k (by omega) h
   ·omega
theorem zms {OL:List (Int×Int)} (h:0<OL.length):resT OL<OL.length:=zjZ OL _ (zlr _) h
theorem zjc {OL:List (Int×Int)} (h:OL.length≤6):resT OL<6:=by
 by_cases h0:0<OL.length
 ·have:=zms h0;omega
 ·have:OL=[]:=List.length_eq_zero_iff.1 (by omega)
  subst this
  show 0<6
  omega
section
variable {st : SS} {b c : Nat} {m : PM} {f : FM} {OL : List (Int × Int)}
theorem zlc [Sym] (h:Rw st b c m f):cc 52 [ptr b 0] st=some (.int .i64 (atT m),st):=by
 refine zg5 _ st ?_
 unfold ze5
 simp only [zak,zai,zob]
 exact bs (show ((st.ro st.next).ld b (0+72)).bind (asI .i64)=some m.cur from by rw [(h.ro _).ld,show 0+72=72 from rfl,m.g72];rfl) rfl
theorem zjd [Sym] (h:Rw st b c m f) (ho:Os st m OL):∀ (k:Nat),k≤OL.length→
  ∃ e vs,zbj 2 [ptr b 0,.int .i64 ((k:Int)-1)] st=some (e,vs,st)∧(e=0∧zed OL k=0∨e=1∧vs=[.int .i64 (zed OL k:Int)])
 | 0,hk=>by
   refine ⟨0,[],zbs _ _ st ?_,.inl ⟨rfl,rfl⟩⟩
   have:¬ (0:Int)≤((0:Nat):Int)-1:=by omega
   simp only [zbk,this,decide_false,zcf]
 | k+1,hk=>by
   have h0:(0:Int)≤((k+1:Nat):Int)-1:=by omega
   have hk1:((k+1:Nat):Int)-1=(k:Int):=by omega
   have hw:IntKind.wrap .i64 ((k:Int)-1)=(k:Int)-1:=wrap64 (by omega) (by have:=ho.2;omega)
   obtain ⟨x,hx⟩:∃ x,OL[k]?=some x:=⟨_,zge (by omega)⟩
   obtain ⟨p,b1,b2,b3⟩:=ho.1.load (j:=(k:Int)) (by omega) (by omega) (zk7 zjY OL k x hx) (zjY x)
   have l6:(st.ld p.1 p.2).bind (asI .u8)=some x.1:=by rw [show p.2=p.2+0 from rfl,b3 0 _ rfl];rfl
   have hr:zed OL (k+1)=if x.1=98 then zed OL k else k:=by conv=>lhs;unfold zed;rw [hx]
   obtain ⟨e,vs,ih,h2⟩:=zjd h ho k (by omega)
   have lo:st.ld b (0+67+4)=some m.ops:=by rw [h.ld];exact m.g71
   rw [hr]
   by_cases hb:x.1=98
   ·refine ⟨e,vs,zbs _ _ st ?_,by rw [if_pos hb];exact h2⟩
    unfold zbk
    rw [zdt h0]
    simp only [zct,zak,zai,zob]
    rw [hk1]
    refine bs lo (bs b1 (bs l6 ?_))
    simp only [hb,decide_true,znt,zcf,hw]
    exact ih
   ·refine ⟨1,[.int .i64 (k:Int)],zbs _ _ st ?_,by rw [if_neg hb];exact .inr ⟨rfl,rfl⟩⟩
    unfold zbk
    rw [zdt h0]
    simp only [zct,zak,zai,zob]
    rw [hk1]
    refine bs lo (bs b1 (bs l6 ?_))
    simp only [hb,decide_false,znf,zct]
theorem Os.ro {n:Nat} (ho:Os st m OL):Os (st.ro n) m OL:=⟨ho.1,ho.2⟩
theorem Os.adv {n:Nat} (ho:Os st m OL) (hn:st.next≤n):Os (st.adv n) m OL:=⟨ho.1.ext ((Ext.refl _).adv hn),ho.2⟩
theorem zld [Sym] (h:Rw st b c m f) (ho:Os st m OL):cc 30 [ptr b 0] st=some (.int .i64 (resT OL:Int),st):=by
 obtain ⟨e,vs,hl,h2⟩:=zjd (h.ro st.next) ho.ro OL.length (zlr _)
 have hw:IntKind.wrap .i64 ((OL.length:Int)-1)=(OL.length:Int)-1:=wrap64 (by omega) (by have:=ho.2;omega)
 refine zeY _ st ?_
 unfold zdl
 simp only [zak,zai,zob]
 refine bs (show (st.ro st.next).ld b (0+67+4)=some m.ops from by rw [(h.ro _).ld];exact m.g71) (bs ho.1.lenI ?_)
 rw [hw]
 refine bs hl ?_
 rcases h2 with ⟨rfl,h2⟩ | ⟨rfl,rfl⟩
 ·unfold resT;rw [h2];rfl
 ·rfl
def zf0 (m:PM) (OL:List (Int×Int)) (n:Int):Int:=
 if n=39 then m.rn else if n=54 then 24+atT m else if n=55 then 30+atT m else if n=57 then m.k (resT OL)
 else if n<36∨n=36∨n=37∨n=38∨(43≤n∧n≤45)∨n=53∨n=59 then n else -1
theorem zlM [Sym] (h:Rw st b c m f) (ho:Os st m OL) (n:Int):cc 25 [ptr b 0,.int .i64 n] st=some (.int .i64 (zf0 m OL n),st):=by
 have ha:=atT_b m
 refine zfg _ _ st ?_
 unfold zdR zf0
 by_cases h1:n=39
 ·rw [if_pos h1]
  simp only [h1,decide_true,zct,zak,zai,zob]
  exact bs (show ((st.ro st.next).ld b (0+73)).bind (asI .i64)=some m.rn from by rw [(h.ro _).ld,show 0+73=73 from rfl,m.g73];rfl) rfl
 rw [if_neg h1]
 simp only [h1,decide_false,zcf]
 by_cases h2:n=54
 ·rw [if_pos h2]
  simp only [h2,decide_true,zct]
  refine bs (zlc (h.ro st.next)) ?_
  simp only [zob,zaH]
  rw [wrap64 (by omega) (by omega)];rfl
 rw [if_neg h2]
 simp only [h2,decide_false,zcf]
 by_cases h3:n=55
 ·rw [if_pos h3]
  simp only [h3,decide_true,zct]
  refine bs (zlc (h.ro st.next)) ?_
  simp only [zob,zaH]
  rw [wrap64 (by omega) (by omega)];rfl
 rw [if_neg h3]
 simp only [h3,decide_false,zcf]
 by_cases h4:n=57
 ·rw [if_pos h4]
  simp only [h4,decide_true,zct]
  refine bs (zld (h.ro st.next) ho.ro) ?_
  simp only [zob,zaH,zak,zai]
  refine bs (za1 (zjc ho.2)) (bs ((h.ro st.next).ldK (zjc ho.2)) rfl)
 rw [if_neg h4]
 simp only [h4,decide_false,zcf]
 by_cases h5:n<36
 ·simp only [h5,decide_true,zct,true_or,if_true];rfl
 by_cases h6:n=36
 ·simp only [h5,h6,decide_false,decide_true,zcf,zct,true_or,or_true,if_true];rfl
 by_cases h7:n=37
 ·simp only [h5,h6,h7,decide_false,decide_true,zcf,zct,true_or,or_true,if_true];rfl
 by_cases h8:n=38
 ·simp only [h5,h6,h7,h8,decide_false,decide_true,zcf,zct,true_or,or_true,if_true];rfl
 simp only [h5,h6,h7,h8,decide_false,zcf,false_or]
 by_cases h9:43≤n
 ·by_cases h10:n≤45
  ·simp only [h9,h10,decide_true,zct,and_self,true_or,if_true];rfl
  ·by_cases h11:n=53
   ·simp only [h9,h10,h11,decide_false,decide_true,zcf,zct,and_false,false_or,true_or,if_true];rfl
   ·by_cases h12:n=59
    ·simp only [h9,h10,h11,h12,decide_false,decide_true,zcf,zct,and_false,false_or,if_true];rfl
    ·simp only [h9,h10,h11,h12,decide_false,decide_true,zcf,zct,and_false,or_self,if_false];rfl
 ·by_cases h11:n=53
  ·simp only [h9,h11,decide_false,decide_true,zcf,zct,false_and,false_or,true_or,if_true];rfl
  ·by_cases h12:n=59
   ·simp only [h9,h11,h12,decide_false,decide_true,zcf,zct,false_and,false_or,if_true];rfl
   ·simp only [h9,h11,h12,decide_false,zcf,false_and,or_self,if_false];rfl
def sizeT (m:PM) (n:Int):Int:=if n=3 then m.own else zdi .i64 1 n
theorem zmt [Sym] (h:Rw st b c m f) {n:Int} (hn:0≤n):cc 22 [ptr b 0,.int .i64 n] st=some (.int .i64 (sizeT m n),st):=by
 refine zfV _ _ st ?_
 unfold zd5 sizeT
 by_cases h1:n=3
 ·rw [if_pos h1]
  simp only [h1,decide_true,zct,zak,zai,zob]
  exact bs (show ((st.ro st.next).ld b (0+75)).bind (asI .i64)=some m.own from by rw [(h.ro _).ld,show 0+75=75 from rfl,m.g75];rfl) rfl
 ·rw [if_neg h1]
  simp only [h1,decide_false,zcf]
  exact bs (show (aI .shl .i64 1 n).bind (asI .i64)=some (zdi .i64 1 n) from by rw [zhG hn];rfl) rfl
end
end Go.Proofs.YtlpigjmjgclgiaaDoorE
namespace Go.Proofs.YtlpigjmjgclgiaaDoorE
open Go Go.E Go.Proofs
def zh5 (m:PM) (f:FM) (n:Int):Int:=if m.wt=n∧0<m.ws then putT (zh4 f n) m.wx m.ws else zh4 f n
def zc7 (m:PM) (OL:List (Int×Int)) (n:Int):Option Int:=
 if n=39∨n=54∨n=55∨n=57 then (if zf0 m OL n<0 then none else some (zf0 m OL n))
 else if n=40 then (if m.rx<0 then none else some m.rx)
 else if n=56 then some (30+resT OL) else if n=50 then some (24+((OL.length-1:Nat):Int)) else some n
def zc8 (m:PM) (f:FM) (U:Nat) (n:Int):Int:=
 if n=38 then f.psl else if n=48∨n=49 then (if zbw f.psl=decide (n=49) then zh5 m f 14 else zjb f (decide (n=49)))
 else if n=51 then IntKind.wrap .u32 m.own else if n=52 then IntKind.wrap .u32 (zh5 m f 15-m.r 46) else if n=58 then IntKind.wrap .u32 (U:Int)
 else if n=42 then 0 else if n=41 then 0 else if 60≤n then 0 else m.r n.toNat
def zee (m:PM) (f:FM) (U:Nat) (n:Int):Int:=if n<16 then zh5 m f n else if m.wt=n∧0<m.ws then m.wx else zc8 m f U n
def getT (m:PM) (f:FM) (OL:List (Int×Int)) (U:Nat) (n:Int):Int:=match zc7 m OL n with
 | none=>0
 | some k=>zee m f U k
section
variable {st : SS} {b c : Nat} {m : PM} {f : FM} {OL : List (Int × Int)} {U : Nat}
theorem Rw.l85 (h:Rw st b c m f):(st.ld b (0+85)).bind (asI .i64)=some m.wt:=by rw [h.ld,show 0+85=85 from rfl,m.g85];rfl
theorem Rw.l86 (h:Rw st b c m f):(st.ld b (0+85+1)).bind (asI .u32)=some m.wx:=by rw [h.ld,show 0+85+1=86 from rfl,m.g86];rfl
theorem Rw.l87 (h:Rw st b c m f):(st.ld b (0+85+2)).bind (asI .i64)=some m.ws:=by rw [h.ld,show 0+85+2=87 from rfl,m.g87];rfl
theorem zis [Sym] (h:Rw st b c m f) {n:Int} (hn:n<16):∃ k,st.next≤k∧zam 1000018 [ptr b 0,.int .i64 n] st=some (0,[.int .u32 (zh5 m f n)],st.adv k):=by
 have e4:=zjX h.f n
 unfold zh5
 by_cases hw:m.wt=n
 ·by_cases hs:0<m.ws
  ·obtain ⟨k,hk,e⟩:=zk9 (zh4 f n) m.wx m.ws st
   rw [if_pos ⟨hw,hs⟩]
   refine ⟨k,hk,zaU _ _ st ?_⟩
   unfold zaW
   simp only [hn,decide_true,zct,zak,zai,zob]
   refine bs h.ld0 (bs e4 ?_)
   simp only [zob,zaH]
   refine bs h.l85 ?_
   simp only [hw,decide_true,zct]
   refine bs h.l87 ?_
   simp only [hs,decide_true,zct]
   exact bs h.l86 (bs h.l87 (bs e rfl))
  ·rw [if_neg (fun e=>hs e.2)]
   refine ⟨st.next,zlr _,zaU _ _ st ?_⟩
   unfold zaW
   simp only [hn,decide_true,zct,zak,zai,zob]
   refine bs h.ld0 (bs e4 ?_)
   simp only [zob,zaH]
   refine bs h.l85 ?_
   simp only [hw,decide_true,zct]
   refine bs h.l87 ?_
   simp only [hs,decide_false,zcf]
   rfl
 ·rw [if_neg (fun e=>hw e.1)]
  refine ⟨st.next,zlr _,zaU _ _ st ?_⟩
  unfold zaW
  simp only [hn,decide_true,zct,zak,zai,zob]
  refine bs h.ld0 (bs e4 ?_)
  simp only [zob,zaH]
  refine bs h.l85 ?_
  simp only [hw,decide_false,zcf]
  rfl
theorem get7 [Sym] (h:Rw st b c m f) (ho:Os st m OL) (n:Int) (is:Bool) (his:is=true↔n=39∨n=54∨n=55∨n=57):
  zam 1000007 [ptr b 0,.int .i64 n,.int .i64 n,.bool is] st=match zc7 m OL n with
   | none=>some (1,[.int .u32 0],st)
   | some k=>some (0,[ptr b 0,.int .i64 k],st):=by
 have hlen:=ho.2
 unfold zc7
 cases is with
 | true=>
   have hx:=his.1 rfl
   rw [if_pos hx]
   have e1:=zlM h ho n
   by_cases hw:zf0 m OL n<0
   ·rw [if_pos hw]
    refine zaO _ _ _ _ st ?_
    unfold zaQ
    simp only [zct]
    refine bs e1 ?_
    simp only [zob,zaH,hw,decide_true,zct]
   ·rw [if_neg hw]
    refine zaO _ _ _ _ st ?_
    unfold zaQ
    simp only [zct]
    refine bs e1 ?_
    simp only [zob,zaH,hw,decide_false,zcf]
 | false=>
   have hx:¬ (n=39∨n=54∨n=55∨n=57):=fun e=>by have:=his.2 e;cases this
   rw [if_neg hx]
   by_cases h40:n=40
   ·rw [if_pos h40]
    have l74:(st.ld b (0+74)).bind (asI .i64)=some m.rx:=by rw [h.ld,show 0+74=74 from rfl,m.g74];rfl
    by_cases hr:m.rx<0
    ·rw [if_pos hr]
     refine zaO _ _ _ _ st ?_
     unfold zaQ
     simp only [zcf,h40,decide_true,zct,zak,zai,zob]
     refine bs l74 ?_
     simp only [hr,decide_true,zct]
    ·rw [if_neg hr]
     refine zaO _ _ _ _ st ?_
     unfold zaQ
     simp only [zcf,h40,decide_true,zct,zak,zai,zob]
     refine bs l74 ?_
     simp only [hr,decide_false,zcf]
   rw [if_neg h40]
   by_cases h56:n=56
   ·rw [if_pos h56]
    have hr:=zjc hlen
    refine zaO _ _ _ _ st ?_
    unfold zaQ
    simp only [zcf,h40,h56,decide_false,decide_true,zct]
    refine bs (zld h ho) ?_
    simp only [zob,zaH]
    rw [wrap64 (by omega) (by omega)]
   rw [if_neg h56]
   by_cases h50:n=50
   ·rw [if_pos h50]
    have lo:st.ld b (0+67+4)=some m.ops:=by rw [h.ld];exact m.g71
    have hw:IntKind.wrap .i64 ((OL.length:Int)-1)=(OL.length:Int)-1:=wrap64 (by omega) (by omega)
    have hm:(if 0>(OL.length:Int)-1 then 0 else (OL.length:Int)-1)=((OL.length-1:Nat):Int):=by split<;>omega
    refine zaO _ _ _ _ st ?_
    unfold zaQ
    simp only [zcf,h40,h56,h50,decide_false,decide_true,zct,zak,zai,zob]
    refine bs lo (bs ho.1.lenI ?_)
    rw [hw,hm,wrap64 (by omega) (by omega)]
   rw [if_neg h50]
   refine zaO _ _ _ _ st ?_
   unfold zaQ
   simp only [zcf,h40,h56,h50,decide_false]
theorem zje [Sym] (h:Rw st b c m f) (ho:Os st m OL) (n:Int) {v:Int}
  (hv:∀ k,zc7 m OL n=some k→∃ j,st.next≤j∧zam 1000018 [ptr b 0,.int .i64 k] (st.ro st.next)=some (0,[.int .u32 v],(st.ro st.next).adv j)) (h0:zc7 m OL n=none→v=0):
  ∃ k,st.next≤k∧cc 11 [ptr b 0,.int .i64 n] st=some (.int .u32 v,st.adv k):=by
 have go:∀ is:Bool,(is=true↔n=39∨n=54∨n=55∨n=57)→∃ k,st.next≤k∧∀ (F:Nat×List Value×SS→Option (Value×SS)),(∀ r,F r=cond (Nat.beq r.1 0) ((r.2.1[0]?).bind fun v2=>((r.2.1[1]?).bind (asI .i64)).bind fun n3=>(zam 1000018 [v2,.int .i64 n3] r.2.2).bind fun r4=>((r4.2.1[0]?).bind (asI .u32)).bind fun n5=>some (.int .u32 n5,st.adv r4.2.2.next)) (((r.2.1[0]?).bind (asI .u32)).bind fun n6=>some (.int .u32 n6,st.adv r.2.2.next)))→
   (zam 1000007 [ptr b 0,.int .i64 n,.int .i64 n,.bool is] (st.ro st.next)).bind F=some (.int .u32 v,st.adv k):=fun is his=>by
  have e7:=get7 (h.ro st.next) ho.ro n is his
  cases hk:zc7 m OL n with
  | none=>
    rw [hk] at e7
    refine ⟨st.next,zlr _,fun F hF=>?_⟩
    rw [e7,zob,hF,h0 hk];rfl
  | some k=>
    rw [hk] at e7
    obtain ⟨j,hj,e⟩:=hv k hk
    refine ⟨j,hj,fun F hF=>?_⟩
    rw [e7,zob,hF]
    show (zam 1000018 [ptr b 0,.int .i64 k] (st.ro st.next)).bind _=_
    rw [e];rfl
 by_cases h1:n=39
 ·obtain ⟨k,hk,g⟩:=go true (by simp [h1])
  refine ⟨k,hk,zbE _ _ st ?_⟩
  unfold zbK
  rw [zdt h1]
  exact g _ fun r=>rfl
 by_cases h2:n=54
 ·obtain ⟨k,hk,g⟩:=go true (by simp [h2])
  refine ⟨k,hk,zbE _ _ st ?_⟩
  unfold zbK
  rw [zdf h1,zdt h2]
  exact g _ fun r=>rfl
 by_cases h3:n=55
 ·obtain ⟨k,hk,g⟩:=go true (by simp [h3])
  refine ⟨k,hk,zbE _ _ st ?_⟩
  unfold zbK
  rw [zdf h1,zdf h2,zdt h3]
  exact g _ fun r=>rfl
 obtain ⟨k,hk,g⟩:=go (decide (n=57)) (by simp [h1,h2,h3])
 refine ⟨k,hk,zbE _ _ st ?_⟩
 unfold zbK
 rw [zdf h1,zdf h2,zdf h3]
 exact g _ fun r=>rfl
theorem zc9 {n:Int} (h:n<39):zc7 m OL n=some n:=by
 unfold zc7
 rw [if_neg (by omega),if_neg (by omega),if_neg (by omega),if_neg (by omega)]
theorem zj0 [Sym] (h:Rw st b c m f) (ho:Os st m OL) {n:Int} (hn:n<16):∃ k,st.next≤k∧cc 11 [ptr b 0,.int .i64 n] st=some (.int .u32 (zh5 m f n),st.adv k):=by
 refine zje h ho n (fun k hk=>?_) (fun hk=>by rw [zc9 (by omega)] at hk;cases hk)
 rw [zc9 (by omega)] at hk;cases hk
 exact zis (h.ro st.next) hn
theorem get30 [Sym] (h:Rw st b c m f) (ho:Os st m OL) (hU:lenV m.buf=some (.int .i64 (U:Int))) (n:Int) (is:Bool) (his:is=true↔n=48∨n=49) (hn38:n≠38) (h16:16≤n):
  ∃ k,st.next≤k∧(zam 1000030 [ptr b 0,.int .i64 n,.int .i64 n,.bool is] st=some (1,[.int .u32 (zc8 m f U n)],st.adv k)∨
   (zam 1000030 [ptr b 0,.int .i64 n,.int .i64 n,.bool is] st=some (0,[ptr b 0,.int .i64 n],st.adv k)∧zc8 m f U n=if 60≤n then 0 else m.r n.toNat)):=by
 unfold zc8
 rw [if_neg hn38]
 cases is with
 | true=>
   have hx:=his.1 rfl
   rw [if_pos hx]
   obtain ⟨k6,g6,e6⟩:=zdh f.psl st
   by_cases hu:zbw f.psl=decide (n=49)
   ·obtain ⟨k8,g8,e8⟩:=zj0 (h.adv k6) (ho.adv g6) (n:=14) (by omega)
    have g8':k6≤k8:=g8
    rw [if_pos hu]
    refine ⟨k8,by omega,.inl (zaI _ _ _ _ st ?_)⟩
    unfold zaK
    simp only [zct,zak,zai,zob]
    refine bs h.ld0 (bs (zgj h.f) ?_)
    simp only [zob,zaH]
    refine bs e6 ?_
    simp only [zob,zaG,hu,beq_self_eq_true,zct]
    refine bs e8 rfl
   ·obtain ⟨k13,g13,e13⟩:=zla (st:=st.adv k6) h.f (decide (n=49))
    have g13':k6≤k13:=g13
    have hb:(zbw f.psl==decide (n=49))=false:=by simpa using hu
    rw [if_neg hu]
    refine ⟨k13,by omega,.inl (zaI _ _ _ _ st ?_)⟩
    unfold zaK
    simp only [zct,zak,zai,zob]
    refine bs h.ld0 (bs (zgj h.f) ?_)
    simp only [zob,zaH]
    refine bs e6 ?_
    simp only [zob,zaG,hb,zcf]
    refine bs (h.adv k6).ld0 (bs e13 rfl)
 | false=>
   have hx:¬ (n=48∨n=49):=fun e=>by have:=his.2 e;cases this
   rw [if_neg hx]
   by_cases h51:n=51
   ·rw [if_pos h51]
    refine ⟨st.next,zlr _,.inl (zaI _ _ _ _ st ?_)⟩
    unfold zaK
    simp only [zcf,h51,decide_true,zct,zak,zai,zob]
    exact bs (show (st.ld b (0+75)).bind (asI .i64)=some m.own from by rw [h.ld,show 0+75=75 from rfl,m.g75];rfl) rfl
   rw [if_neg h51]
   by_cases h52:n=52
   ·rw [if_pos h52]
    obtain ⟨k,g,e⟩:=zj0 (h.ro st.next) ho.ro (n:=15) (by omega)
    refine ⟨k,g,.inl (zaI _ _ _ _ st ?_)⟩
    unfold zaK
    simp only [zcf,h51,h52,decide_false,decide_true,zct]
    refine bs e ?_
    simp only [zob,zaH,zak,zai]
    refine bs (za1 (n:=46) (by omega)) (bs (((h.ro st.next).adv k).ro st.lim |>.ldR (i:=46) (by omega)) rfl)
   rw [if_neg h52]
   by_cases h58:n=58
   ·rw [if_pos h58]
    refine ⟨st.next,zlr _,.inl (zaI _ _ _ _ st ?_)⟩
    unfold zaK
    simp only [zcf,h51,h52,h58,decide_false,decide_true,zct,zak,zai,zob]
    refine bs (show st.ld b (0+77)=some m.buf from by rw [h.ld];exact m.g77) ?_
    rw [hU];rfl
   rw [if_neg h58]
   by_cases h42:n=42
   ·rw [if_pos h42]
    refine ⟨st.next,zlr _,.inl (zaI _ _ _ _ st ?_)⟩
    simp only [zaK,zcf,h51,h52,h58,h42,decide_false,decide_true,zct]
    rfl
   rw [if_neg h42]
   by_cases h41:n=41
   ·rw [if_pos h41]
    refine ⟨st.next,zlr _,.inl (zaI _ _ _ _ st ?_)⟩
    simp only [zaK,zcf,h51,h52,h58,h42,h41,decide_false,decide_true,zct]
    rfl
   rw [if_neg h41]
   refine ⟨st.next,zlr _,.inr ⟨zaI _ _ _ _ st ?_,rfl⟩⟩
   simp only [zaK,zcf,h51,h52,h58,h42,h41,decide_false]
   rfl
theorem get25 [Sym] (h:Rw st b c m f) (ho:Os st m OL) (hU:lenV m.buf=some (.int .i64 (U:Int))) {n:Int} (h16:16≤n):∃ k,st.next≤k∧zam 1000025 [ptr b 0,.int .i64 n] st=some (0,[.int .u32 (zc8 m f U n)],st.adv k):=by
 by_cases h38:n=38
 ·refine ⟨st.next,zlr _,zbL _ _ st ?_⟩
  unfold zbx zc8
  rw [if_pos h38]
  simp only [h38,decide_true,zct,zak,zai,zob]
  exact bs h.ld0 (bs (zgj h.f) rfl)
 have fin:∀ is:Bool,(is=true↔n=48∨n=49)→∃ k,st.next≤k∧∀ (F:Nat×List Value×SS→Option (Nat×List Value×SS)),(∀ r,F r=cond (Nat.beq r.1 0) ((r.2.1[0]?).bind fun v7=>((r.2.1[1]?).bind (asI .i64)).bind fun n8=>cond (decide (60≤n8)) (some (0,[.int .u32 0],r.2.2)) ((zac v7).bind fun v9=>(addr? v9).bind fun p10=>(zaV (ptr p10.1 (p10.2+1)) 60 n8 1).bind fun p11=>((r.2.2.ld p11.1 p11.2).bind (asI .u32)).bind fun n12=>some (0,[.int .u32 n12],r.2.2))) (((r.2.1[0]?).bind (asI .u32)).bind fun n13=>some (0,[.int .u32 n13],r.2.2)))→
   (zam 1000030 [ptr b 0,.int .i64 n,.int .i64 n,.bool is] st).bind F=some (0,[.int .u32 (zc8 m f U n)],st.adv k):=fun is his=>by
  obtain ⟨k,hk,e⟩:=get30 h ho hU n is his h38 h16
  refine ⟨k,hk,fun F hF=>?_⟩
  rcases e with e | ⟨e,hb⟩
  ·rw [e,zob,hF];rfl
  ·rw [e,zob,hF,hb]
   show cond (decide (60≤n)) _ _=_
   by_cases h60:60≤n
   ·rw [zdt h60,if_pos h60];rfl
   ·rw [zdf h60,if_neg h60]
    simp only [zcf,zak,zai,zob]
    obtain ⟨j,rfl⟩:∃ j:Nat,n=(j:Int):=⟨n.toNat,by omega⟩
    exact bs (za1 (n:=j) (by omega)) (bs ((h.adv k).ldR (by omega)) rfl)
 by_cases h48:n=48
 ·obtain ⟨k,hk,g⟩:=fin true (by simp [h48])
  refine ⟨k,hk,zbL _ _ st ?_⟩
  unfold zbx
  rw [zdf h38,zdt h48]
  exact g _ fun r=>rfl
 ·obtain ⟨k,hk,g⟩:=fin (decide (n=49)) (by simp [h48])
  refine ⟨k,hk,zbL _ _ st ?_⟩
  unfold zbx
  rw [zdf h38,zdf h48]
  exact g _ fun r=>rfl
theorem get18 [Sym] (h:Rw st b c m f) (ho:Os st m OL) (hU:lenV m.buf=some (.int .i64 (U:Int))) (n:Int):∃ k,st.next≤k∧zam 1000018 [ptr b 0,.int .i64 n] st=some (0,[.int .u32 (zee m f U n)],st.adv k):=by
 unfold zee
 by_cases hn:n<16
 ·rw [if_pos hn];exact zis h hn
 rw [if_neg hn]
 obtain ⟨k,hk,e⟩:=get25 h ho hU (n:=n) (by omega)
 by_cases hw:m.wt=n
 ·by_cases hs:0<m.ws
  ·rw [if_pos ⟨hw,hs⟩]
   refine ⟨st.next,zlr _,zaU _ _ st ?_⟩
   unfold zaW
   simp only [hn,decide_false,zcf,zak,zai,zob]
   refine bs h.l85 ?_
   simp only [hw,decide_true,zct]
   refine bs h.l87 ?_
   simp only [hs,decide_true,zct]
   exact bs h.l86 rfl
  ·rw [if_neg (fun e=>hs e.2)]
   refine ⟨k,hk,zaU _ _ st ?_⟩
   unfold zaW
   simp only [hn,decide_false,zcf,zak,zai,zob]
   refine bs h.l85 ?_
   simp only [hw,decide_true,zct]
   refine bs h.l87 ?_
   simp only [hs,decide_false,zcf]
   exact bs e rfl
 ·rw [if_neg (fun e=>hw e.1)]
  refine ⟨k,hk,zaU _ _ st ?_⟩
  unfold zaW
  simp only [hn,decide_false,zcf,zak,zai,zob]
  refine bs h.l85 ?_
  simp only [hw,decide_false,zcf]
  exact bs e rfl
theorem zf1 [Sym] (h:Rw st b c m f) (ho:Os st m OL) (hU:lenV m.buf=some (.int .i64 (U:Int))) (n:Int):∃ k,st.next≤k∧cc 11 [ptr b 0,.int .i64 n] st=some (.int .u32 (getT m f OL U n),st.adv k):=by
 refine zje h ho n (fun k hk=>?_) (fun hk=>by unfold getT;rw [hk])
 have:getT m f OL U n=zee m f U k:=by unfold getT;rw [hk]
 rw [this]
 exact get18 (h.ro st.next) ho.ro hU k
end
end Go.Proofs.YtlpigjmjgclgiaaDoorE
namespace Go.Proofs.YtlpigjmjgclgiaaDoorE
open Go Go.E Go.Proofs
structure Tw (st:SS) (b c:Nat) (m:PM) (f:FM):Prop where
 p:At st b m.rw
 f:At st c f.row
 fp:m.fp=c
 ne:b≠c
 ll:st.lim≤st.next
section
variable {st st' : SS} {b c : Nat} {m m' : PM} {f f' : FM} {OL : List (Int × Int)}
theorem Tw.rw (h:Tw st b c m f):Rw st b c m f:=⟨h.p.mem,h.f.mem,h.fp⟩
theorem Tw.adv (h:Tw st b c m f) {n:Nat} (hn:st.next≤n):Tw (st.adv n) b c m f:=⟨h.p.adv hn,h.f.adv hn,h.fp,h.ne,zlt h.ll hn⟩
theorem Tw.modC (h:Tw st b c m f) (a:At st' c f'.row) (k:Mod [c] st st'):Tw st' b c m f':=⟨h.p.mod k (by simpa using h.ne),a,h.fp,h.ne,k.ll h.ll⟩
theorem Tw.modB (h:Tw st b c m f) (a:At st' b m'.rw) (k:Mod [b] st st') (e:m'.fp=m.fp):Tw st' b c m' f:=⟨a,h.f.mod k (by simpa using h.ne.symm),e.trans h.fp,h.ne,k.ll h.ll⟩
theorem Tw.ext (h:Tw st b c m f) (k:Ext st st'):Tw st' b c m f:=⟨h.p.ext k,h.f.ext k,h.fp,h.ne,k.ll h.ll⟩
theorem Tw.new (h:Tw st b c m f) (ob:AObj):Tw (st.new ob) b c m f:=h.ext ((Ext.refl st).new ob)
theorem inB (k:Mod [b] st st'):Mod [b,c] st st':=k.mono (by simp)
theorem inC (k:Mod [c] st st'):Mod [b,c] st st':=k.mono (by simp)
theorem Tw.setR (h:Tw st b c m f) {i:Nat} (hi:i<60) (x:Int):∃ st',st.st b (0+1+i*1) [.int .u32 x]=some st'∧Tw st' b c { m with r:=up m.r i x } f∧Mod [b,c] st st'∧st'.next=st.next:=by
 obtain ⟨s,e,a,k,n⟩:=h.p.w (k:=0+1+i*1) (row':=PM.rw { m with r:=up m.r i x }) (x:=.int .u32 x) (by rw [m.len];omega) rfl (by rw [show 0+1+i*1=1+i by omega];exact m.setR hi x)
 exact ⟨s,e,h.modB a k rfl,inB k,n⟩
theorem Tw.w (h:Tw st b c m f) {k:Nat} {x:Value} (m':PM) (hk:k<88) (h1:one x=true) (e:m.rw.set k x=m'.rw) (hf:m'.fp=m.fp):∃ st',st.st b k [x]=some st'∧Tw st' b c m' f∧Mod [b,c] st st'∧st'.next=st.next:=by
 obtain ⟨s,e,a,k,n⟩:=h.p.w (row':=m'.rw) (by rw [m.len];exact hk) h1 e
 exact ⟨s,e,h.modB a k hf,inB k,n⟩
theorem Tw.ws (h:Tw st b c m f) {k:Nat} {vs:List Value} (m':PM) (h1:vs.all one=true) (e:zaC m.rw k vs=some m'.rw) (hf:m'.fp=m.fp):∃ st',st.st b k vs=some st'∧Tw st' b c m' f∧Mod [b,c] st st'∧st'.next=st.next:=by
 obtain ⟨s,e,a,k,n⟩:=h.p.sto h1 e
 exact ⟨s,e,h.modB a k hf,inB k,n⟩
def zeZ (m:PM) (n x:Int):PM:=if 16≤n∧n<60∧n≠38 then { m with r:=up m.r n.toNat x } else m
def ze0 (f:FM) (n x s:Int):FM:=if n=38 then zfZ f x else setF f n x s
theorem ze1 {n:Int} (h:n<0∨15<n) (f:FM) (x s:Int):setF f n x s=f:=by unfold setF;rw [if_pos (by omega)]
theorem zj1 [Sym] (h:Tw st b c m f) (n x s:Int):∃ st',cc 10 [ptr b 0,.int .i64 n,.int .u32 x,.int .i64 s] st=some (.tuple #[],st')∧Tw st' b c (zeZ m n x) (ze0 f n x s)∧Mod [b,c] st st':=by
 by_cases h0:n<0
 ·refine ⟨st,zbf _ _ _ _ st ?_,?_,.refl _⟩
  ·unfold zbm
   rw [zdt h0]
   exact bs (za2 _ _ _ _ _ st rfl) rfl
  ·unfold zeZ ze0;rw [if_neg (by omega),if_neg (by omega),ze1 (by omega)];exact h
 by_cases h60:60≤n
 ·refine ⟨st,zbf _ _ _ _ st ?_,?_,.refl _⟩
  ·unfold zbm
   rw [zdf h0,zdt h60]
   exact bs (za2 _ _ _ _ _ st rfl) rfl
  ·unfold zeZ ze0;rw [if_neg (by omega),if_neg (by omega),ze1 (by omega)];exact h
 by_cases h16:n<16
 ·obtain ⟨s',e,g1,g2,g3⟩:=zmr h.f n x s
  refine ⟨s',zbf _ _ _ _ st ?_,?_,inC g3⟩
  ·unfold zbm
   rw [zdf h0,zdf h60]
   refine bs (za2 _ _ _ _ _ st (r:=(0,[],s')) ?_) rfl
   unfold zbD
   simp only [zcf,h16,decide_true,zct,zak,zai,zob]
   exact bs h.rw.ld0 (bs g1 rfl)
  ·unfold zeZ ze0;rw [if_neg (by omega),if_neg (by omega)];exact h.modC g2 g3
 by_cases h38:n=38
 ·obtain ⟨s',g1,g2,g3⟩:=zmq h.f x
  refine ⟨s',zbf _ _ _ _ st ?_,?_,inC g3⟩
  ·unfold zbm
   rw [zdf h0,zdf h60]
   refine bs (za2 _ _ _ _ _ st (r:=(0,[],s')) ?_) rfl
   unfold zbD
   simp only [zcf,h16,h38,decide_false,decide_true,zct,zak,zai,zob]
   exact bs h.rw.ld0 (bs g1 rfl)
  ·unfold zeZ ze0;rw [if_neg (by omega),if_pos h38];exact h.modC g2 g3
 obtain ⟨k,rfl⟩:∃ k:Nat,n=(k:Int):=⟨n.toNat,by omega⟩
 obtain ⟨s',g1,g2,g3,_⟩:=h.setR (i:=k) (by omega) x
 refine ⟨s',zbf _ _ _ _ st ?_,?_,g3⟩
 ·unfold zbm
  rw [zdf h0,zdf h60]
  refine bs (za2 _ _ _ _ _ st (r:=(0,[],s')) ?_) rfl
  unfold zbD
  simp only [zcf,h16,h38,decide_false,zak,zai,zob]
  exact bs (za1 (n:=k) (by omega)) (bs g1 rfl)
 ·unfold zeZ ze0;rw [if_pos (by omega),if_neg h38,ze1 (by omega),Int.toNat_natCast];exact g2
def zco (m:PM):PM:={ (if 0<m.ws then zeZ m m.wt m.wx else m) with wt:=0,wx:=0,ws:=0 }
def zcp (m:PM) (f:FM):FM:=if 0<m.ws then ze0 f m.wt m.wx m.ws else f
theorem PM.s85 (m:PM) (t x s:Int):zaC m.rw (0+85) [.int .i64 t,.int .u32 x,.int .i64 s]=some (PM.rw { m with wt:=t,wx:=x,ws:=s }):=by
 rw [zb5 (by rw [m.len];exact zlr _)]
 refine congrArg some ?_
 have e:m.rw.take (0+85)=ptr m.fp 0::(nums .u32 60 m.r++(nums .i64 6 m.k++m.tl.take 18)):=by
  unfold PM.rw
  rw [show 0+85=84+1 by rfl,List.take_succ_cons,List.take_append,zao,List.take_append,zao,List.take_of_length_le (by rw [zao];omega),List.take_of_length_le (by rw [zao];omega)]
 rw [e,List.drop_of_length_le (by rw [m.len];exact zlr _)]
 unfold PM.rw PM.tl
 simp
theorem zit [Sym] (h:Tw st b c m f):∃ st',cc 17 [ptr b 0] st=some (.tuple #[],st')∧Tw st' b c (zco m) (zcp m f)∧Mod [b,c] st st':=by
 by_cases hs:0<m.ws
 ·obtain ⟨s1,e1,t1,k1⟩:=zj1 h m.wt m.wx m.ws
  obtain ⟨s2,e2,t2,k2,_⟩:=t1.ws (k:=0+85) (zco m) rfl (by rw [PM.s85];unfold zco;rw [if_pos hs]) (by unfold zco;rw [if_pos hs])
  refine ⟨s2,zcO _ st ?_,by unfold zcp;rw [if_pos hs];exact t2,k1.then k2⟩
  unfold zch
  simp only [zak,zai,zob]
  refine bs h.rw.l87 ?_
  simp only [hs,decide_true,zct]
  exact bs h.rw.l85 (bs h.rw.l86 (bs h.rw.l87 (bs e1 (bs e2 rfl))))
 ·obtain ⟨s2,e2,t2,k2,_⟩:=h.ws (k:=0+85) (zco m) rfl (by rw [PM.s85];unfold zco;rw [if_neg hs]) (by unfold zco;rw [if_neg hs])
  refine ⟨s2,zcO _ st ?_,by unfold zcp;rw [if_neg hs];exact t2,k2⟩
  unfold zch
  simp only [zak,zai,zob]
  refine bs h.rw.l87 ?_
  simp only [hs,decide_false,zcf]
  exact bs e2 rfl
def ownT (OL:List (Int×Int)):Int:=match OL with
 | []=>4
 | x::_=>x.2
theorem zlN [Sym] (h:Tw st b c m f) (ho:Os st m OL) (hb:∀ i o l q,m.ops=.slice (some ⟨i,o,none⟩) l q→i≠b∧i≠c):∃ st',cc 58 [ptr b 0] st=some (.tuple #[],st')∧Tw st' b c { m with own:=ownT OL } f∧Mod [b,c] st st':=by
 obtain ⟨s1,e1,t1,k1,_⟩:=h.w (k:=0+75) (x:=.int .i64 4) { m with own:=4 } (by omega) rfl (m.s75 4) rfl
 have ho1:Rg s1 m.ops (rowsF opR OL) 2 OL.length:=ho.1.mod k1 (by intro i l q e;have:=hb i 0 l q e;simp;exact this)
 have l1:s1.ld b (0+67+4)=some m.ops:=by rw [t1.rw.ld];exact PM.g71 _
 cases OL with
 | nil=>
   refine ⟨s1,zcW _ st ?_,t1,k1⟩
   unfold zcy
   simp only [zak,zai,zob]
   refine bs e1 (bs l1 ?_)
   rw [ho1.len]
   rfl
 | cons x r=>
   obtain ⟨p,ep,_,hl⟩:=ho1.load (j:=0) (by omega) (by simp) (row:=opR x) (by simp [rowsF,opR]) rfl
   obtain ⟨s2,e2,t2,k2,_⟩:=t1.w (k:=0+75) (x:=.int .i64 x.2) { m with own:=x.2 } (by omega) rfl (PM.s75 _ _) rfl
   refine ⟨s2,zcW _ st ?_,t2,k1.then k2⟩
   unfold zcy
   simp only [zak,zai,zob]
   refine bs e1 (bs l1 ?_)
   rw [ho1.len]
   simp only [zaH,zob,List.length_cons]
   rw [zdt (by omega),zct]
   refine bs l1 (bs ep (bs (a:=x.2) ?_ (bs e2 rfl)))
   rw [hl 1 (.int .i64 x.2) rfl];rfl
end
end Go.Proofs.YtlpigjmjgclgiaaDoorE
namespace Go.Proofs.YtlpigjmjgclgiaaDoorE
open Go Go.E Go.Proofs
structure OpM where
 code:Int
 name:ByteArray
 cls:Int
 alu:Int
 ops:Value
def OpM.row (o:OpM):List Value:=[.int .i64 o.code,.string o.name,.int .i64 o.cls,.int .i64 o.alu,o.ops]
def OpM.val (o:OpM):Value:=.agg #[.int .i64 o.code,.string o.name,.int .i64 o.cls,.int .i64 o.alu,o.ops]
def op0:OpM:=⟨0,⟨#[]⟩,0,0,.slice none 0 0⟩
def PM.withOp (m:PM) (o:OpM):PM:={ m with code:=o.code,name:=o.name,cls:=o.cls,alu:=o.alu,ops:=o.ops }
def clrV (r:Nat→Int):Nat→Int:=fun i=>if 24≤i∧i<36 then 0 else r i
theorem PM.s67 (m:PM) (o:OpM):zaC m.rw (0+67) o.row=some (m.withOp o).rw:=by
 rw [zb5 (by rw [m.len];show 0+67+5≤88;omega)]
 refine congrArg some ?_
 have e:m.rw.take (0+67)=ptr m.fp 0::(nums .u32 60 m.r++nums .i64 6 m.k):=by
  unfold PM.rw
  rw [show 0+67=66+1 by rfl,List.take_succ_cons,List.take_append,zao,List.take_append,zao,List.take_of_length_le (by rw [zao];omega),List.take_of_length_le (by rw [zao];omega),show 66-60-6=0 by rfl,List.take_zero,List.append_nil]
 have d:m.rw.drop (0+67+o.row.length)=m.tl.drop 5:=by
  unfold PM.rw
  rw [show 0+67+o.row.length=71+1 by rfl,List.drop_succ_cons,List.drop_append,zao,List.drop_append,zao,List.drop_of_length_le (by rw [zao];omega),List.drop_of_length_le (by rw [zao];omega)];rfl
 rw [e,d]
 unfold PM.rw PM.tl OpM.row PM.withOp
 simp
theorem PM.s61 (m:PM):zaC m.rw (0+61) [.int .i64 (-1),.int .i64 (-1),.int .i64 (-1),.int .i64 (-1),.int .i64 (-1),.int .i64 (-1)]=some (PM.rw { m with k:=fun _=> -1 }):=by
 rw [zb5 (by rw [m.len];decide+kernel)]
 refine congrArg some ?_
 have e:m.rw.take (0+61)=ptr m.fp 0::nums .u32 60 m.r:=by
  unfold PM.rw
  rw [show 0+61=60+1 by rfl,List.take_succ_cons,List.take_append,zao,List.take_of_length_le (by rw [zao];omega),Nat.sub_self,List.take_zero,List.append_nil]
 have d:m.rw.drop (0+61+6)=m.tl:=by
  unfold PM.rw
  rw [show 0+61+6=66+1 by rfl,List.drop_succ_cons,List.drop_append,zao,List.drop_append,zao,List.drop_of_length_le (by rw [zao];omega),List.drop_of_length_le (by rw [zao];omega)];rfl
 show m.rw.take (0+61)++(_++m.rw.drop (0+61+6))=_
 rw [e,d]
 rfl
theorem zlO (r:Nat→Int):(nums .u32 60 r).take 24++(List.replicate 12 (.int .u32 0)++(nums .u32 60 r).drop 36)=nums .u32 60 (clrV r):=by kernel_rfl
theorem PM.s25 (m:PM):zaC m.rw (0+1+24*1) (List.replicate 12 (.int .u32 0))=some (PM.rw { m with r:=clrV m.r }):=by
 rw [zb5 (by rw [m.len];decide+kernel)]
 refine congrArg some ?_
 have e:m.rw.take (0+1+24*1)=ptr m.fp 0::(nums .u32 60 m.r).take 24:=by
  unfold PM.rw
  rw [show 0+1+24*1=24+1 by rfl,List.take_succ_cons,List.take_append,zao,show 24-60=0 by rfl,List.take_zero,List.append_nil]
 have d:m.rw.drop (0+1+24*1+(List.replicate 12 (Value.int .u32 0)).length)=(nums .u32 60 m.r).drop 36++(nums .i64 6 m.k++m.tl):=by
  unfold PM.rw
  rw [show 0+1+24*1+(List.replicate 12 (Value.int .u32 0)).length=36+1 by rfl,List.drop_succ_cons,List.drop_append,zao];rfl
 rw [e,d]
 unfold PM.rw
 rw [← zlO]
 simp only [List.cons_append,List.append_assoc]
 rfl
def takeP (m:PM) (o:OpM) (OL:List (Int×Int)):PM:={ m.withOp o with cur:= -1,rn:=0,rx:= -1,own:=ownT OL,k:=fun _=> -1,div:=false,fl:=false,r:=clrV m.r }
section
variable {st st' : SS} {b c : Nat} {m m' : PM} {f f' : FM} {OL : List (Int × Int)}
theorem zmu [Sym] (h:Tw st b c m f) {o:OpM} (hc:o.ops.cells.toList=[o.ops]∧one o.ops=true) (ho:Rg st o.ops (rowsF opR OL) 2 OL.length) (h6:OL.length≤6) (hb:∀ i k l q,o.ops=.slice (some ⟨i,k,none⟩) l q→i≠b∧i≠c):
  ∃ st',cc 41 [ptr b 0,o.val] st=some (.tuple #[],st')∧Tw st' b c (takeP m o OL) f∧Mod [b,c] st st':=by
 have e1:o.val.cells.toList=o.row:=rfl
 have h1:=h.new (.cells o.row 0)
 have e2:(st.new (.cells o.row 0)).ldN st.next 0 5=some (.agg o.row.toArray):=by rw [zgS];rfl
 have q:o.row.all one=true:=by show (true&&(true&&(true&&(true&&(one o.ops&&true)))))=true;rw [hc.2];rfl
 obtain ⟨s5,g5,a5,k5,_⟩:=h1.p.stV (k:=0+67) (aggC o.row) (n:=5) rfl q (m.s67 o)
 have t5:Tw s5 b c (m.withOp o) f:=h1.modB a5 k5 rfl
 obtain ⟨s8,g8,t8,k8,_⟩:=t5.w (k:=0+72) (x:=.int .i64 (-1)) _ (by omega) rfl (PM.s72 _ (-1)) rfl
 obtain ⟨s11,g11,t11,k11,_⟩:=t8.w (k:=0+73) (x:=.int .i64 0) _ (by omega) rfl (PM.s73 _ 0) rfl
 obtain ⟨s14,g14,t14,k14,_⟩:=t11.w (k:=0+74) (x:=.int .i64 (-1)) _ (by omega) rfl (PM.s74 _ (-1)) rfl
 obtain ⟨s17,g17,t17,k17,_⟩:=t14.w (k:=0+75) (x:=.int .i64 4) _ (by omega) rfl (PM.s75 _ 4) rfl
 obtain ⟨s20,g20,t20,k20,_⟩:=t17.ws (k:=0+61) _ rfl (PM.s61 _) rfl
 obtain ⟨s23,g23,t23,k23,_⟩:=t20.w (k:=0+82) (x:=.bool false) _ (by omega) rfl (PM.s82 _ false) rfl
 obtain ⟨s26,g26,t26,k26,_⟩:=t23.w (k:=0+83) (x:=.bool false) _ (by omega) rfl (PM.s83 _ false) rfl
 obtain ⟨s30,g30,t30,k30,_⟩:=t26.ws (k:=0+1+24*1) (vs:=List.replicate 12 (.int .u32 0)) _ rfl (PM.s25 _) rfl
 have k:Mod [b,c] st s30:=(((((((((((Mod.new (st:=st) (.cells o.row 0)).mono (T:=[b,c]) (by simp)).then (inB k5)).then k8).then k11).then k14).then k17).then k20).then k23).then k26).then k30)
 have ho':Os s30 ({ m.withOp o with cur:= -1,rn:=0,rx:= -1,own:=4,k:=fun _=> -1,div:=false,fl:=false,r:=clrV m.r }:PM) OL:=⟨ho.mod k (by intro i l q e;have:=hb i 0 l q e;simp;exact this),h6⟩
 obtain ⟨s31,g31,t31,k31⟩:=zlN t30 ho' hb
 refine ⟨s31,zfY _ _ st ?_,t31,k.then k31⟩
 unfold zd6
 rw [e1]
 refine bs e2 ?_
 simp only [zak,zai,zob]
 refine bs (show (st.new (.cells o.row 0)).stV b (0+67) 5 (.agg o.row.toArray)=some s5 from g5) ?_
 refine bs g8 (bs g11 (bs g14 (bs g17 (bs g20 (bs g23 (bs g26 ?_))))))
 refine bs (show zhs b (0+1) 60 1 24 36=some (.slice (some ⟨b,0+1+24*1,none⟩) 12 36) from rfl) ?_
 refine bs (show s26.clr [.int .u32 0] (.slice (some ⟨b,0+1+24*1,none⟩) 12 36)=some s30 from by
  have z:(Builtin.zeroCells [Value.int .u32 0].toArray 12).toList=List.replicate 12 (.int .u32 0):=by kernel_rfl
  show s26.st b (0+1+24*1) (Builtin.zeroCells [Value.int .u32 0].toArray 12).toList=some s30
  rw [z];exact g30) ?_
 exact bs g31 rfl
def begP (m:PM) (f:FM):PM:=takeP { zco m with r:=up (zco m).r 46 ((zcp m f).r 15),was:=(zcp m f).psl } op0 []
def begQ (m:PM) (f:FM):FM:={ zcp m f with steps:=.slice none 0 0 }
theorem zjf {α:Type} (g:α→List Value) (z:Nat):Rg st (.slice none 0 0) (rowsF g []) z 0:=⟨by simp [rowsF],.inl ⟨rfl,rfl⟩⟩
theorem zlP [Sym] (h:Tw st b c m f):∃ st',cc 21 [ptr b 0] st=some (.tuple #[],st')∧Tw st' b c (begP m f) (begQ m f)∧Mod [b,c] st st':=by
 obtain ⟨s1,g1,t1,k1⟩:=zit h
 obtain ⟨s5,g5,a5,k5⟩:=zkt t1.f
 have t5:Tw s5 b c (zco m) (begQ m f):=t1.modC a5 k5
 have g9:=zjX (st:=s5.ro s5.next) t5.f.mem 15
 have g14:=zgj (st:=(s5.ro s5.next).ro s5.lim) t5.f.mem
 obtain ⟨s19,g19,t19,k19,_⟩:=t5.setR (i:=46) (by omega) ((zcp m f).r 15)
 obtain ⟨s22,g22,t22,k22,_⟩:=t19.w (k:=0+84) (x:=.int .u32 (zcp m f).psl) _ (by omega) rfl (PM.s84 _ _) rfl
 obtain ⟨s23,g23,t23,k23⟩:=zmu t22 (o:=op0) (OL:=[]) ⟨rfl,rfl⟩ (zjf _ _) (by simp) (by intro i k l q e;cases e)
 refine ⟨s23,zfd _ st ?_,t23,(((k1.then (inC k5)).then k19).then k22).then k23⟩
 unfold zdQ
 refine bs g1 ?_
 simp only [zak,zai,zob]
 refine bs t1.rw.ld0 (bs g5 (bs t5.rw.ld0 (bs g9 ?_)))
 simp only [zob,zaH]
 refine bs (show ((s5.ro s5.next).ro s5.lim).ld b 0=some (ptr c 0) from t5.rw.ld0) (bs g14 ?_)
 simp only [zob,zaH]
 refine bs (za1 (n:=46) (by omega)) ?_
 have e15:zh4 (begQ m f) 15=(zcp m f).r 15:=rfl
 rw [e15]
 refine bs (show ((s5.ro s5.next).ro s5.lim).st b (0+1+46*1) [.int .u32 ((zcp m f).r 15)]=some s19 from ?_) (bs g22 (bs g23 rfl))
 exact g19
def fm0:FM:=⟨fun _=>0,0,0,0,.slice none 0 0⟩
def pm0 (c:Nat):PM:=⟨c,fun _=>0,fun _=>0,0,⟨#[]⟩,0,0,.slice none 0 0,0,0,0,0,0,.slice none 0 0,⟨false,false,false,false⟩,false,false,0,0,0,0⟩
theorem zmv [Sym] (hl:st.lim≤st.next):cc 8 [] st=some (ptr st.next 0,st.new (.cells fm0.row 0))∧At (st.new (.cells fm0.row 0)) st.next fm0.row:=
 ⟨zjB st rfl,At.new hl _⟩
theorem zmw [Sym] (h:At st c f.row) (hl:st.lim≤st.next):∃ st',cc 7 [ptr c 0] st=some (ptr st.next 0,st')∧Tw st' st.next c (begP (pm0 c) f) (begQ (pm0 c) f)∧Mod [c] st st':=by
 have h1:Tw (st.new (.cells (pm0 c).rw 0)) st.next c (pm0 c) f:=⟨At.new hl _,h.ext ((Ext.refl st).new _),rfl,by have:=h.lt;omega,zlt hl (Nat.le_succ _)⟩
 obtain ⟨s2,g2,t2,k2⟩:=zlP h1
 refine ⟨s2,zi9 _ st ?_,t2,?_⟩
 ·unfold zir
  refine bs (a:=[ptr c 0]) rfl ?_
  refine bs (show cc 21 [ptr st.next 0] (st.new (.cells (pm0 c).rw 0))=some (.tuple #[],s2) from g2) rfl
 ·have:=(Mod.new (st:=st) (.cells (pm0 c).rw 0)).mono (T:=[c]) (by simp)
  refine this.trans k2 fun j hj hlt=>?_
  simp only [List.mem_cons,List.not_mem_nil,or_false] at hj
  rcases hj with hj | hj
  ·omega
  ·simp [hj]
end
end Go.Proofs.YtlpigjmjgclgiaaDoorE
namespace Go.Proofs.YtlpigjmjgclgiaaDoorE
set_option maxRecDepth 100000
open Go Go.E Go.Proofs
theorem bv32 {a:Nat} (ha:a<4294967296):(BitVec.ofInt 32 (a:Int)).toNat=a:=by
 rw [BitVec.ofInt_natCast,BitVec.toNat_ofNat];exact Nat.mod_eq_of_lt (by omega)
theorem or32 {a b:Nat} (ha:a<4294967296) (hb:b<4294967296):orI .u32 (a:Int) (b:Int)=((a||| b:Nat):Int):=by
 have hx:a||| b<2^32:=Nat.or_lt_two_pow (by omega) (by omega)
 show IntKind.wrap .u32 ((BitVec.ofInt 32 (a:Int)||| BitVec.ofInt 32 (b:Int)).toNat:Int)=_
 rw [BitVec.toNat_or,bv32 ha,bv32 hb]
 exact zdx (by omega) (by omega)
theorem shr32 (a s:Nat) (hs:s≤32):zhU .u32 (a:Int) (s:Int)=((a/2^s:Nat):Int):=by
 unfold zhU
 rw [Int.toNat_natCast,show IntKind.u32.bits=32 from rfl,Nat.min_eq_left (by omega),show (2:Int)^s=((2^s:Nat):Int) by rw [Int.natCast_pow];rfl,Int.fdiv_eq_ediv_of_nonneg _ (Int.natCast_nonneg _),Int.natCast_ediv]
end Go.Proofs.YtlpigjmjgclgiaaDoorE
namespace Go.Proofs.YtlpigjmjgclgiaaDoorE
open Go Go.E Go.Proofs
def za9 (x:Int) (i:Int):Int:=IntKind.wrap .u8 (zhU .u32 x (IntKind.wrap .i64 (8*i)))
def pushB (l:List Int) (v:Int):List Int:=if l.length<256 then l++[v] else l
def pushes (l:List Int) (x:Int):Nat→Nat→List Int
 | _,0=>l
 | i,k+1=>pushes (pushB l (za9 x i)) x (i+1) k
def sumT:List Int→Nat→Int→Int
 | [],_,x=>x
 | y::r,i,x=>sumT r (i+1) (orI .u32 x (zdi .u32 (IntKind.wrap .u32 y) (IntKind.wrap .i64 (8*(i:Int)))))
theorem zle {x i:Nat} (hi:i<4):za9 (x:Int) (i:Int)=((x/2^(8*i)%256:Nat):Int):=by
 unfold za9
 rw [show (8:Int)*(i:Int)=((8*i:Nat):Int) by omega,wrap64 (n:=((8*i:Nat):Int)) (by omega) (by omega),shr32 x (8*i) (by omega),← zc2]
 show ((za8 _ 256:Nat):Int)=_
 rw [zc1 _ _ (by decide)]
 omega
theorem shl8 {y i:Nat} (hi:i<4) (hy:y<256):zdi .u32 (IntKind.wrap .u32 (y:Int)) (IntKind.wrap .i64 (8*(i:Int)))=((y*2^(8*i):Nat):Int):=by
 rw [show (8:Int)*(i:Int)=((8*i:Nat):Int) by omega,wrap64 (n:=((8*i:Nat):Int)) (by omega) (by omega),zdx (n:=(y:Int)) (by omega) (by omega)]
 unfold zdi
 rw [Int.toNat_natCast,show IntKind.u32.bits=32 from rfl,Nat.min_eq_left (by omega),show (2:Int)^(8*i)=((2^(8*i):Nat):Int) by rw [Int.natCast_pow];rfl,← Int.natCast_mul]
 refine zdx (Int.natCast_nonneg _) ?_
 have h1:2^(8*i)≤2^24:=Nat.pow_le_pow_right (by omega) (by omega)
 have h2:y*2^(8*i)≤255*2^24:=Nat.mul_le_mul (by omega) h1
 omega
theorem or_add {a y i:Nat} (hi:i<4) (ha:a<2^(8*i)) (hy:y<256):orI .u32 (a:Int) ((y*2^(8*i):Nat):Int)=((a+y*2^(8*i):Nat):Int):=by
 have h1:2^(8*i)≤2^24:=Nat.pow_le_pow_right (by omega) (by omega)
 have h2:y*2^(8*i)≤255*2^24:=Nat.mul_le_mul (by omega) h1
 rw [or32 (by omega) (by omega),Nat.or_comm,← Nat.shiftLeft_eq,← Nat.shiftLeft_add_eq_or_of_lt ha,Nat.add_comm]
theorem zlQ {a y i:Nat} (r:List Int) (hi:i<4) (ha:a<2^(8*i)) (hy:y<256):sumT ((y:Int)::r) i (a:Int)=sumT r (i+1) ((a+y*2^(8*i):Nat):Int):=by
 show sumT r (i+1) (orI .u32 (a:Int) (zdi .u32 (IntKind.wrap .u32 (y:Int)) (IntKind.wrap .i64 (8*(i:Int)))))=_
 rw [shl8 hi hy,or_add hi ha hy]
def ze2 (s:Nat) (x:Int):List Int:=(List.range s).map fun (i:Nat)=>za9 x (i:Int)
theorem zc4 (s:Nat) (x:Int):(ze2 s x).length=s:=by simp [ze2]
theorem zhH (l:List Int) (x:Int):∀ (k i:Nat),l.length+k≤256→pushes l x i k=l++(List.range k).map fun j=>za9 x ((i+j:Nat):Int)
 | 0,i,h=>by simp [pushes]
 | k+1,i,h=>by
   have ih:=zhH (l++[za9 x (i:Int)]) x k (i+1) (by simp;omega)
   show pushes (pushB l (za9 x i)) x (i+1) k=_
   unfold pushB
   rw [if_pos (by omega),ih,List.append_assoc,List.range_succ_eq_map,List.map_cons,List.map_map]
   have:(fun j=>za9 x ((i+1+j:Nat):Int))=(fun j=>za9 x ((i+j:Nat):Int))∘Nat.succ:=by
    funext j
    show za9 x ((i+1+j:Nat):Int)=za9 x ((i+(j+1):Nat):Int)
    rw [show i+1+j=i+(j+1) by omega]
   rw [this];rfl
theorem zj2 {x:Nat}:∀ (k i a:Nat),i+k≤4→a=x%2^(8*i)→sumT ((List.range k).map fun j=>za9 (x:Int) ((i+j:Nat):Int)) i (a:Int)=((x%2^(8*(i+k)):Nat):Int)
 | 0,i,a,h,ha=>by subst ha;rfl
 | k+1,i,a,h,ha=>by
   have hlt:a<2^(8*i):=by rw [ha];exact Nat.mod_lt _ (Nat.two_pow_pos _)
   have hnext:a+x/2^(8*i)%256*2^(8*i)=x%2^(8*(i+1)):=by
    rw [ha,show 8*(i+1)=8*i+8 by omega,Nat.pow_add,Nat.mod_mul,Nat.mul_comm (2^(8*i))]
   have ih:=zj2 (x:=x) k (i+1) _ (by omega) hnext
   rw [List.range_succ_eq_map,List.map_cons,List.map_map,show i+(k+1)=i+1+k by omega]
   show sumT (za9 (x:Int) ((i+0:Nat):Int)::_) i (a:Int)=_
   rw [Nat.add_zero,zle (by omega),zlQ _ (by omega) hlt (Nat.mod_lt _ (by omega))]
   have e:(fun j=>za9 (x:Int) ((i+j:Nat):Int))∘Nat.succ=fun j=>za9 (x:Int) ((i+1+j:Nat):Int):=by
    funext j
    show za9 (x:Int) ((i+(j+1):Nat):Int)=_
    rw [show i+(j+1)=i+1+j by omega]
   rw [e]
   exact ih
theorem zlR (l:List Int) (x:Int) (s:Nat) (h:l.length+s≤256):pushes l x 0 s=l++ze2 s x:=by
 rw [zhH l x s 0 h]
 unfold ze2
 simp only [Nat.zero_add]
theorem zmx {x s:Nat} (hs:s≤4):sumT (ze2 s (x:Int)) 0 0=((x%2^(8*s):Nat):Int):=by
 have:=zj2 (x:=x) s 0 0 (by omega) (by simp [Nat.mod_one])
 simp only [Nat.zero_add] at this
 exact this
end Go.Proofs.YtlpigjmjgclgiaaDoorE
namespace Go.Proofs.YtlpigjmjgclgiaaDoorE
set_option maxRecDepth 100000
open Go Go.E Go.Proofs
def byR (x:Int):List Value:=[.int .u8 x]
structure Pb (B:Nat) (st:SS) (b c:Nat) (m:PM) (f:FM) (l:List Int):Prop where
 tw:Tw st b c m f
 sl:SL B st 1 m.buf (rowsF byR l) l.length
 bB:b<B
 cB:c<B
 hB:B≤st.next
 lB:st.lim≤B
 len:l.length≤256
def NoB (v:Value) (i:Nat):Prop:=∀ o l q,v≠.slice (some ⟨i,o,none⟩) l q
def Nwr (n:Nat) (v w:Value):Prop:=∀ i o l q,w=.slice (some ⟨i,o,none⟩) l q→n≤i∨¬ NoB v i
section
variable {B : Nat} {st st' s1 s2 : SS} {b c n : Nat} {m m' : PM} {f f' : FM} {l : List Int} {S : List Nat} {u v w : Value}
theorem Frm.refl (s:SS):Frm B S v s s:=⟨zlr _,rfl,fun _ _ _ _=>rfl⟩
theorem Frm.ofMod (h:Mod S st st'):Frm B S v st st':=⟨h.next,h.lim,fun i hi hS _=>h.keep i hi hS⟩
theorem Frm.ofExt (h:Ext st st'):Frm B S v st st':=.ofMod (.ofExt h)
theorem Nwr.refl (n:Nat) (v:Value):Nwr n v v:=fun i o l q e=>.inr fun h=>h o l q e
theorem Nwr.trans (h:Nwr n u v) (k:Nwr s1.next v w) (hn:n≤s1.next):Nwr n u w:=fun i o l q e=>by
 rcases k i o l q e with h1 | h1
 ·exact .inl (by omega)
 ·by_cases hb:n≤i
  ·exact .inl hb
  ·refine .inr fun hu=>h1 fun o' l' q' e'=>?_
   rcases h i o' l' q' e' with h2 | h2
   ·exact hb h2
   ·exact h2 hu
theorem Frm.then (h:Frm B S u st s1) (k:Frm B S v s1 s2) (hv:Nwr st.next u v):Frm B S u st s2:=
 ⟨zlt h.next k.next,k.lim.trans h.lim,fun i hi hS hu=>(k.keep i (zll hi h.next) hS fun o q r e=>by
  rcases hv i o q r e with h1 | h1
  ·omega
  ·exact h1 hu).trans (h.keep i hi hS hu)⟩
theorem Frm.at' {row:List Value} {i:Nat} (h:Frm B S v st st') (a:At st i row) (hS:i∉S) (hv:NoB v i):At st' i row:=
 ⟨(h.keep i a.lt hS hv).trans a.1,zll a.lt h.next,by rw [h.lim];exact a.2.2⟩
theorem Frm.keepB (h:Frm B S v st st') (hB:B≤st.next) (hv:∀ i,i<B→NoB v i):Keep B S st st':=⟨h.next,h.lim,fun i hi hS=>h.keep i (by omega) hS (hv i hi)⟩
theorem SL.noB {z:Nat} {c:List Value} (h:SL B st z v c n) {i:Nat} (hi:i<B∨st.next≤i):NoB v i:=fun o l q e=>by have:=h.blk i o l q e;omega
theorem Pb.ext (h:Pb B st b c m f l) (k:Ext st st'):Pb B st' b c m f l:=⟨h.tw.ext k,h.sl.ext k,h.bB,h.cB,zlt h.hB k.next,by rw [k.lim];exact h.lB,h.len⟩
theorem Pb.adv (h:Pb B st b c m f l) {n:Nat} (hn:st.next≤n):Pb B (st.adv n) b c m f l:=h.ext (Ext.advR st hn)
theorem Pb.tw' (h:Pb B st b c m f l) (t:Tw st' b c m' f') (k:Mod [b,c] st st') (e:m'.buf=m.buf):Pb B st' b c m' f' l:=
 ⟨t,by rw [e];exact h.sl.mod k (by intro j hj;simp at hj;have:=h.bB;have:=h.cB;omega),h.bB,h.cB,zlt h.hB k.next,by rw [k.lim];exact h.lB,h.len⟩
theorem Tw.wV (h:Tw st b c m f) {k:Nat} {x:Value} (m':PM) (hk:k<88) (hc:x.cells.toList=[x]) (h1:one x=true) (e:m.rw.set k x=m'.rw) (hf:m'.fp=m.fp):∃ st',st.stV b k 1 x=some st'∧Tw st' b c m' f∧Mod [b,c] st st'∧st'.next=st.next:=by
 obtain ⟨s,e,a,k,n⟩:=h.p.wV (row':=m'.rw) (by rw [m.len];exact hk) hc h1 e
 exact ⟨s,e,h.modB a k hf,inB k,n⟩
theorem Pb.ldB (h:Pb B st b c m f l):st.ld b (0+77)=some m.buf:=by rw [h.tw.rw.ld];exact m.g77
theorem zku (l:List Int) (x:Int):rowsF byR (l++[x])=rowsF byR l++byR x:=by rw [zi5,zk5]
theorem zlS (h:Pb B st b c m f l) (hl:l.length<256) (x:Int):
  ∃ v s1 s2,(st.new (.cells [.int .u8 x] 1)).app 1 1 m.buf (.slice (some ⟨st.next,0,none⟩) 1 1)=some (v,s1)∧s1.stV b (0+77) 1 v=some s2∧Pb B s2 b c { m with buf:=v } f (l++[x])∧Frm B [b,c] m.buf st s2∧Nwr st.next m.buf v:=by
 obtain ⟨s1,e1,n1,l1,q1,k1⟩:=h.sl.push (row:=byR x) (by':=1) h.hB h.lB rfl (by omega) rfl (by omega) (by omega)
 have hbn:NoB m.buf b:=SL.noB h.sl (.inl h.bB)
 have hcn:NoB m.buf c:=SL.noB h.sl (.inl h.cB)
 have t1:Tw s1 b c m f:=⟨⟨(k1 b h.tw.p.lt hbn).trans h.tw.p.1,by have:=h.tw.p.lt;omega,by rw [l1];exact h.tw.p.2.2⟩,⟨(k1 c h.tw.f.lt hcn).trans h.tw.f.1,by have:=h.tw.f.lt;omega,by rw [l1];exact h.tw.f.2.2⟩,h.tw.fp,h.tw.ne,by have:=h.tw.ll;omega⟩
 obtain ⟨s2,e2,t2,k2,n2⟩:=t1.wV (k:=0+77) (x:=.slice (some ⟨st.next+1,0,none⟩) (l.length+1) (l.length+1)) _ (by omega) rfl rfl (PM.s77 _ _) rfl
 have q2:=q1.mod k2 (by intro j hj;simp at hj;have:=h.bB;have:=h.cB;omega)
 refine ⟨_,s1,s2,e1,e2,⟨t2,?_,h.bB,h.cB,by have:=h.hB;omega,by rw [k2.lim,l1];exact h.lB,by simp;omega⟩,⟨by omega,by rw [k2.lim,l1],fun i hi hS hk=>(k2.keep i (by omega) hS).trans (k1 i hi hk)⟩,fun i o q r e=>by cases e;exact .inl (by omega)⟩
 rw [zku,List.length_append];exact q2
theorem zjg [Sym]:∀ (k i:Nat) (st:SS) (m:PM) (l:List Int),Pb B st b c m f l→i+k≤1000000→
  ∃ st' v,zaS 5 [ptr b 0,.int .i64 ((i+k:Nat):Int),.int .i64 (i:Int)] st=some (0,[],st')∧Pb B st' b c { m with buf:=v } f (pushes l (m.r 36) i k)∧Frm B [b,c] m.buf st st'∧Nwr st.next m.buf v
 | 0,i,st,m,l,h,hb=>by
   refine ⟨st,m.buf,zbB _ _ _ st ?_,h,.refl _,.refl _ _⟩
   unfold zbq
   rw [zdf (show ¬ ((i:Int)<((i+0:Nat):Int)) by omega)];rfl
 | k+1,i,st,m,l,h,hb=>by
   have hlen:=h.sl.lenI
   have c1:decide ((i:Int)<((i+(k+1):Nat):Int))=true:=zdt (by omega)
   have w1:IntKind.wrap .i64 ((i:Int)+1)=((i+1:Nat):Int):=by rw [wrap64 (by omega) (by omega)];omega
   have w8:(0:Int)≤IntKind.wrap .i64 (8*(i:Int)):=by rw [wrap64 (by omega) (by omega)];omega
   by_cases hl:l.length<256
   ·obtain ⟨v,s1,s2,e1,e2,p2,f2,n2⟩:=zlS h hl (za9 (m.r 36) (i:Int))
    obtain ⟨s3,v3,e3,p3,f3,n3⟩:=zjg k (i+1) s2 { m with buf:=v } _ p2 (by omega)
    refine ⟨s3,v3,zbB _ _ _ st ?_,?_,f2.then f3 n2,n2.trans n3 f2.next⟩
    ·unfold zbq
     rw [c1]
     simp only [zct,zak,zai,zob]
     refine bs h.ldB (bs hlen ?_)
     rw [zdt (by omega),zct]
     refine bs h.ldB (bs (za1 (n:=36) (by omega)) (bs (h.tw.rw.ldR (by omega)) ?_))
     refine bs (show (aI .shr .u32 (m.r 36) (IntKind.wrap .i64 (8*(i:Int)))).bind (asI .u32)=some _ from by rw [aI_shr w8];rfl) ?_
     refine bs e1 (bs e2 ?_)
     rw [w1,show i+(k+1)=i+1+k by omega]
     exact e3
    ·have:pushes l (m.r 36) i (k+1)=pushes (l++[za9 (m.r 36) (i:Int)]) (m.r 36) (i+1) k:=by
      show pushes (pushB l (za9 (m.r 36) i)) (m.r 36) (i+1) k=_
      unfold pushB;rw [if_pos hl]
     rw [this];exact p3
   ·obtain ⟨s3,v3,e3,p3,f3,n3⟩:=zjg k (i+1) st m l h (by omega)
    refine ⟨s3,v3,zbB _ _ _ st ?_,?_,f3,n3⟩
    ·unfold zbq
     rw [c1]
     simp only [zct,zak,zai,zob]
     refine bs h.ldB (bs hlen ?_)
     rw [zdf (by omega),zcf]
     rw [w1,show i+(k+1)=i+1+k by omega]
     exact e3
    ·have:pushes l (m.r 36) i (k+1)=pushes l (m.r 36) (i+1) k:=by
      show pushes (pushB l (za9 (m.r 36) i)) (m.r 36) (i+1) k=_
      unfold pushB;rw [if_neg hl]
     rw [this];exact p3
theorem zb6:∀ l:List Int,rowsF byR l=l.map (Value.int .u8)
 | []=>rfl
 | a::r=>by
   have ih:=zb6 r
   show byR a++rowsF byR r=_
   rw [ih];rfl
theorem zh6 (l:List Int) (j:Nat) {x:Int} (hx:l[j]?=some x):((rowsF byR l).drop (j*1)).take 1=[.int .u8 x]:=by
 have hlt:=(List.getElem?_eq_some_iff.1 hx).1
 rw [zb6,Nat.mul_one,← List.map_drop,List.drop_eq_getElem_cons hlt]
 have:=(List.getElem?_eq_some_iff.1 hx).2
 rw [this];rfl
theorem zhI [Sym] {v:Value} {z:List Int} (hs:SL B st 1 v (rowsF byR z) z.length) (hz:z.length≤1000000) (n:Int):∀ (k i:Nat) (x:Int),i+k=z.length→
  zaS 14 [ptr b 0,.int .i64 n,.int .u32 x,v,.int .i64 (z.length:Int),.int .i64 (i:Int)] st=some (0,[ptr b 0,.int .i64 n,.int .u32 (sumT (z.drop i) i x)],st)
 | 0,i,x,h=>by
   refine zcc _ _ _ _ _ _ st ?_
   unfold zbV
   rw [zdf (by omega),List.drop_of_length_le (by omega)];rfl
 | k+1,i,x,h=>by
   have hlt:i<z.length:=by omega
   obtain ⟨p,e1,_,e2⟩:=hs.load hlt
   have ih:=zhI hs hz n k (i+1) (orI .u32 x (zdi .u32 (IntKind.wrap .u32 z[i]) (IntKind.wrap .i64 (8*(i:Int))))) (by omega)
   have l1:(st.ld p.1 p.2).bind (asI .u8)=some z[i]:=by
    have:=e2 0 (.int .u8 z[i]) (by rw [zh6 z i (zge hlt)];rfl)
    rw [Nat.add_zero] at this
    rw [this];rfl
   refine zcc _ _ _ _ _ _ st ?_
   unfold zbV
   rw [zdt (by omega),zct]
   refine bs e1 (bs l1 ?_)
   refine bs (show (aI .shl .u32 (IntKind.wrap .u32 z[i]) (IntKind.wrap .i64 (8*(i:Int)))).bind (asI .u32)=some _ from by rw [zhG (by rw [wrap64 (by omega) (by omega)];omega)];rfl) ?_
   simp only
   rw [show IntKind.wrap .i64 ((i:Int)+1)=((i+1:Nat):Int) by rw [wrap64 (by omega) (by omega)];omega,List.drop_eq_getElem_cons hlt]
   exact ih
end
end Go.Proofs.YtlpigjmjgclgiaaDoorE
namespace Go.Proofs.YtlpigjmjgclgiaaDoorE
set_option maxRecDepth 100000
open Go Go.E Go.Proofs
def outT (l:List Int) (n:Nat):Int:=sumT (l.take (min n l.length)) 0 0
def zb7 (m:PM) (l:List Int) (M:Int) (n:Nat):PM:=if M=7 then { m with r:=up m.r 36 (outT l n) } else m
def zbn (m:PM) (l:List Int) (M:Int) (n:Nat):List Int:=if M=6 then pushes l (m.r 36) 0 n else if M=7 then l.drop (min n l.length) else if M=8 then [] else l
section
variable {B : Nat} {st st' s1 s2 : SS} {b c n : Nat} {m m' : PM} {f f' : FM} {l : List Int} {S : List Nat} {u v w : Value}
theorem zlT {z:Nat} {C:List Value} (h:SL B st z v C n) (hb:b<B) (k:Nat):zhv v (ptr b k)=true:=by
 obtain ⟨_,⟨rfl,_⟩ | ⟨j,o,cap,C,rfl,_,_,_,_,h5,_⟩⟩:=h
 ·rfl
 ·show (!Nat.beq j b)=true
  rw [zad,zdf (by omega)];rfl
theorem zh7 (l:List Int) (k:Nat):(rowsF byR l).drop (k*1)=rowsF byR (l.drop k):=by
 rw [zb6,zb6,Nat.mul_one,List.map_drop]
theorem zjh (l:List Int) (k:Nat):(rowsF byR l).take (k*1)=rowsF byR (l.take k):=by
 rw [zb6,zb6,Nat.mul_one,List.map_take]
theorem ziy (l:List Int):(rowsF byR l).length=l.length:=by rw [zb6,List.length_map]
structure Wd (wv:Value) (w:List Value) (S M:Int):Prop where
 c:wv.cells.toList=w
 s:w[5]?=some (.int .i64 S)
 m:w[7]?=some (.int .i64 M)
theorem zlU [Sym] (h:Pb B st b c m f l) {wv:Value} {w:List Value} {Sz M:Int} (hw:Wd wv w Sz M) (h0:0≤Sz) (hn:sizeT m Sz=(n:Int)) (hn6:n≤1000000) (hM:M≠12∧M≠13∧M≠14) (a:Int):
  ∃ st' v,cc 26 [ptr b 0,wv,.int .u32 a] st=some (.tuple #[],st')∧Pb B st' b c { zb7 m l M n with buf:=v } f (zbn m l M n)∧Frm B [b,c] m.buf st st'∧Nwr st.next m.buf v:=by
 obtain ⟨s1,hs1⟩:∃ s,s=st.new (.cells w 0):=⟨_,rfl⟩
 have x1:Ext st s1:=by rw [hs1];exact (Ext.refl st).new _
 have h1:=h.ext x1
 have l1:∀ i,s1.ld st.next i=w[i]?:=fun i=>by rw [hs1];exact zew
 have e3:=zmt h1.tw.rw (n:=Sz) h0
 rw [hn] at e3
 have start:∀ r,(cond (decide (M=6)) _ _:Option (Value×SS))=some r→cc 26 [ptr b 0,wv,.int .u32 a] st=some r:=fun r hr=>by
  refine zfi _ _ _ st ?_
  unfold zdS
  rw [hw.c]
  simp only
  rw [← hs1]
  refine bs (a:=Sz) (by rw [l1,hw.s];rfl) (bs e3 ?_)
  simp only [zob,zaH]
  refine bs (a:=M) (by rw [l1,hw.m];rfl) ?_
  exact hr
 by_cases m6:M=6
 ·obtain ⟨s2,v,e2,p2,f2,n2⟩:=zjg n 0 s1 m l h1 (by omega)
  rw [Nat.zero_add] at e2
  refine ⟨s2,v,start _ ?_,?_,(Frm.ofExt x1).then f2 (.refl _ _),(Nwr.refl _ _).trans n2 x1.next⟩
  ·rw [zdt m6,zct]
   exact bs e2 rfl
  ·unfold zb7 zbn;rw [if_neg (by omega),if_pos m6];exact p2
 by_cases m7:M=7
 ·obtain ⟨v15,e15,q15,_⟩:=h1.sl.resl (l:=0) (k:=min n l.length) (Nat.zero_le _) (Nat.min_le_right _ _)
  have e15':s1.resl m.buf 1 0 ((min n l.length:Nat):Int)=some v15:=e15
  have hz:(l.take (min n l.length)).length=min n l.length:=by rw [List.length_take];omega
  have q15':SL B s1 1 v15 (rowsF byR (l.take (min n l.length))) (l.take (min n l.length)).length:=by
   rw [Nat.zero_mul,List.drop_zero,Nat.sub_zero,zjh] at q15
   rw [hz];exact q15
  have e17:=zhI (b:=b) q15' (by rw [hz];have:=h.len;omega) ((min n l.length:Nat):Int) (min n l.length) 0 0 (by rw [hz];omega)
  rw [List.drop_zero] at e17
  obtain ⟨v25,e25,q25,b25⟩:=h1.sl.resl (l:=min n l.length) (k:=l.length) (Nat.min_le_right _ _) (zlr _)
  obtain ⟨s29,e29,t29,k29,_⟩:=h1.tw.setR (i:=36) (by omega) (outT l n)
  have hc:=q25.cell
  obtain ⟨s32,e32,t32,k32,_⟩:=t29.wV (k:=0+77) (x:=v25) _ (by omega) hc.1 hc.2 (PM.s77 _ _) rfl
  have k:Mod [b,c] s1 s32:=k29.then k32
  have hbc:∀ j,j∈[b,c]→j<B:=by intro j hj;simp at hj;have:=h.bB;have:=h.cB;omega
  refine ⟨s32,v25,start _ ?_,⟨?_,?_,h.bB,h.cB,zlt h1.hB k.next,by rw [k.lim];exact h1.lB,?_⟩,(Frm.ofExt x1).then (.ofMod (v:=m.buf) k) (.refl _ _),fun i o q r e=>?_⟩
  ·rw [zdf m6,zcf,zdt m7,zct]
   simp only [zak,zai,zob]
   refine bs h1.ldB (bs h1.sl.lenI ?_)
   have hmin:(if (l.length:Int)<(n:Int) then (l.length:Int) else (n:Int))=((min n l.length:Nat):Int):=by split<;>omega
   rw [hmin]
   refine bs h1.ldB (bs e15' (bs q15'.lenI (bs e17 ?_)))
   refine bs (a:=ptr b 0) rfl (bs (a:=((min n l.length:Nat):Int)) rfl (bs (a:=outT l n) rfl ?_))
   simp only [zak,zai,zob]
   refine bs h1.ldB (bs h1.sl.sl (bs e25 (bs (za1 (n:=36) (by omega)) ?_)))
   rw [zlT h1.sl h.bB,zct]
   exact bs e29 (bs e32 rfl)
  ·unfold zb7;rw [if_pos m7];exact t32
  ·have hd:zbn m l M n=l.drop (min n l.length):=by unfold zbn;rw [if_neg m6,if_pos m7]
   rw [hd]
   have q:=q25.mod k hbc
   have e:((rowsF byR l).drop (min n l.length*1)).take ((l.length-min n l.length)*1)=rowsF byR (l.drop (min n l.length)):=by
    rw [zh7,List.take_of_length_le (by rw [ziy,List.length_drop];omega)]
   rw [e,← List.length_drop] at q
   exact q
  ·unfold zbn;rw [if_neg m6,if_pos m7,List.length_drop];have:=h.len;omega
  ·obtain ⟨o',q',r',e'⟩:=b25 i o q r e
   exact .inr fun hno=>hno o' q' r' e'
 by_cases m8:M=8
 ·obtain ⟨s2,e2,t2,k2,_⟩:=h1.tw.w (k:=0+77) (x:=.slice none 0 0) _ (by omega) rfl (PM.s77 _ _) rfl
  refine ⟨s2,.slice none 0 0,start _ ?_,⟨?_,?_,h.bB,h.cB,zlt h1.hB k2.next,by rw [k2.lim];exact h1.lB,?_⟩,(Frm.ofExt x1).then (.ofMod (v:=m.buf) k2) (.refl _ _),fun i o q r e=>by cases e⟩
  ·rw [zdf m6,zcf,zdf m7,zcf,zdt m8,zct]
   simp only [zak,zai,zob]
   exact bs e2 rfl
  ·unfold zb7;rw [if_neg m7];exact t2
  ·unfold zbn;rw [if_neg m6,if_neg m7,if_pos m8];exact SL.nil
  ·unfold zbn;rw [if_neg m6,if_neg m7,if_pos m8];simp
 ·refine ⟨s1,m.buf,start _ ?_,?_,.ofExt x1,.refl _ _⟩
  ·rw [zdf m6,zcf,zdf m7,zcf,zdf m8,zcf,zdf hM.1,zcf,zdf hM.2.1,zcf,zdf hM.2.2,zcf]
  ·unfold zb7 zbn;rw [if_neg m7,if_neg m6,if_neg m7,if_neg m8];exact h1
end
end Go.Proofs.YtlpigjmjgclgiaaDoorE
namespace Go.Proofs.YtlpigjmjgclgiaaDoorE
set_option maxRecDepth 20000
open Go Go.E Go.Proofs
def zby:LoopI:=⟨[(0,.any),(1,.int .i64)],[(.ret,[(4,.bool)])]⟩
def zbz:LoopI:=⟨[(1,.int .i64),(5,.any),(62,.any),(63,.int .i64),(64,.int .i64)],[(.exit 2,[(5,.any)]),(.ret,[(4,.bool)])]⟩
def zbC:LoopI:=⟨[(0,.any),(1,.int .i64),(5,.any),(28,.any),(29,.int .i64),(30,.int .i64)],[(.exit 0,[(0,.any),(1,.int .i64),(5,.any)])]⟩
def zbM (n:Nat):Option LoopI:=cond (Nat.beq n 8) (some zbC) (cond (Nat.beq n 16) (some zbz) (cond (Nat.beq n 1000006) (some zby) (none)))
noncomputable def zb0 (cf:zaw) (lf:zaj) (list':Value) (size':Int) (st:SS):Option (Value×SS):=
 (cf 6 [] st).bind fun a=>
 ((some a.1).bind asB).bind fun b=>
 cond (!b) (
 some (.bool false,a.2)) (
 ((lenV list').bind (asI .i64)).bind fun c=>
 cond (decide (30<c)) (
 some (.bool true,a.2)) (
 cond (decide (size'<0)) (
 some (.bool true,a.2)) (
 cond (decide (2<size')) (
 some (.bool true,a.2)) (
 (lf 1000006 [list',.int .i64 size'] a.2).bind fun d=>
 ((d.2.1[0]?).bind asB).bind fun e=>
 some (.bool e,d.2.2)))))
noncomputable abbrev zas:zaj:=lS Tryd.prog Lk0 Tryd.f3 zbM
theorem zc5:Lk0.func 3=some (3,Tryd.f3):=by kernel_rfl
theorem zc6 [Sym] (list':Value) (size':Int) (st:SS) {r:Value×SS} (h:zb0 cc zas list' size' st=some r):cc 3 [list',.int .i64 size'] st=some r:=
 zar (li:=zbM) zav zaB zc5 rfl (fun _=>rfl) (.trans (by kernel_rfl) h)
noncomputable def za6 (cf:zaw) (lf:zaj) (list':Value) (size':Int) (p':Value) (t28':Value) (t29':Int) (t30':Int) (st:SS):Option (Nat×List Value×SS):=
 cond (decide (t30'<t29')) (
 (zbh t28' t30' 1).bind fun a=>
 ((st.ld a.1 a.2).bind (asI .u32)).bind fun b=>
 (cf 10 [p',.int .i64 36,.int .u32 b,.int .i64 4] st).bind fun c=>
 (cf 9 [p',.agg #[.int .i64 0,.int .i64 0,.int .i64 0,.int .i64 0,.int .i64 0,.int .i64 size',.int .i64 0,.int .i64 6,.int .i64 0,.int .i64 0,.int .i64 0,.int .i64 0]] c.2).bind fun d=>
 let e:Int:=IntKind.wrap .i64 (t30'+1)
 lf 8 [list',.int .i64 size',p',t28',.int .i64 t29',.int .i64 e] d.2) (
 some (0,[list',.int .i64 size',p'],st))
theorem zbr [Sym] (list':Value) (size':Int) (p':Value) (t28':Value) (t29':Int) (t30':Int) (st:SS) {r:Nat×List Value×SS} (h:za6 cc zas list' size' p' t28' t29' t30' st=some r):zas 8 [list',.int .i64 size',p',t28',.int .i64 t29',.int .i64 t30'] st=some r:=
 zcJ zav zaB (key:=8) (I:=zbC) rfl (by kernel_rfl) (by kernel_rfl) rfl rfl (.trans (by kernel_rfl) h)
noncomputable def za4 (cf:zaw) (lf:zaj) (size':Int) (p':Value) (t62':Value) (t63':Int) (t64':Int) (st:SS):Option (Nat×List Value×SS):=
 cond (decide (t64'<t63')) (
 (zbh t62' t64' 1).bind fun a=>
 ((st.ld a.1 a.2).bind (asI .u32)).bind fun b=>
 (cf 9 [p',.agg #[.int .i64 0,.int .i64 0,.int .i64 0,.int .i64 0,.int .i64 0,.int .i64 size',.int .i64 0,.int .i64 7,.int .i64 0,.int .i64 0,.int .i64 0,.int .i64 0]] st).bind fun c=>
 (cf 11 [p',.int .i64 36] c.2).bind fun d=>
 ((some d.1).bind (asI .u32)).bind fun e=>
 let f:Int:=IntKind.wrap .u64 size'
 ((aI .shl .i64 1 f).bind (asI .i64)).bind fun g=>
 (cf 13 [.int .u32 b,.int .i64 g] d.2).bind fun h=>
 ((some h.1).bind (asI .i64)).bind fun i=>
 let j:Int:=IntKind.wrap .u32 i
 cond (!(decide (e=j))) (
 some (1,[.bool false],h.2)) (
 let k:Int:=IntKind.wrap .i64 (t64'+1)
 lf 16 [.int .i64 size',p',t62',.int .i64 t63',.int .i64 k] h.2)) (
 some (0,[p'],st))
theorem zbo [Sym] (size':Int) (p':Value) (t62':Value) (t63':Int) (t64':Int) (st:SS) {r:Nat×List Value×SS} (h:za4 cc zas size' p' t62' t63' t64' st=some r):zas 16 [.int .i64 size',p',t62',.int .i64 t63',.int .i64 t64'] st=some r:=
 zcJ zav zaB (key:=16) (I:=zbz) rfl (by kernel_rfl) (by kernel_rfl) rfl rfl (.trans (by kernel_rfl) h)
noncomputable def zbN (cf:zaw) (lf:zaj) (list':Value) (size':Int) (st:SS):Option (Nat×List Value×SS):=
 (cf 8 [] st).bind fun a=>
 (cf 7 [a.1] a.2).bind fun b=>
 (cf 9 [b.1,.agg #[.int .i64 0,.int .i64 0,.int .i64 0,.int .i64 0,.int .i64 0,.int .i64 0,.int .i64 0,.int .i64 8,.int .i64 0,.int .i64 0,.int .i64 0,.int .i64 0]] b.2).bind fun c=>
 ((lenV list').bind (asI .i64)).bind fun d=>
 (lf 8 [list',.int .i64 size',b.1,list',.int .i64 d,.int .i64 0] c.2).bind fun e=>
 (e.2.1[0]?).bind fun f=>
 ((e.2.1[1]?).bind (asI .i64)).bind fun g=>
 (e.2.1[2]?).bind fun h=>
 (cf 11 [h,.int .i64 58] e.2.2).bind fun i=>
 ((some i.1).bind (asI .u32)).bind fun j=>
 ((lenV f).bind (asI .i64)).bind fun k=>
 let l:Int:=IntKind.wrap .u64 g
 ((aI .shl .i64 k l).bind (asI .i64)).bind fun m=>
 let n:Int:=IntKind.wrap .u32 m
 cond (!(decide (j=n))) (
 some (0,[.bool false],i.2)) (
 (cf 12 [h] i.2).bind fun o=>
 ((lenV o.1).bind (asI .i64)).bind fun p=>
 ((lenV f).bind (asI .i64)).bind fun q=>
 let r:Int:=IntKind.wrap .u64 g
 ((aI .shl .i64 q r).bind (asI .i64)).bind fun s=>
 cond (!(decide (p=s))) (
 some (0,[.bool false],o.2)) (
 ((lenV f).bind (asI .i64)).bind fun t=>
 (lf 16 [.int .i64 g,h,f,.int .i64 t,.int .i64 0] o.2).bind fun u=>
 cond (Nat.beq u.1 0) (
 (u.2.1[0]?).bind fun v=>
 (cf 11 [v,.int .i64 58] u.2.2).bind fun w=>
 ((some w.1).bind (asI .u32)).bind fun x=>
 some (0,[.bool (decide (x=0))],w.2)) (
 ((u.2.1[0]?).bind asB).bind fun y=>
 some (0,[.bool y],u.2.2))))
theorem zcF [Sym] (list':Value) (size':Int) (st:SS) {r:Nat×List Value×SS} (h:zbN cc zas list' size' st=some r):zas 1000006 [list',.int .i64 size'] st=some r:=
 zbv zav zaB (key:=1000006) (I:=zby) rfl (by kernel_rfl) (by kernel_rfl) rfl rfl (.trans (by kernel_rfl) h)
end Go.Proofs.YtlpigjmjgclgiaaDoorE
namespace Go.Proofs.YtlpigjmjgclgiaaDoorE
set_option maxRecDepth 100000
open Go Go.E Go.Proofs
structure Idl (m:PM):Prop where
 wt:m.wt=0
 wx:m.wx=0
 ws:m.ws=0
 ops:m.ops=.slice none 0 0
def wB (M S:Int):Value:=.agg #[.int .i64 0,.int .i64 0,.int .i64 0,.int .i64 0,.int .i64 0,.int .i64 S,.int .i64 0,.int .i64 M,.int .i64 0,.int .i64 0,.int .i64 0,.int .i64 0]
def wBR (M S:Int):List Value:=[.int .i64 0,.int .i64 0,.int .i64 0,.int .i64 0,.int .i64 0,.int .i64 S,.int .i64 0,.int .i64 M,.int .i64 0,.int .i64 0,.int .i64 0,.int .i64 0]
section
variable {B : Nat} {st st' s1 s2 : SS} {b c n : Nat} {m m' : PM} {f f' : FM} {l : List Int} {S : List Nat} {u v w : Value}
theorem zji (h:Idl m):zco m=m∧zcp m f=f:=by
 obtain ⟨h1,h2,h3,_⟩:=h
 refine ⟨?_,by unfold zcp;rw [h3,if_neg (by omega)]⟩
 unfold zco
 rw [if_neg (by omega)]
 cases m;simp only at h1 h2 h3;subst h1;subst h2;subst h3;rfl
theorem Idl.os (h:Idl m):Os st m []:=⟨by rw [h.ops];exact zjf _ _,by simp⟩
theorem Idl.get (h:Idl m) {n U:Nat} (h1:16≤n) (h2:n<38):getT m f [] U (n:Int)=m.r n:=by
 unfold getT
 rw [zc9 (by omega)]
 show zee m f U n=_
 unfold zee
 rw [if_neg (by omega),if_neg (by rw [h.ws];omega)]
 unfold zc8
 simp only [show ¬ ((n:Int)=38) by omega,show ¬ ((n:Int)=48) by omega,show ¬ ((n:Int)=49) by omega,show ¬ ((n:Int)=51) by omega,show ¬ ((n:Int)=52) by omega,show ¬ ((n:Int)=58) by omega,show ¬ ((n:Int)=41) by omega,show ¬ ((n:Int)=42) by omega,show ¬ ((60:Int)≤n) by omega,if_false,or_self,Int.toNat_natCast]
theorem Idl.count (h:Idl m) (U:Nat) (hU:U<4294967296):getT m f [] U 58=(U:Int):=by
 have e:zc7 m [] 58=some 58:=by unfold zc7;rw [if_neg (by omega),if_neg (by omega),if_neg (by omega),if_neg (by omega)]
 unfold getT
 rw [e]
 show zee m f U 58=_
 unfold zee
 rw [if_neg (by omega),if_neg (by rw [h.ws];omega)]
 unfold zc8
 rw [if_neg (by omega),if_neg (by omega),if_neg (by omega),if_neg (by omega),if_pos rfl]
 exact zdx (by omega) (by omega)
theorem latch0 [Sym] (h:Pb B st b c m f l) (M Sz a:Int):∃ st',cc 27 [ptr b 0,wB M Sz,.int .u32 a] st=some (.tuple #[],st')∧Pb B st' b c m f l∧Ext st st':=by
 have l1:∀ i,(st.new (.cells (wBR M Sz) 0)).ld st.next i=(wBR M Sz)[i]?:=fun i=>zew
 refine ⟨_,zfl _ _ _ st ?_,h.ext ((Ext.refl st).new _),(Ext.refl st).new (.cells (wBR M Sz) 0)⟩
 unfold zdT
 rw [show (wB M Sz).cells.toList=wBR M Sz from rfl]
 refine bs (a:=0) (by rw [l1];rfl) ?_
 simp only [Int.reduceEq,decide_false,zcf]
theorem zf2 [Sym] (h:Pb B st b c m f l) (hI:Idl m) {Sz M:Int} (h0:0≤Sz) (hn:sizeT m Sz=(n:Int)) (hn6:n≤1000000) (hM:M≠12∧M≠13∧M≠14):
  ∃ st' v,cc 9 [ptr b 0,wB M Sz] st=some (.tuple #[],st')∧Pb B st' b c { zb7 m l M n with buf:=v } f (zbn m l M n)∧Keep B [b,c] st st':=by
 have x1:Ext st (st.new (.cells (wBR M Sz) 0)):=(Ext.refl st).new _
 have h1:=h.ext x1
 have l1:∀ i,(st.new (.cells (wBR M Sz) 0)).ld st.next i=(wBR M Sz)[i]?:=fun i=>zew
 have w1:At (st.new (.cells (wBR M Sz) 0)) st.next (wBR M Sz):=At.new h.tw.ll _
 have hbn:st.next≠b∧st.next≠c:=by have:=h.tw.p.lt;have:=h.tw.f.lt;omega
 obtain ⟨s1,hs1⟩:∃ s,s=st.new (.cells (wBR M Sz) 0):=⟨_,rfl⟩
 rw [← hs1] at h1 x1 l1 w1
 obtain ⟨n3,hn3,e3⟩:=zf1 (U:=l.length) (h1.tw.rw.ro s1.next) (hI.os) h.sl.len 0
 have h3:=h1.adv hn3
 have w3:=w1.adv hn3
 obtain ⟨n6,hn6',e6⟩:=zf1 (U:=l.length) h3.tw.rw hI.os h.sl.len 0
 have h6:=h3.adv hn6'
 have w6:=w3.adv hn6'
 obtain ⟨s7,e7,t7,k7⟩:=zit h6.tw
 rw [(zji (f:=f) hI).1,(zji (f:=f) hI).2] at t7
 have h7:=h6.tw' t7 k7 rfl
 have w7:At s7 st.next (wBR M Sz):=w6.mod k7 (by simp [hbn])
 obtain ⟨sA,eA,aA,xA,nA⟩:=new_ok (st:=s7) t7.ll (row:=[.int .i64 (-1),.int .u32 0,.int .i64 0]) (r:=[.int .i64 0,.int .u32 0,.int .i64 0]) rfl rfl
 have hA:=h7.ext xA
 have wA:=w7.ext xA
 have hx7:st.next≤s7.next:=by have:=x1.next;have h3':s1.next≤n3:=hn3;have h6':n3≤n6:=hn6';have:=k7.next;have:n6≤s7.next:=k7.next;omega
 obtain ⟨sB,v,eB,hB,fB,nB⟩:=zlU hA (wv:=wB M Sz) (w:=wBR M Sz) ⟨rfl,rfl,rfl⟩ h0 hn hn6 hM (getT m f [] l.length 0)
 have aB:=fB.at' aA (by have:=t7.p.lt;have:=t7.f.lt;simp;omega) (SL.noB h.sl (.inr hx7))
 have wB':=fB.at' wA (by simp [hbn]) (SL.noB h.sl (.inr (zlr _)))
 obtain ⟨sC,eC,hC,xC⟩:=latch0 hB M Sz (getT m f [] l.length 0)
 have aC:=aB.ext xC
 have hno:∀ i,i<B→NoB m.buf i:=fun i hi=>SL.noB h.sl (.inl hi)
 have kAll:Keep B [b,c] st sC:=by
  have k1:Mod [b,c] st sA:=(((Mod.ofExt x1).then (.ofExt (Ext.advR s1 hn3))).then (.ofExt (Ext.advR _ hn6'))).then k7 |>.then (.ofExt xA)
  exact ((k1.keepB h.hB).then (fB.keepB (zlt h.hB k1.next) hno)).then (xC.keepB hB.hB)
 refine ⟨sC,v,zfa _ _ st ?_,hC,kAll⟩
 unfold zdP
 rw [show (wB M Sz).cells.toList=wBR M Sz from rfl]
 simp only
 rw [← hs1]
 refine bs (a:=0) (by rw [l1];rfl) (bs e3 ?_)
 simp only [zob,zaH]
 rw [show ((s1.ro s1.next).adv n3).ro s1.lim=s1.adv n3 from rfl]
 refine bs (a:=0) (by rw [w3.ld];rfl) (bs e6 ?_)
 simp only [zob,zaH]
 refine bs (a:=0) (by rw [w6.ld];rfl) ?_
 refine bs (a:=0) (by rw [w6.ld];rfl) ?_
 refine bs (a:=(0,[],sC)) (zec _ _ _ _ _ ?_) rfl
 unfold zcS
 refine bs e7 ?_
 simp only [zai,zob]
 refine bs eA (bs (a:=0) (by rw [wA.ld];rfl) ?_)
 refine bs (a:=(0,[],sC)) (zdX _ _ _ _ _ ?_) rfl
 unfold zcK
 simp only [zai,zob]
 refine bs (a:=wB M Sz) (by rw [wA.ldN (n:=12) rfl];rfl) (bs eB ?_)
 refine bs (a:=wB M Sz) (by rw [wB'.ldN (n:=12) rfl];rfl) (bs eC ?_)
 refine bs (a:= -1) (by rw [aC.ld];rfl) ?_
 exact bs (a:= -1) (by rw [aC.ld];rfl) rfl
theorem zlV (h:SL B st 1 v (rowsF byR l) l.length) (hl:l.length≤1000):∃ w st',st.app 1 1 (.slice none 0 0) v=some (w,st')∧lenV w=some (.int .i64 (l.length:Int))∧Ext st st':=by
 obtain ⟨h1,⟨rfl,h2⟩ | ⟨j,o,cap,C,rfl,h2,h3,h4,h5,h6,h7⟩⟩:=h
 ·refine ⟨.slice none 0 0,st,rfl,?_,.refl _⟩
  rw [h2];rfl
 ·by_cases h0:l.length=0
  ·refine ⟨.slice none 0 0,st,?_,by rw [h0];rfl,.refl _⟩
   unfold SS.app
   show (some l.length).bind _=_
   rw [zob,h0];rfl
  ·have e1:cut C o (l.length*1)=some (rowsF byR l):=zfL h5 h1
   refine ⟨.slice (some ⟨st.next,0,none⟩) l.length l.length,st.new (.cells (rowsF byR l) 1),?_,rfl,(Ext.refl st).new _⟩
   unfold SS.app
   show (some l.length).bind _=_
   have m0:Nat.beq l.length 0=false:=by rw [zad];exact zdf h0
   have q:(Nat.ble ((l.length+1)*1) (2^44)&&Nat.ble l.length (2^44))=true:=by
    simp only [zae,Nat.ble_eq];omega
   rw [zob,m0,zcf,q,zct]
   have e2:st.first 1 l.length (.slice (some ⟨j,o,none⟩) l.length cap)=some (rowsF byR l):=by
    unfold SS.first
    simp only [h3,zob]
    exact e1
   rw [e2];rfl
theorem zlW [Sym] (h:Pb B st b c m f l):∃ w st',cc 12 [ptr b 0] st=some (w,st')∧lenV w=some (.int .i64 (l.length:Int))∧Ext st st':=by
 obtain ⟨w,s,e,e2,x⟩:=zlV h.sl (by have:=h.len;omega)
 refine ⟨w,s,zfq _ st ?_,e2,x⟩
 unfold zdU
 simp only [zak,zai,zob]
 exact bs h.ldB (bs e rfl)
theorem zmy [Sym] {x k:Nat} (hx:x<4294967296) (hk:k≤2):Pf 13 [.int .u32 (x:Int),.int .i64 ((2^k:Nat):Int)] (.int .i64 ((x%2^(8*2^k):Nat):Int)):=fun st=>by
 have hw:∀ s:SS,∃ n,s.next≤n∧cc 36 [.int .i64 ((2^k:Nat):Int)] s=some (.int .i64 ((2^(8*2^k):Nat):Int),s.adv n):=fun s=>by
  refine ⟨s.next,zlr _,zev _ s ?_⟩
  have:k=0∨k=1∨k=2:=by omega
  rcases this with rfl | rfl | rfl<;>rfl
 obtain ⟨n,hn,e⟩:=hw (st.ro st.next)
 refine ⟨n,hn,zes _ _ st ?_⟩
 unfold zdg
 simp only
 refine bs e ?_
 simp only [zob,zaH]
 have hpos:0<2^(8*2^k):=Nat.two_pow_pos _
 have hlt:x%2^(8*2^k)≤x:=Nat.mod_le _ _
 rw [wrap64 (n:=(x:Int)) (by omega) (by omega)]
 generalize 2^(8*2^k)=q at hpos hlt
 have e4:aI .rem .i64 (x:Int) (q:Int)=some (.int .i64 ((x%q:Nat):Int)):=by
  unfold aI
  simp only
  rw [show decide ((q:Int)=0)=false from zdf (by omega)]
  have:Int.tmod (x:Int) (q:Int)=((x%q:Nat):Int):=by rw [Int.ofNat_tmod]
  simp only [zcf,this]
 rw [e4];rfl
end
end Go.Proofs.YtlpigjmjgclgiaaDoorE
namespace Go.Proofs.YtlpigjmjgclgiaaDoorE
set_option maxRecDepth 100000
open Go Go.E Go.Proofs
def u32R (x:Nat):List Value:=[.int .u32 (x:Int)]
theorem zlX (x:Nat):(u32R x).length=1:=rfl
def allB (s:Nat) (xs:List Nat):List Int:=xs.flatMap fun (x:Nat)=>ze2 s (x:Int)
theorem zg6 (s:Nat):∀ xs:List Nat,(allB s xs).length=xs.length*s
 | []=>by simp [allB]
 | x::r=>by
   have ih:=zg6 s r
   show (ze2 s (x:Int)++allB s r).length=(r.length+1)*s
   rw [List.length_append,zc4,ih,Nat.add_mul];omega
theorem zlY (s:Nat) (a b:List Nat):allB s (a++b)=allB s a++allB s b:=by unfold allB;rw [List.flatMap_append]
theorem zlZ (s:Nat) (x:Nat):allB s [x]=ze2 s (x:Int):=by unfold allB;simp
section
variable {B : Nat} {st st' s1 s2 : SS} {b c : Nat} {m m' : PM} {f f' : FM} {l : List Int} {xs : List Nat} {v w lv : Value}
structure Ls (G:Nat) (st:SS) (lv:Value) (xs:List Nat):Prop where
 rg:Rg st lv (rowsF u32R xs) 1 xs.length
 low:∀ i o l q,lv=.slice (some ⟨i,o,none⟩) l q→i<G
theorem Ls.keepB {G:Nat} (h:Ls G st lv xs) (k:Keep B [b,c] st st') (hB:G≤B) (hb:G≤b) (hc:G≤c):Ls G st' lv xs:=
 ⟨h.rg.keep k.next fun i l q e hi=>by have:=h.low i 0 l q e;exact k.keep i (by omega) (by simp;omega),h.low⟩
theorem Ls.ext {G:Nat} (h:Ls G st lv xs) (k:Ext st st'):Ls G st' lv xs:=⟨h.rg.ext k,h.low⟩
theorem Ls.at' {G:Nat} (h:Ls G st lv xs) {i:Nat} (hi:i<xs.length):∃ p,zbh lv (i:Int) 1=some p∧(st.ld p.1 p.2).bind (asI .u32)=some (xs[i]:Int):=by
 have hrow:∀ l:List Nat,rowsF u32R l=l.map fun (x:Nat)=>Value.int .u32 (x:Int):=fun l=>by
  induction l with
  | nil=>rfl
  | cons a r ih=>
    show u32R a++rowsF u32R r=_
    rw [ih];rfl
 obtain ⟨p,e1,_,e2⟩:=h.rg.load (j:=(i:Int)) (by omega) (by omega) (row:=u32R xs[i]) (by
  rw [hrow,Int.toNat_natCast,Nat.mul_one,← List.map_drop,List.drop_eq_getElem_cons hi];rfl) rfl
 refine ⟨p,e1,?_⟩
 have:=e2 0 (.int .u32 (xs[i]:Int)) rfl
 rw [Nat.add_zero] at this
 rw [this];rfl
theorem zjj (hI:Idl m) (M:Int) (l:List Int) (n:Nat) (v:Value):Idl { zb7 m l M n with buf:=v }:=by
 unfold zb7
 split
 ·exact ⟨hI.wt,hI.wx,hI.ws,hI.ops⟩
 ·exact ⟨hI.wt,hI.wx,hI.ws,hI.ops⟩
theorem zjk {m:PM} {k:Nat} (hk:k≤2):sizeT m (k:Int)=((2^k:Nat):Int):=by
 unfold sizeT
 rw [if_neg (by omega)]
 have:k=0∨k=1∨k=2:=by omega
 rcases this with rfl | rfl | rfl<;>rfl
variable {G k : Nat}
theorem zgk (hk:k≤2):2^k≤4:=by
 have:k=0∨k=1∨k=2:=by omega
 rcases this with rfl | rfl | rfl<;>decide
theorem zhJ [Sym] (hk:k≤2) (hX:∀ x∈xs,x<4294967296) (h30:xs.length≤30) (hGB:G≤B) (hGb:G≤b) (hGc:G≤c):∀ (j i:Nat) (st:SS) (m:PM),i+j=xs.length→Pb B st b c m f (allB (2^k) (xs.take i))→Idl m→Ls G st lv xs→
  ∃ st' m',zas 8 [lv,.int .i64 (k:Int),ptr b 0,lv,.int .i64 (xs.length:Int),.int .i64 (i:Int)] st=some (0,[lv,.int .i64 (k:Int),ptr b 0],st')∧Pb B st' b c m' f (allB (2^k) xs)∧Idl m'∧Keep B [b,c] st st'
 | 0,i,st,m,hi,h,hI,hL=>by
   refine ⟨st,m,zbr _ _ _ _ _ _ st ?_,by rw [List.take_of_length_le (by omega)] at h;exact h,hI,.refl _⟩
   unfold za6
   rw [zdf (by omega)];rfl
 | j+1,i,st,m,hi,h,hI,hL=>by
   have hlt:i<xs.length:=by omega
   obtain ⟨p,e1,e2⟩:=hL.at' hlt
   obtain ⟨s3,e3,t3,k3⟩:=zj1 h.tw ((36:Nat):Int) (xs[i]:Int) 4
   have hp:zeZ m ((36:Nat):Int) (xs[i]:Int)={ m with r:=up m.r 36 (xs[i]:Int) }:=by unfold zeZ;rw [if_pos (by omega)];rfl
   have hq:ze0 f ((36:Nat):Int) (xs[i]:Int) 4=f:=by unfold ze0;rw [if_neg (by omega),ze1 (by omega)]
   rw [hp,hq] at t3
   have h3:Pb B s3 b c { m with r:=up m.r 36 (xs[i]:Int) } f (allB (2^k) (xs.take i)):=h.tw' t3 k3 rfl
   have hI3:Idl { m with r:=up m.r 36 (xs[i]:Int) }:=⟨hI.wt,hI.wx,hI.ws,hI.ops⟩
   have hp4:=zgk hk
   have hlen:(allB (2^k) (xs.take i)).length+2^k≤256:=by
    rw [zg6,List.length_take,Nat.min_eq_left (by omega)]
    have:i*2^k≤29*4:=Nat.mul_le_mul (by omega) hp4
    omega
   obtain ⟨s4,v4,e4,h4,k4⟩:=zf2 (n:=2^k) h3 hI3 (Sz:=(k:Int)) (M:=6) (by omega) (zjk hk) (by omega) (by omega)
   have k34:Keep B [b,c] st s4:=(k3.keepB h.hB).then k4
   have hr36:(up m.r 36 (xs[i]:Int)) 36=(xs[i]:Int):=by unfold up;rw [if_pos rfl]
   have hl4:zbn { m with r:=up m.r 36 (xs[i]:Int) } (allB (2^k) (xs.take i)) 6 (2^k)=allB (2^k) (xs.take (i+1)):=by
    unfold zbn
    rw [if_pos rfl]
    show pushes _ ((up m.r 36 (xs[i]:Int)) 36) 0 (2^k)=_
    rw [hr36,zlR _ _ _ hlen,List.take_succ_eq_append_getElem hlt,zlY,zlZ]
   rw [hl4] at h4
   obtain ⟨s5,m5,e5,h5,hI5,k5⟩:=zhJ hk hX h30 hGB hGb hGc j (i+1) s4 _ (by omega) h4 (zjj hI3 _ _ _ _) (hL.keepB k34 hGB hGb hGc)
   refine ⟨s5,m5,zbr _ _ _ _ _ _ st ?_,h5,hI5,k34.then k5⟩
   unfold za6
   rw [zdt (by omega),zct]
   refine bs e1 (bs e2 (bs e3 (bs e4 ?_)))
   simp only
   rw [show IntKind.wrap .i64 ((i:Int)+1)=((i+1:Nat):Int) by rw [wrap64 (by omega) (by omega)];omega]
   exact e5
theorem zlf (s:Nat) {i:Nat} (hi:i<xs.length):allB s (xs.drop i)=ze2 s (xs[i]:Int)++allB s (xs.drop (i+1)):=by
 rw [List.drop_eq_getElem_cons hi];rfl
theorem zhK [Sym] (hk:k≤2) (hX:∀ x∈xs,x<4294967296) (h30:xs.length≤30) (hGB:G≤B) (hGb:G≤b) (hGc:G≤c):∀ (j i:Nat) (st:SS) (m:PM),i+j=xs.length→Pb B st b c m f (allB (2^k) (xs.drop i))→Idl m→Ls G st lv xs→
  ∃ st' m',zas 16 [.int .i64 (k:Int),ptr b 0,lv,.int .i64 (xs.length:Int),.int .i64 (i:Int)] st=some (0,[ptr b 0],st')∧Pb B st' b c m' f []∧Idl m'
 | 0,i,st,m,hi,h,hI,hL=>by
   refine ⟨st,m,zbo _ _ _ _ _ st ?_,by rw [List.drop_of_length_le (by omega)] at h;exact h,hI⟩
   unfold za4
   rw [zdf (by omega)];rfl
 | j+1,i,st,m,hi,h,hI,hL=>by
   have hlt:i<xs.length:=by omega
   have hx:xs[i]<4294967296:=hX _ (List.getElem_mem hlt)
   obtain ⟨p,e1,e2⟩:=hL.at' hlt
   have hp4:=zgk hk
   obtain ⟨s4,v4,e4,h4,k4⟩:=zf2 (n:=2^k) h hI (Sz:=(k:Int)) (M:=7) (by omega) (zjk hk) (by omega) (by omega)
   have hI4:=zjj hI 7 (allB (2^k) (xs.drop i)) (2^k) v4
   have hd:=zlf (2^k) hlt
   have hmin:min (2^k) (allB (2^k) (xs.drop i)).length=2^k:=by
    rw [hd,List.length_append,zc4];omega
   have hout:outT (allB (2^k) (xs.drop i)) (2^k)=((xs[i]%2^(8*2^k):Nat):Int):=by
    unfold outT
    rw [hmin,hd,List.take_append,zc4,Nat.sub_self,List.take_zero,List.append_nil,List.take_of_length_le (by rw [zc4];omega),zmx hp4]
   have hl4:zbn m (allB (2^k) (xs.drop i)) 7 (2^k)=allB (2^k) (xs.drop (i+1)):=by
    unfold zbn
    rw [if_neg (by omega),if_pos rfl,hmin,hd,List.drop_append,zc4,Nat.sub_self,List.drop_zero,List.drop_of_length_le (by rw [zc4];omega),List.nil_append]
   rw [hl4] at h4
   obtain ⟨n5,hn5,e5⟩:=zf1 (U:=(allB (2^k) (xs.drop (i+1))).length) h4.tw.rw hI4.os h4.sl.len ((36:Nat):Int)
   rw [hI4.get (by omega) (by omega)] at e5
   have hr36:(zb7 m (allB (2^k) (xs.drop i)) 7 (2^k)).r 36=((xs[i]%2^(8*2^k):Nat):Int):=by
    unfold zb7
    rw [if_pos rfl]
    show (up m.r 36 (outT (allB (2^k) (xs.drop i)) (2^k))) 36=_
    rw [hout];unfold up;rw [if_pos rfl]
   have hr36':({ zb7 m (allB (2^k) (xs.drop i)) 7 (2^k) with buf:=v4 }:PM).r 36=((xs[i]%2^(8*2^k):Nat):Int):=hr36
   rw [hr36'] at e5
   have h5:=h4.adv hn5
   obtain ⟨n8,hn8,e8⟩:=zmy hx hk (s4.adv n5)
   have h8:=h5.adv hn8
   have kA:Keep B [b,c] st ((s4.adv n5).adv n8):=(k4.thenX (Ext.advR _ hn5) h4.hB).thenX (Ext.advR _ hn8) h5.hB
   obtain ⟨s9,m9,e9,h9,hI9⟩:=zhK hk hX h30 hGB hGb hGc j (i+1) _ _ (by omega) h8 hI4 (hL.keepB kA hGB hGb hGc)
   refine ⟨s9,m9,zbo _ _ _ _ _ st ?_,h9,hI9⟩
   unfold za4
   rw [zdt (by omega),zct]
   refine bs e1 (bs e2 (bs e4 (bs e5 ?_)))
   simp only [zob,zaH]
   rw [zjR (n:=(k:Int)) (by omega) (by omega)]
   refine bs (show (aI .shl .i64 1 (k:Int)).bind (asI .i64)=some ((2^k:Nat):Int) from by
    rw [zhG (by omega)]
    have:k=0∨k=1∨k=2:=by omega
    rcases this with rfl | rfl | rfl<;>rfl) (bs e8 ?_)
   simp only [zob,zaH]
   have hle:xs[i]%2^(8*2^k)≤xs[i]:=Nat.mod_le _ _
   generalize xs[i]%2^(8*2^k)=q at hle
   rw [zdx (n:=(q:Int)) (by omega) (by omega),zdt rfl]
   simp only [znt,zcf]
   rw [show IntKind.wrap .i64 ((i:Int)+1)=((i+1:Nat):Int) by rw [wrap64 (by omega) (by omega)];omega]
   exact e9
theorem zj3 (hk:k≤2) (h30:xs.length≤30):(aI .shl .i64 (xs.length:Int) (IntKind.wrap .u64 (k:Int))).bind (asI .i64)=some ((xs.length*2^k:Nat):Int):=by
 rw [zjR (n:=(k:Int)) (by omega) (by omega),zhG (by omega)]
 have hp4:=zgk hk
 have hm:xs.length*2^k≤30*4:=Nat.mul_le_mul h30 hp4
 show some (zdi .i64 (xs.length:Int) (k:Int))=_
 unfold zdi
 rw [Int.toNat_natCast,show IntKind.i64.bits=64 from rfl,Nat.min_eq_left (by omega),show (2:Int)^k=((2^k:Nat):Int) by rw [Int.natCast_pow];rfl,← Int.natCast_mul,wrap64 (by omega) (by omega)]
theorem zlg [Sym] {G:Nat} (hl:st.lim≤st.next) (hG:G≤st.lim) (hal:∃ n,st.next≤n∧cc 6 [] st=some (.bool true,st.adv n)) (hX:∀ x∈xs,x<4294967296) (hL:Ls G st lv xs) (s:Int):
  ∃ s',cc 3 [lv,.int .i64 s] st=some (.bool true,s'):=by
 obtain ⟨n1,hn1,e1⟩:=hal
 have hl1:(st.adv n1).lim≤(st.adv n1).next:=zlt hl hn1
 have L1:=hL.ext (Ext.advR _ hn1)
 have pre:∀ r,_=some r→cc 3 [lv,.int .i64 s] st=some r:=fun r (hr:(cond (decide (30<(xs.length:Int))) _ _:Option (Value×SS))=some r)=>by
  refine zc6 _ _ st ?_
  unfold zb0
  refine bs e1 ?_
  simp only [zob,zaG,znt,zcf]
  exact bs L1.rg.lenI hr
 by_cases h30:30<(xs.length:Int)
 ·exact ⟨st.adv n1,pre _ (by rw [zdt h30];rfl)⟩
 by_cases h0:s<0
 ·exact ⟨st.adv n1,pre _ (by rw [zdf h30,zcf,zdt h0];rfl)⟩
 by_cases h2:2<s
 ·exact ⟨st.adv n1,pre _ (by rw [zdf h30,zcf,zdf h0,zcf,zdt h2];rfl)⟩
 obtain ⟨k,rfl⟩:∃ k:Nat,s=(k:Int):=⟨s.toNat,by omega⟩
 have hk:k≤2:=by omega
 have h30':xs.length≤30:=by omega
 have hp4:=zgk hk
 have hm4:xs.length*2^k≤30*4:=Nat.mul_le_mul h30' hp4
 obtain ⟨e3,a3⟩:=zmv (st:=st.adv n1) hl1
 obtain ⟨s2,hs2⟩:∃ s,s=(st.adv n1).new (.cells fm0.row 0):=⟨_,rfl⟩
 obtain ⟨c,hc⟩:∃ c,c=(st.adv n1).next:=⟨_,rfl⟩
 have x2:Ext (st.adv n1) s2:=by rw [hs2];exact (Ext.refl _).new _
 rw [← hs2,← hc] at e3 a3
 have hl2:=x2.ll hl1
 have L2:=L1.ext x2
 obtain ⟨s4,e4,t4,k4⟩:=zmw a3 hl2
 have f4:begQ (pm0 c) fm0=fm0:=rfl
 rw [f4] at t4
 obtain ⟨b,hb⟩:∃ b,b=s2.next:=⟨_,rfl⟩
 rw [← hb] at e4 t4
 have hc':c<s2.next:=a3.lt
 have hbn:b<s4.next:=t4.p.lt
 have hlc:st.lim≤c:=by rw [hc];exact hl1
 have hlm2:s2.lim=st.lim:=x2.lim
 have hlm4:s4.lim=st.lim:=k4.lim.trans hlm2
 have L4:Ls G s4 lv xs:=⟨L2.rg.mod k4 (by intro i l q e;have:=L2.low i 0 l q e;simp;omega),L2.low⟩
 have P4:Pb s4.next s4 b c (begP (pm0 c) fm0) fm0 []:=⟨t4,SL.nil,hbn,by have:=t4.f.lt;exact this,zlr _,t4.ll,by simp⟩
 have I4:Idl (begP (pm0 c) fm0):=⟨rfl,rfl,rfl,rfl⟩
 obtain ⟨s5,v5,e5,P5,k5⟩:=zf2 (n:=1) P4 I4 (Sz:=0) (M:=8) (by omega) (by rfl) (by omega) (by omega)
 have q5:zbn (begP (pm0 c) fm0) [] 8 1=allB (2^k) (xs.take 0):=by unfold zbn;rw [if_neg (by omega),if_neg (by omega),if_pos rfl];rfl
 rw [q5] at P5
 have hGB:G≤s4.next:=by have:=t4.ll;omega
 have hGb:G≤b:=by omega
 have hGc:G≤c:=by omega
 have I5:=zjj I4 8 [] 1 v5
 have L5:=L4.keepB k5 hGB hGb hGc
 obtain ⟨s6,m6,e6,P6,I6,k6⟩:=zhJ hk hX h30' hGB hGb hGc xs.length 0 s5 _ (by omega) P5 I5 L5
 have L6:=L5.keepB k6 hGB hGb hGc
 have hal6:=zg6 (2^k) xs
 obtain ⟨n7,hn7,e7⟩:=zf1 (U:=(allB (2^k) xs).length) P6.tw.rw I6.os P6.sl.len 58
 rw [I6.count _ (by omega)] at e7
 have P7:=P6.adv hn7
 obtain ⟨w8,s8,e8,g8,x8⟩:=zlW P7
 have P8:=P7.ext x8
 have L8:=(L6.ext (Ext.advR _ hn7)).ext x8
 obtain ⟨s9,m9,e9,P9,I9⟩:=zhK hk hX h30' hGB hGb hGc xs.length 0 s8 m6 (by omega) (by rw [List.drop_zero];exact P8) I6 L8
 obtain ⟨n10,hn10,e10⟩:=zf1 (U:=0) P9.tw.rw I9.os P9.sl.len 58
 rw [I9.count 0 (by omega)] at e10
 refine ⟨s9.adv n10,pre _ ?_⟩
 rw [zdf h30,zcf,zdf h0,zcf,zdf h2,zcf]
 refine bs (a:=(0,[.bool true],s9.adv n10)) (zcF _ _ _ ?_) rfl
 unfold zbN
 refine bs e3 (bs e4 (bs e5 (bs L5.rg.lenI (bs e6 ?_))))
 refine bs (a:=lv) rfl (bs (a:=(k:Int)) rfl (bs (a:=ptr b 0) rfl (bs e7 ?_)))
 simp only [zob,zaH]
 refine bs L6.rg.lenI ?_
 refine bs (zj3 hk h30') ?_
 rw [zdx (n:=((xs.length*2^k:Nat):Int)) (by omega) (by omega),hal6,zdt rfl]
 simp only [znt,zcf]
 refine bs e8 (bs (a:=((xs.length*2^k:Nat):Int)) (by rw [g8,hal6];rfl) (bs L8.rg.lenI (bs (zj3 hk h30') ?_)))
 rw [zdt rfl]
 simp only [znt,zcf]
 refine bs L8.rg.lenI (bs e9 ?_)
 rw [show Nat.beq 0 0=true from rfl,zct]
 refine bs (x:=[ptr b 0][0]?) (a:=ptr b 0) rfl ?_
 refine bs e10 ?_
 rfl
end
end Go.Proofs.YtlpigjmjgclgiaaDoorE
namespace Go.Proofs.YtlpigjmjgclgiaaDoorE
set_option maxRecDepth 100000
open Go Go.E Go.Proofs
structure Tb (st:SS):Prop where
 t:st.mem.get 0=some (.table deBr)
 lt:0<st.lim
section
variable {st st' : SS} {b c : Nat} {m m' : PM} {f f' : FM}
theorem Tb.mod {S:List Nat} (h:Tb st) (k:Mod S st st') (hS:∀ i,i∈S→st.lim≤i) (hl:st.lim≤st.next):Tb st':=
 ⟨(k.keep _ (by have:=h.lt;omega) fun hm=>by have:=hS _ hm;have:=h.lt;omega).trans h.t,by rw [k.lim];exact h.lt⟩
theorem Tb.ext (h:Tb st) (k:Ext st st') (hl:st.lim≤st.next):Tb st':=h.mod (S:=[]) (.ofExt k) (fun i hi=>by cases hi) hl
end
end Go.Proofs.YtlpigjmjgclgiaaDoorE
namespace Go.Proofs.YtlpigjmjgclgiaaDoorE
open Go Go.E Go.Proofs
structure Pi (m:PM) (r:Nat):Prop where
 wt:m.wt=0
 wx:m.wx=0
 ws:m.ws=0
 buf:m.buf=.slice none 0 0
 ops:m.ops=.slice none 0 0
 e:m.r 21=(r:Int)
 lt:r<4294967296
section
variable {st st' : SS} {b c : Nat} {m m' : PM} {f f' : FM} {r : Nat}
theorem Pi.os (h:Pi m r):Os st m []:=⟨by rw [h.ops];exact zjf _ _,by simp⟩
theorem Pi.hU (h:Pi m r):lenV m.buf=some (.int .i64 ((0:Nat):Int)):=by rw [h.buf];rfl
theorem Pi.get (h:Pi m r) {n:Nat} (h1:16≤n) (h2:n<38):getT m f [] 0 (n:Int)=m.r n:=by
 unfold getT
 rw [zc9 (by omega)]
 show zee m f 0 n=_
 unfold zee
 rw [if_neg (by omega),if_neg (by rw [h.ws];omega)]
 unfold zc8
 simp only [show ¬ ((n:Int)=38) by omega,show ¬ ((n:Int)=48) by omega,show ¬ ((n:Int)=49) by omega,show ¬ ((n:Int)=51) by omega,show ¬ ((n:Int)=52) by omega,show ¬ ((n:Int)=58) by omega,show ¬ ((n:Int)=41) by omega,show ¬ ((n:Int)=42) by omega,show ¬ ((60:Int)≤n) by omega,if_false,or_self,Int.toNat_natCast]
end
end Go.Proofs.YtlpigjmjgclgiaaDoorE
namespace Go.E
open Go
section
variable {P : Program} {L : Lk} {c1 c2 : CallF}
theorem zh8 (hc:zdc c1 c2) {ops:List Oper}:∀ (l:List Oper) (τ:Tm) (st:St) (r:Tm×St),opsE P L c1 ops l τ st=some r→opsE P L c2 ops l τ st=some r
 | [],τ,st,r,h=>h
 | o::l,τ,st,r,h=>by
   simp only [opsE] at h ⊢
   cases hw:wantedE ops τ o with
   | true=>
     rw [hw] at h
     simp only [zct,zbi] at h ⊢
     obtain ⟨x,hx,h⟩:=h
     exact ⟨x,ziM hc hx,zh8 hc l _ _ _ h⟩
   | false=>
     rw [hw] at h
     simp only [zcf] at h ⊢
     exact zh8 hc l _ _ _ h
theorem zjl:∀ n,zhp (zaq P L n) (zaq P L (n+1))
 | 0,c,τ,st,r,h=>by cases h
 | n+1,c,τ,st,r,h=>by
   have ih:=zjl n
   have hc:zdc (zay L (zaq P L n)) (zay L (zaq P L (n+1))):=zhT ih
   unfold zaq at h ⊢
   cases c<;>simp only at h ⊢<;>try exact h
   case region id ops d=>
    cases d<;>simp only [zmi] at h ⊢
    ·obtain ⟨x,hx,h⟩:=h
     exact ⟨x,zh8 hc _ _ _ _ hx,h⟩
    ·obtain ⟨x,hx,h⟩:=h
     exact ⟨x,zhS hc _ _ _ _ _ hx,h⟩
   case seq a b=>
    simp only [zbi] at h ⊢
    obtain ⟨⟨e,τ1,st1⟩,hx,h⟩:=h
    refine ⟨(e,τ1,st1),ih _ _ _ _ hx,?_⟩
    cases e<;>simp only at h ⊢<;>first | exact ih _ _ _ _ h | exact h
   case cond x a b=>
    cases hv:rho L τ x with
    | none=>rw [hv] at h;cases h
    | some v=>
      rw [hv] at h
      try simp only [zob]
      cases v<;>(try simp only [zob] at h)<;>(try simp only)<;>try (cases h;done)
      rename_i bb
      cases bb<;>exact ih _ _ _ _ h
   case block id body=>
    simp only [zbi] at h ⊢
    obtain ⟨⟨e,τ1,st1⟩,hx,h⟩:=h
    refine ⟨(e,τ1,st1),ih _ _ _ _ hx,?_⟩
    cases e<;>exact h
   case loop body=>
    simp only [zbi] at h ⊢
    obtain ⟨⟨e,τ1,st1⟩,hx,h⟩:=h
    refine ⟨(e,τ1,st1),ih _ _ _ _ hx,?_⟩
    cases e<;>simp only at h ⊢<;>first | exact ih _ _ _ _ h | exact h
theorem zl0 {n m:Nat} (h:n≤m):zhp (zaq P L n) (zaq P L m):=by
 obtain ⟨k,rfl⟩:=Nat.le.dest h
 clear h
 induction k with
 | zero=>exact fun _ _ _ _ h=>h
 | succ k ih=>exact fun c τ st r h=>zjl _ _ _ _ _ (ih _ _ _ _ h)
def okP (nx:Nat) (r:Option (Value×St)):Bool:=match r with
 | some (.bool b,s)=>b&&Nat.ble nx s.next
 | _=>false
theorem zjC [Sym] (hL:L.Ok P) {f:FuncId} {args:List Value} {st:SS} {n:Nat} (hx:L.ext f args=none) (hcn:L.con f args st.next=none) (hp:L.pureF f=true)
  (h:okP st.next (runF P L n f args ⟨st.mem,st.next,st.next,[]⟩)=true):∃ N,st.next≤N∧cS P L f args st=some (.bool true,st.adv N):=by
 cases hr:runF P L n f args ⟨st.mem,st.next,st.next,[]⟩ with
 | none=>rw [hr] at h;cases h
 | some r=>
   have hrun:=zl6 hL hr
   rw [hr] at h
   obtain ⟨v,s'⟩:=r
   have hv:v=.bool true∧st.next≤s'.next:=by
    unfold okP at h
    cases v<;>simp only at h<;>try (cases h;done)
    rename_i b
    rw [zae] at h
    exact ⟨by rw [h.1],Nat.le_of_ble_eq_true h.2⟩
   obtain ⟨rfl,hN⟩:=hv
   refine ⟨s'.next,hN,?_⟩
   rw [zhw]
   refine ⟨rfl,n,fun m hm base log=>⟨log,?_,.refl _ _ _⟩⟩
   unfold runE zay at hrun
   unfold zay
   have hcn':L.con f args (st.toE base log).next=none:=hcn
   rw [hx] at hrun ⊢
   simp only at hrun ⊢
   rw [hcn] at hrun
   rw [hcn']
   simp only [hp,zct,zbi] at hrun ⊢
   obtain ⟨a,ha,c,hc,h1⟩:=hrun
   refine ⟨a,ha,c,hc,?_⟩
   cases hb:Nat.ble args.length a.2.ntmps with
   | false=>rw [hb] at h1;cases h1
   | true=>
     rw [hb] at h1
     simp only [zct,zbi] at h1 ⊢
     obtain ⟨⟨e,τ,s1⟩,h2,h3⟩:=h1
     refine ⟨(e,τ,s1),zl0 hm _ _ _ _ h2,?_⟩
     cases e<;>simp only [zbi] at h3 ⊢<;>first
      | (cases h3;done)
      | (obtain ⟨vs,h4,h5⟩:=h3
         refine ⟨vs,h4,?_⟩
         cases hq:(s1.log.isEmpty&&flat3 (zaD vs)) with
         | false=>rw [hq] at h5;cases h5
         | true=>
           rw [hq] at h5
           simp only [zct,zsj,zpj] at h5 ⊢
           obtain ⟨h6,h7⟩:=h5
           exact ⟨h6,by rw [← h7];rfl⟩)
end
end Go.E
namespace Go.Proofs.YtlpigjmjgclgiaaDoorE
set_option maxRecDepth 1000000
open Go Go.E Go.Proofs
noncomputable def zdW:List (Nat×AObj):=[(0,.table deBr)]
noncomputable def st0:SS:=⟨zce zdW,1,1⟩
def laidB:DataW Unit:=.agg (Lib.deBruijn32tab.map fun (z:Nat)=>.lit (.int .u8 (z:Int)))
theorem globIn:∀ g,Lk0.glob g=true→g∈zdW.map (·.1):=fun g h=>by
 have h':Nat.beq g 0=true:=h
 rw [zad,decide_eq_true_eq] at h'
 subst h';simp [zdW]
end Go.Proofs.YtlpigjmjgclgiaaDoorE
namespace Go.Proofs.YtlpigjmjgclgiaaDoorE
set_option maxRecDepth 1000000
open Go Go.E Go.Proofs
theorem arg_row {H:Type} {enc:TypeId×Value→H} {P:Program} {W:World} {spare:Nat→Bool} {held:Bool} {α:Type} {f:α→List Value} {ok:α→Prop} {t e d:Nat} {ks:List CK} {v:Value} {dd:DataW H} {p:List MemPlace} (id g:Nat) (hg:∃ arr T fr,W.heap[g]?=some (.cells arr T fr)) (ht:P.underlying t=some (.slice e)) (hk:zdN P d e=some ks) (hc:P.cellsOf e=ks.length) (hz:0<ks.length)
  (hty:∀ r,Cks ks r→∃ s,r=f s∧ok s) (hfl:∀ s,(f s).all zaL=true) (hval:Value.okWide P W .any 0 t v) (h:DataW.Trod enc P W 0 spare held t v dd p):
  ∃ (l:List α) (av:Value) (pl:Pl),(∀ s∈l,ok s)∧Tv id l.length av∧(∃ obj,W.heap[pl.b]?=some obj∧∀ [Sym] (β:Emb),OR β pl obj (.table (l.flatMap f)))∧∀ [Sym] (β:Emb),β id=some pl→VR β av v:=by
 obtain ⟨l,h1,h2⟩:=zk4 (f:=f) ht hk hc hz hty hval h
 have hf:∀ x∈l.flatMap f,zaL x=true:=fun x hx=>by
  obtain ⟨s,_,hs⟩:=List.mem_flatMap.1 hx
  exact List.all_eq_true.1 (hfl s) x hs
 rcases h2 with ⟨rfl,rfl⟩ | ⟨b,off,cap,rfl,h3,h4,arr,T,fr,hh,h5⟩
 ·obtain ⟨arr,T,fr,hh⟩:=hg
  exact ⟨[],.slice none 0 0,⟨g,0,0,0⟩,h1,.inl ⟨rfl,rfl⟩,⟨_,hh,fun β=>⟨rfl,arr,T,fr,rfl,fun j x hx=>by cases hx⟩⟩,fun β _=>.slice0⟩
 ·refine ⟨l,.slice (some ⟨id,0,none⟩) l.length cap,⟨b,off,0,0⟩,h1,.inr ⟨cap,rfl,h3,h4⟩,⟨_,hh,fun β=>⟨rfl,arr,T,fr,rfl,fun j x hx=>⟨x,h5 j x hx,zbg (hf x (zmg hx))⟩⟩⟩,fun β hb=>?_⟩
  exact .slice (p:=⟨b,off,0,0⟩) hb h3 (zlr _) (.inr rfl) (.inl rfl)
theorem u32_ty (r:List Value) (h:Cks [.i .u32] r):∃ s,r=u32R s∧s<4294967296:=by
 cases r with
 | nil=>exact h.elim
 | cons x r=>
   cases r with
   | cons y r=>exact h.2.elim
   | nil=>
     obtain ⟨⟨n,h1,h2⟩,_⟩:=h
     have h3:0≤n∧n<4294967296:=by
      have h4:IntKind.min .u32≤n∧n≤IntKind.max .u32:=by simpa [Lit.wf] using h2
      have e1:IntKind.min .u32=0:=by rfl
      have e2:IntKind.max .u32=4294967295:=by rfl
      rw [e1,e2] at h4
      omega
     refine ⟨n.toNat,?_,by omega⟩
     unfold u32R
     rw [Int.toNat_of_nonneg h3.1,h1]
noncomputable def stL (C:List Value):SS:=⟨zce ((1,.table C)::zdW),1+1,1+1⟩
theorem stL_0 (C:List Value):(stL C).mem.get 1=some (.table C):=by
 show (zce _).get 1=_
 simp [zce,putAll,PT.get_upd]
theorem err_cells {W:World} {laid:List (String×DataW Unit)} (h:laidMet Tryd.prog laid W) (hB:("math/bits.deBruijn32tab",laidB)∈laid):∃ arr T fr,W.heap[0]?=some (.cells arr T fr):=by
 letI:Sym:=⟨fun _=>.int .i64 0,fun _=>.inl ⟨_,_,rfl⟩⟩
 obtain ⟨oB,b1,b2⟩:=zij h hB (g:=0) (kk:=.u8) (by kernel_rfl) (by kernel_rfl) Tryd.underlying113 Tryd.underlying5 (by kernel_rfl) (Lib.deBruijn32tab.map fun (z:Nat)=>(z:Int)) (by kernel_rfl)
 obtain ⟨_,arr,T,fr,e,_⟩:=b2 (fun _=>none)
 exact ⟨arr,T,fr,by rw [b1,e]⟩
def plL (p:Pl):Nat→Pl:=fun i=>if i=1 then p else ⟨i,0,0,0⟩
theorem law_at1 {f:Nat} {fn:Func} (hf:Lk0.func f=some (f,fn)) {W:World} {laid:List (String×DataW Unit)} (h:laidMet Tryd.prog laid W) (hB:("math/bits.deBruijn32tab",laidB)∈laid)
  {C:List Value} {p:Pl} (oC:∃ obj,W.heap[p.b]?=some obj∧∀ [Sym] (β:Emb),OR β p obj (.table C)) {args args':List Value} (hargs:∀ [Sym] (β:Emb),β 1=some p→VRs β args args') (hlaw:∀ [Sym],∃ st',cc f args (stL C)=some (.bool true,st')):
  Calls Tryd.prog f args'.toArray W fun e W'=>e=.returned (.bool true)∧RowKit.Below W.heap.size W W':=by
 letI:Sym:=⟨fun _=>.int .i64 0,fun _=>.inl ⟨_,_,rfl⟩⟩
 obtain ⟨oB,f1,f2⟩:=zij h hB (g:=0) (kk:=.u8) (by kernel_rfl) (by kernel_rfl) Tryd.underlying113 Tryd.underlying5 (by kernel_rfl) (Lib.deBruijn32tab.map fun (z:Nat)=>(z:Int)) (by kernel_rfl)
 obtain ⟨st',hl⟩:=hlaw
 have hX:(plL p) 1=p:=by unfold plL;rw [if_pos rfl]
 have tabLt:∀ x∈zdW,x.1<1:=fun x hx=>by
  simp only [zdW,List.mem_cons,List.not_mem_nil,or_false] at hx
  subst hx;show 0<1;omega
 have hO:∀ x∈zdW,(plL p) x.1=⟨x.1,0,0,0⟩:=fun x hx=>by
  have:=tabLt x hx
  unfold plL;rw [if_neg (by omega)]
 have b1:embB ((1,.table C)::zdW) (plL p) 1=some p:=by rw [zjS (by simp),hX]
 refine zmn zav con0 hf (l:=(1,.table C)::zdW) (nx:=1+1) (pl:=plL p) hl rfl (hargs _ b1) (fun x hx=>?_) (fun x hx=>?_) (fun g hg=>?_) (fun x hx=>?_)
 ·rcases List.mem_cons.1 hx with rfl | hx
  ·simp only [hX];exact ⟨oC.choose,oC.choose_spec.1,oC.choose_spec.2 _⟩
  ·rw [hO x hx]
   simp only [zdW,List.mem_cons,List.not_mem_nil,or_false] at hx
   subst hx
   exact ⟨oB,f1,f2 _⟩
 ·rcases List.mem_cons.1 hx with rfl | hx
  ·exact ⟨_,rfl⟩
  ·simp only [zdW,List.mem_cons,List.not_mem_nil,or_false] at hx
   subst hx;exact ⟨_,rfl⟩
 ·have hm:=globIn g hg
  obtain ⟨x,hx,rfl⟩:=List.mem_map.1 hm
  refine ⟨by rw [List.map_cons];exact List.mem_cons_of_mem _ hm,by rw [hO x hx],by rw [hO x hx]⟩
 ·rcases List.mem_cons.1 hx with rfl | hx
  ·show 1<1+1;omega
  ·have:=tabLt x hx;omega
theorem zkv (C:List Value):okP (stL C).next (runF Tryd.prog Lk0 2000 6 [] ⟨(stL C).mem,(stL C).next,(stL C).next,[]⟩)=true:=by kernel_rfl
theorem aliveL [Sym] (C:List Value):∃ N,(stL C).next≤N∧cc 6 [] (stL C)=some (.bool true,(stL C).adv N):=
 zjC (st:=stL C) (f:=6) (args:=[]) (n:=2000) zav (by kernel_rfl) (by kernel_rfl) (by kernel_rfl) (zkv C)
theorem Tv.low {id n:Nat} {v:Value} (h:Tv id n v):∀ i o l q,v=.slice (some ⟨i,o,none⟩) l q→i<id+1:=fun i o l q e=>by
 rcases h with ⟨rfl,_⟩ | ⟨cap,rfl,_⟩
 ·cases e
 ·cases e;omega
theorem dpathBlocks_ok [Sym] {l:List Nat} (hX:∀ x∈l,x<4294967296) {av:Value} (t:Tv 1 l.length av) (s:Int):∃ s',cc 3 [av,.int .i64 s] (stL (l.flatMap u32R))=some (.bool true,s'):=
 zlg (G:=1+1) (zlr _) (zlr _) (aliveL _) hX ⟨t.rg zlX (stL_0 _) (by show 1<1+1;omega),Tv.low t⟩ s
end Go.Proofs.YtlpigjmjgclgiaaDoorE
