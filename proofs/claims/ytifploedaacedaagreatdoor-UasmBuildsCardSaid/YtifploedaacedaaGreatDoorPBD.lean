/- Parts of the proof of UasmBuilds, packed by a program: an evaluator over the given code, functions as plain texts, their laws. -/
import Derived.Test.YtifploedaacedaaGreatDoorPBC
set_option linter.unusedVariables false
set_option linter.unusedSimpArgs false
namespace Go.Proofs.YtifploedaacedaaGreatDoorE
open Go Go.E Go.Proofs
abbrev Wd:=List Int
def wRow (w:Wd):List Value:=w.map (.int .i64)
def wV (w:Wd):Value:=.agg (wRow w).toArray
theorem zga (w:Wd) (i:Nat):(wRow w)[i]?=(w[i]?).map (.int .i64):=by unfold wRow;rw [List.getElem?_map]
theorem zaK (w:Wd):(wRow w).length=w.length:=by simp [wRow]
theorem zcK (w:Wd):(wRow w).all one=true:=by simp [wRow,one]
def zcn (p:Int×Int):List Value:=[.int .i64 p.1,.int .i64 p.2]
def zbU (s tw a:Int):List (Int×Int):=
 if s=0 then [(a+1,1)] else if s=1 then [(tw,1)] else if s=2∨s=3 then [(a+1,1),(tw,1)] else if s=5 then [(tw,64)] else if s=6 then [(tw,16)] else []
theorem zuX [Sym] (w:Wd) (a s tw:Int) (h8:w[8]?=some s) (h10:w[10]?=some tw) (h0:0≤a) (h1:a≤1099511627776) (st:SS) (hll:st.lim≤st.next):
  ∃ v st',cc 62 [wV w,.int .i64 a] st=some (v,st')∧Ext st st'∧Own st.next st' v (rowsF zcn (zbU s tw a)) 2 (zbU s tw a).length:=by
 have hw:IntKind.wrap .i64 (a+1)=a+1:=wrap64 (by omega) (by omega)
 have x1:Ext st (st.new (.cells (wRow w) 0)):=(Ext.refl st).new _
 have hm:(st.new (.cells (wRow w) 0)).mem.get st.next=some (.cells (wRow w) 0):=SS.new_get
 have l8:(st.new (.cells (wRow w) 0)).ld st.next 8=some (.int .i64 s):=by rw [SS.ld_cells hm,zga,h8];rfl
 have l10:(st.new (.cells (wRow w) 0)).ld st.next 10=some (.int .i64 tw):=by rw [SS.ld_cells hm,zga,h10];rfl
 have hc:(wV w).cells.toList=wRow w:=zaC _
 have mk:∀ (l:List (Int×Int)),l≠[]→∃ v st',some (Value.slice (some ⟨(st.new (.cells (wRow w) 0)).next,0,none⟩) l.length l.length,(st.new (.cells (wRow w) 0)).new (.cells (rowsF zcn l) 2))=some (v,st')∧Ext st st'∧Own st.next st' v (rowsF zcn l) 2 l.length:=fun l hl=>by
  have hne:l.length≠0:=fun e=>hl (List.length_eq_zero_iff.1 e)
  exact ⟨_,_,rfl,x1.new _,⟨zhG (f:=zcn) (z:=2) (fun _=>rfl) l,.inr ⟨_,rfl,by omega,SS.new_get,by simp,by simp⟩⟩⟩
 have nil:∃ v st',some (Value.slice none 0 0,(st.new (.cells (wRow w) 0)))=some (v,st')∧Ext st st'∧Own st.next st' v (rowsF zcn []) 2 0:=⟨_,_,rfl,x1,Own.nil _ _ _⟩
 unfold zbU
 by_cases s0:s=0
 ·rw [if_pos s0]
  obtain ⟨v,st',c,r⟩:=mk [(a+1,1)] (by simp)
  refine ⟨v,st',zc8 _ _ st ?_,r⟩
  simp only [zdT,hc,l8,l10,zob,zaa,zdt s0,zct,hw]
  exact c
 rw [if_neg s0]
 by_cases s1:s=1
 ·rw [if_pos s1]
  obtain ⟨v,st',c,r⟩:=mk [(tw,1)] (by simp)
  refine ⟨v,st',zc8 _ _ st ?_,r⟩
  simp only [zdT,hc,l8,l10,zob,zaa,zdf s0,zdt s1,zct,zcf,hw]
  exact c
 rw [if_neg s1]
 by_cases s2:s=2
 ·rw [if_pos (.inl s2)]
  obtain ⟨v,st',c,r⟩:=mk [(a+1,1),(tw,1)] (by simp)
  refine ⟨v,st',zc8 _ _ st ?_,r⟩
  simp only [zdT,hc,l8,l10,zob,zaa,zdf s0,zdf s1,zdt s2,zct,zcf,hw]
  exact c
 by_cases s3:s=3
 ·rw [if_pos (.inr s3)]
  obtain ⟨v,st',c,r⟩:=mk [(a+1,1),(tw,1)] (by simp)
  refine ⟨v,st',zc8 _ _ st ?_,r⟩
  simp only [zdT,hc,l8,l10,zob,zaa,zdf s0,zdf s1,zdf s2,zdt s3,zct,zcf,hw]
  exact c
 rw [if_neg (fun h=>h.elim s2 s3)]
 by_cases s5:s=5
 ·rw [if_pos s5]
  obtain ⟨v,st',c,r⟩:=mk [(tw,64)] (by simp)
  refine ⟨v,st',zc8 _ _ st ?_,r⟩
  simp only [zdT,hc,l8,l10,zob,zaa,zdf s0,zdf s1,zdf s2,zdf s3,zdt s5,zct,zcf,hw]
  exact c
 rw [if_neg s5]
 by_cases s6:s=6
 ·rw [if_pos s6]
  obtain ⟨v,st',c,r⟩:=mk [(tw,16)] (by simp)
  refine ⟨v,st',zc8 _ _ st ?_,r⟩
  simp only [zdT,hc,l8,l10,zob,zaa,zdf s0,zdf s1,zdf s2,zdf s3,zdf s5,zdt s6,zct,zcf,hw]
  exact c
 rw [if_neg s6]
 obtain ⟨v,st',c,r⟩:=nil
 refine ⟨v,st',zc8 _ _ st ?_,r⟩
 simp only [zdT,hc,l8,l10,zob,zaa,zdf s0,zdf s1,zdf s2,zdf s3,zdf s5,zdf s6,zct,zcf,hw]
 exact c
theorem ztL [Sym] (w:Wd) (a s tw:Int) (h8:w[8]?=some s) (h10:w[10]?=some tw) (h0:0≤a) (h1:a≤1099511627776) (st:SS) (hll:st.lim≤st.next):
  ∃ v st',cc 21 [wV w,.int .i64 a] st=some (v,st')∧Ext st st'∧Own st.next st' v (rowsF zcn (zbU s tw a)) 2 (zbU s tw a).length:=by
 have hw:IntKind.wrap .i64 (a+1)=a+1:=wrap64 (by omega) (by omega)
 have x1:Ext st (st.new (.cells (wRow w) 0)):=(Ext.refl st).new _
 have hm:(st.new (.cells (wRow w) 0)).mem.get st.next=some (.cells (wRow w) 0):=SS.new_get
 have l8:(st.new (.cells (wRow w) 0)).ld st.next 8=some (.int .i64 s):=by rw [SS.ld_cells hm,zga,h8];rfl
 have l10:(st.new (.cells (wRow w) 0)).ld st.next 10=some (.int .i64 tw):=by rw [SS.ld_cells hm,zga,h10];rfl
 have hc:(wV w).cells.toList=wRow w:=zaC _
 have mk:∀ (l:List (Int×Int)),l≠[]→∃ v st',some (Value.slice (some ⟨(st.new (.cells (wRow w) 0)).next,0,none⟩) l.length l.length,(st.new (.cells (wRow w) 0)).new (.cells (rowsF zcn l) 2))=some (v,st')∧Ext st st'∧Own st.next st' v (rowsF zcn l) 2 l.length:=fun l hl=>by
  have hne:l.length≠0:=fun e=>hl (List.length_eq_zero_iff.1 e)
  exact ⟨_,_,rfl,x1.new _,⟨zhG (f:=zcn) (z:=2) (fun _=>rfl) l,.inr ⟨_,rfl,by omega,SS.new_get,by simp,by simp⟩⟩⟩
 have nil:∃ v st',some (Value.slice none 0 0,(st.new (.cells (wRow w) 0)))=some (v,st')∧Ext st st'∧Own st.next st' v (rowsF zcn []) 2 0:=⟨_,_,rfl,x1,Own.nil _ _ _⟩
 have go:∀ (l:List (Int×Int)),(∃ v st',zbm cc zfU (wV w) a st=some (v,st')∧Ext st st'∧Own st.next st' v (rowsF zcn l) 2 l.length)→
   ∃ v st',cc 21 [wV w,.int .i64 a] st=some (v,st')∧Ext st st'∧Own st.next st' v (rowsF zcn l) 2 l.length:=fun l ⟨v,st',c,r⟩=>⟨v,st',zjn _ _ st c,r⟩
 refine go _ ?_
 unfold zbU
 by_cases s0:s=0
 ·rw [if_pos s0]
  simp only [zbm,hc,l8,l10,zob,zaa,zdt s0,zct,hw]
  exact mk [(a+1,1)] (by simp)
 rw [if_neg s0]
 by_cases s1:s=1
 ·rw [if_pos s1]
  simp only [zbm,hc,l8,l10,zob,zaa,zdf s0,zdt s1,zct,zcf,hw]
  exact mk [(tw,1)] (by simp)
 rw [if_neg s1]
 by_cases s2:s=2
 ·rw [if_pos (.inl s2)]
  simp only [zbm,hc,l8,l10,zob,zaa,zdf s0,zdf s1,zdt s2,zct,zcf,hw]
  exact mk [(a+1,1),(tw,1)] (by simp)
 by_cases s3:s=3
 ·rw [if_pos (.inr s3)]
  simp only [zbm,hc,l8,l10,zob,zaa,zdf s0,zdf s1,zdf s2,zdt s3,zct,zcf,hw]
  exact mk [(a+1,1),(tw,1)] (by simp)
 rw [if_neg (fun h=>h.elim s2 s3)]
 by_cases s5:s=5
 ·rw [if_pos s5]
  simp only [zbm,hc,l8,l10,zob,zaa,zdf s0,zdf s1,zdf s2,zdf s3,zdt s5,zct,zcf,hw]
  exact mk [(tw,64)] (by simp)
 rw [if_neg s5]
 by_cases s6:s=6
 ·rw [if_pos s6]
  simp only [zbm,hc,l8,l10,zob,zaa,zdf s0,zdf s1,zdf s2,zdf s3,zdf s5,zdt s6,zct,zcf,hw]
  exact mk [(tw,16)] (by simp)
 rw [if_neg s6]
 simp only [zbm,hc,l8,l10,zob,zaa,zdf s0,zdf s1,zdf s2,zdf s3,zdf s5,zdf s6,zct,zcf,hw]
 exact nil
end Go.Proofs.YtifploedaacedaaGreatDoorE
namespace Go.Proofs.YtifploedaacedaaGreatDoorE
set_option maxRecDepth 20000
open Go Go.E Go.Proofs
noncomputable def zkS (cf:zam) (lf:zad) (name':ByteArray) (st:SS):Option (Value×SS):=
 (cf 115 [.string name'] (st.ro st.next)).bind fun a=>
 ((some a.1).bind (asI .i64)).bind fun b=>
 cond (decide (0≤b)) (
 (zbl (ptr 0 0) 12 b 2).bind fun c=>
 ((a.2.ld c.1 (c.2+1)).bind (asI .i64)).bind fun d=>
 some (.int .i64 d,st.adv a.2.next)) (
 some (.int .i64 0,st.adv a.2.next))
noncomputable abbrev zpG:zad:=lS Tryz.prog Lk0 Tryz.f98 zaF
theorem zpH:Lk0.func 98=some (98,Tryz.f98):=by kernel_rfl
theorem zpI [Sym] (name':ByteArray) (st:SS) {r:Value×SS} (h:zkS cc zpG name' st=some r):cc 98 [.string name'] st=some r:=
 zai (li:=zaF) zaj zao zpH rfl (fun _=>rfl) (.trans (by kernel_rfl) h)
noncomputable def zmZ (cf:zam) (lf:zad) (name':ByteArray) (st:SS):Option (Value×SS):=
 let a:SS:=(st.ro st.next).new (.cells [.string name'] 0)
 (znR 0 0 12 2 0 12).bind fun b=>
 (cf 134 [b,.func (.func 135) #[] #[ptr ((st.ro st.next).next) 0]] a).bind fun c=>
 ((some c.1).bind (asI .i64)).bind fun d=>
 some (.int .i64 d,st.adv c.2.next)
noncomputable abbrev zoM:zad:=lS Tryz.prog Lk0 Tryz.f115 zaF
theorem zoN:Lk0.func 115=some (115,Tryz.f115):=by kernel_rfl
theorem zoO [Sym] (name':ByteArray) (st:SS) {r:Value×SS} (h:zmZ cc zoM name' st=some r):cc 115 [.string name'] st=some r:=
 zai (li:=zaF) zaj zao zoN rfl (fun _=>rfl) (.trans (by kernel_rfl) h)
def zlZ:LoopI:=⟨[(0,.any),(1,.any),(7,.int .i64),(8,.int .i64)],[(.exit 0,[]),(.ret,[(4,.int .i64)])]⟩
def zm0 (n:Nat):Option LoopI:=cond (Nat.beq n 2) (some zlZ) (none)
noncomputable def znp (cf:zam) (lf:zad) (s':Value) (q':Nat) (st:SS):Option (Value×SS):=
 ((lenV s').bind (asI .i64)).bind fun a=>
 (lf 2 [s',.func (.func 135) #[] #[ptr q' 0],.int .i64 a,.int .i64 0] (st.ro st.next)).bind fun b=>
 cond (Nat.beq b.1 0) (
 some (.int .i64 (-1),st.adv b.2.2.next)) (
 ((b.2.1[0]?).bind (asI .i64)).bind fun c=>
 some (.int .i64 c,st.adv b.2.2.next))
noncomputable abbrev zeV:zad:=lS Tryz.prog Lk0 Tryz.f134 zm0
theorem zrd:Lk0.func 134=some (134,Tryz.f134):=by kernel_rfl
theorem zm1 [Sym] (s':Value) (q':Nat) (st:SS) {r:Value×SS} (h:znp cc zeV s' q' st=some r):cc 134 [s',.func (.func 135) #[] #[ptr q' 0]] st=some r:=
 zai (li:=zm0) zaj zao zrd rfl (fun _=>rfl) (.trans (by kernel_rfl) h)
noncomputable def zjq (cf:zam) (lf:zad) (s':Value) (q':Nat) (t7':Int) (t8':Int) (st:SS):Option (Nat×List Value×SS):=
 cond (decide (t8'<t7')) (
 (zah s' t8' 2).bind fun a=>
 (st.ldN a.1 a.2 2).bind fun b=>
 (cf 135 [b,ptr q' 0] st).bind fun c=>
 ((some c.1).bind asB).bind fun d=>
 cond d (
 some (1,[.int .i64 t8'],c.2)) (
 let e:Int:=IntKind.wrap .i64 (t8'+1)
 lf 2 [s',.func (.func 135) #[] #[ptr q' 0],.int .i64 t7',.int .i64 e] c.2)) (
 some (0,[],st))
theorem zhq [Sym] (s':Value) (q':Nat) (t7':Int) (t8':Int) (st:SS) {r:Nat×List Value×SS} (h:zjq cc zeV s' q' t7' t8' st=some r):zeV 2 [s',.func (.func 135) #[] #[ptr q' 0],.int .i64 t7',.int .i64 t8'] st=some r:=
 zav zaj zao (key:=2) (I:=zlZ) rfl (by kernel_rfl) (by kernel_rfl) rfl rfl (.trans (by kernel_rfl) h)
noncomputable def zrH (cf:zam) (lf:zad) (f':Value) (x1':Value) (st:SS):Option (Value×SS):=
 let a:SS:=(st.ro st.next).new (.cells (f':Value).cells.toList 0)
 ((a.ld ((st.ro st.next).next) 0).bind asS).bind fun b=>
 (addr? x1').bind fun c=>
 ((a.ld c.1 c.2).bind asS).bind fun d=>
 some (.bool (eqT b d),st.adv a.next)
noncomputable abbrev zst:zad:=lS Tryz.prog Lk0 Tryz.f135 zaF
theorem zsu:Lk0.func 135=some (135,Tryz.f135):=by kernel_rfl
theorem zsv [Sym] (f':Value) (x1':Value) (st:SS) {r:Value×SS} (h:zrH cc zst f' x1' st=some r):cc 135 [f',x1'] st=some r:=
 zai (li:=zaF) zaj zao zsu rfl (fun _=>rfl) (.trans (by kernel_rfl) h)
noncomputable def zi5 (cf:zam) (lf:zad) (w':Value) (name':ByteArray) (x':Int) (st:SS):Option (Value×SS):=
 let a:SS:=(st.ro st.next).new (.cells (w':Value).cells.toList 0)
 let b:SS:=a.new (.cells [.int .i64 0,.int .i64 0,.int .i64 0,.int .i64 0,.int .i64 0,.int .i64 0,.int .i64 0,.int .i64 0,.int .i64 0,.int .i64 0,.int .i64 0,.int .i64 0] 0)
 (cf 115 [.string name'] b).bind fun c=>
 ((some c.1).bind (asI .i64)).bind fun d=>
 cond (decide (d<0)) (
 (c.2.ldN ((st.ro st.next).next) 0 12).bind fun e=>
 (c.2.stV a.next 0 12 e).bind fun f=>
 (f.rdN a.next 0 12).bind fun g=>
 cond (flat3 (.tuple #[g,.int .i64 5])) (some (.tuple #[g,.int .i64 5],st.adv f.next)) none) (
 (zbl (ptr 0 0) 12 d 2).bind fun h=>
 ((c.2.ld h.1 (h.2+1)).bind (asI .i64)).bind fun i=>
 (cf 118 [.int .i64 x',.int .i64 i] c.2).bind fun j=>
 ((some j.1).bind asB).bind fun k=>
 cond (!k) (
 (j.2.ldN ((st.ro st.next).next) 0 12).bind fun l=>
 (j.2.stV a.next 0 12 l).bind fun m=>
 (m.rdN a.next 0 12).bind fun n=>
 cond (flat3 (.tuple #[n,.int .i64 1])) (some (.tuple #[n,.int .i64 1],st.adv m.next)) none) (
 (cf 53 [ptr ((st.ro st.next).next) 0] j.2).bind fun o=>
 (zah o.1 d 1).bind fun p=>
 (o.2.ld p.1 p.2).bind fun q=>
 (zak q).bind fun r=>
 (addr? r).bind fun s=>
 (o.2.st s.1 s.2 [.int .i64 x']).bind fun t=>
 (t.ldN ((st.ro st.next).next) 0 12).bind fun u=>
 (t.stV a.next 0 12 u).bind fun v=>
 (v.rdN a.next 0 12).bind fun w=>
 cond (flat3 (.tuple #[w,.int .i64 0])) (some (.tuple #[w,.int .i64 0],st.adv v.next)) none))
noncomputable abbrev zqx:zad:=lS Tryz.prog Lk0 Tryz.f100 zaF
theorem zqy:Lk0.func 100=some (100,Tryz.f100):=by kernel_rfl
theorem ziE [Sym] (w':Value) (name':ByteArray) (x':Int) (st:SS) {r:Value×SS} (h:zi5 cc zqx w' name' x' st=some r):cc 100 [w',.string name',.int .i64 x'] st=some r:=
 zai (li:=zaF) zaj zao zqy rfl (fun _=>rfl) (.trans (by kernel_rfl) h)
noncomputable def zkT (cf:zam) (lf:zad) (x':Int) (bits':Int) (st:SS):Option (Value×SS):=
 cond (decide (0≤x')) (
 ((aI .shr .i64 x' bits').bind (asI .i64)).bind fun a=>
 some (.bool (decide (a=0)),st.adv (st.ro st.next).next)) (
 some (.bool false,st.adv (st.ro st.next).next))
noncomputable abbrev zpJ:zad:=lS Tryz.prog Lk0 Tryz.f118 zaF
theorem zpK:Lk0.func 118=some (118,Tryz.f118):=by kernel_rfl
theorem zpL [Sym] (x':Int) (bits':Int) (st:SS) {r:Value×SS} (h:zkT cc zpJ x' bits' st=some r):cc 118 [.int .i64 x',.int .i64 bits'] st=some r:=
 zai (li:=zaF) zaj zao zpK rfl (fun _=>rfl) (.trans (by kernel_rfl) h)
def zjW:LoopI:=⟨[(5,.any),(6,.int .i64),(7,.int .i64)],[(.exit 0,[]),(.ret,[(2,.bool)])]⟩
def zlc (n:Nat):Option LoopI:=cond (Nat.beq n 2) (some zjW) (none)
noncomputable def zkU (cf:zam) (lf:zad) (w':Value) (st:SS):Option (Value×SS):=
 let a:SS:=(st.ro st.next).new (.cells (w':Value).cells.toList 0)
 (cf 53 [ptr ((st.ro st.next).next) 0] a).bind fun b=>
 ((lenV b.1).bind (asI .i64)).bind fun c=>
 (lf 2 [b.1,.int .i64 c,.int .i64 0] b.2).bind fun d=>
 cond (Nat.beq d.1 0) (
 some (.bool true,st.adv d.2.2.next)) (
 ((d.2.1[0]?).bind asB).bind fun e=>
 some (.bool e,st.adv d.2.2.next))
noncomputable abbrev zeK:zad:=lS Tryz.prog Lk0 Tryz.f101 zlc
theorem zpM:Lk0.func 101=some (101,Tryz.f101):=by kernel_rfl
theorem zpN [Sym] (w':Value) (st:SS) {r:Value×SS} (h:zkU cc zeK w' st=some r):cc 101 [w'] st=some r:=
 zai (li:=zlc) zaj zao zpM rfl (fun _=>rfl) (.trans (by kernel_rfl) h)
noncomputable def zhO (cf:zam) (lf:zad) (t5':Value) (t6':Int) (t7':Int) (st:SS):Option (Nat×List Value×SS):=
 cond (decide (t7'<t6')) (
 (zah t5' t7' 1).bind fun a=>
 (st.ld a.1 a.2).bind fun b=>
 (zak b).bind fun c=>
 (addr? c).bind fun d=>
 ((st.ld d.1 d.2).bind (asI .i64)).bind fun e=>
 (zbl (ptr 0 0) 12 t7' 2).bind fun f=>
 ((st.ld f.1 (f.2+1)).bind (asI .i64)).bind fun g=>
 (cf 118 [.int .i64 e,.int .i64 g] st).bind fun h=>
 ((some h.1).bind asB).bind fun i=>
 cond (!i) (
 some (1,[.bool false],h.2)) (
 let j:Int:=IntKind.wrap .i64 (t7'+1)
 lf 2 [t5',.int .i64 t6',.int .i64 j] h.2)) (
 some (0,[],st))
theorem zgb [Sym] (t5':Value) (t6':Int) (t7':Int) (st:SS) {r:Nat×List Value×SS} (h:zhO cc zeK t5' t6' t7' st=some r):zeK 2 [t5',.int .i64 t6',.int .i64 t7'] st=some r:=
 zav zaj zao (key:=2) (I:=zjW) rfl (by kernel_rfl) (by kernel_rfl) rfl rfl (.trans (by kernel_rfl) h)
def zjX:LoopI:=⟨[(4,.int .u64),(5,.int .i64),(11,.any),(12,.int .i64),(13,.int .i64)],[(.exit 0,[(4,.int .u64)])]⟩
def zld (n:Nat):Option LoopI:=cond (Nat.beq n 5) (some zjX) (none)
noncomputable def zkV (cf:zam) (lf:zad) (w':Value) (st:SS):Option (Value×SS):=
 let a:SS:=(st.ro st.next).new (.cells (w':Value).cells.toList 0)
 (a.ldN ((st.ro st.next).next) 0 12).bind fun b=>
 (cf 101 [b] a).bind fun c=>
 ((some c.1).bind asB).bind fun d=>
 cond (!d) (
 some (.tuple #[.int .u64 0,.int .i64 1],st.adv c.2.next)) (
 (cf 53 [ptr ((st.ro st.next).next) 0] c.2).bind fun e=>
 ((lenV e.1).bind (asI .i64)).bind fun f=>
 (lf 5 [.int .u64 0,.int .i64 0,e.1,.int .i64 f,.int .i64 0] e.2).bind fun g=>
 ((g.2.1[0]?).bind (asI .u64)).bind fun h=>
 some (.tuple #[.int .u64 h,.int .i64 0],st.adv g.2.2.next))
noncomputable abbrev zeL:zad:=lS Tryz.prog Lk0 Tryz.f73 zld
theorem zpO:Lk0.func 73=some (73,Tryz.f73):=by kernel_rfl
theorem zle [Sym] (w':Value) (st:SS) {r:Value×SS} (h:zkV cc zeL w' st=some r):cc 73 [w'] st=some r:=
 zai (li:=zld) zaj zao zpO rfl (fun _=>rfl) (.trans (by kernel_rfl) h)
noncomputable def zlf (cf:zam) (lf:zad) (x':Int) (at0':Int) (t11':Value) (t12':Int) (t13':Int) (st:SS):Option (Nat×List Value×SS):=
 cond (decide (t13'<t12')) (
 (zah t11' t13' 1).bind fun a=>
 (st.ld a.1 a.2).bind fun b=>
 (zak b).bind fun c=>
 (addr? c).bind fun d=>
 ((st.ld d.1 d.2).bind (asI .i64)).bind fun e=>
 let f:Int:=IntKind.wrap .u64 e
 ((aI .shl .u64 f at0').bind (asI .u64)).bind fun g=>
 let h:Int:=orI .u64 x' g
 (zbl (ptr 0 0) 12 t13' 2).bind fun i=>
 ((st.ld i.1 (i.2+1)).bind (asI .i64)).bind fun j=>
 let k:Int:=IntKind.wrap .i64 (at0'+j)
 let l:Int:=IntKind.wrap .i64 (t13'+1)
 lf 5 [.int .u64 h,.int .i64 k,t11',.int .i64 t12',.int .i64 l] st) (
 some (0,[.int .u64 x'],st))
theorem ziF [Sym] (x':Int) (at0':Int) (t11':Value) (t12':Int) (t13':Int) (st:SS) {r:Nat×List Value×SS} (h:zlf cc zeL x' at0' t11' t12' t13' st=some r):zeL 5 [.int .u64 x',.int .i64 at0',t11',.int .i64 t12',.int .i64 t13'] st=some r:=
 zav zaj zao (key:=5) (I:=zjX) rfl (by kernel_rfl) (by kernel_rfl) rfl rfl (.trans (by kernel_rfl) h)
noncomputable def zl0 (cf:zam) (lf:zad) (w':Value) (st:SS):Option (Value×SS):=
 (zak w').bind fun a=>
 (addr? a).bind fun b=>
 (zak w').bind fun c=>
 (addr? c).bind fun d=>
 (zak w').bind fun e=>
 (addr? e).bind fun f=>
 (zak w').bind fun g=>
 (addr? g).bind fun h=>
 (zak w').bind fun i=>
 (addr? i).bind fun j=>
 (zak w').bind fun k=>
 (addr? k).bind fun l=>
 (zak w').bind fun m=>
 (addr? m).bind fun n=>
 (zak w').bind fun o=>
 (addr? o).bind fun p=>
 (zak w').bind fun q=>
 (addr? q).bind fun r=>
 (zak w').bind fun s=>
 (addr? s).bind fun t=>
 (zak w').bind fun u=>
 (addr? u).bind fun v=>
 (zak w').bind fun w=>
 (addr? w).bind fun x=>
 let y:SS:=st.new (.cells ([ptr b.1 b.2,ptr d.1 (d.2+1),ptr f.1 (f.2+2),ptr h.1 (h.2+3),ptr j.1 (j.2+4),ptr l.1 (l.2+5),ptr n.1 (n.2+6),ptr p.1 (p.2+7),ptr r.1 (r.2+8),ptr t.1 (t.2+9),ptr v.1 (v.2+10),ptr x.1 (x.2+11)]) 1)
 some (.slice (some ⟨st.next,0,none⟩) 12 12,y)
noncomputable abbrev zn9:zad:=lS Tryz.prog Lk0 Tryz.f53 zaF
theorem zoa:Lk0.func 53=some (53,Tryz.f53):=by kernel_rfl
theorem zoc [Sym] (w':Value) (st:SS) {r:Value×SS} (h:zl0 cc zn9 w' st=some r):cc 53 [w'] st=some r:=
 zai (li:=zaF) zaj zao zoa rfl (fun _=>rfl) (.trans (by kernel_rfl) h)
end Go.Proofs.YtifploedaacedaaGreatDoorE
namespace Go.Proofs.YtifploedaacedaaGreatDoorE
open Go Go.E Go.Proofs
def zfV (x:List UInt8×Nat):List Value:=[.string (mkS x.1),.int .i64 x.2]
theorem zl1:fieldsC=rowsF zfV zbD:=rfl
def zfp (f:List UInt8) (x:List UInt8×Nat):Bool:=decide (x.1=f)
def zdw (f:List UInt8):Option Nat:=zbD.findIdx? (zfp f)
def ixI:Option Nat→Int
 | none=> -1
 | some k=>(k:Int)
theorem zv1 {i:Nat} {x:List UInt8×Nat} (h:zbD[i]?=some x):cut fieldsC (0+i*2) 2=some (zfV x):=by
 rw [Nat.zero_add,zl1]
 exact ztu (zaW (f:=zfV) (z:=2) (fun _=>rfl) zbD i x h) rfl
theorem zuY {i:Nat} {x:List UInt8×Nat} (h:zbD[i]?=some x):fieldsC[0+i*2+1]?=some (.int .i64 x.2):=by
 have:=zaW (f:=zfV) (z:=2) (fun _=>rfl) zbD i x h
 rw [← zl1] at this
 have h1:=congrArg (·[1]?) this
 simp only [List.getElem?_take_of_lt (show 1<2 by omega),List.getElem?_drop] at h1
 rw [Nat.zero_add]
 exact h1
theorem zsw [Sym] (x:List UInt8×Nat) (f:List UInt8) (q:Nat) (st:SS) (hq:st.mem.get q=some (.cells [.string (mkS f)] 0)) (hlt:q<st.next):∃ n,st.next≤n∧cc 135 [.agg (zfV x).toArray,ptr q 0] st=some (.bool (zfp f x),st.adv n):=by
 refine ⟨st.next+1,by omega,zsv _ _ st ?_⟩
 have l0:((st.ro st.next).new (.cells (zfV x) 0)).ld st.next 0=some (.string (mkS x.1)):=by
  have hm:((st.ro st.next).new (.cells (zfV x) 0)).mem.get st.next=some (.cells (zfV x) 0):=SS.new_get (st:=st.ro st.next)
  rw [SS.ld_cells hm];rfl
 have l1:((st.ro st.next).new (.cells (zfV x) 0)).ld q 0=some (.string (mkS f)):=by
  rw [SS.ld_cells (c:=[.string (mkS f)]) (z:=0) (by rw [SS.new_old (by simp;omega)];exact hq)];rfl
 have he:eqT (mkS x.1) (mkS f)=zfp f x:=by rw [zd0,zbu,zbu];rfl
 simp only [zrH,zaC,SS.ro_next,l0,zob,zab,zac,l1,he]
 rfl
theorem zuZ [Sym] (f:List UInt8) (q:Nat) (st0:SS) (hg:Gd st0) (hq:st0.mem.get q=some (.cells [.string (mkS f)] 0)) (hlt:q<st0.next):
  ∀ (k j:Nat) (st:SS),12=k+j→Ext st0 st→∃ e vs st',zeV 2 [.slice (some ⟨0,0,none⟩) 12 12,.func (.func 135) #[] #[ptr q 0],.int .i64 12,.int .i64 j] st=some (e,vs,st')∧Ext st0 st'∧
   ((e=0∧vs=[]∧(zbD.drop j).findIdx? (zfp f)=none)∨(∃ m:Nat,e=1∧(zbD.drop j).findIdx? (zfp f)=some m∧vs=[.int .i64 ((j+m:Nat):Int)])):=by
 intro k
 induction k with
 | zero=>
   intro j st hk he
   have:j=12:=by omega
   subst this
   exact ⟨0,[],st,zhq _ q _ _ st rfl,he,.inl ⟨rfl,rfl,rfl⟩⟩
 | succ k ih=>
   intro j st hk he
   obtain ⟨x,hx⟩:∃ x,zbD[j]?=some x:=⟨_,zge (by show j<12;omega)⟩
   have hjl:(j:Int)<12:=by omega
   have hel:zah (.slice (some ⟨0,0,none⟩) 12 12) (j:Int) 2=some (0,0+j*2):=by
    unfold zah
    have h1:(0:Int)≤(j:Int):=by omega
    have h2:(j:Int)<((12:Nat):Int):=by omega
    simp only [zdt h1,zdt h2,Bool.and_self,zct,Int.toNat_natCast]
   have hld:st.ldN 0 (0+j*2) 2=some (.agg (zfV x).toArray):=by rw [SS.ldN_table (hg.ext he).gF,zv1 hx];rfl
   obtain ⟨n,hn,c1⟩:=zsw x f q st (he.get hlt hq) (zll hlt he.next)
   have hd:=drop_cons hx
   have hw:=za4 (i:=j) (by omega)
   by_cases hf:zfp f x=true
   ·refine ⟨1,[.int .i64 j],st.adv n,zhq _ q _ _ st ?_,he.adv (by have:=he.next;omega),.inr ⟨0,rfl,?_,rfl⟩⟩
    ·rw [hf] at c1
     simp only [zjq,zdt hjl,zct,hel,zob,hld,c1,zal]
    ·rw [hd,List.findIdx?_cons,hf];rfl
   ·have hf':zfp f x=false:=by simpa using hf
    obtain ⟨e,vs,st',d1,d2,d3⟩:=ih (j+1) (st.adv n) (by omega) (he.adv (by have:=he.next;omega))
    rw [hf'] at c1
    refine ⟨e,vs,st',zhq _ q _ _ st ?_,d2,?_⟩
    ·simp only [zjq,zdt hjl,zct,hel,zob,hld,c1,zal,zcf,hw]
     exact d1
    ·rw [hd,List.findIdx?_cons,hf']
     rcases d3 with ⟨e1,e2,e3⟩ | ⟨m,e1,e2,e3⟩
     ·exact .inl ⟨e1,e2,by rw [e3];rfl⟩
     ·exact .inr ⟨m+1,e1,by rw [e2];rfl,by rw [e3,show j+1+m=j+(m+1) by omega]⟩
theorem zqz [Sym] (f:List UInt8) (st:SS) (hg:Gd st):∃ n,st.next≤n∧cc 115 [.string (mkS f)] st=some (.int .i64 (ixI (zdw f)),st.adv n):=by
 have g1:Gd ((st.ro st.next).new (.cells [.string (mkS f)] 0)):=(hg.ro (n:=st.next)).ext ((Ext.refl _).new _)
 have hm:((st.ro st.next).new (.cells [.string (mkS f)] 0)).mem.get st.next=some (.cells [.string (mkS f)] 0):=SS.new_get (st:=st.ro st.next)
 have g2:=g1.ro (n:=((st.ro st.next).new (.cells [.string (mkS f)] 0)).next)
 obtain ⟨e,vs,st',d1,d2,d3⟩:=zuZ f st.next _ g2 hm (by simp) 12 0 _ (by omega) (.refl _)
 have d1':zeV 2 [.slice (some ⟨0,0,none⟩) 12 12,.func (.func 135) #[] #[ptr st.next 0],.int .i64 12,.int .i64 0] (((st.ro st.next).new (.cells [.string (mkS f)] 0)).ro ((st.ro st.next).new (.cells [.string (mkS f)] 0)).next)=_:=d1
 have hnx:=d2.next
 simp at hnx
 have hsl:znR 0 0 12 2 0 12=some (.slice (some ⟨0,0,none⟩) 12 12):=rfl
 have hlen:(lenV (.slice (some ⟨0,0,none⟩) 12 12)).bind (asI .i64)=some 12:=rfl
 have c:∀ z,(∃ e vs,zeV 2 [.slice (some ⟨0,0,none⟩) 12 12,.func (.func 135) #[] #[ptr st.next 0],.int .i64 12,.int .i64 0] (((st.ro st.next).new (.cells [.string (mkS f)] 0)).ro ((st.ro st.next).new (.cells [.string (mkS f)] 0)).next)=some (e,vs,st')∧((e=0∧z= -1)∨(e=1∧vs=[.int .i64 z])))→
   cc 134 [.slice (some ⟨0,0,none⟩) 12 12,.func (.func 135) #[] #[ptr st.next 0]] ((st.ro st.next).new (.cells [.string (mkS f)] 0))=some (.int .i64 z,((st.ro st.next).new (.cells [.string (mkS f)] 0)).adv st'.next):=by
  rintro z ⟨e,vs,h,⟨rfl,rfl⟩ | ⟨rfl,rfl⟩⟩
  ·refine zm1 _ _ _ ?_
   have hb0:Nat.beq 0 0=true:=rfl
   simp only [znp,hlen,zob,h,hb0,zct]
  ·refine zm1 _ _ _ ?_
   have hb0:Nat.beq 1 0=false:=rfl
   simp only [znp,hlen,zob,h,hb0,zcf,zgz,zaa]
 have c':=c (ixI (zdw f)) ⟨e,vs,d1',by
  rw [List.drop_zero] at d3
  rcases d3 with ⟨e1,e2,e3⟩ | ⟨m,e1,e2,e3⟩
  ·exact .inl ⟨e1,by unfold zdw;rw [e3];rfl⟩
  ·exact .inr ⟨e1,by unfold zdw;rw [e2,e3,Nat.zero_add];rfl⟩⟩
 refine ⟨st'.next,by omega,zoO _ st ?_⟩
 simp only [zmZ,hsl,zob,SS.ro_next,c',zaa]
 rfl
theorem ziG {f:List UInt8} {k:Nat} (h:zdw f=some k):∃ x,zbD[k]?=some x∧x.1=f∧k<12:=by
 unfold zdw at h
 obtain ⟨hlt,hp,_⟩:=List.findIdx?_eq_some_iff_getElem.1 h
 exact ⟨_,zge hlt,by simpa [zfp] using hp,hlt⟩
def zaD (k:Nat):Nat:=((zbD[k]?).map (·.2)).getD 0
def zfq (f:List UInt8):Nat:=match zdw f with | none=>0 | some k=>zaD k
theorem zpR {k:Nat} (h:k<12):zbl (ptr 0 0) 12 (k:Int) 2=some (0,0+k*2):=by
 have h1:(0:Int)≤(k:Int):=by omega
 have h2:(k:Int)<((12:Nat):Int):=by omega
 unfold ptr zbl
 simp only [zdt h1,zdt h2,Bool.and_self,zct,Int.toNat_natCast]
theorem zod {st:SS} (hg:Gd st) {k:Nat} (h:k<12):st.ld 0 (0+k*2+1)=some (.int .i64 (zaD k)):=by
 obtain ⟨x,hx⟩:∃ x,zbD[k]?=some x:=⟨_,zge (by show k<12;omega)⟩
 rw [SS.ld_table hg.gF,zuY hx]
 unfold zaD
 rw [hx];rfl
theorem zv2 [Sym] (f:List UInt8) (st:SS) (hg:Gd st):∃ n,st.next≤n∧cc 98 [.string (mkS f)] st=some (.int .i64 (zfq f),st.adv n):=by
 obtain ⟨n,hn,c⟩:=zqz f (st.ro st.next) hg.ro
 refine ⟨n,hn,zpI _ st ?_⟩
 unfold zfq
 cases hk:zdw f with
 | none=>
   rw [hk] at c
   have h0:¬ (0:Int)≤ixI none:=by decide
   simp only [zkS,c,zob,zaa,zdf h0,zcf]
   rfl
 | some k=>
   rw [hk] at c
   obtain ⟨x,_,_,hlt⟩:=ziG hk
   have h0:(0:Int)≤ixI (some k):=Int.natCast_nonneg k
   have e1:zbl (ptr 0 0) 12 (ixI (some k)) 2=some (0,0+k*2):=zpR hlt
   have e2:((st.ro st.next).adv n).ld 0 (0+k*2+1)=some (.int .i64 (zaD k)):=zod (hg.ro.ext ((Ext.refl _).adv hn)) hlt
   simp only [zkS,c,zob,zaa,zdt h0,zct,e1,e2]
   rfl
end Go.Proofs.YtifploedaacedaaGreatDoorE
namespace Go.Proofs.YtifploedaacedaaGreatDoorE
open Go Go.E Go.Proofs
def plRow (b:Nat):List Value:=(List.range 12).map fun i=>ptr b i
theorem zpi (b:Nat) {k:Nat} (h:k<12):(plRow b)[k]?=some (ptr b k):=by
 unfold plRow
 rw [List.getElem?_map,List.getElem?_range h];rfl
theorem zl2 [Sym] (b:Nat) (st:SS):cc 53 [ptr b 0] st=some (.slice (some ⟨st.next,0,none⟩) 12 12,st.new (.cells (plRow b) 1)):=by
 refine zoc _ st ?_
 have h1:zak (ptr b 0)=some (ptr b 0):=rfl
 simp only [zl0,h1,zob,zac]
 rfl
def fitsT (x:Int) (n:Nat):Bool:=decide (0≤x∧x<2^n)
theorem zrI [Sym] (x:Int) (n:Nat) (hn:n≤62) (st:SS):cc 118 [.int .i64 x,.int .i64 n] st=some (.bool (fitsT x n),st.adv st.next):=by
 refine zpL _ _ st ?_
 by_cases h:0≤x
 ·have hb:¬ ((n:Int)<0):=by omega
  have h1:(aI .shr .i64 x (n:Int)).bind (asI .i64)=some (x/2^n):=by
   have e:min ((n:Int)).toNat (IntKind.bits .i64)=n:=by
    show min ((n:Int)).toNat 64=n
    rw [Int.toNat_natCast];omega
   have e2:shrI .i64 x (n:Int)=x/2^n:=by
    unfold shrI
    rw [e]
    exact Int.fdiv_eq_ediv_of_nonneg x (Int.pow_nonneg (by omega))
   simp only [aI,zdf hb,zcf,zob,zaa,e2]
  have e3:decide (x/2^n=0)=fitsT x n:=by
   unfold fitsT
   have hp:(0:Int)<2^n:=Int.pow_pos (by omega)
   by_cases hx:x<2^n
   ·rw [zdt (Int.ediv_eq_zero_of_lt h hx),zdt ⟨h,hx⟩]
   ·rw [zdf (fun hc=>hx ?_),zdf (fun hc=>hx hc.2)]
    have:=Int.lt_ediv_add_one_mul_self x hp
    rw [hc] at this
    omega
  simp only [zkT,zdt h,zct,h1,zob,e3]
  rfl
 ·have e3:fitsT x n=false:=zdf (fun hc=>h hc.1)
  simp only [zkT,zdf h,zcf,e3]
  rfl
theorem zi6 (k:Nat):zaD k≤11:=by
 by_cases h:k<12
 ·have:∀ k,k<12→zaD k≤11:=by decide+kernel
  exact this k h
 ·unfold zaD
  rw [List.getElem?_eq_none (by show 12≤k;omega)]
  decide
def zbk (w:Wd) (f:List UInt8) (x:Int):Wd×Int:=match zdw f with
 | none=>(w,5)
 | some k=>if fitsT x (zaD k)=true then (w.set k x,0) else (w,1)
theorem zcw (w:Wd) (f:List UInt8) (x:Int):(zbk w f x).1.length=w.length:=by
 unfold zbk
 repeat' split
 all_goals simp
theorem zgU (w:Wd) (z:Int):flat3 (.tuple #[wV w,.int .i64 z])=true:=by
 have:zaz (wV w)=true:=by
  show ((wRow w).toArray.toList.all zbs)=true
  simp [wRow,zbs]
 show ([wV w,.int .i64 z].all zaz)=true
 simp only [List.all_cons,this,Bool.true_and,List.all_nil,Bool.and_true]
 rfl
theorem zqA (w:Wd) (k:Nat) (x:Int):wRow (w.set k x)=(wRow w).set k (.int .i64 x):=by simp [wRow,List.map_set]
theorem zkW {row:List Value} {k:Nat} (h:k<row.length) (v:Value):zdq row k [v]=some (row.set k v):=by
 rw [zbL (by simp;omega)]
 congr 1
 rw [List.set_eq_take_append_cons_drop,if_pos h]
 simp
abbrev Z12:List Value:=[.int .i64 0,.int .i64 0,.int .i64 0,.int .i64 0,.int .i64 0,.int .i64 0,.int .i64 0,.int .i64 0,.int .i64 0,.int .i64 0,.int .i64 0,.int .i64 0]
theorem set_ok [Sym] (w:Wd) (hw:w.length=12) (f:List UInt8) (x:Int) (st:SS) (hg:Gd st):∃ n,st.next≤n∧cc 100 [wV w,.string (mkS f),.int .i64 x] st=some (.tuple #[wV (zbk w f x).1,.int .i64 (zbk w f x).2],st.adv n):=by
 have hc:(wV w).cells.toList=wRow w:=zaC _
 have hl:(wRow w).length=12:=by rw [zaK,hw]
 have a0:At ((st.ro st.next).new (.cells (wRow w) 0)) st.next (wRow w):=At.new (st:=st.ro st.next) (zlr _) _
 have x1:Ext (st.ro st.next) ((st.ro st.next).new (.cells (wRow w) 0)):=(Ext.refl _).new _
 have a1:At (((st.ro st.next).new (.cells (wRow w) 0)).new (.cells Z12 0)) (st.next+1) Z12:=At.new (st:=(st.ro st.next).new (.cells (wRow w) 0)) (by simp) _
 have x2:Ext ((st.ro st.next).new (.cells (wRow w) 0)) (((st.ro st.next).new (.cells (wRow w) 0)).new (.cells Z12 0)):=(Ext.refl _).new _
 have g2:Gd (((st.ro st.next).new (.cells (wRow w) 0)).new (.cells Z12 0)):=(hg.ro (n:=st.next)).ext (x1.trans x2)
 have hn2:(((st.ro st.next).new (.cells (wRow w) 0)).new (.cells Z12 0)).next=st.next+2:=rfl
 obtain ⟨n3,hn3,c3⟩:=zqz f _ g2
 have x3:Ext (((st.ro st.next).new (.cells (wRow w) 0)).new (.cells Z12 0)) ((((st.ro st.next).new (.cells (wRow w) 0)).new (.cells Z12 0)).adv n3):=(Ext.refl _).adv hn3
 have a0':=(a0.ext x2).ext x3
 have a1':=a1.ext x3
 cases hk:zdw f with
 | none=>
   rw [hk] at c3
   have hs:zbk w f x=(w,5):=by unfold zbk;rw [hk]
   rw [hs]
   obtain ⟨s',f1,f2,f3,f4,_⟩:=zbe (n:=12) a1' rfl a0' hl (zcK w)
   have h0:ixI none<0:=by decide
   refine ⟨s'.next,by have:=f4.next;simp at this;omega,ziE _ _ _ st ?_⟩
   have hz:=zgU w 5
   unfold wV at hz
   simp only [zi5,hc,SS.ro_next,SS.new_next,c3,zob,zaa,zdt h0,zct,f1,f2,f3,hz]
   rfl
 | some k=>
   rw [hk] at c3
   obtain ⟨fx,_,_,hlt⟩:=ziG hk
   have h0:¬ ixI (some k)<0:=by
    show ¬ (k:Int)<0
    omega
   have e1:zbl (ptr 0 0) 12 (ixI (some k)) 2=some (0,0+k*2):=zpR hlt
   have e2:=zod (g2.ext x3) hlt
   have c4:=zrI x (zaD k) (by have:=zi6 k;omega) ((((st.ro st.next).new (.cells (wRow w) 0)).new (.cells Z12 0)).adv n3)
   have x4:Ext ((((st.ro st.next).new (.cells (wRow w) 0)).new (.cells Z12 0)).adv n3) (((((st.ro st.next).new (.cells (wRow w) 0)).new (.cells Z12 0)).adv n3).adv ((((st.ro st.next).new (.cells (wRow w) 0)).new (.cells Z12 0)).adv n3).next):=(Ext.refl _).adv (zlr _)
   have a0'':=a0'.ext x4
   have a1'':=a1'.ext x4
   by_cases hf:fitsT x (zaD k)=true
   ·rw [hf] at c4
    have hs:zbk w f x=(w.set k x,0):=by unfold zbk;rw [hk];exact if_pos hf
    rw [hs]
    have c5:=zl2 st.next (((((st.ro st.next).new (.cells (wRow w) 0)).new (.cells Z12 0)).adv n3).adv ((((st.ro st.next).new (.cells (wRow w) 0)).new (.cells Z12 0)).adv n3).next)
    generalize hs4:(((((st.ro st.next).new (.cells (wRow w) 0)).new (.cells Z12 0)).adv n3).adv ((((st.ro st.next).new (.cells (wRow w) 0)).new (.cells Z12 0)).adv n3).next)=s4 at*
    have x5:Ext s4 (s4.new (.cells (plRow st.next) 1)):=(Ext.refl _).new _
    have a0v:=a0''.ext x5
    have a1v:=a1''.ext x5
    have hel:zah (.slice (some ⟨s4.next,0,none⟩) 12 12) (ixI (some k)) 1=some (s4.next,0+k*1):=by
     show zah (.slice (some ⟨s4.next,0,none⟩) 12 12) (k:Int) 1=_
     unfold zah
     have h1:(0:Int)≤(k:Int):=by omega
     have h2:(k:Int)<((12:Nat):Int):=by omega
     simp only [zdt h1,zdt h2,Bool.and_self,zct,Int.toNat_natCast]
    have hld:(s4.new (.cells (plRow st.next) 1)).ld s4.next (0+k*1)=some (ptr st.next k):=by
     rw [SS.ld_cells SS.new_get,show 0+k*1=k by omega,zpi _ hlt]
    obtain ⟨s6,e6,a6,m6,_⟩:=a0v.sto (k:=k) (vs:=[.int .i64 x]) (row':=wRow (w.set k x)) rfl (by rw [zqA];exact zkW (by rw [hl];exact hlt) _)
    have a1w:=a1v.mod m6 (by simp)
    obtain ⟨s',f1,f2,f3,f4,_⟩:=zbe (n:=12) a1w rfl a6 (by rw [zaK,List.length_set,hw]) (zcK _)
    have hnl:zak (ptr st.next k)=some (ptr st.next k):=rfl
    have hz:=zgU (w.set k x) 0
    unfold wV at hz
    have hq:∀ q:Nat,s4.next≥st.next:=fun _=>by rw [← hs4];simp;omega
    refine ⟨s'.next,by have:=f4.next;have:=m6.next;have:=x5.next;have:=hq 0;omega,ziE _ _ _ st ?_⟩
    have e1':zbl (ptr 0 0) 12 (ixI (some k)) 2=some (0,0+k*2):=e1
    simp only [zi5,hc,SS.ro_next,SS.new_next,c3,zob,zaa,zdf h0,zcf,e1',e2,c4,zal,znt,c5,hel,hld,hnl,zac,e6,f1,f2,f3,hz,zct]
    rfl
   ·have hf':fitsT x (zaD k)=false:=by simpa using hf
    rw [hf'] at c4
    have hs:zbk w f x=(w,1):=by unfold zbk;rw [hk];exact if_neg hf
    rw [hs]
    obtain ⟨s',f1,f2,f3,f4,_⟩:=zbe (n:=12) a1'' rfl a0'' hl (zcK w)
    have hz:=zgU w 1
    unfold wV at hz
    refine ⟨s'.next,by have:=f4.next;simp at this;omega,ziE _ _ _ st ?_⟩
    simp only [zi5,hc,SS.ro_next,SS.new_next,c3,zob,zaa,zdf h0,zcf,e1,e2,c4,zal,znf,f1,f2,f3,hz,zct]
    rfl
end Go.Proofs.YtifploedaacedaaGreatDoorE
namespace Go.Proofs.YtifploedaacedaaGreatDoorE
open Go Go.E Go.Proofs
def zdx (w:Wd):Bool:=(List.range 12).all fun k=>fitsT (w.getD k 0) (zaD k)
structure Pls (st:SS) (b j:Nat) (w:Wd):Prop where
 pl:st.mem.get j=some (.cells (plRow b) 1)
 lt:j<st.next
 at0:At st b (wRow w)
section
variable {st st' : SS} {b j : Nat} {w : Wd}
theorem Pls.ext (h:Pls st b j w) (e:Ext st st'):Pls st' b j w:=⟨e.get h.lt h.pl,zll h.lt e.next,h.at0.ext e⟩
theorem plS {k:Nat} (h:k<12):zah (.slice (some ⟨j,0,none⟩) 12 12) (k:Int) 1=some (j,0+k*1):=by
 unfold zah
 have h1:(0:Int)≤(k:Int):=by omega
 have h2:(k:Int)<((12:Nat):Int):=by omega
 simp only [zdt h1,zdt h2,Bool.and_self,zct,Int.toNat_natCast]
theorem Pls.ptr (h:Pls st b j w) {k:Nat} (hk:k<12):st.ld j (0+k*1)=some (Go.E.ptr b k):=by
 rw [SS.ld_cells h.pl,show 0+k*1=k by omega,zpi _ hk]
theorem Pls.part (h:Pls st b j w) (hw:w.length=12) {k:Nat} (hk:k<12):st.ld b k=some (.int .i64 (w.getD k 0)):=by
 rw [h.at0.ld,zga,List.getD_eq_getElem?_getD]
 rw [zge (by omega)]
 rfl
end
theorem ztM [Sym] (w:Wd) (hw:w.length=12) (b j:Nat) (st0:SS) (hg:Gd st0) (hp:Pls st0 b j w):∀ (m k:Nat) (st:SS),12=m+k→Ext st0 st→
  ∃ st',Ext st0 st'∧zeK 2 [.slice (some ⟨j,0,none⟩) 12 12,.int .i64 12,.int .i64 k] st=some (if ((List.range' k m).all fun k=>fitsT (w.getD k 0) (zaD k))=true then (0,[],st') else (1,[.bool false],st')):=by
 intro m
 induction m with
 | zero=>
   intro k st hk he
   have:k=12:=by omega
   subst this
   exact ⟨st,he,zgb _ _ _ st rfl⟩
 | succ m ih=>
   intro k st hk he
   have hkl:k<12:=by omega
   have h1:(k:Int)<12:=by omega
   have hnl:zak (ptr b k)=some (ptr b k):=rfl
   have c:=zrI (w.getD k 0) (zaD k) (by have:=zi6 k;omega) st
   have hw1:=za4 (i:=k) (by omega)
   have e1:=(hp.ext he).ptr hkl
   have e2:=(hp.ext he).part hw hkl
   have e3:=zod (hg.ext he) hkl
   have e4:=zpR hkl
   rw [List.range'_succ,List.all_cons]
   cases hf:fitsT (w.getD k 0) (zaD k) with
   | true=>
     obtain ⟨st',x',l⟩:=ih (k+1) (st.adv st.next) (by omega) (he.adv (zlr _))
     rw [hf] at c
     refine ⟨st',x',zgb _ _ _ st ?_⟩
     simp only [zhO,zdt h1,zct,plS hkl,zob,e1,hnl,zac,e2,zaa,e4,e3,c,zal,znt,zcf,hw1,Bool.true_and]
     exact l
   | false=>
     rw [hf] at c
     refine ⟨st.adv st.next,he.adv (zlr _),zgb _ _ _ st ?_⟩
     simp only [zhO,zdt h1,zct,plS hkl,zob,e1,hnl,zac,e2,zaa,e4,e3,c,zal,znf,Bool.false_and]
     rfl
theorem zv3 [Sym] (w:Wd) (hw:w.length=12) (st:SS) (hg:Gd st):∃ n,st.next≤n∧cc 101 [wV w] st=some (.bool (zdx w),st.adv n):=by
 have hc:(wV w).cells.toList=wRow w:=zaC _
 have a0:At ((st.ro st.next).new (.cells (wRow w) 0)) st.next (wRow w):=At.new (st:=st.ro st.next) (zlr _) _
 have x1:Ext (st.ro st.next) ((st.ro st.next).new (.cells (wRow w) 0)):=(Ext.refl _).new _
 have c2:=zl2 st.next ((st.ro st.next).new (.cells (wRow w) 0))
 have x2:Ext ((st.ro st.next).new (.cells (wRow w) 0)) (((st.ro st.next).new (.cells (wRow w) 0)).new (.cells (plRow st.next) 1)):=(Ext.refl _).new _
 have hp:Pls (((st.ro st.next).new (.cells (wRow w) 0)).new (.cells (plRow st.next) 1)) st.next (st.next+1) w:=⟨SS.new_get (st:=(st.ro st.next).new (.cells (wRow w) 0)),by simp,a0.ext x2⟩
 obtain ⟨s',x',l⟩:=ztM w hw st.next (st.next+1) _ ((hg.ro (n:=st.next)).ext (x1.trans x2)) hp 12 0 _ (by omega) (.refl _)
 have hnx:=x'.next
 simp at hnx
 have hlen:(lenV (.slice (some ⟨st.next+1,0,none⟩) 12 12)).bind (asI .i64)=some 12:=rfl
 have l':zeK 2 [.slice (some ⟨st.next+1,0,none⟩) 12 12,.int .i64 12,.int .i64 0] (((st.ro st.next).new (.cells (wRow w) 0)).new (.cells (plRow st.next) 1))=some (if zdx w=true then (0,[],s') else (1,[.bool false],s')):=by
  have hg':zdx w=(List.range' 0 12).all fun k=>fitsT (w.getD k 0) (zaD k):=by unfold zdx;rw [List.range_eq_range']
  rw [hg']
  exact l
 refine ⟨s'.next,by omega,zpN _ st ?_⟩
 have b0:Nat.beq 0 0=true:=rfl
 have b1:Nat.beq 1 0=false:=rfl
 cases hgd:zdx w with
 | true=>
   rw [hgd,if_pos rfl] at l'
   simp only [zkU,hc,SS.ro_next,c2,zob,SS.new_next,hlen,l',b0,zct]
 | false=>
   rw [hgd,if_neg (by decide)] at l'
   simp only [zkU,hc,SS.ro_next,c2,zob,SS.new_next,hlen,l',b1,zcf,zgz,zal]
def zc4:List Nat:=zbD.map (·.2)
def zfr:List Nat→List Int→Int
 | n::ns,p::ps=>p+2^n*zfr ns ps
 | _,_=>0
def zf2 (w:Wd):Int:=zfr zc4 w
theorem orU64 {a c s:Nat} (ha:a<2^s) (hc:a+c*2^s<2^64):orI .u64 (a:Int) ((c*2^s:Nat):Int)=((a+c*2^s:Nat):Int):=by
 have h1:a||| c*2^s=a+c*2^s:=by
  have:=Nat.two_pow_add_eq_or_of_lt ha c
  rw [Nat.or_comm,Nat.mul_comm,← this,Nat.add_comm]
 unfold orI
 have e:((BitVec.ofInt 64 (a:Int)||| BitVec.ofInt 64 ((c*2^s:Nat):Int)).toNat:Nat)=a+c*2^s:=by
  rw [BitVec.toNat_or,BitVec.ofInt_natCast,BitVec.ofInt_natCast,BitVec.toNat_ofNat,BitVec.toNat_ofNat,Nat.mod_eq_of_lt (by omega),Nat.mod_eq_of_lt (by omega),h1]
 show IntKind.wrap .u64 (((BitVec.ofInt 64 (a:Int)||| BitVec.ofInt 64 ((c*2^s:Nat):Int)).toNat:Nat):Int)=_
 rw [e]
 exact zeb (by omega) (by omega)
theorem shl64 {c s:Nat} (hs:s<64) (hc:c*2^s<2^64):(aI .shl .u64 (c:Int) (s:Int)).bind (asI .u64)=some ((c*2^s:Nat):Int):=by
 have hb:¬ ((s:Int)<0):=by omega
 have e:min ((s:Int)).toNat (IntKind.bits .u64)=s:=by
  show min ((s:Int)).toNat 64=s
  rw [Int.toNat_natCast];omega
 have e2:zlF .u64 (c:Int) (s:Int)=((c*2^s:Nat):Int):=by
  unfold zlF
  rw [e]
  have:(c:Int)*2^s=((c*2^s:Nat):Int):=by simp
  rw [this]
  exact zeb (by omega) (by omega)
 simp only [aI,zdf hb,zcf,zob,zaa,e2]
def zcX (k:Nat):Nat:=(zc4.take k).sum
theorem ztN {k:Nat} (h:k<12):zcX (k+1)=zcX k+zaD k:=by
 have:∀ k,k<12→zcX (k+1)=zcX k+zaD k:=by decide+kernel
 exact this k h
theorem zrJ {k:Nat} (h:k<12):zcX k+zaD k≤64∧0<zaD k:=by
 have:∀ k,k<12→zcX k+zaD k≤64∧0<zaD k:=by decide+kernel
 exact this k h
theorem zoe {k:Nat} (h:k<12):zc4.drop k=zaD k::zc4.drop (k+1):=by
 have:∀ k,k<12→zc4.drop k=zaD k::zc4.drop (k+1):=by decide+kernel
 exact this k h
theorem getD_drop {w:Wd} {k:Nat} (h:k<w.length):w.drop k=w.getD k 0::w.drop (k+1):=by
 rw [List.drop_eq_getElem_cons h,List.getD_eq_getElem?_getD,zge h]
 rfl
theorem znq {w:Wd} (h:zdx w=true) {k:Nat} (hk:k<12):∃ p:Nat,w.getD k 0=(p:Int)∧p<2^zaD k:=by
 have:=List.all_eq_true.1 h k (List.mem_range.2 hk)
 unfold fitsT at this
 obtain ⟨h1,h2⟩:=of_decide_eq_true this
 obtain ⟨p,hp⟩:=Int.eq_ofNat_of_zero_le h1
 refine ⟨p,hp,?_⟩
 rw [hp] at h2
 have:((p:Int))<((2^zaD k:Nat):Int):=by simpa using h2
 omega
theorem ztO [Sym] (w:Wd) (hw:w.length=12) (hgd:zdx w=true) (b j:Nat) (st0:SS) (hg:Gd st0) (hp:Pls st0 b j w):∀ (m k x:Nat),12=m+k→x<2^zcX k→
  zeL 5 [.int .u64 x,.int .i64 (zcX k),.slice (some ⟨j,0,none⟩) 12 12,.int .i64 12,.int .i64 k] st0=some (0,[.int .u64 ((x:Int)+2^zcX k*zfr (zc4.drop k) (w.drop k))],st0):=by
 intro m
 induction m with
 | zero=>
   intro k x hk hx
   have:k=12:=by omega
   subst this
   refine ziF _ _ _ _ _ st0 ?_
   have e:zfr (zc4.drop 12) (w.drop 12)=0:=rfl
   rw [e,Int.mul_zero,Int.add_zero]
   rfl
 | succ m ih=>
   intro k x hk hx
   have hkl:k<12:=by omega
   have h1:(k:Int)<12:=by omega
   have hnl:zak (ptr b k)=some (ptr b k):=rfl
   obtain ⟨p,hp1,hp2⟩:=znq hgd hkl
   have hs:=zrJ hkl
   have hss:=ztN hkl
   have hw1:=za4 (i:=k) (by omega)
   have e1:=hp.ptr hkl
   have e2:=hp.part hw hkl
   rw [hp1] at e2
   have e3:=zod hg hkl
   have e4:=zpR hkl
   have hpow:2^zaD k≤2^11:=Nat.pow_le_pow_right (by omega) (zi6 k)
   have hw2:IntKind.wrap .u64 (p:Int)=(p:Int):=zeb (by omega) (by omega)
   have hpm:p*2^zcX k+2^zcX k≤2^(zcX k+zaD k):=by
    rw [Nat.pow_add,Nat.mul_comm (2^zcX k)]
    have:(p+1)*2^zcX k≤2^zaD k*2^zcX k:=Nat.mul_le_mul_right _ hp2
    rw [Nat.add_mul] at this
    omega
   have h64:2^(zcX k+zaD k)≤2^64:=Nat.pow_le_pow_right (by omega) hs.1
   have e5:=shl64 (c:=p) (s:=zcX k) (by omega) (by omega)
   have e6:=orU64 (a:=x) (c:=p) (s:=zcX k) hx (by omega)
   have hw3:IntKind.wrap .i64 ((zcX k:Int)+(zaD k:Int))=((zcX (k+1):Nat):Int):=by rw [wrap64 (by omega) (by omega),hss];omega
   have:=ih (k+1) (x+p*2^zcX k) (by omega) (by rw [hss];omega)
   have e7:(((x+p*2^zcX k:Nat):Int)+2^zcX (k+1)*zfr (zc4.drop (k+1)) (w.drop (k+1)))=(x:Int)+2^zcX k*zfr (zc4.drop k) (w.drop k):=by
    rw [zoe hkl,getD_drop (w:=w) (k:=k) (by omega),hp1]
    show _=(x:Int)+2^zcX k*((p:Int)+2^zaD k*zfr (zc4.drop (k+1)) (w.drop (k+1)))
    rw [hss,Int.pow_add,Int.mul_add,Int.mul_assoc]
    simp only [Int.natCast_add,Int.natCast_mul,Int.natCast_pow]
    rw [Int.mul_comm (p:Int)]
    simp [Int.add_assoc]
   rw [e7] at this
   refine ziF _ _ _ _ _ st0 ?_
   simp only [zlf,zdt h1,zct,plS hkl,zob,e1,hnl,zac,e2,zaa,hw2,e5,e6,e4,e3,hw3,hw1]
   exact this
theorem zv4 [Sym] (w:Wd) (hw:w.length=12) (st:SS) (hg:Gd st):∃ n,st.next≤n∧cc 73 [wV w] st=some (if zdx w=true then .tuple #[.int .u64 (zf2 w),.int .i64 0] else .tuple #[.int .u64 0,.int .i64 1],st.adv n):=by
 have hc:(wV w).cells.toList=wRow w:=zaC _
 have a0:At ((st.ro st.next).new (.cells (wRow w) 0)) st.next (wRow w):=At.new (st:=st.ro st.next) (zlr _) _
 have x1:Ext (st.ro st.next) ((st.ro st.next).new (.cells (wRow w) 0)):=(Ext.refl _).new _
 have l0:((st.ro st.next).new (.cells (wRow w) 0)).ldN st.next 0 12=some (wV w):=a0.ldN (by rw [zaK,hw])
 obtain ⟨n3,hn3,c3⟩:=zv3 w hw _ ((hg.ro (n:=st.next)).ext x1)
 have x3:Ext ((st.ro st.next).new (.cells (wRow w) 0)) (((st.ro st.next).new (.cells (wRow w) 0)).adv n3):=(Ext.refl _).adv hn3
 simp at hn3
 have b0:Nat.beq 0 0=true:=rfl
 cases hgd:zdx w with
 | false=>
   rw [hgd] at c3
   refine ⟨n3,by omega,zle _ st ?_⟩
   simp only [zkV,hc,SS.ro_next,l0,c3,zob,zal,znf,zct]
   rfl
 | true=>
   rw [hgd] at c3
   have c5:=zl2 st.next (((st.ro st.next).new (.cells (wRow w) 0)).adv n3)
   have x5:Ext (((st.ro st.next).new (.cells (wRow w) 0)).adv n3) ((((st.ro st.next).new (.cells (wRow w) 0)).adv n3).new (.cells (plRow st.next) 1)):=(Ext.refl _).new _
   have hp:Pls ((((st.ro st.next).new (.cells (wRow w) 0)).adv n3).new (.cells (plRow st.next) 1)) st.next n3 w:=⟨SS.new_get (st:=((st.ro st.next).new (.cells (wRow w) 0)).adv n3),by simp,(a0.ext x3).ext x5⟩
   have l:=ztO w hw hgd st.next n3 _ ((hg.ro (n:=st.next)).ext (x1.trans (x3.trans x5))) hp 12 0 0 (by omega) (by decide)
   have e:((0:Nat):Int)+2^zcX 0*zfr (zc4.drop 0) (w.drop 0)=zf2 w:=by
    rw [List.drop_zero,List.drop_zero]
    show (0:Int)+2^0*zf2 w=zf2 w
    omega
   rw [e] at l
   have l':zeL 5 [.int .u64 0,.int .i64 0,.slice (some ⟨n3,0,none⟩) 12 12,.int .i64 12,.int .i64 0] ((((st.ro st.next).new (.cells (wRow w) 0)).adv n3).new (.cells (plRow st.next) 1))=_:=l
   have hlen:(lenV (.slice (some ⟨n3,0,none⟩) 12 12)).bind (asI .i64)=some 12:=rfl
   refine ⟨n3+1,by omega,zle _ st ?_⟩
   have hnx:(((st.ro st.next).new (.cells (wRow w) 0)).adv n3).next=n3:=rfl
   simp only [zkV,hc,SS.ro_next,l0,c3,zob,zal,znt,zcf,c5,hnx,hlen,l',zgz,zaa]
   rfl
end Go.Proofs.YtifploedaacedaaGreatDoorE
namespace Go.Proofs.YtifploedaacedaaGreatDoorE
set_option maxRecDepth 20000
open Go Go.E Go.Proofs
noncomputable def zlk (cf:zam) (lf:zad) (st:SS):Option (Value×SS):=
 let st1:SS:=st.new (.cells ([.string ⟨#[97,108,117]⟩,.string ⟨#[97]⟩,.string ⟨#[98]⟩,.string ⟨#[100]⟩,.string ⟨#[108,105,116]⟩,.string ⟨#[115,105,122,101]⟩,.string ⟨#[99,99]⟩,.string ⟨#[109,101,109]⟩,.string ⟨#[115,101,113]⟩,.string ⟨#[99,111,110,100]⟩,.string ⟨#[116,111]⟩,.string ⟨#[109,105,115,99]⟩]) 1)
 some (.slice (some ⟨st.next,0,none⟩) 12 12,st1)
noncomputable abbrev zjr:zad:=lS Tryz.prog Lk0 Tryz.f24 zaF
theorem zjs:Lk0.func 24=some (24,Tryz.f24):=by kernel_rfl
theorem zjt [Sym] (st:SS) {r:Value×SS} (h:zlk cc zjr st=some r):cc 24 [] st=some r:=
 zai (li:=zaF) zaj zao zjs rfl (fun _=>rfl) (.trans (by kernel_rfl) h)
noncomputable def zl3 (cf:zam) (lf:zad) (st:SS):Option (Value×SS):=
 let st1:SS:=st.new (.cells ([.int .i64 32,.int .i64 64,.int .i64 64,.int .i64 64,.int .i64 256,.int .i64 4,.int .i64 4,.int .i64 16,.int .i64 8,.int .i64 32,.int .i64 2048,.int .i64 64]) 1)
 some (.slice (some ⟨st.next,0,none⟩) 12 12,st1)
noncomputable abbrev zjY:zad:=lS Tryz.prog Lk0 Tryz.f48 zaF
theorem zjZ:Lk0.func 48=some (48,Tryz.f48):=by kernel_rfl
theorem zj0 [Sym] (st:SS) {r:Value×SS} (h:zl3 cc zjY st=some r):cc 48 [] st=some r:=
 zai (li:=zaF) zaj zao zjZ rfl (fun _=>rfl) (.trans (by kernel_rfl) h)
noncomputable def zha (cf:zam) (lf:zad) (w':Value) (st:SS):Option (Value×SS):=
 let a:SS:=st.new (.cells (w':Value).cells.toList 0)
 ((a.ld st.next 0).bind (asI .i64)).bind fun b=>
 ((a.ld st.next 1).bind (asI .i64)).bind fun c=>
 ((a.ld st.next 2).bind (asI .i64)).bind fun d=>
 ((a.ld st.next 3).bind (asI .i64)).bind fun e=>
 ((a.ld st.next 4).bind (asI .i64)).bind fun f=>
 ((a.ld st.next 5).bind (asI .i64)).bind fun g=>
 ((a.ld st.next 6).bind (asI .i64)).bind fun h=>
 ((a.ld st.next 7).bind (asI .i64)).bind fun i=>
 ((a.ld st.next 8).bind (asI .i64)).bind fun j=>
 ((a.ld st.next 9).bind (asI .i64)).bind fun k=>
 ((a.ld st.next 10).bind (asI .i64)).bind fun l=>
 ((a.ld st.next 11).bind (asI .i64)).bind fun m=>
 let n:SS:=a.new (.cells ([.int .i64 b,.int .i64 c,.int .i64 d,.int .i64 e,.int .i64 f,.int .i64 g,.int .i64 h,.int .i64 i,.int .i64 j,.int .i64 k,.int .i64 l,.int .i64 m]) 1)
 some (.slice (some ⟨a.next,0,none⟩) 12 12,n)
noncomputable abbrev zju:zad:=lS Tryz.prog Lk0 Tryz.f23 zaF
theorem zjv:Lk0.func 23=some (23,Tryz.f23):=by kernel_rfl
theorem zjw [Sym] (w':Value) (st:SS) {r:Value×SS} (h:zha cc zju w' st=some r):cc 23 [w'] st=some r:=
 zai (li:=zaF) zaj zao zjv rfl (fun _=>rfl) (.trans (by kernel_rfl) h)
noncomputable def zhI (cf:zam) (lf:zad) (p':Value) (st:SS):Option (Value×SS):=
 let a:SS:=(st.ro st.next).new (.cells [.int .i64 0,.int .i64 0,.int .i64 0,.int .i64 0,.int .i64 0,.int .i64 0,.int .i64 0,.int .i64 0,.int .i64 0,.int .i64 0,.int .i64 0,.int .i64 0] 0)
 (zah p' 0 1).bind fun b=>
 ((a.ld b.1 b.2).bind (asI .i64)).bind fun c=>
 (zah p' 1 1).bind fun d=>
 ((a.ld d.1 d.2).bind (asI .i64)).bind fun e=>
 (zah p' 2 1).bind fun f=>
 ((a.ld f.1 f.2).bind (asI .i64)).bind fun g=>
 (zah p' 3 1).bind fun h=>
 ((a.ld h.1 h.2).bind (asI .i64)).bind fun i=>
 (zah p' 4 1).bind fun j=>
 ((a.ld j.1 j.2).bind (asI .i64)).bind fun k=>
 (zah p' 5 1).bind fun l=>
 ((a.ld l.1 l.2).bind (asI .i64)).bind fun m=>
 (zah p' 6 1).bind fun n=>
 ((a.ld n.1 n.2).bind (asI .i64)).bind fun o=>
 (zah p' 7 1).bind fun p=>
 ((a.ld p.1 p.2).bind (asI .i64)).bind fun q=>
 (zah p' 8 1).bind fun r=>
 ((a.ld r.1 r.2).bind (asI .i64)).bind fun s=>
 (zah p' 9 1).bind fun t=>
 ((a.ld t.1 t.2).bind (asI .i64)).bind fun u=>
 (zah p' 10 1).bind fun v=>
 ((a.ld v.1 v.2).bind (asI .i64)).bind fun w=>
 (zah p' 11 1).bind fun x=>
 ((a.ld x.1 x.2).bind (asI .i64)).bind fun y=>
 (a.st ((st.ro st.next).next) 0 [.int .i64 c,.int .i64 e,.int .i64 g,.int .i64 i,.int .i64 k,.int .i64 m,.int .i64 o,.int .i64 q,.int .i64 s,.int .i64 u,.int .i64 w,.int .i64 y]).bind fun z=>
 (z.rdN ((st.ro st.next).next) 0 12).bind fun A=>
 cond (flat3 A) (some (A,st.adv z.next)) none
noncomputable abbrev zj1:zad:=lS Tryz.prog Lk0 Tryz.f56 zaF
theorem zj2:Lk0.func 56=some (56,Tryz.f56):=by kernel_rfl
theorem zj3 [Sym] (p':Value) (st:SS) {r:Value×SS} (h:zhI cc zj1 p' st=some r):cc 56 [p'] st=some r:=
 zai (li:=zaF) zaj zao zj2 rfl (fun _=>rfl) (.trans (by kernel_rfl) h)
def zgV:LoopI:=⟨[(0,.str),(5,.any),(6,.int .i64),(7,.int .i64)],[(.exit 0,[]),(.ret,[(2,.int .i64)])]⟩
def zhb (n:Nat):Option LoopI:=cond (Nat.beq n 2) (some zgV) (none)
noncomputable def zgc (cf:zam) (lf:zad) (name':ByteArray) (st:SS):Option (Value×SS):=
 (cf 24 [] (st.ro st.next)).bind fun a=>
 ((lenV a.1).bind (asI .i64)).bind fun b=>
 (lf 2 [.string name',a.1,.int .i64 b,.int .i64 0] a.2).bind fun c=>
 cond (Nat.beq c.1 0) (
 some (.int .i64 (-1),st.adv c.2.2.next)) (
 ((c.2.1[0]?).bind (asI .i64)).bind fun d=>
 some (.int .i64 d,st.adv c.2.2.next))
noncomputable abbrev zcH:zad:=lS Tryz.prog Lk0 Tryz.f75 zhb
theorem zlm:Lk0.func 75=some (75,Tryz.f75):=by kernel_rfl
theorem zln [Sym] (name':ByteArray) (st:SS) {r:Value×SS} (h:zgc cc zcH name' st=some r):cc 75 [.string name'] st=some r:=
 zai (li:=zhb) zaj zao zlm rfl (fun _=>rfl) (.trans (by kernel_rfl) h)
noncomputable def zeX (cf:zam) (lf:zad) (name':ByteArray) (t5':Value) (t6':Int) (t7':Int) (st:SS):Option (Nat×List Value×SS):=
 cond (decide (t7'<t6')) (
 (zah t5' t7' 1).bind fun a=>
 ((st.ld a.1 a.2).bind asS).bind fun b=>
 cond (eqT b name') (
 some (1,[.int .i64 t7'],st)) (
 let c:Int:=IntKind.wrap .i64 (t7'+1)
 lf 2 [.string name',t5',.int .i64 t6',.int .i64 c] st)) (
 some (0,[],st))
theorem zfW [Sym] (name':ByteArray) (t5':Value) (t6':Int) (t7':Int) (st:SS) {r:Nat×List Value×SS} (h:zeX cc zcH name' t5' t6' t7' st=some r):zcH 2 [.string name',t5',.int .i64 t6',.int .i64 t7'] st=some r:=
 zav zaj zao (key:=2) (I:=zgV) rfl (by kernel_rfl) (by kernel_rfl) rfl rfl (.trans (by kernel_rfl) h)
def zfX:LoopI:=⟨[(3,.int .u64),(4,.any),(5,.int .i64)],[(.exit 0,[(3,.int .u64)])]⟩
def zgt (n:Nat):Option LoopI:=cond (Nat.beq n 4) (some zfX) (none)
noncomputable def zhJ (cf:zam) (lf:zad) (w':Value) (st:SS):Option (Value×SS):=
 let a:SS:=(st.ro st.next).new (.cells (w':Value).cells.toList 0)
 (a.ldN ((st.ro st.next).next) 0 12).bind fun b=>
 (cf 23 [b] a).bind fun c=>
 (lf 4 [.int .u64 0,c.1,.int .i64 11] c.2).bind fun d=>
 ((d.2.1[0]?).bind (asI .u64)).bind fun e=>
 some (.int .u64 e,st.adv d.2.2.next)
noncomputable abbrev zch:zad:=lS Tryz.prog Lk0 Tryz.f18 zgt
theorem zj4:Lk0.func 18=some (18,Tryz.f18):=by kernel_rfl
theorem zj5 [Sym] (w':Value) (st:SS) {r:Value×SS} (h:zhJ cc zch w' st=some r):cc 18 [w'] st=some r:=
 zai (li:=zgt) zaj zao zj4 rfl (fun _=>rfl) (.trans (by kernel_rfl) h)
noncomputable def zee (cf:zam) (lf:zad) (x':Int) (p':Value) (i':Int) (st:SS):Option (Nat×List Value×SS):=
 cond (decide (0≤i')) (
 (cf 48 [] (st.ro st.next)).bind fun a=>
 (zah a.1 i' 1).bind fun b=>
 (((a.2.ro st.lim).ld b.1 b.2).bind (asI .i64)).bind fun c=>
 let d:Int:=IntKind.wrap .u64 c
 let e:Int:=IntKind.wrap .u64 (x'*d)
 (zah p' i' 1).bind fun f=>
 (((a.2.ro st.lim).ld f.1 f.2).bind (asI .i64)).bind fun g=>
 let h:Int:=IntKind.wrap .u64 g
 let i:Int:=IntKind.wrap .u64 (e+h)
 let j:Int:=IntKind.wrap .i64 (i'-1)
 lf 4 [.int .u64 i,p',.int .i64 j] (a.2.ro st.lim)) (
 some (0,[.int .u64 x'],st))
theorem zfg [Sym] (x':Int) (p':Value) (i':Int) (st:SS) {r:Nat×List Value×SS} (h:zee cc zch x' p' i' st=some r):zch 4 [.int .u64 x',p',.int .i64 i'] st=some r:=
 zav zaj zao (key:=4) (I:=zfX) rfl (by kernel_rfl) (by kernel_rfl) rfl rfl (.trans (by kernel_rfl) h)
noncomputable def zdc (cf:zam) (lf:zad) (w':Value) (name':ByteArray) (x':Int) (st:SS):Option (Value×SS):=
 let a:SS:=(st.ro st.next).new (.cells (w':Value).cells.toList 0)
 let b:SS:=a.new (.cells [.int .i64 0,.int .i64 0,.int .i64 0,.int .i64 0,.int .i64 0,.int .i64 0,.int .i64 0,.int .i64 0,.int .i64 0,.int .i64 0,.int .i64 0,.int .i64 0] 0)
 (cf 75 [.string name'] b).bind fun c=>
 ((some c.1).bind (asI .i64)).bind fun d=>
 cond (decide (d<0)) (
 (c.2.ldN ((st.ro st.next).next) 0 12).bind fun e=>
 (c.2.stV a.next 0 12 e).bind fun f=>
 (f.rdN a.next 0 12).bind fun g=>
 cond (flat3 (.tuple #[g,.int .i64 5])) (some (.tuple #[g,.int .i64 5],st.adv f.next)) none) (
 cond (decide (x'<0)) (
 (c.2.ldN ((st.ro st.next).next) 0 12).bind fun h=>
 (c.2.stV a.next 0 12 h).bind fun i=>
 (i.rdN a.next 0 12).bind fun j=>
 cond (flat3 (.tuple #[j,.int .i64 1])) (some (.tuple #[j,.int .i64 1],st.adv i.next)) none) (
 (cf 48 [] c.2).bind fun k=>
 (zah k.1 d 1).bind fun l=>
 ((k.2.ld l.1 l.2).bind (asI .i64)).bind fun m=>
 cond (decide (m≤x')) (
 (k.2.ldN ((st.ro st.next).next) 0 12).bind fun n=>
 (k.2.stV a.next 0 12 n).bind fun o=>
 (o.rdN a.next 0 12).bind fun p=>
 cond (flat3 (.tuple #[p,.int .i64 1])) (some (.tuple #[p,.int .i64 1],st.adv o.next)) none) (
 (k.2.ldN ((st.ro st.next).next) 0 12).bind fun q=>
 (cf 23 [q] k.2).bind fun r=>
 (zah r.1 d 1).bind fun s=>
 (r.2.st s.1 s.2 [.int .i64 x']).bind fun t=>
 (cf 56 [r.1] t).bind fun u=>
 (u.2.stV a.next 0 12 u.1).bind fun v=>
 (v.rdN a.next 0 12).bind fun w=>
 cond (flat3 (.tuple #[w,.int .i64 0])) (some (.tuple #[w,.int .i64 0],st.adv v.next)) none)))
noncomputable abbrev zkX:zad:=lS Tryz.prog Lk0 Tryz.f77 zaF
theorem zkY:Lk0.func 77=some (77,Tryz.f77):=by kernel_rfl
theorem zdi [Sym] (w':Value) (name':ByteArray) (x':Int) (st:SS) {r:Value×SS} (h:zdc cc zkX w' name' x' st=some r):cc 77 [w',.string name',.int .i64 x'] st=some r:=
 zai (li:=zaF) zaj zao zkY rfl (fun _=>rfl) (.trans (by kernel_rfl) h)
end Go.Proofs.YtifploedaacedaaGreatDoorE
namespace Go.Proofs.YtifploedaacedaaGreatDoorE
open Go Go.E Go.Proofs
theorem zsx {α:Type} {w:List α} (h:w.length=12):∃ a b c d e f g i j k l m,w=[a,b,c,d,e,f,g,i,j,k,l,m]:=by
 match w,h with
 | [a,b,c,d,e,f,g,i,j,k,l,m],_=>exact ⟨a,b,c,d,e,f,g,i,j,k,l,m,rfl⟩
def ziH:List (List UInt8):=zbD.map (·.1)
def zeB:List Int:=zc4.map fun n=>2^n
theorem zqB [Sym] (w:Wd) (hw:w.length=12) (st:SS):cc 23 [wV w] st=some (.slice (some ⟨st.next+1,0,none⟩) 12 12,(st.new (.cells (wRow w) 0)).new (.cells (wRow w) 1)):=by
 have hc:(wV w).cells.toList=wRow w:=zaC _
 have hm:(st.new (.cells (wRow w) 0)).mem.get st.next=some (.cells (wRow w) 0):=SS.new_get
 have l:∀ k x,(wRow w)[k]?=some x→(st.new (.cells (wRow w) 0)).ld st.next k=some x:=fun k x h=>by rw [SS.ld_cells hm,h]
 obtain ⟨a,b,c,d,e,f,g,i,j,k,m,n,rfl⟩:=zsx hw
 refine zjw _ st ?_
 simp only [zha,hc,l 0 _ rfl,l 1 _ rfl,l 2 _ rfl,l 3 _ rfl,l 4 _ rfl,l 5 _ rfl,l 6 _ rfl,l 7 _ rfl,l 8 _ rfl,l 9 _ rfl,l 10 _ rfl,l 11 _ rfl,zob,zaa]
 rfl
theorem zrK [Sym] (st:SS):cc 48 [] st=some (.slice (some ⟨st.next,0,none⟩) 12 12,st.new (.cells (wRow zeB) 1)):=by
 refine zj0 st ?_
 have:wRow zeB=[.int .i64 32,.int .i64 64,.int .i64 64,.int .i64 64,.int .i64 256,.int .i64 4,.int .i64 4,.int .i64 16,.int .i64 8,.int .i64 32,.int .i64 2048,.int .i64 64]:=by rfl
 rw [this]
 rfl
theorem zsy [Sym] (st:SS):cc 24 [] st=some (.slice (some ⟨st.next,0,none⟩) 12 12,st.new (.cells (strs ziH) 1)):=zjt st rfl
theorem zqC {k:Nat} (h:k<12):(wRow zeB)[k]?=some (.int .i64 ((2^zaD k:Nat):Int)):=by
 rw [zga]
 unfold zeB zc4 zaD
 rw [List.getElem?_map,List.getElem?_map]
 obtain ⟨x,hx⟩:∃ x,zbD[k]?=some x:=⟨_,zge (by show k<12;omega)⟩
 rw [hx]
 simp
theorem at_loop [Sym] (f:List UInt8) (j:Nat) (st:SS) (hj:st.mem.get j=some (.cells (strs ziH) 1)):∀ (m k:Nat),12=m+k→
  zcH 2 [.string (mkS f),.slice (some ⟨j,0,none⟩) 12 12,.int .i64 12,.int .i64 k] st=some (match (zbD.drop k).findIdx? (zfp f) with | none=>(0,[],st) | some i=>(1,[.int .i64 ((k+i:Nat):Int)],st)):=by
 intro m
 induction m with
 | zero=>
   intro k hk
   have:k=12:=by omega
   subst this
   exact zfW _ _ _ _ st rfl
 | succ m ih=>
   intro k hk
   have hkl:k<12:=by omega
   have h1:(k:Int)<12:=by omega
   obtain ⟨x,hx⟩:∃ x,zbD[k]?=some x:=⟨_,zge (by show k<12;omega)⟩
   have e1:st.ld j (0+k*1)=some (.string (mkS x.1)):=by
    rw [SS.ld_cells hj,show 0+k*1=k by omega]
    unfold strs ziH
    rw [List.getElem?_map,List.getElem?_map,hx];rfl
   have he:eqT (mkS x.1) (mkS f)=zfp f x:=by rw [zd0,zbu,zbu];rfl
   have hw1:=za4 (i:=k) (by omega)
   refine zfW _ _ _ _ st ?_
   rw [drop_cons hx,List.findIdx?_cons]
   cases hf:zfp f x with
   | true=>
     rw [hf] at he
     simp only [zeX,zdt h1,zct,plS hkl,zob,e1,zab,he,if_true]
     rfl
   | false=>
     rw [hf] at he
     have:=ih (k+1) (by omega)
     simp only [zeX,zdt h1,zct,plS hkl,zob,e1,zab,he,zcf,hw1]
     rw [this]
     cases (zbD.drop (k+1)).findIdx? (zfp f) with
     | none=>rfl
     | some i=>simp;omega
theorem at_ok [Sym] (f:List UInt8) (st:SS):∃ n,st.next≤n∧cc 75 [.string (mkS f)] st=some (.int .i64 (ixI (zdw f)),st.adv n):=by
 have c1:=zsy (st.ro st.next)
 have l:=at_loop f st.next ((st.ro st.next).new (.cells (strs ziH) 1)) (SS.new_get (st:=st.ro st.next)) 12 0 (by omega)
 rw [List.drop_zero] at l
 have l':zcH 2 [.string (mkS f),.slice (some ⟨st.next,0,none⟩) 12 12,.int .i64 12,.int .i64 0] ((st.ro st.next).new (.cells (strs ziH) 1))=_:=l
 have hlen:(lenV (.slice (some ⟨st.next,0,none⟩) 12 12)).bind (asI .i64)=some 12:=rfl
 refine ⟨st.next+1,by omega,zln _ st ?_⟩
 have b0:Nat.beq 0 0=true:=rfl
 have b1:Nat.beq 1 0=false:=rfl
 unfold zdw
 cases hk:zbD.findIdx? (zfp f) with
 | none=>
   rw [hk] at l'
   simp only [zgc,c1,zob,SS.ro_next,hlen,l',b0,zct]
   rfl
 | some k=>
   rw [hk] at l'
   simp only [zgc,c1,zob,SS.ro_next,hlen,l',b1,zcf,zgz,zaa]
   rw [Nat.zero_add]
   rfl
theorem flatV (w:Wd):flat3 (wV w)=true:=by
 show ((wRow w).toArray.toList.all zbs)=true
 simp [wRow,zbs]
theorem zv5 [Sym] (w:Wd) (hw:w.length=12) (j:Nat) (z:Nat) (st:SS) (hj:st.mem.get j=some (.cells (wRow w) z)) (hlt:j<st.next):cc 56 [.slice (some ⟨j,0,none⟩) 12 12] st=some (wV w,st.adv (st.next+1)):=by
 have hm:((st.ro st.next).new (.cells Z12 0)).mem.get j=some (.cells (wRow w) z):=by rw [SS.new_old (by simp;omega)];exact hj
 have l:∀ k x,(wRow w)[k]?=some x→((st.ro st.next).new (.cells Z12 0)).ld j (0+k*1)=some x:=fun k x h=>by rw [SS.ld_cells hm,show 0+k*1=k by omega,h]
 obtain ⟨s2,e2,a2,x2,n2⟩:=ziC (st:=st.ro st.next) (zlr _) (r:=Z12) (row:=wRow w) (zcK w) (by rw [zaK,hw];rfl)
 have hr:=a2.rdN (n:=12) (by rw [zaK,hw])
 have hz:flat3 (wV w)=true:=flatV w
 obtain ⟨a,b,c,d,e,f,g,i,jj,k,m,n,rfl⟩:=zsx hw
 refine zj3 _ st ?_
 have p0:zah (.slice (some ⟨j,0,none⟩) 12 12) 0 1=some (j,0+0*1):=plS (k:=0) (by omega)
 have p1:zah (.slice (some ⟨j,0,none⟩) 12 12) 1 1=some (j,0+1*1):=plS (k:=1) (by omega)
 have p2:zah (.slice (some ⟨j,0,none⟩) 12 12) 2 1=some (j,0+2*1):=plS (k:=2) (by omega)
 have p3:zah (.slice (some ⟨j,0,none⟩) 12 12) 3 1=some (j,0+3*1):=plS (k:=3) (by omega)
 have p4:zah (.slice (some ⟨j,0,none⟩) 12 12) 4 1=some (j,0+4*1):=plS (k:=4) (by omega)
 have p5:zah (.slice (some ⟨j,0,none⟩) 12 12) 5 1=some (j,0+5*1):=plS (k:=5) (by omega)
 have p6:zah (.slice (some ⟨j,0,none⟩) 12 12) 6 1=some (j,0+6*1):=plS (k:=6) (by omega)
 have p7:zah (.slice (some ⟨j,0,none⟩) 12 12) 7 1=some (j,0+7*1):=plS (k:=7) (by omega)
 have p8:zah (.slice (some ⟨j,0,none⟩) 12 12) 8 1=some (j,0+8*1):=plS (k:=8) (by omega)
 have p9:zah (.slice (some ⟨j,0,none⟩) 12 12) 9 1=some (j,0+9*1):=plS (k:=9) (by omega)
 have p10:zah (.slice (some ⟨j,0,none⟩) 12 12) 10 1=some (j,0+10*1):=plS (k:=10) (by omega)
 have p11:zah (.slice (some ⟨j,0,none⟩) 12 12) 11 1=some (j,0+11*1):=plS (k:=11) (by omega)
 have e2':((st.ro st.next).new (.cells Z12 0)).st (st.ro st.next).next 0 [.int .i64 a,.int .i64 b,.int .i64 c,.int .i64 d,.int .i64 e,.int .i64 f,.int .i64 g,.int .i64 i,.int .i64 jj,.int .i64 k,.int .i64 m,.int .i64 n]=some s2:=e2
 have hr':s2.rdN (st.ro st.next).next 0 12=some (wV [a,b,c,d,e,f,g,i,jj,k,m,n]):=hr
 simp only [zhI,p0,p1,p2,p3,p4,p5,p6,p7,p8,p9,p10,p11,l 0 _ rfl,l 1 _ rfl,l 2 _ rfl,l 3 _ rfl,l 4 _ rfl,l 5 _ rfl,l 6 _ rfl,l 7 _ rfl,l 8 _ rfl,l 9 _ rfl,l 10 _ rfl,l 11 _ rfl,zob,zaa,e2',hr',hz,zct]
 rw [n2]
 rfl
end Go.Proofs.YtifploedaacedaaGreatDoorE
namespace Go.Proofs.YtifploedaacedaaGreatDoorE
open Go Go.E Go.Proofs
theorem zu0 (x:Int) (n:Nat):fitsT x n=(decide (0≤x)&&decide (x<((2^n:Nat):Int))):=by
 unfold fitsT
 have:(((2^n:Nat):Int))=2^n:=by simp
 rw [this,Bool.decide_and]
theorem zv6 [Sym] (w:Wd) (hw:w.length=12) (f:List UInt8) (x:Int) (st:SS):∃ n,st.next≤n∧cc 77 [wV w,.string (mkS f),.int .i64 x] st=some (.tuple #[wV (zbk w f x).1,.int .i64 (zbk w f x).2],st.adv n):=by
 have hc:(wV w).cells.toList=wRow w:=zaC _
 have hl:(wRow w).length=12:=by rw [zaK,hw]
 have a0:At ((st.ro st.next).new (.cells (wRow w) 0)) st.next (wRow w):=At.new (st:=st.ro st.next) (zlr _) _
 have a1:At (((st.ro st.next).new (.cells (wRow w) 0)).new (.cells Z12 0)) (st.next+1) Z12:=At.new (st:=(st.ro st.next).new (.cells (wRow w) 0)) (by simp) _
 have x2:Ext ((st.ro st.next).new (.cells (wRow w) 0)) (((st.ro st.next).new (.cells (wRow w) 0)).new (.cells Z12 0)):=(Ext.refl _).new _
 obtain ⟨n3,hn3,c3⟩:=at_ok f (((st.ro st.next).new (.cells (wRow w) 0)).new (.cells Z12 0))
 have x3:Ext (((st.ro st.next).new (.cells (wRow w) 0)).new (.cells Z12 0)) ((((st.ro st.next).new (.cells (wRow w) 0)).new (.cells Z12 0)).adv n3):=(Ext.refl _).adv hn3
 have hnx2:(((st.ro st.next).new (.cells (wRow w) 0)).new (.cells Z12 0)).next=st.next+2:=rfl
 generalize hs2:(((st.ro st.next).new (.cells (wRow w) 0)).new (.cells Z12 0))=s2 at*
 generalize hs3:s2.adv n3=s3 at*
 have hn33:s3.next=n3:=by rw [← hs3];rfl
 have a0':=(a0.ext x2).ext x3
 have a1':=a1.ext x3
 have hs1:((st.ro st.next).new (.cells (wRow w) 0)).next=st.next+1:=rfl
 have hsB:((st.ro st.next).new (.cells (wRow w) 0)).new (.cells Z12 0)=s2:=hs2
 cases hk:zdw f with
 | none=>
   rw [hk] at c3
   have hs:zbk w f x=(w,5):=by unfold zbk;rw [hk]
   rw [hs]
   obtain ⟨s',f1,f2,f3,f4,_⟩:=zbe (n:=12) a1' rfl a0' hl (zcK w)
   have h0:ixI none<0:=by decide
   refine ⟨s'.next,by have:=f4.next;omega,zdi _ _ _ st ?_⟩
   have hz:=zgU w 5
   unfold wV at hz
   simp only [zdc,hc,hsB,SS.ro_next,hs1,c3,zob,zaa,zdt h0,zct,f1,f2,f3,hz]
   rfl
 | some k=>
   rw [hk] at c3
   obtain ⟨fx,_,_,hlt⟩:=ziG hk
   have h0:¬ ixI (some k)<0:=by
    show ¬ (k:Int)<0
    omega
   have hfi:=zu0 x (zaD k)
   by_cases hx:x<0
   ·have hf:¬ fitsT x (zaD k)=true:=by rw [hfi,zdf (by omega),Bool.false_and];decide
    have hs:zbk w f x=(w,1):=by unfold zbk;rw [hk];exact if_neg hf
    rw [hs]
    obtain ⟨s',f1,f2,f3,f4,_⟩:=zbe (n:=12) a1' rfl a0' hl (zcK w)
    have hz:=zgU w 1
    unfold wV at hz
    refine ⟨s'.next,by have:=f4.next;omega,zdi _ _ _ st ?_⟩
    simp only [zdc,hc,hsB,SS.ro_next,hs1,c3,zob,zaa,zdf h0,zcf,zdt hx,f1,f2,f3,hz,zct]
    rfl
   ·have c4:=zrK s3
    have x4:Ext s3 (s3.new (.cells (wRow zeB) 1)):=(Ext.refl _).new _
    have a0v:=a0'.ext x4
    have a1v:=a1'.ext x4
    have e4:zah (.slice (some ⟨s3.next,0,none⟩) 12 12) (ixI (some k)) 1=some (s3.next,0+k*1):=plS hlt
    have e5:(s3.new (.cells (wRow zeB) 1)).ld s3.next (0+k*1)=some (.int .i64 ((2^zaD k:Nat):Int)):=by
     rw [SS.ld_cells SS.new_get,show 0+k*1=k by omega,zqC hlt]
    by_cases hb:((2^zaD k:Nat):Int)≤x
    ·have hf:¬ fitsT x (zaD k)=true:=by rw [hfi,zdf (p:=x<_) (by omega),Bool.and_false];decide
     have hs:zbk w f x=(w,1):=by unfold zbk;rw [hk];exact if_neg hf
     rw [hs]
     obtain ⟨s',f1,f2,f3,f4,_⟩:=zbe (n:=12) a1v rfl a0v hl (zcK w)
     have hz:=zgU w 1
     unfold wV at hz
     refine ⟨s'.next,by have:=f4.next;have:=x4.next;omega,zdi _ _ _ st ?_⟩
     simp only [zdc,hc,hsB,SS.ro_next,hs1,c3,zob,zaa,zdf h0,zcf,zdf hx,c4,e4,e5,zdt hb,f1,f2,f3,hz,zct]
     rfl
    ·have hf:fitsT x (zaD k)=true:=by rw [hfi,zdt (show 0≤x by omega),zdt (p:=x<_) (by omega)];rfl
     have hs:zbk w f x=(w.set k x,0):=by unfold zbk;rw [hk];exact if_pos hf
     rw [hs]
     have l4:(s3.new (.cells (wRow zeB) 1)).ldN st.next 0 12=some (wV w):=a0v.ldN hl
     have c5:=zqB w hw (s3.new (.cells (wRow zeB) 1))
     generalize hs4:s3.new (.cells (wRow zeB) 1)=s4 at*
     have x5:Ext s4 ((s4.new (.cells (wRow w) 0)).new (.cells (wRow w) 1)):=((Ext.refl _).new _).new _
     have a1w:=a1v.ext x5
     have hgp:((s4.new (.cells (wRow w) 0)).new (.cells (wRow w) 1)).mem.get (s4.next+1)=some (.cells (wRow w) 1):=SS.new_get (st:=s4.new (.cells (wRow w) 0))
     have hlim:((s4.new (.cells (wRow w) 0)).new (.cells (wRow w) 1)).lim≤s4.next+1:=by
      have:=a0v.2.2
      have:=a0v.lt
      simp
      omega
     have e6:zah (.slice (some ⟨s4.next+1,0,none⟩) 12 12) (ixI (some k)) 1=some (s4.next+1,0+k*1):=plS hlt
     have hsp:zdq (wRow w) (0+k*1) [.int .i64 x]=some (wRow (w.set k x)):=by
      rw [zqA,show 0+k*1=k by omega];exact zkW (by rw [hl];exact hlt) _
     have e7:=SS.st_cells hgp hlim (vs:=[.int .i64 x]) rfl hsp
     generalize hs5:(((s4.new (.cells (wRow w) 0)).new (.cells (wRow w) 1)).set (s4.next+1) (some (.cells (wRow (w.set k x)) 1)))=s5 at*
     have hm5:s5.mem.get (s4.next+1)=some (.cells (wRow (w.set k x)) 1):=by rw [← hs5];simp
     have hn5:s5.next=s4.next+2:=by rw [← hs5];rfl
     have a1x:At s5 (st.next+1) Z12:=by
      have hne:st.next+1≠s4.next+1:=by have:=a1v.lt;omega
      refine ⟨?_,by rw [hn5];have:=a1v.lt;omega,by rw [← hs5];have:=a1w.2.2;simpa using this⟩
      rw [← hs5,SS.set_old hne]
      exact a1w.1
     have c8:=zv5 (w.set k x) (by rw [List.length_set,hw]) (s4.next+1) 1 s5 hm5 (by omega)
     have a1y:At (s5.adv (s5.next+1)) (st.next+1) Z12:=a1x.adv (by omega)
     obtain ⟨s',g1,g2,g3,_⟩:=a1y.stV (k:=0) (n:=12) (v:=wV (w.set k x)) (zaC _) (by rw [zaK,List.length_set,hw]) (zcK _) (row':=wRow (w.set k x)) (by rw [zbL (by rw [zaK,List.length_set,hw];exact zlr 12)];simp [zaK,hw])
     have g4:s'.rdN (st.next+1) 0 12=some (wV (w.set k x)):=g2.rdN (by rw [zaK,List.length_set,hw])
     have hz:=zgU (w.set k x) 0
     have hq:st.next≤s4.next:=by have:=a0v.lt;omega
     refine ⟨s'.next,by have:=g3.next;simp at this;omega,zdi _ _ _ st ?_⟩
     simp only [zdc,hc,hsB,SS.ro_next,hs1,c3,zob,zaa,zdf h0,zcf,zdf hx,c4,e4,e5,zdf hb,l4,c5,e6,e7,c8,g1,g4,hz,zct]
end Go.Proofs.YtifploedaacedaaGreatDoorE
namespace Go.Proofs.YtifploedaacedaaGreatDoorE
open Go Go.E Go.Proofs
structure Val where
 nm:List UInt8
 x:Int
 col:Nat
structure Pr where
 fd:List UInt8
 col:Nat
 v:Val
structure PLine where
 ln:Nat
 lab:List UInt8
 dir:List UInt8
 args:List Val
 prs:List Pr
def zaE (t:Tok) (s:List UInt8):Bool:=decide (t.kd=3)&&decide (t.tx=s)
def zd8:List Tok→Except Nat (Val×Nat)
 | []=>.error 0
 | t::r=>if t.kd=2 then .ok (⟨[],t.nm,t.col⟩,1) else if t.kd=1 then (match r with
   | []=>.error 0
   | s::u=>if zaE s [43]=true then (match u with
     | n::_=>if n.kd=2 then .ok (⟨t.tx,n.nm,t.col⟩,3) else .error 2
     | []=>.error 2)
     else if zaE s [45]=true then (match u with
      | n::_=>if n.kd=2 then .ok (⟨t.tx, -n.nm,t.col⟩,3) else .error 2
      | []=>.error 2)
     else .ok (⟨t.tx,0,t.col⟩,1)) else .error 0
def zdj:Nat→List Tok→Except Nat (List Val)
 | 0,_=>.ok []
 | _+1,[]=>.ok []
 | k+1,t::r=>if t.kd=0 then .ok [] else match zd8 (t::r) with
   | .error o=>.error o
   | .ok (v,n)=>match zdj k ((t::r).drop n) with
     | .error o=>.error (n+o)
     | .ok vs=>.ok (v::vs)
def pairT (seen:List (List UInt8)):List Tok→Except Nat (Pr×Nat)
 | []=>.error 0
 | t::r=>if t.kd=1∧t.tx∉seen then (match r with
   | []=>.error 1
   | e::u=>if zaE e [61]=true then (match zd8 u with
     | .error o=>.error (2+o)
     | .ok (v,n)=>.ok (⟨t.tx,t.col,v⟩,2+n)) else .error 1)
   else .error 0
def zbq:Nat→List (List UInt8)→List Tok→Except Nat (List Pr)
 | 0,_,_=>.ok []
 | _+1,_,[]=>.ok []
 | k+1,seen,t::r=>if t.kd=0 then .ok [] else match pairT seen (t::r) with
   | .error o=>.error o
   | .ok (p,n)=>match zbq k (seen++[p.fd]) ((t::r).drop n) with
     | .error o=>.error (n+o)
     | .ok ps=>.ok (p::ps)
def zc5 (lab:List UInt8):List Tok→Except Nat PLine
 | []=>.error 0
 | t::r=>if zaE t [46]=true then (match r with
   | []=>.error 1
   | d::u=>if d.kd=1 then (match zdj u.length u with
     | .error o=>.error (2+o)
     | .ok vs=>.ok ⟨0,lab,d.tx,vs,[]⟩) else .error 1)
   else match zbq (t::r).length [] (t::r) with
    | .error o=>.error o
    | .ok ps=>.ok ⟨0,lab,[],[],ps⟩
def readT:List Tok→Except Nat PLine
 | t::s::r=>if t.kd=1∧zaE s [58]=true then (match zc5 t.tx r with
   | .error o=>.error (2+o)
   | .ok x=>.ok x) else zc5 [] (t::s::r)
 | l=>zc5 [] l
def zof (l:List Tok) (o:Nat):Nat:=((l[o]?).map (·.col)).getD 0
def zbO:Nat→List (List Tok)→Except (Nat×Nat) (List PLine)
 | _,[]=>.ok []
 | i,ts::r=>match readT ts with
   | .error o=>.error (i+1,zof ts o)
   | .ok x=>match zbO (i+1) r with
     | .error e=>.error e
     | .ok xs=>.ok (if 1<ts.length then { x with ln:=i+1 }::xs else xs)
def zco:Nat→List (List UInt8)→Except (Nat×Nat) (List (List Tok))
 | _,[]=>.ok []
 | i,p::r=>match zcb p with
   | .error c=>.error (i+1,c)
   | .ok ts=>match zco (i+1) r with
     | .error e=>.error e
     | .ok tss=>.ok (ts::tss)
def zfs (l:List UInt8):Except (Nat×Nat) (List PLine):=match zco 0 (pieces 10 l) with
 | .error e=>.error e
 | .ok tss=>zbO 0 tss
def flat:Nat→List (List Tok)→List (Nat×Tok)
 | _,[]=>[]
 | i,ts::r=>ts.map (fun t=>(i+1,t))++flat (i+1) r
theorem zog (ps:List (List UInt8)) (i:Nat):zdR i ps=match zco i ps with
  | .error e=>.error e
  | .ok tss=>.ok (flat i tss):=by
 induction ps generalizing i with
 | nil=>rfl
 | cons p r ih=>
   unfold zdR zco
   cases hx:zcb p with
   | error c=>rfl
   | ok ts=>
     simp only
     rw [ih (i+1)]
     cases hy:zco (i+1) r with
     | error e=>rfl
     | ok tss=>rfl
def Lin:List Tok→Prop
 | []=>False
 | t::r=>(t.kd=0∧r=[])∨(t.kd≠0∧Lin r)
theorem Lin.tail {t:Tok} {r:List Tok} (h:Lin (t::r)) (hk:t.kd≠0):Lin r:=h.elim (fun x=>absurd x.1 hk) (·.2)
theorem Lin.last {t:Tok} {r:List Tok} (h:Lin (t::r)) (hk:t.kd=0):r=[]:=h.elim (·.2) fun x=>absurd hk x.1
theorem Lin.ne {r:List Tok} (h:Lin r):∃ t u,r=t::u:=by
 cases r with
 | nil=>exact h.elim
 | cons t u=>exact ⟨t,u,rfl⟩
structure TokOk (t:Tok):Prop where
 kd:t.kd≤3
 tx:t.kd=1→t.tx≠[]
 nm0:0≤t.nm
 nm1:t.nm≤2147483647
theorem zsz {l:List UInt8} {m:Nat} (h:numO (zcW l)=some m):m≤2147483647:=by
 have key:∀ B q,numO (zbd B q)=some m→m≤2147483647:=by
  intro B q h
  have hr:=zhF (B:=B) (l:=q)
  cases hp:zbd B q with
  | none=>rw [hp] at h;cases h
  | some x=>cases x with
    | none=>rw [hp] at h;cases h
    | some k=>
      rw [hp] at h hr
      have:k=m:=by injection h
      subst this
      simp only [puV] at hr
      omega
 unfold zcW at h
 split at h
 ·exact key _ _ h
 ·exact key _ _ h
theorem zu1 {l:List UInt8} {kd n:Nat} {x:Int} {c:Nat} (h:stepT l=.tok kd n x):TokOk ⟨kd,l.take n,x,c⟩∧kd≠0:=by
 obtain ⟨h1,h2,h3⟩:=ztH h
 have hne:l.take n≠[]:=by
  intro e
  have:=congrArg List.length e
  rw [List.length_take] at this
  simp at this
  rcases this with rfl | rfl
  ·omega
  ·simp at h2;omega
 have hx:0≤x∧x≤2147483647:=by
  cases l with
  | nil=>cases h
  | cons c r=>
    rw [zn7] at h
    split at h
    ·cases h
    ·split at h
     ·cases h
     ·split at h
      ·split at h
       ·cases h
       ·cases h;omega
      ·split at h
       ·split at h
        ·rename_i m hm
         cases h
         have:=zsz hm
         omega
        ·cases h
       ·split at h
        ·cases h;omega
        ·cases h
 exact ⟨⟨by show kd≤3;omega,fun _=>hne,hx.1,hx.2⟩,by omega⟩
theorem Lin.snoc {ts:List Tok} {e:Tok} (h:∀ t∈ts,t.kd≠0) (he:e.kd=0):Lin (ts++[e]):=by
 induction ts with
 | nil=>exact .inl ⟨he,rfl⟩
 | cons t r ih=>exact .inr ⟨h t (List.mem_cons_self ..),ih fun u hu=>h u (List.mem_cons_of_mem _ hu)⟩
theorem zv7 (k col:Nat) (l:List UInt8) (ts:List Tok) (h:zdg k col l=.ok ts):∀ t∈ts,TokOk t∧t.kd≠0:=by
 induction k generalizing col l ts with
 | zero=>cases h;intro t ht;cases ht
 | succ k ih=>
   unfold zdg at h
   split at h
   ·cases h;intro t ht;cases ht
   ·exact ih _ _ _ h
   ·rename_i kd n x hs
    cases hx:zdg k (col+n) (l.drop n) with
    | error e=>rw [hx] at h;cases h
    | ok us=>
      rw [hx] at h;cases h
      intro t ht
      rcases List.mem_cons.1 ht with rfl | ht
      ·exact zu1 hs
      ·exact ih _ _ _ hx t ht
   ·cases h
theorem znr {p:List UInt8} {ts:List Tok} (h:zcb p=.ok ts):Lin ts∧∀ t∈ts,TokOk t:=by
 unfold zcb at h
 split at h
 ·rename_i us hu
  cases h
  have h1:=zv7 _ _ _ _ hu
  refine ⟨Lin.snoc (fun t ht=>(h1 t ht).2) rfl,fun t ht=>?_⟩
  rcases List.mem_append.1 ht with ht | ht
  ·exact (h1 t ht).1
  ·have:t=zho p:=by simpa using ht
   subst this
   exact ⟨by simp [zho],fun h=>by simp [zho] at h,by simp [zho],by simp [zho]⟩
 ·cases h
theorem zu3 (ps:List (List UInt8)) (i:Nat) (tss:List (List Tok)) (h:zco i ps=.ok tss):∀ ts∈tss,Lin ts∧∀ t∈ts,TokOk t:=by
 induction ps generalizing i tss with
 | nil=>cases h;intro ts hts;cases hts
 | cons p r ih=>
   unfold zco at h
   cases hx:zcb p with
   | error c=>rw [hx] at h;cases h
   | ok ts=>
     rw [hx] at h
     cases hy:zco (i+1) r with
     | error e=>rw [hy] at h;cases h
     | ok us=>
       rw [hy] at h;cases h
       intro ts' ht
       rcases List.mem_cons.1 ht with rfl | ht
       ·exact znr hx
       ·exact ih _ _ hy ts' ht
theorem zb4 {t:Tok} {s:List UInt8} (h:zaE t s=true):t.kd=3:=by
 simp [zaE] at h;exact h.1
theorem zgW (t:Tok) (r:List Tok):zd8 (t::r)=(if t.kd=2 then .ok (⟨[],t.nm,t.col⟩,1) else if t.kd=1 then (match r with
   | []=>.error 0
   | s::u=>if zaE s [43]=true then (match u with
     | n::_=>if n.kd=2 then .ok (⟨t.tx,n.nm,t.col⟩,3) else .error 2
     | []=>.error 2)
     else if zaE s [45]=true then (match u with
      | n::_=>if n.kd=2 then .ok (⟨t.tx, -n.nm,t.col⟩,3) else .error 2
      | []=>.error 2)
     else .ok (⟨t.tx,0,t.col⟩,1)) else .error 0):=rfl
theorem zib (seen:List (List UInt8)) (t:Tok) (r:List Tok):pairT seen (t::r)=(if t.kd=1∧t.tx∉seen then (match r with
   | []=>.error 1
   | e::u=>if zaE e [61]=true then (match zd8 u with
     | .error o=>.error (2+o)
     | .ok (v,n)=>.ok (⟨t.tx,t.col,v⟩,2+n)) else .error 1)
  else .error 0):=rfl
theorem zi7 {l:List Tok} (hl:Lin l):match zd8 l with
  | .ok (_,n)=>Lin (l.drop n)∧0<n
  | .error o=>o<l.length:=by
 obtain ⟨t,r,rfl⟩:=hl.ne
 rw [zgW]
 by_cases h2:t.kd=2
 ·rw [if_pos h2]
  exact ⟨hl.tail (by omega),by omega⟩
 ·rw [if_neg h2]
  by_cases h1:t.kd=1
  ·rw [if_pos h1]
   have hr:=hl.tail (by omega)
   obtain ⟨s,u,rfl⟩:=hr.ne
   simp only
   by_cases hp:zaE s [43]=true
   ·rw [if_pos hp]
    have hu:=hr.tail (by have:=zb4 hp;omega)
    obtain ⟨n,w,rfl⟩:=hu.ne
    simp only
    by_cases hn:n.kd=2
    ·rw [if_pos hn];exact ⟨hu.tail (by omega),by omega⟩
    ·rw [if_neg hn];simp
   ·rw [if_neg hp]
    by_cases hm:zaE s [45]=true
    ·rw [if_pos hm]
     have hu:=hr.tail (by have:=zb4 hm;omega)
     obtain ⟨n,w,rfl⟩:=hu.ne
     simp only
     by_cases hn:n.kd=2
     ·rw [if_pos hn];exact ⟨hu.tail (by omega),by omega⟩
     ·rw [if_neg hn];simp
    ·rw [if_neg hm];exact ⟨hr,by omega⟩
  ·rw [if_neg h1];simp
theorem zi8 {seen:List (List UInt8)} {l:List Tok} (hl:Lin l):match pairT seen l with
  | .ok (_,n)=>Lin (l.drop n)∧0<n
  | .error o=>o<l.length:=by
 obtain ⟨t,r,rfl⟩:=hl.ne
 rw [zib]
 by_cases h1:t.kd=1∧t.tx∉seen
 ·rw [if_pos h1]
  have hr:=hl.tail (by omega)
  obtain ⟨e,u,rfl⟩:=hr.ne
  simp only
  by_cases he:zaE e [61]=true
  ·rw [if_pos he]
   have hu:=hr.tail (by have:=zb4 he;omega)
   have h:=zi7 hu
   cases hx:zd8 u with
   | error o=>rw [hx] at h;simp only at h ⊢;simp;omega
   | ok y=>
     obtain ⟨v,n⟩:=y
     rw [hx] at h
     simp only at h ⊢
     rw [Nat.add_comm 2 n]
     exact ⟨h.1,by omega⟩
  ·rw [if_neg he];simp
 ·rw [if_neg h1];simp
theorem ztP (k:Nat) (l:List Tok) (hl:Lin l) (o:Nat) (h:zdj k l=.error o):o<l.length:=by
 induction k generalizing l o with
 | zero=>cases h
 | succ k ih=>
   obtain ⟨t,r,rfl⟩:=hl.ne
   unfold zdj at h
   split at h
   ·cases h
   ·have hx:=zi7 hl
    cases hy:zd8 (t::r) with
    | error o'=>rw [hy] at h hx;cases h;exact hx
    | ok y=>
      obtain ⟨v,n⟩:=y
      rw [hy] at h hx
      simp only at h hx
      cases hz:zdj k ((t::r).drop n) with
      | ok vs=>rw [hz] at h;cases h
      | error o'=>
        rw [hz] at h
        have:=ih _ hx.1 o' hz
        rw [List.length_drop] at this
        have h':n+o'=o:=by injection h
        omega
theorem zsA (k:Nat) (seen:List (List UInt8)) (l:List Tok) (hl:Lin l) (o:Nat) (h:zbq k seen l=.error o):o<l.length:=by
 induction k generalizing seen l o with
 | zero=>cases h
 | succ k ih=>
   obtain ⟨t,r,rfl⟩:=hl.ne
   unfold zbq at h
   split at h
   ·cases h
   ·have hx:=zi8 (seen:=seen) hl
    cases hy:pairT seen (t::r) with
    | error o'=>rw [hy] at h hx;cases h;exact hx
    | ok y=>
      obtain ⟨v,n⟩:=y
      rw [hy] at h hx
      simp only at h hx
      cases hz:zbq k (seen++[v.fd]) ((t::r).drop n) with
      | ok vs=>rw [hz] at h;cases h
      | error o'=>
        rw [hz] at h
        have:=ih _ _ hx.1 o' hz
        rw [List.length_drop] at this
        have h':n+o'=o:=by injection h
        omega
theorem zeC (lab:List UInt8) (t:Tok) (r:List Tok):zc5 lab (t::r)=if zaE t [46]=true then (match r with
   | []=>.error 1
   | d::u=>if d.kd=1 then (match zdj u.length u with
     | .error o=>.error (2+o)
     | .ok vs=>.ok ⟨0,lab,d.tx,vs,[]⟩) else .error 1)
  else match zbq (t::r).length [] (t::r) with
   | .error o=>.error o
   | .ok ps=>.ok ⟨0,lab,[],[],ps⟩:=rfl
theorem zfh (t s:Tok) (r:List Tok):readT (t::s::r)=if t.kd=1∧zaE s [58]=true then (match zc5 t.tx r with
   | .error o=>.error (2+o)
   | .ok x=>.ok x) else zc5 [] (t::s::r):=rfl
theorem zl4 (lab:List UInt8) (l:List Tok) (hl:Lin l) (o:Nat) (h:zc5 lab l=.error o):o<l.length:=by
 obtain ⟨t,r,rfl⟩:=hl.ne
 rw [zeC] at h
 by_cases hs:zaE t [46]=true
 ·rw [if_pos hs] at h
  have hr:=hl.tail (by have:=zb4 hs;omega)
  obtain ⟨d,u,rfl⟩:=hr.ne
  simp only at h
  by_cases hd:d.kd=1
  ·rw [if_pos hd] at h
   have hu:=hr.tail (by omega)
   cases hx:zdj u.length u with
   | ok vs=>rw [hx] at h;cases h
   | error o'=>
     rw [hx] at h
     have:=ztP _ _ hu o' hx
     have h':2+o'=o:=by injection h
     simp;omega
  ·rw [if_neg hd] at h;cases h;simp
 ·rw [if_neg hs] at h
  cases hx:zbq (t::r).length [] (t::r) with
  | ok vs=>rw [hx] at h;cases h
  | error o'=>
    rw [hx] at h
    have:=zsA _ _ _ hl o' hx
    have h':o'=o:=by injection h
    omega
theorem zpk (l:List Tok) (hl:Lin l) (o:Nat) (h:readT l=.error o):o<l.length:=by
 obtain ⟨t,r,rfl⟩:=hl.ne
 cases r with
 | nil=>exact zl4 [] _ hl o h
 | cons s r=>
   rw [zfh] at h
   split at h
   ·rename_i hc
    have hr:Lin r:=(hl.tail (by omega)).tail (by have:=zb4 hc.2;omega)
    cases hx:zc5 t.tx r with
    | ok x=>rw [hx] at h;cases h
    | error o'=>
      rw [hx] at h
      have:=zl4 _ _ hr o' hx
      have h':2+o'=o:=by injection h
      simp;omega
   ·exact zl4 [] _ hl o h
end Go.Proofs.YtifploedaacedaaGreatDoorE
namespace Go.Proofs.YtifploedaacedaaGreatDoorE
set_option maxRecDepth 20000
open Go Go.E Go.Proofs
noncomputable def zhU (cf:zam) (lf:zad) (p':Value) (st:SS):Option (Value×SS):=
 let a:SS:=(st.ro st.next).new (.cells [.int .i64 0,.string ⟨#[]⟩,.int .i64 0,.int .i64 0,.int .i64 0] 0)
 (zak p').bind fun b=>
 (addr? b).bind fun c=>
 (a.ld c.1 c.2).bind fun d=>
 (zak p').bind fun e=>
 (addr? e).bind fun f=>
 ((a.ld f.1 (f.2+1)).bind (asI .i64)).bind fun g=>
 (zah d g 5).bind fun h=>
 (a.ldN h.1 h.2 5).bind fun i=>
 (a.stV ((st.ro st.next).next) 0 5 i).bind fun j=>
 (j.rdN ((st.ro st.next).next) 0 5).bind fun k=>
 cond (flat3 k) (some (k,st.adv j.next)) none
noncomputable abbrev zkZ:zad:=lS Tryz.prog Lk0 Tryz.f69 zaF
theorem zk0:Lk0.func 69=some (69,Tryz.f69):=by kernel_rfl
theorem zk1 [Sym] (p':Value) (st:SS) {r:Value×SS} (h:zhU cc zkZ p' st=some r):cc 69 [p'] st=some r:=
 zai (li:=zaF) zaj zao zk0 rfl (fun _=>rfl) (.trans (by kernel_rfl) h)
noncomputable def zfi (cf:zam) (lf:zad) (p':Value) (st:SS):Option (Value×SS):=
 let a:SS:=(st.ro st.next).new (.cells [.int .i64 0,.string ⟨#[]⟩,.int .i64 0,.int .i64 0,.int .i64 0] 0)
 (cf 69 [p'] a).bind fun b=>
 ((zev Lk0 150 0 b.1).bind (asI .i64)).bind fun c=>
 cond (decide (c=0)) (
 (cf 69 [p'] b.2).bind fun d=>
 (d.2.stV ((st.ro st.next).next) 0 5 d.1).bind fun e=>
 (e.rdN ((st.ro st.next).next) 0 5).bind fun f=>
 cond (flat3 f) (some (f,st.adv e.next)) none) (
 (zak p').bind fun g=>
 (addr? g).bind fun h=>
 (b.2.ld h.1 h.2).bind fun i=>
 (zak p').bind fun j=>
 (addr? j).bind fun k=>
 ((b.2.ld k.1 (k.2+1)).bind (asI .i64)).bind fun l=>
 let m:Int:=IntKind.wrap .i64 (l+1)
 (zah i m 5).bind fun n=>
 (b.2.ldN n.1 n.2 5).bind fun o=>
 (b.2.stV ((st.ro st.next).next) 0 5 o).bind fun p=>
 (p.rdN ((st.ro st.next).next) 0 5).bind fun q=>
 cond (flat3 q) (some (q,st.adv p.next)) none)
noncomputable abbrev zj6:zad:=lS Tryz.prog Lk0 Tryz.f91 zaF
theorem zj7:Lk0.func 91=some (91,Tryz.f91):=by kernel_rfl
theorem zgu [Sym] (p':Value) (st:SS) {r:Value×SS} (h:zfi cc zj6 p' st=some r):cc 91 [p'] st=some r:=
 zai (li:=zaF) zaj zao zj7 rfl (fun _=>rfl) (.trans (by kernel_rfl) h)
noncomputable def zdy (cf:zam) (lf:zad) (p':Value) (sign':ByteArray) (st:SS):Option (Value×SS):=
 (cf 69 [p'] st).bind fun a=>
 let b:SS:=a.2.new (.cells [.int .i64 0,.string ⟨#[]⟩,.int .i64 0,.int .i64 0,.int .i64 0] 0)
 (b.stV a.2.next 0 5 a.1).bind fun c=>
 ((c.ld a.2.next 0).bind (asI .i64)).bind fun d=>
 cond (!(decide (d=3))) (
 some (.bool false,c)) (
 ((c.ld a.2.next 1).bind asS).bind fun e=>
 cond (!(eqT e sign')) (
 some (.bool false,c)) (
 (zak p').bind fun f=>
 (addr? f).bind fun g=>
 ((c.ld g.1 (g.2+1)).bind (asI .i64)).bind fun h=>
 let i:Int:=IntKind.wrap .i64 (h+1)
 (zak p').bind fun j=>
 (addr? j).bind fun k=>
 (c.st k.1 (k.2+1) [.int .i64 i]).bind fun l=>
 some (.bool true,l)))
noncomputable abbrev zjx:zad:=lS Tryz.prog Lk0 Tryz.f92 zaF
theorem zjy:Lk0.func 92=some (92,Tryz.f92):=by kernel_rfl
theorem zd2 [Sym] (p':Value) (sign':ByteArray) (st:SS) {r:Value×SS} (h:zdy cc zjx p' sign' st=some r):cc 92 [p',.string sign'] st=some r:=
 zai (li:=zaF) zaj zao zjy rfl (fun _=>rfl) (.trans (by kernel_rfl) h)
noncomputable def zfj (cf:zam) (lf:zad) (p':Value) (st:SS):Option (Value×SS):=
 (cf 69 [p'] st).bind fun a=>
 let b:SS:=a.2.new (.cells [.int .i64 0,.string ⟨#[]⟩,.int .i64 0,.int .i64 0,.int .i64 0] 0)
 (b.stV a.2.next 0 5 a.1).bind fun c=>
 ((c.ld a.2.next 0).bind (asI .i64)).bind fun d=>
 cond (!(decide (d=1))) (
 some (.tuple #[.string ⟨#[]⟩,.bool false],c)) (
 (zak p').bind fun e=>
 (addr? e).bind fun f=>
 ((c.ld f.1 (f.2+1)).bind (asI .i64)).bind fun g=>
 let h:Int:=IntKind.wrap .i64 (g+1)
 (zak p').bind fun i=>
 (addr? i).bind fun j=>
 (c.st j.1 (j.2+1) [.int .i64 h]).bind fun k=>
 ((k.ld a.2.next 1).bind asS).bind fun l=>
 some (.tuple #[.string l,.bool true],k))
noncomputable abbrev zj8:zad:=lS Tryz.prog Lk0 Tryz.f93 zaF
theorem zj9:Lk0.func 93=some (93,Tryz.f93):=by kernel_rfl
theorem zgv [Sym] (p':Value) (st:SS) {r:Value×SS} (h:zfj cc zj8 p' st=some r):cc 93 [p'] st=some r:=
 zai (li:=zaF) zaj zao zj9 rfl (fun _=>rfl) (.trans (by kernel_rfl) h)
noncomputable def zeD (cf:zam) (lf:zad) (p':Value) (st:SS):Option (Value×SS):=
 (cf 69 [p'] st).bind fun a=>
 let b:SS:=a.2.new (.cells [.int .i64 0,.string ⟨#[]⟩,.int .i64 0,.int .i64 0,.int .i64 0] 0)
 (b.stV a.2.next 0 5 a.1).bind fun c=>
 ((c.ld a.2.next 0).bind (asI .i64)).bind fun d=>
 cond (!(decide (d=2))) (
 some (.tuple #[.int .i64 0,.bool false],c)) (
 (zak p').bind fun e=>
 (addr? e).bind fun f=>
 ((c.ld f.1 (f.2+1)).bind (asI .i64)).bind fun g=>
 let h:Int:=IntKind.wrap .i64 (g+1)
 (zak p').bind fun i=>
 (addr? i).bind fun j=>
 (c.st j.1 (j.2+1) [.int .i64 h]).bind fun k=>
 ((k.ld a.2.next 2).bind (asI .i64)).bind fun l=>
 some (.tuple #[.int .i64 l,.bool true],k))
noncomputable abbrev ziU:zad:=lS Tryz.prog Lk0 Tryz.f111 zaF
theorem ziV:Lk0.func 111=some (111,Tryz.f111):=by kernel_rfl
theorem zfw [Sym] (p':Value) (st:SS) {r:Value×SS} (h:zeD cc ziU p' st=some r):cc 111 [p'] st=some r:=
 zai (li:=zaF) zaj zao ziV rfl (fun _=>rfl) (.trans (by kernel_rfl) h)
noncomputable def zbw (cf:zam) (lf:zad) (p':Value) (st:SS):Option (Value×SS):=
 let a:SS:=st.new (.cells [.string ⟨#[]⟩,.int .i64 0,.int .i64 0] 0)
 (cf 69 [p'] a).bind fun b=>
 ((zev Lk0 150 4 b.1).bind (asI .i64)).bind fun c=>
 let d:SS:=b.2.new (.cells [.string ⟨#[]⟩,.int .i64 0,.int .i64 0] 0)
 (d.st b.2.next 0 [.string ⟨#[]⟩,.int .i64 0,.int .i64 c]).bind fun e=>
 (cf 111 [p'] e).bind fun f=>
 ((zan f.1 0).bind (asI .i64)).bind fun g=>
 ((zan f.1 1).bind asB).bind fun h=>
 (f.2.st b.2.next 1 [.int .i64 g]).bind fun i=>
 cond h (
 (i.ldN b.2.next 0 3).bind fun j=>
 (i.stV st.next 0 3 j).bind fun k=>
 (k.rdN st.next 0 3).bind fun l=>
 some (.tuple #[l,.bool true],k)) (
 (cf 93 [p'] i).bind fun m=>
 ((zan m.1 0).bind asS).bind fun n=>
 ((zan m.1 1).bind asB).bind fun o=>
 (m.2.st b.2.next 0 [.string n]).bind fun p=>
 cond (!o) (
 (p.ldN b.2.next 0 3).bind fun q=>
 (p.stV st.next 0 3 q).bind fun r=>
 (r.rdN st.next 0 3).bind fun s=>
 some (.tuple #[s,.bool false],r)) (
 (cf 92 [p',.string ⟨#[43]⟩] p).bind fun t=>
 ((some t.1).bind asB).bind fun u=>
 cond u (
 (cf 111 [p'] t.2).bind fun v=>
 ((zan v.1 0).bind (asI .i64)).bind fun w=>
 ((zan v.1 1).bind asB).bind fun x=>
 (v.2.st b.2.next 1 [.int .i64 w]).bind fun y=>
 (y.ldN b.2.next 0 3).bind fun z=>
 (y.stV st.next 0 3 z).bind fun A=>
 (A.rdN st.next 0 3).bind fun B=>
 some (.tuple #[B,.bool x],A)) (
 (cf 92 [p',.string ⟨#[45]⟩] t.2).bind fun C=>
 ((some C.1).bind asB).bind fun D=>
 cond D (
 (cf 111 [p'] C.2).bind fun E=>
 ((zan E.1 0).bind (asI .i64)).bind fun F=>
 ((zan E.1 1).bind asB).bind fun G=>
 (E.2.st b.2.next 1 [.int .i64 F]).bind fun H=>
 ((H.ld b.2.next 1).bind (asI .i64)).bind fun I=>
 let J:Int:=IntKind.wrap .i64 (0-I)
 (H.st b.2.next 1 [.int .i64 J]).bind fun K=>
 (K.ldN b.2.next 0 3).bind fun L=>
 (K.stV st.next 0 3 L).bind fun M=>
 (M.rdN st.next 0 3).bind fun N=>
 some (.tuple #[N,.bool G],M)) (
 (C.2.ldN b.2.next 0 3).bind fun O=>
 (C.2.stV st.next 0 3 O).bind fun P=>
 (P.rdN st.next 0 3).bind fun Q=>
 some (.tuple #[Q,.bool o],P)))))
noncomputable abbrev zjz:zad:=lS Tryz.prog Lk0 Tryz.f94 zaF
theorem zjA:Lk0.func 94=some (94,Tryz.f94):=by kernel_rfl
theorem zbr [Sym] (p':Value) (st:SS) {r:Value×SS} (h:zbw cc zjz p' st=some r):cc 94 [p'] st=some r:=
 zai (li:=zaF) zaj zao zjA rfl (fun _=>rfl) (.trans (by kernel_rfl) h)
noncomputable def zci (cf:zam) (lf:zad) (p':Value) (l':Value) (st:SS):Option (Value×SS):=
 (cf 69 [p'] st).bind fun a=>
 ((zev Lk0 150 4 a.1).bind (asI .i64)).bind fun b=>
 let c:SS:=a.2.new (.cells [.string ⟨#[]⟩,.int .i64 0,.string ⟨#[]⟩,.int .i64 0,.int .i64 0] 0)
 (c.st a.2.next 0 [.string ⟨#[]⟩,.int .i64 b,.string ⟨#[]⟩,.int .i64 0,.int .i64 0]).bind fun d=>
 (cf 69 [p'] d).bind fun e=>
 ((zev Lk0 150 1 e.1).bind asS).bind fun f=>
 let g:SS:=e.2.new (.cells [.string ⟨#[]⟩] 0)
 (g.st e.2.next 0 [.string f]).bind fun h=>
 (cf 69 [p'] h).bind fun i=>
 ((zev Lk0 150 0 i.1).bind (asI .i64)).bind fun j=>
 cond (!(decide (j=1))) (
 some (.bool false,i.2)) (
 (zak l').bind fun k=>
 (addr? k).bind fun l=>
 (i.2.ld l.1 (l.2+4)).bind fun m=>
 (cf 112 [m,.func (.func 113) #[] #[ptr e.2.next 0]] i.2).bind fun n=>
 ((some n.1).bind asB).bind fun o=>
 cond o (
 some (.bool false,n.2)) (
 ((n.2.ld e.2.next 0).bind asS).bind fun p=>
 (n.2.st a.2.next 0 [.string p]).bind fun q=>
 (zak p').bind fun r=>
 (addr? r).bind fun s=>
 ((q.ld s.1 (s.2+1)).bind (asI .i64)).bind fun t=>
 let u:Int:=IntKind.wrap .i64 (t+1)
 (zak p').bind fun v=>
 (addr? v).bind fun w=>
 (q.st w.1 (w.2+1) [.int .i64 u]).bind fun x=>
 (cf 92 [p',.string ⟨#[61]⟩] x).bind fun y=>
 ((some y.1).bind asB).bind fun z=>
 cond (!z) (
 some (.bool false,y.2)) (
 (cf 94 [p'] y.2).bind fun A=>
 (zan A.1 0).bind fun B=>
 ((zan A.1 1).bind asB).bind fun C=>
 (A.2.stV a.2.next 2 3 B).bind fun D=>
 cond (!C) (
 some (.bool false,D)) (
 (zak l').bind fun E=>
 (addr? E).bind fun F=>
 (D.ld F.1 (F.2+4)).bind fun G=>
 (D.ldN a.2.next 0 5).bind fun H=>
 (zaB H 5).bind fun I=>
 let J:SS:=D.new (.cells (I++([])) 5)
 (J.app 5 56 G (.slice (some ⟨D.next,0,none⟩) 1 1)).bind fun K=>
 (zak l').bind fun L=>
 (addr? L).bind fun M=>
 (K.2.stV M.1 (M.2+4) 1 K.1).bind fun N=>
 some (.bool true,N)))))
noncomputable abbrev zka:zad:=lS Tryz.prog Lk0 Tryz.f95 zaF
theorem zkb:Lk0.func 95=some (95,Tryz.f95):=by kernel_rfl
theorem zcj [Sym] (p':Value) (l':Value) (st:SS) {r:Value×SS} (h:zci cc zka p' l' st=some r):cc 95 [p',l'] st=some r:=
 zai (li:=zaF) zaj zao zkb rfl (fun _=>rfl) (.trans (by kernel_rfl) h)
def zfx:LoopI:=⟨[(0,.any),(2,.any),(4,.any)],[(.exit 2,[(2,.any),(4,.any)]),(.ret,[(2,.any),(3,.bool)])]⟩
def zfy:LoopI:=⟨[(0,.any),(2,.any),(4,.any)],[(.exit 0,[(2,.any),(4,.any)]),(.ret,[(2,.any),(3,.bool)])]⟩
def zgw (n:Nat):Option LoopI:=cond (Nat.beq n 11) (some zfy) (cond (Nat.beq n 17) (some zfx) (none))
noncomputable def zcY (cf:zam) (lf:zad) (p':Value) (st:SS):Option (Value×SS):=
 let a:SS:=st.new (.cells [.int .i64 0,.string ⟨#[]⟩,.string ⟨#[]⟩,.slice none 0 0,.slice none 0 0] 0)
 (cf 69 [p'] a).bind fun b=>
 ((zev Lk0 150 3 b.1).bind (asI .i64)).bind fun c=>
 let d:SS:=b.2.new (.cells [.int .i64 0,.string ⟨#[]⟩,.string ⟨#[]⟩,.slice none 0 0,.slice none 0 0] 0)
 (d.st b.2.next 0 [.int .i64 c,.string ⟨#[]⟩,.string ⟨#[]⟩,.slice none 0 0,.slice none 0 0]).bind fun e=>
 (cf 91 [p'] e).bind fun f=>
 let g:SS:=f.2.new (.cells [.int .i64 0,.string ⟨#[]⟩,.int .i64 0,.int .i64 0,.int .i64 0] 0)
 (g.stV f.2.next 0 5 f.1).bind fun h=>
 (cf 69 [p'] h).bind fun i=>
 ((zev Lk0 150 0 i.1).bind (asI .i64)).bind fun j=>
 cond (decide (j=1)) (
 ((i.2.ld f.2.next 0).bind (asI .i64)).bind fun k=>
 cond (decide (k=3)) (
 ((i.2.ld f.2.next 1).bind asS).bind fun l=>
 cond (eqT l ⟨#[58]⟩) (
 (cf 69 [p'] i.2).bind fun m=>
 ((zev Lk0 150 1 m.1).bind asS).bind fun n=>
 (m.2.st b.2.next 1 [.string n]).bind fun o=>
 (zak p').bind fun p=>
 (addr? p).bind fun q=>
 ((o.ld q.1 (q.2+1)).bind (asI .i64)).bind fun r=>
 let s:Int:=IntKind.wrap .i64 (r+2)
 (zak p').bind fun t=>
 (addr? t).bind fun u=>
 (o.st u.1 (u.2+1) [.int .i64 s]).bind fun v=>
 (cf 92 [p',.string ⟨#[46]⟩] v).bind fun w=>
 ((some w.1).bind asB).bind fun x=>
 cond x (
 (cf 93 [p'] w.2).bind fun y=>
 ((zan y.1 0).bind asS).bind fun z=>
 ((zan y.1 1).bind asB).bind fun A=>
 (y.2.st b.2.next 2 [.string z]).bind fun B=>
 cond (!A) (
 (B.ldN b.2.next 0 5).bind fun C=>
 (B.stV st.next 0 5 C).bind fun D=>
 (D.rdN st.next 0 5).bind fun E=>
 some (.tuple #[E,.bool false],D)) (
 (lf 11 [p',ptr st.next 0,ptr b.2.next 0] B).bind fun F=>
 cond (Nat.beq F.1 0) (
 (F.2.1[0]?).bind fun G=>
 (F.2.1[1]?).bind fun H=>
 (addr? H).bind fun I=>
 (F.2.2.ldN I.1 I.2 5).bind fun J=>
 (addr? G).bind fun K=>
 (F.2.2.stV K.1 K.2 5 J).bind fun L=>
 (addr? G).bind fun M=>
 (L.rdN M.1 M.2 5).bind fun N=>
 some (.tuple #[N,.bool true],L)) (
 (F.2.1[0]?).bind fun O=>
 ((F.2.1[1]?).bind asB).bind fun P=>
 (addr? O).bind fun Q=>
 (F.2.2.rdN Q.1 Q.2 5).bind fun R=>
 some (.tuple #[R,.bool P],F.2.2)))) (
 (lf 17 [p',ptr st.next 0,ptr b.2.next 0] w.2).bind fun S=>
 cond (Nat.beq S.1 0) (
 (S.2.1[0]?).bind fun T=>
 (S.2.1[1]?).bind fun U=>
 (addr? U).bind fun V=>
 (S.2.2.ldN V.1 V.2 5).bind fun W=>
 (addr? T).bind fun X=>
 (S.2.2.stV X.1 X.2 5 W).bind fun Y=>
 (addr? T).bind fun Z=>
 (Y.rdN Z.1 Z.2 5).bind fun aA=>
 some (.tuple #[aA,.bool true],Y)) (
 (S.2.1[0]?).bind fun aB=>
 ((S.2.1[1]?).bind asB).bind fun aC=>
 (addr? aB).bind fun aD=>
 (S.2.2.rdN aD.1 aD.2 5).bind fun aE=>
 some (.tuple #[aE,.bool aC],S.2.2)))) (
 (cf 92 [p',.string ⟨#[46]⟩] i.2).bind fun aF=>
 ((some aF.1).bind asB).bind fun aG=>
 cond aG (
 (cf 93 [p'] aF.2).bind fun aH=>
 ((zan aH.1 0).bind asS).bind fun aI=>
 ((zan aH.1 1).bind asB).bind fun aJ=>
 (aH.2.st b.2.next 2 [.string aI]).bind fun aK=>
 cond (!aJ) (
 (aK.ldN b.2.next 0 5).bind fun aL=>
 (aK.stV st.next 0 5 aL).bind fun aM=>
 (aM.rdN st.next 0 5).bind fun aN=>
 some (.tuple #[aN,.bool false],aM)) (
 (lf 11 [p',ptr st.next 0,ptr b.2.next 0] aK).bind fun aO=>
 cond (Nat.beq aO.1 0) (
 (aO.2.1[0]?).bind fun aP=>
 (aO.2.1[1]?).bind fun aQ=>
 (addr? aQ).bind fun aR=>
 (aO.2.2.ldN aR.1 aR.2 5).bind fun aS=>
 (addr? aP).bind fun aT=>
 (aO.2.2.stV aT.1 aT.2 5 aS).bind fun aU=>
 (addr? aP).bind fun aV=>
 (aU.rdN aV.1 aV.2 5).bind fun aW=>
 some (.tuple #[aW,.bool true],aU)) (
 (aO.2.1[0]?).bind fun aX=>
 ((aO.2.1[1]?).bind asB).bind fun aY=>
 (addr? aX).bind fun aZ=>
 (aO.2.2.rdN aZ.1 aZ.2 5).bind fun bA=>
 some (.tuple #[bA,.bool aY],aO.2.2)))) (
 (lf 17 [p',ptr st.next 0,ptr b.2.next 0] aF.2).bind fun bB=>
 cond (Nat.beq bB.1 0) (
 (bB.2.1[0]?).bind fun bC=>
 (bB.2.1[1]?).bind fun bD=>
 (addr? bD).bind fun bE=>
 (bB.2.2.ldN bE.1 bE.2 5).bind fun bF=>
 (addr? bC).bind fun bG=>
 (bB.2.2.stV bG.1 bG.2 5 bF).bind fun bH=>
 (addr? bC).bind fun bI=>
 (bH.rdN bI.1 bI.2 5).bind fun bJ=>
 some (.tuple #[bJ,.bool true],bH)) (
 (bB.2.1[0]?).bind fun bK=>
 ((bB.2.1[1]?).bind asB).bind fun bL=>
 (addr? bK).bind fun bM=>
 (bB.2.2.rdN bM.1 bM.2 5).bind fun bN=>
 some (.tuple #[bN,.bool bL],bB.2.2))))) (
 (cf 92 [p',.string ⟨#[46]⟩] i.2).bind fun bO=>
 ((some bO.1).bind asB).bind fun bP=>
 cond bP (
 (cf 93 [p'] bO.2).bind fun bQ=>
 ((zan bQ.1 0).bind asS).bind fun bR=>
 ((zan bQ.1 1).bind asB).bind fun bS=>
 (bQ.2.st b.2.next 2 [.string bR]).bind fun bT=>
 cond (!bS) (
 (bT.ldN b.2.next 0 5).bind fun bU=>
 (bT.stV st.next 0 5 bU).bind fun bV=>
 (bV.rdN st.next 0 5).bind fun bW=>
 some (.tuple #[bW,.bool false],bV)) (
 (lf 11 [p',ptr st.next 0,ptr b.2.next 0] bT).bind fun bX=>
 cond (Nat.beq bX.1 0) (
 (bX.2.1[0]?).bind fun bY=>
 (bX.2.1[1]?).bind fun bZ=>
 (addr? bZ).bind fun cA=>
 (bX.2.2.ldN cA.1 cA.2 5).bind fun cB=>
 (addr? bY).bind fun cC=>
 (bX.2.2.stV cC.1 cC.2 5 cB).bind fun cD=>
 (addr? bY).bind fun cE=>
 (cD.rdN cE.1 cE.2 5).bind fun cF=>
 some (.tuple #[cF,.bool true],cD)) (
 (bX.2.1[0]?).bind fun cG=>
 ((bX.2.1[1]?).bind asB).bind fun cH=>
 (addr? cG).bind fun cI=>
 (bX.2.2.rdN cI.1 cI.2 5).bind fun cJ=>
 some (.tuple #[cJ,.bool cH],bX.2.2)))) (
 (lf 17 [p',ptr st.next 0,ptr b.2.next 0] bO.2).bind fun cK=>
 cond (Nat.beq cK.1 0) (
 (cK.2.1[0]?).bind fun cL=>
 (cK.2.1[1]?).bind fun cM=>
 (addr? cM).bind fun cN=>
 (cK.2.2.ldN cN.1 cN.2 5).bind fun cO=>
 (addr? cL).bind fun cP=>
 (cK.2.2.stV cP.1 cP.2 5 cO).bind fun cQ=>
 (addr? cL).bind fun cR=>
 (cQ.rdN cR.1 cR.2 5).bind fun cS=>
 some (.tuple #[cS,.bool true],cQ)) (
 (cK.2.1[0]?).bind fun cT=>
 ((cK.2.1[1]?).bind asB).bind fun cU=>
 (addr? cT).bind fun cV=>
 (cK.2.2.rdN cV.1 cV.2 5).bind fun cW=>
 some (.tuple #[cW,.bool cU],cK.2.2))))) (
 (cf 92 [p',.string ⟨#[46]⟩] i.2).bind fun cX=>
 ((some cX.1).bind asB).bind fun cY=>
 cond cY (
 (cf 93 [p'] cX.2).bind fun cZ=>
 ((zan cZ.1 0).bind asS).bind fun dA=>
 ((zan cZ.1 1).bind asB).bind fun dB=>
 (cZ.2.st b.2.next 2 [.string dA]).bind fun dC=>
 cond (!dB) (
 (dC.ldN b.2.next 0 5).bind fun dD=>
 (dC.stV st.next 0 5 dD).bind fun dE=>
 (dE.rdN st.next 0 5).bind fun dF=>
 some (.tuple #[dF,.bool false],dE)) (
 (lf 11 [p',ptr st.next 0,ptr b.2.next 0] dC).bind fun dG=>
 cond (Nat.beq dG.1 0) (
 (dG.2.1[0]?).bind fun dH=>
 (dG.2.1[1]?).bind fun dI=>
 (addr? dI).bind fun dJ=>
 (dG.2.2.ldN dJ.1 dJ.2 5).bind fun dK=>
 (addr? dH).bind fun dL=>
 (dG.2.2.stV dL.1 dL.2 5 dK).bind fun dM=>
 (addr? dH).bind fun dN=>
 (dM.rdN dN.1 dN.2 5).bind fun dO=>
 some (.tuple #[dO,.bool true],dM)) (
 (dG.2.1[0]?).bind fun dP=>
 ((dG.2.1[1]?).bind asB).bind fun dQ=>
 (addr? dP).bind fun dR=>
 (dG.2.2.rdN dR.1 dR.2 5).bind fun dS=>
 some (.tuple #[dS,.bool dQ],dG.2.2)))) (
 (lf 17 [p',ptr st.next 0,ptr b.2.next 0] cX.2).bind fun dT=>
 cond (Nat.beq dT.1 0) (
 (dT.2.1[0]?).bind fun dU=>
 (dT.2.1[1]?).bind fun dV=>
 (addr? dV).bind fun dW=>
 (dT.2.2.ldN dW.1 dW.2 5).bind fun dX=>
 (addr? dU).bind fun dY=>
 (dT.2.2.stV dY.1 dY.2 5 dX).bind fun dZ=>
 (addr? dU).bind fun gA=>
 (dZ.rdN gA.1 gA.2 5).bind fun gB=>
 some (.tuple #[gB,.bool true],dZ)) (
 (dT.2.1[0]?).bind fun gC=>
 ((dT.2.1[1]?).bind asB).bind fun gD=>
 (addr? gC).bind fun gE=>
 (dT.2.2.rdN gE.1 gE.2 5).bind fun gF=>
 some (.tuple #[gF,.bool gD],dT.2.2))))
noncomputable abbrev zaM:zad:=lS Tryz.prog Lk0 Tryz.f68 zgw
theorem zkc:Lk0.func 68=some (68,Tryz.f68):=by kernel_rfl
theorem zgx [Sym] (p':Value) (st:SS) {r:Value×SS} (h:zcY cc zaM p' st=some r):cc 68 [p'] st=some r:=
 zai (li:=zgw) zaj zao zkc rfl (fun _=>rfl) (.trans (by kernel_rfl) h)
noncomputable def zcQ (cf:zam) (lf:zad) (p':Value) (t2':Value) (l':Value) (st:SS):Option (Nat×List Value×SS):=
 (cf 69 [p'] st).bind fun a=>
 ((zev Lk0 150 0 a.1).bind (asI .i64)).bind fun b=>
 cond (!(decide (b=0))) (
 (cf 94 [p'] a.2).bind fun c=>
 (zan c.1 0).bind fun d=>
 ((zan c.1 1).bind asB).bind fun e=>
 let f:SS:=c.2.new (.cells [.string ⟨#[]⟩,.int .i64 0,.int .i64 0] 0)
 (f.stV c.2.next 0 3 d).bind fun g=>
 cond (!e) (
 (addr? l').bind fun h=>
 (g.ldN h.1 h.2 5).bind fun i=>
 (addr? t2').bind fun j=>
 (g.stV j.1 j.2 5 i).bind fun k=>
 some (1,[t2',.bool false],k)) (
 (addr? l').bind fun l=>
 (g.ld l.1 (l.2+3)).bind fun m=>
 (g.ldN c.2.next 0 3).bind fun n=>
 (zaB n 3).bind fun o=>
 let p:SS:=g.new (.cells (o++([])) 3)
 (p.app 3 32 m (.slice (some ⟨g.next,0,none⟩) 1 1)).bind fun q=>
 (addr? l').bind fun r=>
 (q.2.stV r.1 (r.2+3) 1 q.1).bind fun s=>
 lf 11 [p',t2',l'] s)) (
 some (0,[t2',l'],a.2))
theorem zdk [Sym] (p':Value) (t2':Value) (l':Value) (st:SS) {r:Nat×List Value×SS} (h:zcQ cc zaM p' t2' l' st=some r):zaM 11 [p',t2',l'] st=some r:=
 zav zaj zao (key:=11) (I:=zfy) rfl (by kernel_rfl) (by kernel_rfl) rfl rfl (.trans (by kernel_rfl) h)
noncomputable def zcR (cf:zam) (lf:zad) (p':Value) (t2':Value) (l':Value) (st:SS):Option (Nat×List Value×SS):=
 (cf 69 [p'] st).bind fun a=>
 ((zev Lk0 150 0 a.1).bind (asI .i64)).bind fun b=>
 cond (!(decide (b=0))) (
 (cf 95 [p',l'] a.2).bind fun c=>
 ((some c.1).bind asB).bind fun d=>
 cond (!d) (
 (addr? l').bind fun e=>
 (c.2.ldN e.1 e.2 5).bind fun f=>
 (addr? t2').bind fun g=>
 (c.2.stV g.1 g.2 5 f).bind fun h=>
 some (1,[t2',.bool false],h)) (
 lf 17 [p',t2',l'] c.2)) (
 some (0,[t2',l'],a.2))
theorem zdl [Sym] (p':Value) (t2':Value) (l':Value) (st:SS) {r:Nat×List Value×SS} (h:zcR cc zaM p' t2' l' st=some r):zaM 17 [p',t2',l'] st=some r:=
 zav zaj zao (key:=17) (I:=zfx) rfl (by kernel_rfl) (by kernel_rfl) rfl rfl (.trans (by kernel_rfl) h)
def ziI:LoopI:=⟨[(3,.any),(5,.any),(8,.any),(9,.any)],[(.exit 0,[(3,.any),(9,.any)]),(.ret,[(2,.any),(3,.any),(4,.int .i64)])]⟩
def zi9 (n:Nat):Option LoopI:=cond (Nat.beq n 6) (some ziI) (none)
noncomputable def zgX (cf:zam) (lf:zad) (text':ByteArray) (st:SS):Option (Value×SS):=
 let a:SS:=st.new (.cells [.int .i64 0,.int .i64 0] 0)
 (cf 67 [.string text'] a).bind fun b=>
 (zan b.1 0).bind fun c=>
 (zan b.1 1).bind fun d=>
 ((zan b.1 2).bind (asI .i64)).bind fun e=>
 let f:SS:=b.2.new (.cells [.int .i64 0,.int .i64 0] 0)
 (f.stV b.2.next 0 2 d).bind fun g=>
 cond (!(decide (e=0))) (
 (g.ldN b.2.next 0 2).bind fun h=>
 (g.stV st.next 0 2 h).bind fun i=>
 (i.rdN st.next 0 2).bind fun j=>
 some (.tuple #[.slice none 0 0,j,.int .i64 e],i)) (
 (zaB c 1).bind fun k=>
 let l:SS:=g.new (.cells (.agg ⟨spl [.slice none 0 0,.int .i64 0] 0 k⟩:Value).cells.toList 0)
 (lf 6 [ptr st.next 0,c,ptr g.next 0,.slice none 0 0] l).bind fun m=>
 cond (Nat.beq m.1 0) (
 (m.2.1[0]?).bind fun n=>
 (m.2.1[1]?).bind fun o=>
 (addr? n).bind fun p=>
 (m.2.2.st p.1 p.2 [.int .i64 0,.int .i64 0]).bind fun q=>
 (addr? n).bind fun r=>
 (q.rdN r.1 r.2 2).bind fun s=>
 some (.tuple #[o,s,.int .i64 0],q)) (
 (m.2.1[0]?).bind fun t=>
 (m.2.1[1]?).bind fun u=>
 ((m.2.1[2]?).bind (asI .i64)).bind fun v=>
 (addr? u).bind fun w=>
 (m.2.2.rdN w.1 w.2 2).bind fun x=>
 some (.tuple #[t,x,.int .i64 v],m.2.2)))
noncomputable abbrev zb5:zad:=lS Tryz.prog Lk0 Tryz.f42 zi9
theorem zoh:Lk0.func 42=some (42,Tryz.f42):=by kernel_rfl
theorem zgY [Sym] (text':ByteArray) (st:SS) {r:Value×SS} (h:zgX cc zb5 text' st=some r):cc 42 [.string text'] st=some r:=
 zai (li:=zi9) zaj zao zoh rfl (fun _=>rfl) (.trans (by kernel_rfl) h)
noncomputable def zcx (cf:zam) (lf:zad) (t3':Value) (tokens':Value) (p':Value) (out':Value) (st:SS):Option (Nat×List Value×SS):=
 (zak p').bind fun a=>
 (addr? a).bind fun b=>
 ((st.ld b.1 (b.2+1)).bind (asI .i64)).bind fun c=>
 ((lenV tokens').bind (asI .i64)).bind fun d=>
 cond (decide (c<d)) (
 (cf 68 [p'] st).bind fun e=>
 (zan e.1 0).bind fun f=>
 ((zan e.1 1).bind asB).bind fun g=>
 let h:SS:=e.2.new (.cells [.int .i64 0,.string ⟨#[]⟩,.string ⟨#[]⟩,.slice none 0 0,.slice none 0 0] 0)
 (h.stV e.2.next 0 5 f).bind fun i=>
 cond (!g) (
 (cf 69 [p'] i).bind fun j=>
 ((zev Lk0 150 3 j.1).bind (asI .i64)).bind fun k=>
 (cf 69 [p'] j.2).bind fun l=>
 ((zev Lk0 150 4 l.1).bind (asI .i64)).bind fun m=>
 (addr? t3').bind fun n=>
 (l.2.st n.1 n.2 [.int .i64 k,.int .i64 m]).bind fun o=>
 some (1,[.slice none 0 0,t3',.int .i64 4],o)) (
 (zak p').bind fun p=>
 (addr? p).bind fun q=>
 ((i.ld q.1 (q.2+1)).bind (asI .i64)).bind fun r=>
 let s:Int:=IntKind.wrap .i64 (r+1)
 (zak p').bind fun t=>
 (addr? t).bind fun u=>
 (i.st u.1 (u.2+1) [.int .i64 s]).bind fun v=>
 ((v.ld e.2.next 1).bind asS).bind fun w=>
 cond (!(eqT w ⟨#[]⟩)) (
 (v.ldN e.2.next 0 5).bind fun x=>
 (zaB x 5).bind fun y=>
 let z:SS:=v.new (.cells (y++([])) 5)
 (z.app 5 88 out' (.slice (some ⟨v.next,0,none⟩) 1 1)).bind fun A=>
 lf 6 [t3',tokens',p',A.1] A.2) (
 ((v.ld e.2.next 2).bind asS).bind fun B=>
 cond (!(eqT B ⟨#[]⟩)) (
 (v.ldN e.2.next 0 5).bind fun C=>
 (zaB C 5).bind fun D=>
 let E:SS:=v.new (.cells (D++([])) 5)
 (E.app 5 88 out' (.slice (some ⟨v.next,0,none⟩) 1 1)).bind fun F=>
 lf 6 [t3',tokens',p',F.1] F.2) (
 (v.ld e.2.next 4).bind fun G=>
 ((lenV G).bind (asI .i64)).bind fun H=>
 cond (decide (0<H)) (
 (v.ldN e.2.next 0 5).bind fun I=>
 (zaB I 5).bind fun J=>
 let K:SS:=v.new (.cells (J++([])) 5)
 (K.app 5 88 out' (.slice (some ⟨v.next,0,none⟩) 1 1)).bind fun L=>
 lf 6 [t3',tokens',p',L.1] L.2) (
 lf 6 [t3',tokens',p',out'] v))))) (
 some (0,[t3',out'],st))
theorem zdU [Sym] (t3':Value) (tokens':Value) (p':Value) (out':Value) (st:SS) {r:Nat×List Value×SS} (h:zcx cc zb5 t3' tokens' p' out' st=some r):zb5 6 [t3',tokens',p',out'] st=some r:=
 zav zaj zao (key:=6) (I:=ziI) rfl (by kernel_rfl) (by kernel_rfl) rfl rfl (.trans (by kernel_rfl) h)
end Go.Proofs.YtifploedaacedaaGreatDoorE
namespace Go.Proofs.YtifploedaacedaaGreatDoorE
open Go Go.E Go.Proofs
theorem zb3 (b k:Nat):zak (ptr b k)=some (ptr b k):=rfl
structure PHas (st:SS) (b:Nat) (v:Value) (us:List (Nat×Tok)) (i:Nat):Prop where
 mem:st.mem.get b=some (.cells [v,.int .i64 i] 0)
 lt:b<st.next
 rd:Rd st v (rowsL us) 5 us.length
 sz:us.length≤1099511627776
theorem PHas.ext {st st':SS} {b i:Nat} {v:Value} {us:List (Nat×Tok)} (h:PHas st b v us i) (x:Ext st st'):PHas st' b v us i:=
 ⟨x.get h.lt h.mem,zll h.lt x.next,h.rd.ext x,h.sz⟩
theorem PHas.ro {st:SS} {b i n:Nat} {v:Value} {us:List (Nat×Tok)} (h:PHas st b v us i):PHas (st.ro n) b v us i:=⟨h.mem,h.lt,h.rd,h.sz⟩
structure PAt (st:SS) (b:Nat) (v:Value) (us:List (Nat×Tok)) (i:Nat):Prop where
 blk:At st b [v,.int .i64 i]
 rd:Rd st v (rowsL us) 5 us.length
 vb:∀ j k l q,v=.slice (some ⟨j,k,none⟩) l q→j<b
 sz:us.length≤1099511627776
 ll:st.lim≤st.next
section
variable {S : List Nat} {st st' : SS} {b i : Nat} {v : Value} {us : List (Nat × Tok)}
theorem PAt.has (h:PAt st b v us i):PHas st b v us i:=⟨h.blk.mem,h.blk.lt,h.rd,h.sz⟩
theorem PAt.mod (h:PAt st b v us i) (m:Mod S st st') (hS:∀ j,j∈S→b<j):PAt st' b v us i:=
 ⟨h.blk.mod m (fun hm=>by have:=hS b hm;omega),h.rd.mod m (fun j k l q e hm=>by have:=hS j hm;have:=h.vb j k l q e;omega),h.vb,h.sz,m.ll h.ll⟩
theorem PAt.ext (h:PAt st b v us i) (x:Ext st st'):PAt st' b v us i:=h.mod (S:=[]) (.ofExt x) (fun _ hj=>by cases hj)
theorem PAt.modI {j:Nat} (h:PAt st b v us i) (m:Mod [j] st st') (hj:b<j):PAt st' b v us i:=h.mod m fun k hk=>(show k=j by simpa using hk) ▸ hj
theorem PAt.move (h:PAt st b v us i) (i':Nat):∃ st',st.st b 1 [.int .i64 i']=some st'∧PAt st' b v us i'∧Mod [b] st st'∧st'.next=st.next:=by
 obtain ⟨st',e,a,m,n⟩:=h.blk.sto (k:=1) (vs:=[.int .i64 i']) (row':=[v,.int .i64 i']) rfl rfl
 exact ⟨st',e,⟨a,h.rd.mod m (fun j k l q e hm=>by have:j=b:=by simpa using hm
                                                  have:=h.vb j k l q e;omega),h.vb,h.sz,m.ll h.ll⟩,m,n⟩
end
abbrev Z5:List Value:=[.int .i64 0,.string ⟨#[]⟩,.int .i64 0,.int .i64 0,.int .i64 0]
theorem zdd [Sym] {st:SS} {b i:Nat} {v:Value} {us:List (Nat×Tok)} (h:PHas st b v us i) {t:Nat×Tok} (ht:us[i]?=some t):
  ∃ n,st.next≤n∧cc 69 [ptr b 0] st=some (.agg (zbn t.1 t.2).toArray,st.adv n):=by
 obtain ⟨st10,e10,a10,x10,_⟩:=zaO (st:=st.ro st.next) (zlr _) (r:=Z5) (zaC (zbn t.1 t.2)) (n:=5) rfl rfl rfl
 have h1:=(h.ro (n:=st.next)).ext ((Ext.refl (st.ro st.next)).new (.cells Z5 0))
 have hlt:(i:Int)<(us.length:Int):=by have:=(List.getElem?_eq_some_iff.1 ht).1;omega
 obtain ⟨q,b1,b2,_⟩:=h1.rd.load (j:=(i:Int)) (by omega) hlt (zi4 us i t ht) rfl
 have l0:((st.ro st.next).new (.cells Z5 0)).ld b 0=some v:=by rw [SS.ld_cells h1.mem];rfl
 have l1:((st.ro st.next).new (.cells Z5 0)).ld b 1=some (.int .i64 i):=by rw [SS.ld_cells h1.mem];rfl
 have hr:st10.rdN (st.ro st.next).next 0 5=some (.agg (zbn t.1 t.2).toArray):=a10.rdN rfl
 refine ⟨st10.next,x10.next,zk1 _ st ?_⟩
 have e10':((st.ro st.next).new (.cells Z5 0)).stV st.next 0 5 (.agg (zbn t.1 t.2).toArray)=some st10:=e10
 have hr':st10.rdN st.next 0 5=some (.agg (zbn t.1 t.2).toArray):=hr
 simp only [zhU,SS.ro_next,zb3,zob,zac,l0,Nat.zero_add,l1,zaa,b1,b2,e10',hr']
 rfl
theorem zdr {ln:Nat} {t:Tok}:(zev Lk0 150 0 (.agg (zbn ln t).toArray)).bind (asI .i64)=some (t.kd:Int)∧(zev Lk0 150 1 (.agg (zbn ln t).toArray)).bind asS=some (mkS t.tx)∧
  (zev Lk0 150 3 (.agg (zbn ln t).toArray)).bind (asI .i64)=some (ln:Int)∧(zev Lk0 150 4 (.agg (zbn ln t).toArray)).bind (asI .i64)=some (t.col:Int):=⟨by kernel_rfl,by kernel_rfl,by kernel_rfl,by kernel_rfl⟩
theorem zv8 [Sym] {st:SS} {b i:Nat} {v:Value} {us:List (Nat×Tok)} (h:PHas st b v us i) {t u:Nat×Tok} (ht:us[i]?=some t) (hu:us[if t.2.kd=0 then i else i+1]?=some u):
  ∃ n,st.next≤n∧cc 91 [ptr b 0] st=some (.agg (zbn u.1 u.2).toArray,st.adv n):=by
 have h1:=(h.ro (n:=st.next)).ext ((Ext.refl (st.ro st.next)).new (.cells Z5 0))
 obtain ⟨n,hn,c1⟩:=zdd h1 ht
 have a0:At ((st.ro st.next).new (.cells Z5 0)) st.next Z5:=At.new (st:=st.ro st.next) (zlr _) Z5
 have h2:=h1.ext (Ext.advR _ hn)
 have a2:=a0.adv hn
 by_cases hk:t.2.kd=0
 ·rw [if_pos hk,ht] at hu
  cases hu
  obtain ⟨m,hm,c2⟩:=zdd h2 ht
  have a3:=a2.adv hm
  obtain ⟨st5,e5,a5,m5,n5⟩:=a3.stV (k:=0) (zaC (zbn t.1 t.2)) (n:=5) rfl rfl (row':=zbn t.1 t.2) rfl
  have hr:st5.rdN st.next 0 5=some (.agg (zbn t.1 t.2).toArray):=a5.rdN rfl
  have hk':(t.2.kd:Int)=0:=by omega
  have hle:st.next≤st5.next:=by rw [n5];simp at hn hm ⊢;omega
  refine ⟨st5.next,hle,zgu _ st ?_⟩
  simp only [zfi,SS.ro_next,c1,c2,zob,zdr.1,zdt hk',zct,e5,hr]
  rfl
 ·rw [if_neg hk] at hu
  have hlt:((i+1:Nat):Int)<(us.length:Int):=by have:=(List.getElem?_eq_some_iff.1 hu).1;omega
  obtain ⟨q,b1,b2,_⟩:=h2.rd.load (j:=((i+1:Nat):Int)) (by omega) hlt (zi4 us (i+1) u hu) rfl
  have hk':¬ (t.2.kd:Int)=0:=by omega
  obtain ⟨st5,e5,a5,m5,n5⟩:=a2.stV (k:=0) (zaC (zbn u.1 u.2)) (n:=5) rfl rfl (row':=zbn u.1 u.2) rfl
  have hr:st5.rdN st.next 0 5=some (.agg (zbn u.1 u.2).toArray):=a5.rdN rfl
  have l0:(((st.ro st.next).new (.cells Z5 0)).adv n).ld b 0=some v:=by rw [SS.ld_cells h2.mem];rfl
  have l1:(((st.ro st.next).new (.cells Z5 0)).adv n).ld b 1=some (.int .i64 i):=by rw [SS.ld_cells h2.mem];rfl
  have hw:IntKind.wrap .i64 ((i:Int)+1)=((i+1:Nat):Int):=by have:=h.sz;rw [wrap64 (by omega) (by omega)];omega
  have hle:st.next≤st5.next:=by rw [n5];simp at hn ⊢;omega
  refine ⟨st5.next,hle,zgu _ st ?_⟩
  simp only [zfi,SS.ro_next,c1,zob,zdr.1,zdf hk',zcf,zb3,zac,l0,Nat.zero_add,l1,zaa,hw,b1,b2,e5,hr]
  rfl
theorem zoP {st:SS} {n:Nat} (hl:st.lim≤n) (t:Nat×Tok):∃ st',((st.adv n).new (.cells Z5 0)).stV n 0 5 (.agg (zbn t.1 t.2).toArray)=some st'∧At st' n (zbn t.1 t.2)∧Ext (st.adv n) st':=by
 obtain ⟨st',a,b,c,_⟩:=zaO (st:=st.adv n) hl (r:=Z5) (zaC (zbn t.1 t.2)) (n:=5) rfl rfl rfl
 exact ⟨st',a,b,c⟩
theorem zdK (a b:List UInt8):eqT (mkS a) (mkS b)=decide (a=b):=by rw [zd0,zbu,zbu]
theorem zk2 [Sym] {st:SS} {b i:Nat} {v:Value} {us:List (Nat×Tok)} (h:PAt st b v us i) {t:Nat×Tok} (ht:us[i]?=some t) (sg:List UInt8):
  ∃ st',cc 92 [ptr b 0,.string (mkS sg)] st=some (.bool (zaE t.2 sg),st')∧Mod [b] st st'∧PAt st' b v us (if zaE t.2 sg=true then i+1 else i):=by
 obtain ⟨n,hn,h1⟩:=zdd h.has ht
 obtain ⟨st3,e3,a3,x3⟩:=zoP (st:=st) (n:=n) (zlt h.ll hn) t
 have x:Ext st st3:=(Ext.advR st hn).trans x3
 have hp:=h.ext x
 have k0:st3.ld n 0=some (.int .i64 t.2.kd):=a3.ld
 have k1:st3.ld n 1=some (.string (mkS t.2.tx)):=a3.ld
 have hi:=(List.getElem?_eq_some_iff.1 ht).1
 have hsz:=h.sz
 by_cases hk:t.2.kd=3
 ·have hk':(t.2.kd:Int)=3:=by omega
  by_cases hx:t.2.tx=sg
  ·have hs:zaE t.2 sg=true:=by simp [zaE,hk,hx]
   obtain ⟨st4,e4,p4,m4,_⟩:=hp.move (i+1)
   have hl1:st3.ld b 1=some (.int .i64 i):=hp.blk.ld
   rw [hs]
   refine ⟨st4,zd2 _ _ st ?_,(Mod.ofExt x).then m4,p4⟩
   simp only [zdy,h1,zob,SS.adv_next,e3,k0,k1,zaa,zab,zdt hk',znt,zcf,zdK,zdt hx,zb3,zac,Nat.zero_add,hl1,za4 (show i≤1099511627776 by omega),e4]
  ·have hs:zaE t.2 sg=false:=by simp [zaE,hk,hx]
   rw [hs]
   refine ⟨st3,zd2 _ _ st ?_,.ofExt x,hp⟩
   simp only [zdy,h1,zob,SS.adv_next,e3,k0,k1,zaa,zab,zdt hk',znt,zcf,zdK,zdf hx,znf,zct]
 ·have hk':¬ (t.2.kd:Int)=3:=by omega
  have hs:zaE t.2 sg=false:=by simp [zaE,hk]
  rw [hs]
  refine ⟨st3,zd2 _ _ st ?_,.ofExt x,hp⟩
  simp only [zdy,h1,zob,SS.adv_next,e3,k0,zaa,zdf hk',znf,zct]
theorem zrL [Sym] {st:SS} {b i:Nat} {v:Value} {us:List (Nat×Tok)} (h:PAt st b v us i) {t:Nat×Tok} (ht:us[i]?=some t):
  ∃ st',cc 93 [ptr b 0] st=some (.tuple #[.string (mkS (if t.2.kd=1 then t.2.tx else [])),.bool (decide (t.2.kd=1))],st')∧Mod [b] st st'∧PAt st' b v us (if t.2.kd=1 then i+1 else i):=by
 obtain ⟨n,hn,h1⟩:=zdd h.has ht
 obtain ⟨st3,e3,a3,x3⟩:=zoP (st:=st) (n:=n) (zlt h.ll hn) t
 have x:Ext st st3:=(Ext.advR st hn).trans x3
 have hp:=h.ext x
 have k0:st3.ld n 0=some (.int .i64 t.2.kd):=a3.ld
 have hi:=(List.getElem?_eq_some_iff.1 ht).1
 have hsz:=h.sz
 by_cases hk:t.2.kd=1
 ·have hk':(t.2.kd:Int)=1:=by omega
  obtain ⟨st4,e4,p4,m4,_⟩:=hp.move (i+1)
  have hl1:st3.ld b 1=some (.int .i64 i):=hp.blk.ld
  have hne:n≠b:=by have:=h.blk.lt;omega
  have k1:st4.ld n 1=some (.string (mkS t.2.tx)):=(a3.mod m4 (by simpa using hne)).ld
  rw [if_pos hk,if_pos hk,zdt hk]
  refine ⟨st4,zgv _ st ?_,(Mod.ofExt x).then m4,p4⟩
  simp only [zfj,h1,zob,SS.adv_next,e3,k0,zaa,zdt hk',znt,zcf,zb3,zac,Nat.zero_add,hl1,za4 (show i≤1099511627776 by omega),e4,k1,zab]
 ·have hk':¬ (t.2.kd:Int)=1:=by omega
  rw [if_neg hk,if_neg hk,zdf hk]
  refine ⟨st3,zgv _ st ?_,.ofExt x,hp⟩
  simp only [zfj,h1,zob,SS.adv_next,e3,k0,zaa,zdf hk',znf,zct]
  rfl
theorem zk3 [Sym] {st:SS} {b i:Nat} {v:Value} {us:List (Nat×Tok)} (h:PAt st b v us i) {t:Nat×Tok} (ht:us[i]?=some t):
  ∃ st',cc 111 [ptr b 0] st=some (.tuple #[.int .i64 (if t.2.kd=2 then t.2.nm else 0),.bool (decide (t.2.kd=2))],st')∧Mod [b] st st'∧PAt st' b v us (if t.2.kd=2 then i+1 else i):=by
 obtain ⟨n,hn,h1⟩:=zdd h.has ht
 obtain ⟨st3,e3,a3,x3⟩:=zoP (st:=st) (n:=n) (zlt h.ll hn) t
 have x:Ext st st3:=(Ext.advR st hn).trans x3
 have hp:=h.ext x
 have k0:st3.ld n 0=some (.int .i64 t.2.kd):=a3.ld
 have hi:=(List.getElem?_eq_some_iff.1 ht).1
 have hsz:=h.sz
 by_cases hk:t.2.kd=2
 ·have hk':(t.2.kd:Int)=2:=by omega
  obtain ⟨st4,e4,p4,m4,_⟩:=hp.move (i+1)
  have hl1:st3.ld b 1=some (.int .i64 i):=hp.blk.ld
  have hne:n≠b:=by have:=h.blk.lt;omega
  have k1:st4.ld n 2=some (.int .i64 t.2.nm):=(a3.mod m4 (by simpa using hne)).ld
  rw [if_pos hk,if_pos hk,zdt hk]
  refine ⟨st4,zfw _ st ?_,(Mod.ofExt x).then m4,p4⟩
  simp only [zeD,h1,zob,SS.adv_next,e3,k0,zaa,zdt hk',znt,zcf,zb3,zac,Nat.zero_add,hl1,za4 (show i≤1099511627776 by omega),e4,k1]
 ·have hk':¬ (t.2.kd:Int)=2:=by omega
  rw [if_neg hk,if_neg hk,zdf hk]
  refine ⟨st3,zfw _ st ?_,.ofExt x,hp⟩
  simp only [zeD,h1,zob,SS.adv_next,e3,k0,zaa,zdf hk',znf,zct]
structure LineAt (us:List (Nat×Tok)) (i ln:Nat) (l:List Tok):Prop where
 drop:∃ rest,us.drop i=(l.map fun t=>(ln,t))++rest
 lin:Lin l
 ok:∀ t∈l,TokOk t
theorem LineAt.head {us:List (Nat×Tok)} {i ln:Nat} {t:Tok} {r:List Tok} (h:LineAt us i ln (t::r)):us[i]?=some (ln,t):=by
 obtain ⟨rest,hr⟩:=h.drop
 have:=congrArg (·[0]?) hr
 simpa using this
theorem LineAt.tail {us:List (Nat×Tok)} {i ln:Nat} {t:Tok} {r:List Tok} (h:LineAt us i ln (t::r)) (hk:t.kd≠0):LineAt us (i+1) ln r:=by
 refine ⟨?_,h.lin.tail hk,fun u hu=>h.ok u (List.mem_cons_of_mem _ hu)⟩
 obtain ⟨rest,hr⟩:=h.drop
 refine ⟨rest,?_⟩
 have:=drop_cons h.head
 rw [hr] at this
 exact (List.cons.inj this).2.symm
theorem LineAt.tok {us:List (Nat×Tok)} {i ln:Nat} {t:Tok} {r:List Tok} (h:LineAt us i ln (t::r)):TokOk t:=h.ok t (List.mem_cons_self ..)
end Go.Proofs.YtifploedaacedaaGreatDoorE
namespace Go.Proofs.YtifploedaacedaaGreatDoorE
set_option maxRecDepth 20000
open Go Go.E Go.Proofs
noncomputable def zns (cf:zam) (lf:zad) (s':Value) (q':Nat) (st:SS):Option (Value×SS):=
 (cf 133 [s',.func (.func 113) #[] #[ptr q' 0]] (st.ro st.next)).bind fun a=>
 ((some a.1).bind (asI .i64)).bind fun b=>
 some (.bool (decide (0≤b)),st.adv a.2.next)
noncomputable abbrev zre:zad:=lS Tryz.prog Lk0 Tryz.f112 zaF
theorem zrf:Lk0.func 112=some (112,Tryz.f112):=by kernel_rfl
theorem zrg [Sym] (s':Value) (q':Nat) (st:SS) {r:Value×SS} (h:zns cc zre s' q' st=some r):cc 112 [s',.func (.func 113) #[] #[ptr q' 0]] st=some r:=
 zai (li:=zaF) zaj zao zrf rfl (fun _=>rfl) (.trans (by kernel_rfl) h)
def zm2:LoopI:=⟨[(0,.any),(1,.any),(7,.int .i64),(8,.int .i64)],[(.exit 0,[]),(.ret,[(4,.int .i64)])]⟩
def zoi (n:Nat):Option LoopI:=cond (Nat.beq n 2) (some zm2) (none)
noncomputable def zoQ (cf:zam) (lf:zad) (s':Value) (q':Nat) (st:SS):Option (Value×SS):=
 ((lenV s').bind (asI .i64)).bind fun a=>
 (lf 2 [s',.func (.func 113) #[] #[ptr q' 0],.int .i64 a,.int .i64 0] (st.ro st.next)).bind fun b=>
 cond (Nat.beq b.1 0) (
 some (.int .i64 (-1),st.adv b.2.2.next)) (
 ((b.2.1[0]?).bind (asI .i64)).bind fun c=>
 some (.int .i64 c,st.adv b.2.2.next))
noncomputable abbrev zgZ:zad:=lS Tryz.prog Lk0 Tryz.f133 zoi
theorem zsB:Lk0.func 133=some (133,Tryz.f133):=by kernel_rfl
theorem zoj [Sym] (s':Value) (q':Nat) (st:SS) {r:Value×SS} (h:zoQ cc zgZ s' q' st=some r):cc 133 [s',.func (.func 113) #[] #[ptr q' 0]] st=some r:=
 zai (li:=zoi) zaj zao zsB rfl (fun _=>rfl) (.trans (by kernel_rfl) h)
noncomputable def zic (cf:zam) (lf:zad) (s':Value) (q':Nat) (t7':Int) (t8':Int) (st:SS):Option (Nat×List Value×SS):=
 cond (decide (t8'<t7')) (
 (zah s' t8' 5).bind fun a=>
 (st.ldN a.1 a.2 5).bind fun b=>
 (cf 113 [b,ptr q' 0] st).bind fun c=>
 ((some c.1).bind asB).bind fun d=>
 cond d (
 some (1,[.int .i64 t8'],c.2)) (
 let e:Int:=IntKind.wrap .i64 (t8'+1)
 lf 2 [s',.func (.func 113) #[] #[ptr q' 0],.int .i64 t7',.int .i64 e] c.2)) (
 some (0,[],st))
theorem zhP [Sym] (s':Value) (q':Nat) (t7':Int) (t8':Int) (st:SS) {r:Nat×List Value×SS} (h:zic cc zgZ s' q' t7' t8' st=some r):zgZ 2 [s',.func (.func 113) #[] #[ptr q' 0],.int .i64 t7',.int .i64 t8'] st=some r:=
 zav zaj zao (key:=2) (I:=zm2) rfl (by kernel_rfl) (by kernel_rfl) rfl rfl (.trans (by kernel_rfl) h)
noncomputable def ztQ (cf:zam) (lf:zad) (y':Value) (x1':Value) (st:SS):Option (Value×SS):=
 let a:SS:=(st.ro st.next).new (.cells (y':Value).cells.toList 0)
 ((a.ld ((st.ro st.next).next) 0).bind asS).bind fun b=>
 (addr? x1').bind fun c=>
 ((a.ld c.1 c.2).bind asS).bind fun d=>
 some (.bool (eqT b d),st.adv a.next)
noncomputable abbrev ztR:zad:=lS Tryz.prog Lk0 Tryz.f113 zaF
theorem ztS:Lk0.func 113=some (113,Tryz.f113):=by kernel_rfl
theorem ztT [Sym] (y':Value) (x1':Value) (st:SS) {r:Value×SS} (h:ztQ cc ztR y' x1' st=some r):cc 113 [y',x1'] st=some r:=
 zai (li:=zaF) zaj zao ztS rfl (fun _=>rfl) (.trans (by kernel_rfl) h)
end Go.Proofs.YtifploedaacedaaGreatDoorE
namespace Go.Proofs.YtifploedaacedaaGreatDoorE
open Go Go.E Go.Proofs
def valRow (x:Val):List Value:=[.string (mkS x.nm),.int .i64 x.x,.int .i64 x.col]
def prRow (p:Pr):List Value:=[.string (mkS p.fd),.int .i64 p.col,.string (mkS p.v.nm),.int .i64 p.v.x,.int .i64 p.v.col]
abbrev Z3:List Value:=[.string ⟨#[]⟩,.int .i64 0,.int .i64 0]
theorem LineAt.sz {st:SS} {b i ln:Nat} {v:Value} {us:List (Nat×Tok)} {l:List Tok} (h:PAt st b v us i) (hl:LineAt us i ln l):i≤1099511627776:=by
 obtain ⟨t,r,rfl⟩:=hl.lin.ne
 have:=(List.getElem?_eq_some_iff.1 hl.head).1
 have:=h.sz
 omega
theorem zrM {n:Int} (h0:0≤n) (h1:n≤2147483647):IntKind.wrap .i64 (0-n)= -n:=by rw [wrap64 (by omega) (by omega)];omega
def ValR (b:Nat) (v:Value) (us:List (Nat×Tok)) (i:Nat) (st:SS) (r:Option (Value×SS)):Except Nat (Val×Nat)→Prop
 | .ok (x,n)=>∃ st',r=some (.tuple #[.agg (valRow x).toArray,.bool true],st')∧Mod [b] st st'∧PAt st' b v us (i+n)
 | .error o=>∃ w st',r=some (.tuple #[.agg (valRow w).toArray,.bool false],st')∧Mod [b] st st'∧PAt st' b v us (i+o)
theorem zqD [Sym] {st:SS} {b i ln:Nat} {v:Value} {us:List (Nat×Tok)} {l:List Tok} (h:PAt st b v us i) (hl:LineAt us i ln l):
  ValR b v us i st (cc 94 [ptr b 0] st) (zd8 l):=by
 obtain ⟨t,r,rfl⟩:=hl.lin.ne
 have hb:=h.blk.lt
 have a1:At (st.new (.cells Z3 0)) st.next Z3:=At.new h.ll Z3
 have x1:Ext st (st.new (.cells Z3 0)):=(Ext.refl st).new _
 obtain ⟨n,hn,c1⟩:=zdd (h.ext x1).has hl.head
 have hn':st.next+1≤n:=hn
 obtain ⟨s5,e5,a5,x5,_⟩:=ziC (st:=(st.new (.cells Z3 0)).adv n) (zlt h.ll (by simp;omega)) (r:=Z3) (row:=[.string ⟨#[]⟩,.int .i64 0,.int .i64 t.col]) rfl rfl
 have x05:Ext st s5:=x1.trans ((Ext.advR _ hn).trans x5)
 have b5:At s5 st.next Z3:=(a1.adv hn).ext x5
 obtain ⟨s6,c6,m6,p6⟩:=zk3 (h.ext x05) hl.head
 have a6:=a5.mod m6 (by simp;omega)
 have b6:=b5.mod m6 (by simp;omega)
 have M6:Mod [b] st s6:=(Mod.ofExt x05).then m6
 have k4:=(zdr (ln:=ln) (t:=t)).2.2.2
 have cN:∀ row:List Value,row.length=3→∀ d:List Value,d=row→True:=fun _ _ _ _=>trivial
 by_cases h2:t.kd=2
 ·rw [if_pos h2,zdt h2] at c6
  rw [if_pos h2] at p6
  obtain ⟨s9,e9,a9,m9,_⟩:=a6.sto (k:=1) (vs:=[.int .i64 t.nm]) (row':=valRow ⟨[],t.nm,t.col⟩) rfl rfl
  have b9:=b6.mod m9 (by simp;omega)
  obtain ⟨s11,f1,f2,f3,f4,_⟩:=zbe (n:=3) b9 rfl a9 rfl rfl
  rw [zgW,if_pos h2]
  refine ⟨s11,zbr _ st ?_,(M6.thenI m9 (.inl (by simp;omega))).thenI f4 (.inl (zlr _)),(p6.modI m9 (by simp;omega)).modI f4 hb⟩
  simp only [zbw,c1,zob,k4,e5,c6,zan,List.getElem?_toArray,zgs,zgz,zaa,zal,e9,zct,f1,f2,f3]
 ·rw [if_neg h2,zdf h2] at c6
  rw [if_neg h2] at p6
  obtain ⟨s9,e9,a9,m9,_⟩:=a6.sto (k:=1) (vs:=[.int .i64 0]) (row':=valRow ⟨[],0,t.col⟩) rfl rfl
  have b9:=b6.mod m9 (by simp;omega)
  have p9:=p6.modI m9 (by simp;omega)
  have M9:=M6.thenI m9 (.inl (by simp;omega))
  obtain ⟨s13,c13,m13,p13⟩:=zrL p9 hl.head
  have a13:=a9.mod m13 (by simp;omega)
  have b13:=b9.mod m13 (by simp;omega)
  have M13:=M9.then m13
  rw [zgW,if_neg h2]
  by_cases h1:t.kd=1
  ·rw [if_pos h1,zdt h1] at c13
   rw [if_pos h1] at p13
   rw [if_pos h1]
   have hl1:=hl.tail (by omega)
   obtain ⟨s,u,rfl⟩:=hl1.lin.ne
   obtain ⟨s16,e16,a16,m16,_⟩:=a13.sto (k:=0) (vs:=[.string (mkS t.tx)]) (row':=valRow ⟨t.tx,0,t.col⟩) rfl rfl
   have b16:=b13.mod m16 (by simp;omega)
   have p16:=p13.modI m16 (by simp;omega)
   have M16:=M13.thenI m16 (.inl (by simp;omega))
   obtain ⟨s20,c20,m20,p20⟩:=zk2 p16 hl1.head [43]
   have c20':cc 92 [ptr b 0,.string ⟨#[43]⟩] s16=some (.bool (zaE s [43]),s20):=c20
   have a20:=a16.mod m20 (by simp;omega)
   have b20:=b16.mod m20 (by simp;omega)
   have M20:=M16.then m20
   simp only
   by_cases hp:zaE s [43]=true
   ·rw [hp] at c20'
    rw [if_pos hp] at p20
    rw [if_pos hp]
    have hl2:=hl1.tail (by have:=zb4 hp;omega)
    obtain ⟨w,z,rfl⟩:=hl2.lin.ne
    obtain ⟨s22,c22,m22,p22⟩:=zk3 p20 hl2.head
    have a22:=a20.mod m22 (by simp;omega)
    have b22:=b20.mod m22 (by simp;omega)
    have M22:=M20.then m22
    simp only
    by_cases hw:w.kd=2
    ·rw [if_pos hw,zdt hw] at c22
     rw [if_pos hw] at p22
     rw [if_pos hw]
     obtain ⟨s25,e25,a25,m25,_⟩:=a22.sto (k:=1) (vs:=[.int .i64 w.nm]) (row':=valRow ⟨t.tx,w.nm,t.col⟩) rfl rfl
     have b25:=b22.mod m25 (by simp;omega)
     obtain ⟨s27,f1,f2,f3,f4,_⟩:=zbe (n:=3) b25 rfl a25 rfl rfl
     refine ⟨s27,zbr _ st ?_,(M22.thenI m25 (.inl (by simp;omega))).thenI f4 (.inl (zlr _)),(p22.modI m25 (by simp;omega)).modI f4 hb⟩
     simp only [zbw,c1,zob,k4,e5,c6,zan,List.getElem?_toArray,zgs,zgz,zaa,zal,e9,zcf,c13,zab,e16,znt,c20',zct,c22,e25,f1,f2,f3]
    ·rw [if_neg hw,zdf hw] at c22
     rw [if_neg hw] at p22
     rw [if_neg hw]
     obtain ⟨s25,e25,a25,m25,_⟩:=a22.sto (k:=1) (vs:=[.int .i64 0]) (row':=valRow ⟨t.tx,0,t.col⟩) rfl rfl
     have b25:=b22.mod m25 (by simp;omega)
     obtain ⟨s27,f1,f2,f3,f4,_⟩:=zbe (n:=3) b25 rfl a25 rfl rfl
     refine ⟨⟨t.tx,0,t.col⟩,s27,zbr _ st ?_,(M22.thenI m25 (.inl (by simp;omega))).thenI f4 (.inl (zlr _)),(p22.modI m25 (by simp;omega)).modI f4 hb⟩
     simp only [zbw,c1,zob,k4,e5,c6,zan,List.getElem?_toArray,zgs,zgz,zaa,zal,e9,zcf,c13,zab,e16,znt,c20',zct,c22,e25,f1,f2,f3]
   ·rw [if_neg hp] at p20
    have hp':zaE s [43]=false:=Bool.eq_false_iff.2 hp
    rw [hp'] at c20'
    rw [if_neg hp]
    obtain ⟨s29,c29,m29,p29⟩:=zk2 p20 hl1.head [45]
    have c29':cc 92 [ptr b 0,.string ⟨#[45]⟩] s20=some (.bool (zaE s [45]),s29):=c29
    have a29:=a20.mod m29 (by simp;omega)
    have b29:=b20.mod m29 (by simp;omega)
    have M29:=M20.then m29
    by_cases hm:zaE s [45]=true
    ·rw [hm] at c29'
     rw [if_pos hm] at p29
     rw [if_pos hm]
     have hl2:=hl1.tail (by have:=zb4 hm;omega)
     obtain ⟨w,z,rfl⟩:=hl2.lin.ne
     obtain ⟨s31,c31,m31,p31⟩:=zk3 p29 hl2.head
     have a31:=a29.mod m31 (by simp;omega)
     have b31:=b29.mod m31 (by simp;omega)
     have M31:=M29.then m31
     simp only
     by_cases hw:w.kd=2
     ·rw [if_pos hw,zdt hw] at c31
      rw [if_pos hw] at p31
      rw [if_pos hw]
      obtain ⟨s34,e34,a34,m34,_⟩:=a31.sto (k:=1) (vs:=[.int .i64 w.nm]) (row':=valRow ⟨t.tx,w.nm,t.col⟩) rfl rfl
      have b34:=b31.mod m34 (by simp;omega)
      have l34:s34.ld ((st.new (.cells Z3 0)).adv n).next 1=some (.int .i64 w.nm):=a34.ld
      obtain ⟨s37,e37,a37,m37,_⟩:=a34.sto (k:=1) (vs:=[.int .i64 (-w.nm)]) (row':=valRow ⟨t.tx, -w.nm,t.col⟩) rfl rfl
      have b37:=b34.mod m37 (by simp;omega)
      obtain ⟨s39,f1,f2,f3,f4,_⟩:=zbe (n:=3) b37 rfl a37 rfl rfl
      have hneg:=zrM hl2.tok.nm0 hl2.tok.nm1
      refine ⟨s39,zbr _ st ?_,((M31.thenI m34 (.inl (by simp;omega))).thenI m37 (.inl (by simp;omega))).thenI f4 (.inl (zlr _)),((p31.modI m34 (by simp;omega)).modI m37 (by simp;omega)).modI f4 hb⟩
      simp only [zbw,c1,zob,k4,e5,c6,zan,List.getElem?_toArray,zgs,zgz,zaa,zal,e9,zcf,c13,zab,e16,znt,c20',c29',zct,c31,e34,l34,hneg,e37,f1,f2,f3]
     ·rw [if_neg hw,zdf hw] at c31
      rw [if_neg hw] at p31
      rw [if_neg hw]
      obtain ⟨s34,e34,a34,m34,_⟩:=a31.sto (k:=1) (vs:=[.int .i64 0]) (row':=valRow ⟨t.tx,0,t.col⟩) rfl rfl
      have b34:=b31.mod m34 (by simp;omega)
      have l34:s34.ld ((st.new (.cells Z3 0)).adv n).next 1=some (.int .i64 0):=a34.ld
      obtain ⟨s37,e37,a37,m37,_⟩:=a34.sto (k:=1) (vs:=[.int .i64 0]) (row':=valRow ⟨t.tx,0,t.col⟩) rfl rfl
      have b37:=b34.mod m37 (by simp;omega)
      obtain ⟨s39,f1,f2,f3,f4,_⟩:=zbe (n:=3) b37 rfl a37 rfl rfl
      have hneg:IntKind.wrap .i64 (0-0)=0:=by decide
      refine ⟨⟨t.tx,0,t.col⟩,s39,zbr _ st ?_,((M31.thenI m34 (.inl (by simp;omega))).thenI m37 (.inl (by simp;omega))).thenI f4 (.inl (zlr _)),((p31.modI m34 (by simp;omega)).modI m37 (by simp;omega)).modI f4 hb⟩
      simp only [zbw,c1,zob,k4,e5,c6,zan,List.getElem?_toArray,zgs,zgz,zaa,zal,e9,zcf,c13,zab,e16,znt,c20',c29',zct,c31,e34,l34,hneg,e37,f1,f2,f3]
    ·rw [if_neg hm] at p29
     have hm':zaE s [45]=false:=Bool.eq_false_iff.2 hm
     rw [hm'] at c29'
     rw [if_neg hm]
     obtain ⟨s42,f1,f2,f3,f4,_⟩:=zbe (n:=3) b29 rfl a29 rfl rfl
     refine ⟨s42,zbr _ st ?_,M29.thenI f4 (.inl (zlr _)),p29.modI f4 hb⟩
     simp only [zbw,c1,zob,k4,e5,c6,zan,List.getElem?_toArray,zgs,zgz,zaa,zal,e9,zcf,c13,zab,e16,znt,c20',c29',f1,f2,f3]
  ·rw [if_neg h1,zdf h1] at c13
   rw [if_neg h1] at p13
   rw [if_neg h1]
   obtain ⟨s16,e16,a16,m16,_⟩:=a13.sto (k:=0) (vs:=[.string (mkS [])]) (row':=valRow ⟨[],0,t.col⟩) rfl rfl
   have b16:=b13.mod m16 (by simp;omega)
   obtain ⟨s18,f1,f2,f3,f4,_⟩:=zbe (n:=3) b16 rfl a16 rfl rfl
   refine ⟨⟨[],0,t.col⟩,s18,zbr _ st ?_,(M13.thenI m16 (.inl (by simp;omega))).thenI f4 (.inl (zlr _)),(p13.modI m16 (by simp;omega)).modI f4 hb⟩
   simp only [zbw,c1,zob,k4,e5,c6,zan,List.getElem?_toArray,zgs,zgz,zaa,zal,e9,zcf,c13,zab,e16,znf,zct,f1,f2,f3]
theorem zja (p:Pr):(prRow p).length=5:=rfl
theorem zsC (p:Val):(valRow p).length=3:=rfl
theorem ztU [Sym] (p:Pr) (f:List UInt8) (q:Nat) (st:SS) (hq:st.mem.get q=some (.cells [.string (mkS f)] 0)) (hlt:q<st.next):∃ n,st.next≤n∧cc 113 [.agg (prRow p).toArray,ptr q 0] st=some (.bool (decide (p.fd=f)),st.adv n):=by
 refine ⟨st.next+1,by omega,ztT _ _ st ?_⟩
 have l0:((st.ro st.next).new (.cells (prRow p) 0)).ld st.next 0=some (.string (mkS p.fd)):=by
  have hm:((st.ro st.next).new (.cells (prRow p) 0)).mem.get st.next=some (.cells (prRow p) 0):=SS.new_get (st:=st.ro st.next)
  rw [SS.ld_cells hm];rfl
 have l1:((st.ro st.next).new (.cells (prRow p) 0)).ld q 0=some (.string (mkS f)):=by
  rw [SS.ld_cells (c:=[.string (mkS f)]) (z:=0) (by rw [SS.new_old (by simp;omega)];exact hq)];rfl
 simp only [ztQ,zaC,SS.ro_next,l0,zob,zab,zac,l1,zdK]
 rfl
theorem ztV [Sym] (ps:List Pr) (hsz:ps.length≤1099511627776) (f:List UInt8) (q:Nat) (v:Value) (st0:SS) (hv:Rd st0 v (rowsF prRow ps) 5 ps.length) (hq:st0.mem.get q=some (.cells [.string (mkS f)] 0)) (hlt:q<st0.next):
  ∀ (k j:Nat) (st:SS),ps.length=k+j→Ext st0 st→∃ e vs st',zgZ 2 [v,.func (.func 113) #[] #[ptr q 0],.int .i64 ps.length,.int .i64 j] st=some (e,vs,st')∧Ext st0 st'∧
   ((e=0∧vs=[]∧f∉(ps.drop j).map (·.fd))∨(e=1∧f∈(ps.drop j).map (·.fd)∧∃ m:Nat,vs=[.int .i64 m])):=by
 intro k
 induction k with
 | zero=>
   intro j st hk he
   refine ⟨0,[],st,zhP v q _ _ st ?_,he,.inl ⟨rfl,rfl,?_⟩⟩
   ·have:¬ (j:Int)<(ps.length:Int):=by omega
    simp only [zic,zdf this,zcf]
   ·rw [List.drop_of_length_le (by omega)];simp
 | succ k ih=>
   intro j st hk he
   obtain ⟨p,hp⟩:∃ p,ps[j]?=some p:=⟨_,zge (by omega)⟩
   have hjl:(j:Int)<(ps.length:Int):=by omega
   obtain ⟨x,b1,b2,_⟩:=(hv.ext he).load (j:=(j:Int)) (by omega) hjl (zaW zja ps j p hp) rfl
   obtain ⟨n,hn,c1⟩:=ztU p f q st (he.get hlt hq) (zll hlt he.next)
   have b2':st.ldN x.1 x.2 5=some (.agg (prRow p).toArray):=b2
   have hd:=drop_cons hp
   have hw:=za4 (i:=j) (by omega)
   by_cases hf:p.fd=f
   ·refine ⟨1,[.int .i64 j],st.adv n,zhP v q _ _ st ?_,he.adv (by have:=he.next;omega),.inr ⟨rfl,?_,j,rfl⟩⟩
    ·rw [zdt hf] at c1
     simp only [zic,zdt hjl,zct,b1,zob,b2',c1,zal]
    ·rw [hd];simp [hf]
   ·obtain ⟨e,vs,st',d1,d2,d3⟩:=ih (j+1) (st.adv n) (by omega) (he.adv (by have:=he.next;omega))
    rw [zdf hf] at c1
    refine ⟨e,vs,st',zhP v q _ _ st ?_,d2,?_⟩
    ·simp only [zic,zdt hjl,zct,b1,zob,b2',c1,zal,zcf,hw]
     exact d1
    ·rw [hd]
     rcases d3 with ⟨e1,e2,e3⟩ | ⟨e1,e2,e3⟩
     ·exact .inl ⟨e1,e2,by simp only [List.map_cons,List.mem_cons,not_or];exact ⟨fun x=>hf x.symm,e3⟩⟩
     ·exact .inr ⟨e1,by simp only [List.map_cons,List.mem_cons];exact .inr e2,e3⟩
theorem zv9 [Sym] (ps:List Pr) (hsz:ps.length≤1099511627776) (f:List UInt8) (q:Nat) (v:Value) (st:SS) (hv:Rd st v (rowsF prRow ps) 5 ps.length) (hq:st.mem.get q=some (.cells [.string (mkS f)] 0)) (hlt:q<st.next):
  ∃ n,st.next≤n∧cc 112 [v,.func (.func 113) #[] #[ptr q 0]] st=some (.bool (decide (f∈ps.map (·.fd))),st.adv n):=by
 obtain ⟨e,vs,st',d1,d2,d3⟩:=ztV ps hsz f q v ((st.ro st.next).ro (st.ro st.next).next) hv hq hlt ps.length 0 ((st.ro st.next).ro (st.ro st.next).next) (by omega) (.refl _)
 have d1':zgZ 2 [v,.func (.func 113) #[] #[ptr q 0],.int .i64 ps.length,.int .i64 0] ((st.ro st.next).ro (st.ro st.next).next)=some (e,vs,st'):=d1
 have hlen:(lenV v).bind (asI .i64)=some (ps.length:Int):=by rw [hv.len];rfl
 rw [List.drop_zero] at d3
 have hnx:=d2.next
 simp at hnx
 refine ⟨st'.next,hnx,zrg _ _ st ?_⟩
 rcases d3 with ⟨rfl,rfl,e3⟩ | ⟨rfl,e2,m,rfl⟩
 ·have c:cc 133 [v,.func (.func 113) #[] #[ptr q 0]] (st.ro st.next)=some (.int .i64 (-1),(st.ro st.next).adv st'.next):=by
   refine zoj _ _ _ ?_
   have hb0:Nat.beq 0 0=true:=rfl
   simp only [zoQ,hlen,zob,d1',hb0,zct]
  have h0:¬ (0:Int)≤ -1:=by omega
  rw [zdf e3]
  simp only [zns,c,zob,zaa,zdf h0]
  rfl
 ·have c:cc 133 [v,.func (.func 113) #[] #[ptr q 0]] (st.ro st.next)=some (.int .i64 m,(st.ro st.next).adv st'.next):=by
   refine zoj _ _ _ ?_
   have hb0:Nat.beq 1 0=false:=rfl
   simp only [zoQ,hlen,zob,d1',hb0,zcf,zgz,zaa]
  have h0:(0:Int)≤(m:Int):=by omega
  rw [zdt e2]
  simp only [zns,c,zob,zaa,zdt h0]
  rfl
end Go.Proofs.YtifploedaacedaaGreatDoorE
namespace Go.Proofs.YtifploedaacedaaGreatDoorE
open Go Go.E Go.Proofs
theorem PAt.keepB {S:List Nat} {st st':SS} {b i B:Nat} {v:Value} {us:List (Nat×Tok)} (h:PAt st b v us i) (k:Keep B S st st') (hB:b<B) (hS:∀ j,j∈S→b<j):PAt st' b v us i:=by
 refine ⟨h.blk.keepB k hB (fun hm=>by have:=hS b hm;omega),?_,h.vb,h.sz,k.ll h.ll⟩
 obtain ⟨h1,h2⟩:=h.rd
 refine ⟨h1,h2.imp id ?_⟩
 rintro ⟨j,cap,e,⟨z',hm⟩,hj⟩
 have hjb:=h.vb j 0 _ cap e
 exact ⟨j,cap,e,⟨z',(k.keep j (by omega) (fun hx=>by have:=hS j hx;omega)).trans hm⟩,zll hj k.next⟩
def PairR (B b lb:Nat) (w0 w1 w2 w3 pv v:Value) (us:List (Nat×Tok)) (i:Nat) (ps:List Pr) (st:SS) (r:Option (Value×SS)):Except Nat (Pr×Nat)→Prop
 | .ok (p,n)=>∃ st' pv',r=some (.bool true,st')∧Keep B [b,lb] st st'∧PAt st' b v us (i+n)∧At st' lb [w0,w1,w2,w3,pv']∧Own B st' pv' (rowsF prRow (ps++[p])) 5 (ps++[p]).length
 | .error o=>∃ st',r=some (.bool false,st')∧Keep B [b,lb] st st'∧PAt st' b v us (i+o)∧At st' lb [w0,w1,w2,w3,pv]∧Own B st' pv (rowsF prRow ps) 5 ps.length
theorem zwa [Sym] {st:SS} {b i ln lb B:Nat} {v w0 w1 w2 w3 pv:Value} {us:List (Nat×Tok)} {l:List Tok} {ps:List Pr} (h:PAt st b v us i) (hl:LineAt us i ln l)
  (ha:At st lb [w0,w1,w2,w3,pv]) (hbl:b<lb) (hlB:lb<B) (hB:B≤st.next) (hps:ps.length≤1099511627776/8) (ho:Own B st pv (rowsF prRow ps) 5 ps.length):
  PairR B b lb w0 w1 w2 w3 pv v us i ps st (cc 95 [ptr b 0,ptr lb 0] st) (pairT (ps.map (·.fd)) l):=by
 obtain ⟨t,r,rfl⟩:=hl.lin.ne
 have hisz:=LineAt.sz h hl
 have hb:=h.blk.lt
 have hlim:st.lim≤B:=by have:=ha.2.2;omega
 obtain ⟨n1,hn1,c1⟩:=zdd h.has hl.head
 obtain ⟨s4,e4,a4,x4,_⟩:=ziC (st:=st.adv n1) (zlt h.ll hn1) (r:=[.string ⟨#[]⟩,.int .i64 0,.string ⟨#[]⟩,.int .i64 0,.int .i64 0]) (row:=prRow ⟨[],t.col,⟨[],0,0⟩⟩) rfl rfl
 have x04:Ext st s4:=(Ext.advR st hn1).trans x4
 obtain ⟨n2,hn2,c2⟩:=zdd (h.ext x04).has hl.head
 obtain ⟨s8,e8,a8,x8,_⟩:=ziC (st:=s4.adv n2) (zlt (x04.ll h.ll) hn2) (r:=[.string ⟨#[]⟩]) (row:=[.string (mkS t.tx)]) rfl rfl
 have x08:Ext st s8:=x04.trans ((Ext.advR s4 hn2).trans x8)
 have a48:=(a4.adv hn2).ext x8
 obtain ⟨n3,hn3,c3⟩:=zdd (h.ext x08).has hl.head
 have x03:Ext st (s8.adv n3):=x08.trans (.advR s8 hn3)
 have p3:=h.ext x03
 have la:=ha.ext x03
 have l4:(s8.adv n3).ld lb 4=some pv:=la.ld
 have k0:=(zdr (ln:=ln) (t:=t)).1
 have k1:=(zdr (ln:=ln) (t:=t)).2.1
 have k4:=(zdr (ln:=ln) (t:=t)).2.2.2
 have e4':((st.adv n1).new (.cells [.string ⟨#[]⟩,.int .i64 0,.string ⟨#[]⟩,.int .i64 0,.int .i64 0] 0)).st (st.adv n1).next 0 [.string ⟨#[]⟩,.int .i64 t.col,.string ⟨#[]⟩,.int .i64 0,.int .i64 0]=some s4:=e4
 rw [zib]
 by_cases h1:t.kd=1
 case neg=>
  have h1':¬ (t.kd:Int)=1:=by omega
  rw [if_neg (fun x=>h1 x.1)]
  refine ⟨s8.adv n3,zcj _ _ st ?_,x03.keepB hB,p3,la,ho.ext x03⟩
  simp only [zci,c1,zob,k4,e4',c2,k1,e8,c3,k0,zdf h1',znf,zct]
 have h1':(t.kd:Int)=1:=by omega
 obtain ⟨m,hm,c5⟩:=zv9 ps (by omega) t.tx (s4.adv n2).next pv (s8.adv n3) (ho.ext x03).rd (a8.adv hn3).mem (a8.adv hn3).lt
 have x05:Ext st ((s8.adv n3).adv m):=x03.trans (.advR _ hm)
 by_cases hk:t.tx∈ps.map (·.fd)
 ·rw [if_neg (fun x=>x.2 hk)]
  rw [zdt hk] at c5
  refine ⟨(s8.adv n3).adv m,zcj _ _ st ?_,x05.keepB hB,h.ext x05,ha.ext x05,ho.ext x05⟩
  simp only [zci,c1,zob,k4,e4',c2,k1,e8,c3,k0,zdt h1',znt,zcf,zb3,zac,Nat.zero_add,l4,c5,zal,zct]
 rw [if_pos ⟨h1,hk⟩]
 rw [zdf hk] at c5
 have hl1:=hl.tail (by omega)
 obtain ⟨e,u,rfl⟩:=hl1.lin.ne
 have q8:=(a8.adv hn3).adv hm
 have l16:((s8.adv n3).adv m).ld (s4.adv n2).next 0=some (.string (mkS t.tx)):=q8.ld
 obtain ⟨s17,e17,a17,m17,_⟩:=((a48.adv hn3).adv hm).sto (k:=0) (vs:=[.string (mkS t.tx)]) (row':=prRow ⟨t.tx,t.col,⟨[],0,0⟩⟩) rfl rfl
 have hj1:B≤(st.adv n1).next:=zlt hB hn1
 have p17:=(h.ext x05).modI m17 (by omega)
 have la17:=(ha.ext x05).mod m17 (by simp;omega)
 have o17:=(ho.ext x05)
 have K17:Keep B [b,lb] st s17:=(x05.keepB hB).thenI m17 (zlt hB x05.next) (.inl hj1)
 have o17:Own B s17 pv (rowsF prRow ps) 5 ps.length:=by
  refine (ho.ext x05).mod m17 (fun j k l' q hv hm'=>?_)
  have hj:j=(st.adv n1).next:=by simpa using hm'
  obtain ⟨_,⟨ev,_⟩ | ⟨i',ev,_,_,_,hi'⟩⟩:=ho
  ·rw [ev] at hv;cases hv
  ·rw [ev] at hv;cases hv
   have:st.next≤(st.adv n1).next:=hn1
   omega
 have l17:s17.ld b 1=some (.int .i64 i):=p17.blk.ld
 obtain ⟨s24,e24,p24,m24,_⟩:=p17.move (i+1)
 have la24:=la17.mod m24 (by simp;omega)
 have a24:=a17.mod m24 (by simp;omega)
 have nx17:B≤s17.next:=zlt hB K17.next
 have K24:=K17.thenI m24 nx17 (.inr (by simp))
 have o24:=o17.modLt m24 (by simp;omega)
 have hw:=za4 hisz
 obtain ⟨s25,c25,m25,p25⟩:=zk2 p24 hl1.head [61]
 have c25':cc 92 [ptr b 0,.string ⟨#[61]⟩] s24=some (.bool (zaE e [61]),s25):=c25
 have la25:=la24.mod m25 (by simp;omega)
 have a25:=a24.mod m25 (by simp;omega)
 have nx24:B≤s24.next:=zlt hB K24.next
 have K25:=K24.thenI m25 nx24 (.inr (by simp))
 have o25:=o24.modLt m25 (by simp;omega)
 simp only
 by_cases he:zaE e [61]=true
 case neg=>
  have he':zaE e [61]=false:=Bool.eq_false_iff.2 he
  rw [he'] at c25'
  rw [if_neg he] at p25
  rw [if_neg he]
  refine ⟨s25,zcj _ _ st ?_,K25,p25,la25,o25⟩
  simp only [zci,c1,zob,k4,e4',c2,k1,e8,c3,k0,zdt h1',znt,zcf,zb3,zac,Nat.zero_add,l4,c5,zal,l16,zab,e17,l17,zaa,hw,e24,c25',znf,zct]
 rw [he] at c25'
 rw [if_pos he] at p25
 rw [if_pos he]
 have hl2:=hl1.tail (by have:=zb4 he;omega)
 have nx25:B≤s25.next:=zlt hB K25.next
 have hval:=zqD p25 hl2
 cases hx:zd8 u with
 | error o=>
   rw [hx] at hval
   obtain ⟨w,s27,c27,m27,p27⟩:=hval
   have la27:=la25.mod m27 (by simp;omega)
   have a27:=a25.mod m27 (by simp;omega)
   have K27:=K25.thenI m27 nx25 (.inr (by simp))
   have o27:=o25.modLt m27 (by simp;omega)
   obtain ⟨s30,e30,a30,m30,_⟩:=a27.stV (k:=2) (n:=3) (zaC (valRow w)) rfl rfl (row':=prRow ⟨t.tx,t.col,w⟩) rfl
   have la30:=la27.mod m30 (by simp;omega)
   have nx27:B≤s27.next:=zlt hB K27.next
   have K30:=K27.thenI m30 nx27 (.inl hj1)
   have p30:=p27.modI m30 (by omega)
   have o30:Own B s30 pv (rowsF prRow ps) 5 ps.length:=by
    refine o27.mod m30 (fun j k l' q hv hm'=>?_)
    have hj:j=(st.adv n1).next:=by simpa using hm'
    obtain ⟨_,⟨ev,_⟩ | ⟨i',ev,_,_,_,hi'⟩⟩:=ho
    ·rw [ev] at hv;cases hv
    ·rw [ev] at hv;cases hv
     have:st.next≤(st.adv n1).next:=hn1
     omega
   refine ⟨s30,zcj _ _ st ?_,K30,by have e':i+1+1+o=i+(2+o):=by omega
                                    rw [← e'];exact p30,la30,o30⟩
   simp only [zci,c1,zob,k4,e4',c2,k1,e8,c3,k0,zdt h1',znt,zcf,zb3,zac,Nat.zero_add,l4,c5,zal,l16,zab,e17,l17,zaa,hw,e24,c25',c27,zan,List.getElem?_toArray,zgs,zgz,e30,znf,zct]
 | ok y=>
   obtain ⟨x,n⟩:=y
   rw [hx] at hval
   obtain ⟨s27,c27,m27,p27⟩:=hval
   have la27:=la25.mod m27 (by simp;omega)
   have a27:=a25.mod m27 (by simp;omega)
   have K27:=K25.thenI m27 nx25 (.inr (by simp))
   have o27:=o25.modLt m27 (by simp;omega)
   obtain ⟨s30,e30,a30,m30,_⟩:=a27.stV (k:=2) (n:=3) (zaC (valRow x)) rfl rfl (row':=prRow ⟨t.tx,t.col,x⟩) rfl
   have la30:=la27.mod m30 (by simp;omega)
   have nx27:B≤s27.next:=zlt hB K27.next
   have K30:=K27.thenI m30 nx27 (.inl hj1)
   have p30:=p27.modI m30 (by omega)
   have o30:Own B s30 pv (rowsF prRow ps) 5 ps.length:=by
    refine o27.mod m30 (fun j k l' q hv hm'=>?_)
    have hj:j=(st.adv n1).next:=by simpa using hm'
    obtain ⟨_,⟨ev,_⟩ | ⟨i',ev,_,_,_,hi'⟩⟩:=ho
    ·rw [ev] at hv;cases hv
    ·rw [ev] at hv;cases hv
     have:st.next≤(st.adv n1).next:=hn1
     omega
   have l33:s30.ld lb 4=some pv:=la30.ld
   have l34:s30.ldN (st.adv n1).next 0 5=some (.agg (prRow ⟨t.tx,t.col,x⟩).toArray):=a30.ldN rfl
   have hc35:zaB (.agg (prRow ⟨t.tx,t.col,x⟩).toArray) 5=some (prRow ⟨t.tx,t.col,x⟩):=zia rfl
   have nx30:B≤s30.next:=zlt hB K30.next
   obtain ⟨pv',s37,g1,g2,g3⟩:=o30.pushK nx30 (by rw [K30.lim];exact hlim) (row:=prRow ⟨t.tx,t.col,x⟩) rfl (by omega) rfl (bt:=56) (by omega) (by omega)
   have la37:=la30.keepB (g3 []) hlB (by simp)
   have p37:=p30.keepB (g3 []) (by omega) (by simp)
   have K37:=K30.then (g3 _)
   obtain ⟨s40,e40,a40,m40,_⟩:=la37.stV (k:=4) (n:=1) g2.cell.1 rfl (by simp [g2.cell.2]) (row':=[w0,w1,w2,w3,pv']) rfl
   have nx37:B≤s37.next:=zlt hB K37.next
   have K40:=K37.thenI m40 nx37 (.inr (by simp))
   have p40:=p37.modI m40 hbl
   have o40:=g2.modLt m40 (by simp;omega)
   refine ⟨s40,pv',zcj _ _ st ?_,K40,by have e':i+1+1+n=i+(2+n):=by omega
                                        rw [← e'];exact p40,a40,?_⟩
   ·simp only [zci,c1,zob,k4,e4',c2,k1,e8,c3,k0,zdt h1',znt,zcf,zb3,zac,Nat.zero_add,l4,c5,zal,l16,zab,e17,l17,zaa,hw,e24,c25',c27,zan,List.getElem?_toArray,zgs,zgz,e30,l33,l34,hc35,List.append_nil,g1,e40]
   ·rw [zbz,zcg,List.length_append];exact o40
end Go.Proofs.YtifploedaacedaaGreatDoorE
namespace Go.Proofs.YtifploedaacedaaGreatDoorE
open Go Go.E Go.Proofs
theorem LineAt.go {us:List (Nat×Tok)} {i ln n:Nat} {l:List Tok} (h:LineAt us i ln l) (hn:Lin (l.drop n)):LineAt us (i+n) ln (l.drop n):=by
 have hlt:n<l.length:=by
  obtain ⟨t,r,e⟩:=hn.ne
  have:=congrArg List.length e
  simp at this
  omega
 refine ⟨?_,hn,fun t ht=>h.ok t (List.mem_of_mem_drop ht)⟩
 obtain ⟨rest,hr⟩:=h.drop
 refine ⟨rest,?_⟩
 rw [← List.drop_drop,hr,List.drop_append_of_le_length (by simp;omega),List.map_drop]
theorem zkd {S:List Nat} {B:Nat} {st st':SS} {pv:Value} {c:List Value} {z n j:Nat} (ho:Own B st pv c z n) (m:Mod [j] st st') (hj:j<B∨st.next≤j):Own B st' pv c z n:=by
 refine ho.mod m (fun k k' l' q hv hm'=>?_)
 have hk:k=j:=by simpa using hm'
 obtain ⟨_,⟨ev,_⟩ | ⟨i',ev,_,_,hbi,hi'⟩⟩:=ho
 ·rw [ev] at hv;cases hv
 ·rw [ev] at hv;cases hv;omega
def zqE (B b lb j2:Nat) (w0 w1 w2 w3 v:Value) (us:List (Nat×Tok)) (i e:Nat) (ps:List Pr) (st:SS) (r:Option (Nat×List Value×SS)):Except Nat (List Pr)→Prop
 | .ok qs=>∃ st' pv',r=some (0,[ptr j2 0,ptr lb 0],st')∧Keep B [b,lb] st st'∧PAt st' b v us e∧At st' lb [w0,w1,w2,w3,pv']∧Own B st' pv' (rowsF prRow (ps++qs)) 5 (ps++qs).length
 | .error o=>∃ st' row,r=some (1,[ptr j2 0,.bool false],st')∧Keep B [b,lb,j2] st st'∧PAt st' b v us (i+o)∧At st' j2 row∧row.length=5∧row.all one=true
theorem zsD [Sym] {ln lb B b j2:Nat} {v w0 w1 w2 w3:Value} {us:List (Nat×Tok)} (hbj:b<j2) (hjl:j2<lb) (hlB:lb<B) (hw:one w0=true∧one w1=true∧one w2=true∧one w3=true):∀ (k i:Nat) (l:List Tok) (ps:List Pr) (pv:Value) (st:SS),l.length≤k→ps.length+k≤1099511627776/8→PAt st b v us i→LineAt us i ln l→
  At st lb [w0,w1,w2,w3,pv]→(∃ r2,At st j2 r2∧r2.length=5)→B≤st.next→Own B st pv (rowsF prRow ps) 5 ps.length→
  zqE B b lb j2 w0 w1 w2 w3 v us i (i+(l.length-1)) ps st (zaM 17 [ptr b 0,ptr j2 0,ptr lb 0] st) (zbq k (ps.map (·.fd)) l):=by
 intro k
 induction k with
 | zero=>
   intro i l ps pv st hk _ h hl
   obtain ⟨t,r,rfl⟩:=hl.lin.ne
   simp at hk
 | succ k ih=>
   intro i l ps pv st hk hps h hl ha hj2 hB ho
   obtain ⟨t,r,rfl⟩:=hl.lin.ne
   obtain ⟨n1,hn1,c1⟩:=zdd h.has hl.head
   have k0:=(zdr (ln:=ln) (t:=t)).1
   have x1:Ext st (st.adv n1):=.advR st hn1
   unfold zbq
   by_cases h0:t.kd=0
   ·rw [if_pos h0]
    have hr:=hl.lin.last h0
    subst hr
    have h0':(t.kd:Int)=0:=by omega
    refine ⟨st.adv n1,pv,zdl _ _ _ st ?_,x1.keepB hB,by simpa using h.ext x1,ha.ext x1,by simpa using ho.ext x1⟩
    simp only [zcR,c1,zob,k0,zdt h0',znt,zcf]
   ·rw [if_neg h0]
    have h0':¬ (t.kd:Int)=0:=by omega
    have hp:=zwa (h.ext x1) hl (ha.ext x1) (by omega) hlB (zlt hB hn1) (by omega) (ho.ext x1)
    have hlin:=zi8 (seen:=ps.map (·.fd)) hl.lin
    cases hx:pairT (ps.map (·.fd)) (t::r) with
    | error o=>
      rw [hx] at hp
      obtain ⟨s3,c3,K3,p3,a3,o3⟩:=hp
      have K3':Keep B [b,lb] st s3:=(x1.keepB hB).then K3
      obtain ⟨r2,a2,l2⟩:=hj2
      have a23:=a2.keepB K3' (by omega) (by simp;omega)
      obtain ⟨s8,f1,f2,f3,f4,f5⟩:=zbe (n:=5) a23 l2 a3 rfl (by simp [hw,o3.cell.2])
      have nx3:B≤s3.next:=zlt hB K3'.next
      refine ⟨s8,[w0,w1,w2,w3,pv],zdl _ _ _ st ?_,(K3'.mono (zlr _) (fun j hj _=>by simp at hj ⊢;omega)).thenI f4 nx3 (.inr (by simp)),p3.modI f4 hbj,f5,rfl,by simp [hw,o3.cell.2]⟩
      simp only [zcR,c1,zob,k0,zdf h0',znf,zct,c3,zal,zac,f1,f2]
    | ok y=>
      obtain ⟨p,n⟩:=y
      rw [hx] at hp hlin
      obtain ⟨s3,pv',c3,K3,p3,a3,o3⟩:=hp
      simp only at hlin
      have K3':Keep B [b,lb] st s3:=(x1.keepB hB).then K3
      have hnl:n<(t::r).length:=by
       obtain ⟨t',r',e⟩:=hlin.1.ne
       have:=congrArg List.length e
       simp at this ⊢
       omega
      have hj23:∃ r2,At s3 j2 r2∧r2.length=5:=by
       obtain ⟨r2,a2,l2⟩:=hj2
       exact ⟨r2,a2.keepB K3' (by omega) (by simp;omega),l2⟩
      have next:=ih (i+n) ((t::r).drop n) (ps++[p]) pv' s3 (by rw [List.length_drop];omega) (by simp;omega) p3 (hl.go hlin.1) a3 hj23 (zlt hB K3'.next) o3
      have hend:i+n+(((t::r).drop n).length-1)=i+((t::r).length-1):=by rw [List.length_drop];omega
      rw [hend,List.map_append] at next
      have step:∀ y,zaM 17 [ptr b 0,ptr j2 0,ptr lb 0] s3=some y→zaM 17 [ptr b 0,ptr j2 0,ptr lb 0] st=some y:=fun y hy=>by
       refine zdl _ _ _ st ?_
       simp only [zcR,c1,zob,k0,zdf h0',znf,zct,c3,zal,znt,zcf]
       exact hy
      simp only
      have next':zqE B b lb j2 w0 w1 w2 w3 v us (i+n) (i+((t::r).length-1)) (ps++[p]) s3 (zaM 17 [ptr b 0,ptr j2 0,ptr lb 0] s3) (zbq k (ps.map (·.fd)++[p.fd]) ((t::r).drop n)):=next
      cases hz:zbq k (ps.map (·.fd)++[p.fd]) ((t::r).drop n) with
      | error o=>
        rw [hz] at next'
        obtain ⟨st',row,d1,d2,d3,d4,d5,d6⟩:=next'
        exact ⟨st',row,step _ d1,(K3'.mono (zlr _) (fun j hj _=>by simp at hj ⊢;omega)).then d2,by rw [Nat.add_assoc] at d3;exact d3,d4,d5,d6⟩
      | ok qs=>
        rw [hz] at next'
        obtain ⟨st',pv2,d1,d2,d3,d4,d5⟩:=next'
        exact ⟨st',pv2,step _ d1,K3'.then d2,d3,d4,by simpa using d5⟩
def ArgsR (B b lb j2:Nat) (w0 w1 w2 w4 v:Value) (us:List (Nat×Tok)) (i e:Nat) (vs:List Val) (st:SS) (r:Option (Nat×List Value×SS)):Except Nat (List Val)→Prop
 | .ok qs=>∃ st' av',r=some (0,[ptr j2 0,ptr lb 0],st')∧Keep B [b,lb] st st'∧PAt st' b v us e∧At st' lb [w0,w1,w2,av',w4]∧Own B st' av' (rowsF valRow (vs++qs)) 3 (vs++qs).length
 | .error o=>∃ st' row,r=some (1,[ptr j2 0,.bool false],st')∧Keep B [b,lb,j2] st st'∧PAt st' b v us (i+o)∧At st' j2 row∧row.length=5∧row.all one=true
theorem ztW [Sym] {ln lb B b j2:Nat} {v w0 w1 w2 w4:Value} {us:List (Nat×Tok)} (hbj:b<j2) (hjl:j2<lb) (hlB:lb<B) (hw:one w0=true∧one w1=true∧one w2=true∧one w4=true):∀ (k i:Nat) (l:List Tok) (vs:List Val) (av:Value) (st:SS),l.length≤k→vs.length+k≤1099511627776/8→PAt st b v us i→LineAt us i ln l→
  At st lb [w0,w1,w2,av,w4]→(∃ r2,At st j2 r2∧r2.length=5)→B≤st.next→Own B st av (rowsF valRow vs) 3 vs.length→
  ArgsR B b lb j2 w0 w1 w2 w4 v us i (i+(l.length-1)) vs st (zaM 11 [ptr b 0,ptr j2 0,ptr lb 0] st) (zdj k l):=by
 intro k
 induction k with
 | zero=>
   intro i l vs av st hk _ h hl
   obtain ⟨t,r,rfl⟩:=hl.lin.ne
   simp at hk
 | succ k ih=>
   intro i l vs av st hk hvs h hl ha hj2 hB ho
   obtain ⟨t,r,rfl⟩:=hl.lin.ne
   obtain ⟨n1,hn1,c1⟩:=zdd h.has hl.head
   have k0:=(zdr (ln:=ln) (t:=t)).1
   have x1:Ext st (st.adv n1):=.advR st hn1
   have hlim:st.lim≤B:=by have:=ha.2.2;omega
   unfold zdj
   by_cases h0:t.kd=0
   ·rw [if_pos h0]
    have hr:=hl.lin.last h0
    subst hr
    have h0':(t.kd:Int)=0:=by omega
    refine ⟨st.adv n1,av,zdk _ _ _ st ?_,x1.keepB hB,by simpa using h.ext x1,ha.ext x1,by simpa using ho.ext x1⟩
    simp only [zcQ,c1,zob,k0,zdt h0',znt,zcf]
   ·rw [if_neg h0]
    have h0':¬ (t.kd:Int)=0:=by omega
    have hp:=zqD (h.ext x1) hl
    have hlin:=zi7 hl.lin
    have nx1:B≤(st.adv n1).next:=zlt hB hn1
    cases hx:zd8 (t::r) with
    | error o=>
      rw [hx] at hp
      obtain ⟨w,s3,c3,m3,p3⟩:=hp
      have K3:Keep B [b,lb] st s3:=(x1.keepB hB).thenI m3 nx1 (.inr (by simp))
      have nx3:B≤s3.next:=zlt hB K3.next
      obtain ⟨s7,e7,a7,x7,_⟩:=zaO (st:=s3) p3.ll (r:=Z3) (zaC (valRow w)) (n:=3) rfl rfl rfl
      have K7:=K3.thenX x7 nx3
      have nx7:B≤s7.next:=zlt hB K7.next
      obtain ⟨r2,a2,l2⟩:=hj2
      have a27:=a2.keepB K7 (by omega) (by simp;omega)
      have la7:At s7 lb [w0,w1,w2,av,w4]:=(((ha.ext x1).mod m3 (by simp;omega))).ext x7
      have o7:=((ho.ext x1).modLt m3 (by simp;omega)).ext x7
      obtain ⟨s8,f1,f2,f3,f4,f5⟩:=zbe (n:=5) a27 l2 la7 rfl (by simp [hw,o7.cell.2])
      refine ⟨s8,[w0,w1,w2,av,w4],zdk _ _ _ st ?_,(K7.mono (zlr _) (fun j hj _=>by simp at hj ⊢;omega)).thenI f4 nx7 (.inr (by simp)),(p3.ext x7).modI f4 hbj,f5,rfl,by simp [hw,o7.cell.2]⟩
      simp only [zcQ,c1,zob,k0,zdf h0',znf,zct,c3,zan,List.getElem?_toArray,zgs,zgz,zal,e7,zac,f1,f2]
    | ok y=>
      obtain ⟨x,n⟩:=y
      rw [hx] at hp hlin
      obtain ⟨s3,c3,m3,p3⟩:=hp
      simp only at hlin
      have K3:Keep B [b,lb] st s3:=(x1.keepB hB).thenI m3 nx1 (.inr (by simp))
      have nx3:B≤s3.next:=zlt hB K3.next
      obtain ⟨s7,e7,a7,x7,_⟩:=zaO (st:=s3) p3.ll (r:=Z3) (zaC (valRow x)) (n:=3) rfl rfl rfl
      have K7:=K3.thenX x7 nx3
      have nx7:B≤s7.next:=zlt hB K7.next
      have la7:At s7 lb [w0,w1,w2,av,w4]:=(((ha.ext x1).mod m3 (by simp;omega))).ext x7
      have o7:=((ho.ext x1).modLt m3 (by simp;omega)).ext x7
      have l13:s7.ld lb 3=some av:=la7.ld
      have l14:s7.ldN s3.next 0 3=some (.agg (valRow x).toArray):=a7.ldN rfl
      have hc15:zaB (.agg (valRow x).toArray) 3=some (valRow x):=zia rfl
      obtain ⟨av',s17,g1,g2,g3⟩:=o7.pushK nx7 (by rw [K7.lim];exact hlim) (row:=valRow x) rfl (by omega) rfl (bt:=32) (by omega) (by omega)
      have la17:=la7.keepB (g3 []) hlB (by simp)
      have p17:=(p3.ext x7).keepB (g3 []) (by omega) (by simp)
      have K17:=K7.then (g3 _)
      obtain ⟨s19,e19,a19,m19,_⟩:=la17.stV (k:=3) (n:=1) g2.cell.1 rfl (by simp [g2.cell.2]) (row':=[w0,w1,w2,av',w4]) rfl
      have nx17:B≤s17.next:=zlt hB K17.next
      have K19:=K17.thenI m19 nx17 (.inr (by simp))
      have p19:=p17.modI m19 (by omega)
      have o19:=g2.modLt m19 (by simp;omega)
      have o19':Own B s19 av' (rowsF valRow (vs++[x])) 3 (vs++[x]).length:=by rw [zbz,zcg,List.length_append];exact o19
      have hnl:n<(t::r).length:=by
       obtain ⟨t',r',e⟩:=hlin.1.ne
       have:=congrArg List.length e
       simp at this ⊢
       omega
      have hj23:∃ r2,At s19 j2 r2∧r2.length=5:=by
       obtain ⟨r2,a2,l2⟩:=hj2
       exact ⟨r2,a2.keepB K19 (by omega) (by simp;omega),l2⟩
      have next:=ih (i+n) ((t::r).drop n) (vs++[x]) av' s19 (by rw [List.length_drop];omega) (by simp;omega) p19 (hl.go hlin.1) a19 hj23 (zlt hB K19.next) o19'
      have hend:i+n+(((t::r).drop n).length-1)=i+((t::r).length-1):=by rw [List.length_drop];omega
      rw [hend] at next
      have step:∀ y,zaM 11 [ptr b 0,ptr j2 0,ptr lb 0] s19=some y→zaM 11 [ptr b 0,ptr j2 0,ptr lb 0] st=some y:=fun y hy=>by
       refine zdk _ _ _ st ?_
       simp only [zcQ,c1,zob,k0,zdf h0',znf,zct,c3,zan,List.getElem?_toArray,zgs,zgz,zal,znt,zcf,e7,zac,l13,l14,hc15,List.append_nil,g1,e19]
       exact hy
      simp only
      cases hz:zdj k ((t::r).drop n) with
      | error o=>
        rw [hz] at next
        obtain ⟨st',row,d1,d2,d3,d4,d5,d6⟩:=next
        exact ⟨st',row,step _ d1,(K19.mono (zlr _) (fun j hj _=>by simp at hj ⊢;omega)).then d2,by rw [Nat.add_assoc] at d3;exact d3,d4,d5,d6⟩
      | ok qs=>
        rw [hz] at next
        obtain ⟨st',pv2,d1,d2,d3,d4,d5⟩:=next
        exact ⟨st',pv2,step _ d1,K19.then d2,d3,d4,by simpa using d5⟩
noncomputable def zhr (cf:zam) (lf:zad) (p':Value) (j2 lb:Nat) (s:SS):Option (Value×SS):=
 (cf 92 [p',.string ⟨#[46]⟩] s).bind fun a=>
  ((some a.1).bind asB).bind fun b=>
  cond b (
   (cf 93 [p'] a.2).bind fun c=>
   ((zan c.1 0).bind asS).bind fun d=>
   ((zan c.1 1).bind asB).bind fun e=>
   (c.2.st lb 2 [.string d]).bind fun f=>
   cond (!e) (
    (f.ldN lb 0 5).bind fun g=>
    (f.stV j2 0 5 g).bind fun h=>
    (h.rdN j2 0 5).bind fun i=>
    some (.tuple #[i,.bool false],h)) (
    (lf 11 [p',ptr j2 0,ptr lb 0] f).bind fun j=>
    cond (Nat.beq j.1 0) (
     (j.2.1[0]?).bind fun k=>
     (j.2.1[1]?).bind fun l=>
     (addr? l).bind fun m=>
     (j.2.2.ldN m.1 m.2 5).bind fun n=>
     (addr? k).bind fun o=>
     (j.2.2.stV o.1 o.2 5 n).bind fun p=>
     (addr? k).bind fun q=>
     (p.rdN q.1 q.2 5).bind fun r=>
     some (.tuple #[r,.bool true],p)) (
     (j.2.1[0]?).bind fun t=>
     ((j.2.1[1]?).bind asB).bind fun u=>
     (addr? t).bind fun v=>
     (j.2.2.rdN v.1 v.2 5).bind fun w=>
     some (.tuple #[w,.bool u],j.2.2)))) (
   (lf 17 [p',ptr j2 0,ptr lb 0] a.2).bind fun x=>
   cond (Nat.beq x.1 0) (
    (x.2.1[0]?).bind fun y=>
    (x.2.1[1]?).bind fun z=>
    (addr? z).bind fun A=>
    (x.2.2.ldN A.1 A.2 5).bind fun B=>
    (addr? y).bind fun C=>
    (x.2.2.stV C.1 C.2 5 B).bind fun D=>
    (addr? y).bind fun E=>
    (D.rdN E.1 E.2 5).bind fun F=>
    some (.tuple #[F,.bool true],D)) (
    (x.2.1[0]?).bind fun G=>
    ((x.2.1[1]?).bind asB).bind fun H=>
    (addr? G).bind fun I=>
    (x.2.2.rdN I.1 I.2 5).bind fun J=>
    some (.tuple #[J,.bool H],x.2.2)))
def zms (ln:Nat) (x:PLine) (av pv:Value):Value:=.agg #[.int .i64 ln,.string (mkS x.lab),.string (mkS x.dir),av,pv]
def ziJ (B b:Nat) (v:Value) (us:List (Nat×Tok)) (i e ln:Nat) (st:SS) (r:Option (Value×SS)):Except Nat PLine→Prop
 | .ok x=>∃ st' av pv,r=some (.tuple #[zms ln x av pv,.bool true],st')∧Keep B [b] st st'∧PAt st' b v us e∧Own B st' av (rowsF valRow x.args) 3 x.args.length∧Own B st' pv (rowsF prRow x.prs) 5 x.prs.length
 | .error o=>∃ (st':SS) (row:List Value),r=some (.tuple #[.agg row.toArray,.bool false],st')∧Keep B [b] st st'∧PAt st' b v us (i+o)∧row.length=5∧row.all one=true
theorem zrN [Sym] {ln lb b j2 i B:Nat} {v:Value} {us:List (Nat×Tok)} {l:List Tok} {lab:List UInt8} {s:SS} (hBj:B≤j2) (hbB:b<B) (hjl:j2<lb) (hls:lb<s.next) (hsz:l.length≤1099511627776/8) (h:PAt s b v us i) (hl:LineAt us i ln l)
  (ha:At s lb [.int .i64 ln,.string (mkS lab),.string ⟨#[]⟩,.slice none 0 0,.slice none 0 0]) (hj2:∃ r2,At s j2 r2∧r2.length=5):
  ziJ B b v us i (i+(l.length-1)) ln s (zhr cc zaM (ptr b 0) j2 lb s) (zc5 lab l):=by
 obtain ⟨t,r,rfl⟩:=hl.lin.ne
 have hb0:Nat.beq 0 0=true:=rfl
 have hb1:Nat.beq 1 0=false:=rfl
 have hBs:B≤s.next:=by omega
 have hbj:b<j2:=by omega
 obtain ⟨s23,c23,m23,p23⟩:=zk2 h hl.head [46]
 have c23':cc 92 [ptr b 0,.string ⟨#[46]⟩] s=some (.bool (zaE t [46]),s23):=c23
 have a23:=ha.mod m23 (by simp;omega)
 have hj23:∃ r2,At s23 j2 r2∧r2.length=5:=by obtain ⟨r2,a,l2⟩:=hj2;exact ⟨r2,a.mod m23 (by simp;omega),l2⟩
 have K23:Keep B [b] s s23:=m23.keepB hBs
 have nx23:=m23.next
 rw [zeC]
 by_cases hs:zaE t [46]=true
 ·rw [hs] at c23'
  rw [if_pos hs] at p23
  rw [if_pos hs]
  have hl1:=hl.tail (by have:=zb4 hs;omega)
  obtain ⟨d,u,rfl⟩:=hl1.lin.ne
  obtain ⟨s25,c25,m25,p25⟩:=zrL p23 hl1.head
  have a25:=a23.mod m25 (by simp;omega)
  have hj25:∃ r2,At s25 j2 r2∧r2.length=5:=by obtain ⟨r2,a,l2⟩:=hj23;exact ⟨r2,a.mod m25 (by simp;omega),l2⟩
  have K25:=K23.thenM m25 (by omega)
  have nx25:=m25.next
  simp only
  by_cases hd:d.kd=1
  ·rw [if_pos hd,zdt hd] at c25
   rw [if_pos hd] at p25
   rw [if_pos hd]
   have hl2:=hl1.tail (by omega)
   obtain ⟨s28,e28,a28,m28,n28⟩:=a25.sto (k:=2) (vs:=[.string (mkS d.tx)]) (row':=[.int .i64 ln,.string (mkS lab),.string (mkS d.tx),.slice none 0 0,.slice none 0 0]) rfl rfl
   have hj28:∃ r2,At s28 j2 r2∧r2.length=5:=by obtain ⟨r2,a,l2⟩:=hj25;exact ⟨r2,a.mod m28 (by simp;omega),l2⟩
   have p28:=p25.modI m28 (by omega)
   have K28:=K25.thenI m28 (by omega) (.inl (by omega))
   have hloop:=ztW (B:=s28.next) hbj hjl (by omega) ⟨rfl,rfl,rfl,rfl⟩ u.length (i+1+1) u [] (.slice none 0 0) s28 (zlr _) (by simp at hsz ⊢;omega) p28 hl2 a28 hj28 (zlr _) (Own.nil _ _ _)
   cases hx:zdj u.length u with
   | error o=>
     rw [hx] at hloop
     obtain ⟨s32,row,d1,d2,d3,d4,d5,d6⟩:=hloop
     have hr:=d4.rdN d5
     refine ⟨s32,row,?_,(K28.then (d2.mono (by omega) (fun j hj hlt=>by simp at hj ⊢;omega))),(by rw [show i+(2+o)=i+1+1+o by omega];exact d3),d5,d6⟩
     simp only [zhr,c23',zob,zal,zct,c25,zan,List.getElem?_toArray,zgs,zgz,zab,e28,znt,zcf,d1,hb1,zac,hr]
   | ok vs=>
     rw [hx] at hloop
     obtain ⟨s32,av',d1,d2,d3,d4,d5⟩:=hloop
     obtain ⟨r2,a2,l2⟩:=hj28
     have a232:=a2.keepB d2 (by have:=a28.lt;omega) (by simp;omega)
     obtain ⟨s38,f1,f2,f3,f4,f5⟩:=zbe (n:=5) a232 l2 d4 rfl (by simp only [List.all_cons,List.all_nil,d5.cell.2];rfl)
     have K32:Keep B [b] s s32:=K28.then (d2.mono (by omega) (fun j hj hlt=>by simp at hj ⊢;omega))
     have nx32:=d2.next
     refine ⟨s38,av',.slice none 0 0,?_,K32.thenI f4 (by omega) (.inl hBj),?_,((zkd (S:=[]) d5 f4 (.inl (by have:=a28.lt;omega))).low (by omega)),Own.nil _ _ _⟩
     ·simp only [zhr,c23',zob,zal,zct,c25,zan,List.getElem?_toArray,zgs,zgz,zab,e28,znt,zcf,d1,hb0,zac,f1,f2,f3]
      rfl
     ·have e':i+1+1+(u.length-1)=i+((t::d::u).length-1):=by
       obtain ⟨z1,z2,rfl⟩:=hl2.lin.ne
       simp;omega
      rw [← e'];exact d3.modI f4 hbj
  ·rw [if_neg hd,zdf hd] at c25
   rw [if_neg hd] at p25
   rw [if_neg hd]
   obtain ⟨s28,e28,a28,m28,n28⟩:=a25.sto (k:=2) (vs:=[.string (mkS [])]) (row':=[.int .i64 ln,.string (mkS lab),.string (mkS []),.slice none 0 0,.slice none 0 0]) rfl rfl
   obtain ⟨r2,a2,l2⟩:=hj25
   have a228:=a2.mod m28 (by simp;omega)
   obtain ⟨s30,f1,f2,f3,f4,f5⟩:=zbe (n:=5) a228 l2 a28 rfl rfl
   have K28:=K25.thenI m28 (by omega) (.inl (by omega))
   refine ⟨s30,[.int .i64 ln,.string (mkS lab),.string (mkS []),.slice none 0 0,.slice none 0 0],?_,K28.thenI f4 (by omega) (.inl hBj),(p25.modI m28 (by omega)).modI f4 hbj,rfl,rfl⟩
   simp only [zhr,c23',zob,zal,zct,c25,zan,List.getElem?_toArray,zgs,zgz,zab,e28,znf,f1,f2,f3]
 ·have hs':zaE t [46]=false:=Bool.eq_false_iff.2 hs
  rw [hs'] at c23'
  rw [if_neg hs] at p23
  rw [if_neg hs]
  have hloop:=zsD (B:=s23.next) hbj hjl (by omega) ⟨rfl,rfl,rfl,rfl⟩ (t::r).length i (t::r) [] (.slice none 0 0) s23 (zlr _) (by simp at hsz ⊢;omega) p23 hl a23 hj23 (zlr _) (Own.nil _ _ _)
  have hloop':zqE s23.next b lb j2 (.int .i64 ln) (.string (mkS lab)) (.string ⟨#[]⟩) (.slice none 0 0) v us i (i+((t::r).length-1)) [] s23 (zaM 17 [ptr b 0,ptr j2 0,ptr lb 0] s23) (zbq (t::r).length [] (t::r)):=hloop
  cases hx:zbq (t::r).length [] (t::r) with
  | error o=>
    rw [hx] at hloop'
    obtain ⟨s32,row,d1,d2,d3,d4,d5,d6⟩:=hloop'
    have hr:=d4.rdN d5
    refine ⟨s32,row,?_,(K23.then (d2.mono (by omega) (fun j hj hlt=>by simp at hj ⊢;omega))),d3,d5,d6⟩
    simp only [zhr,c23',zob,zal,zcf,d1,hb1,zac,hr,zgs,zgz]
  | ok ps=>
    rw [hx] at hloop'
    obtain ⟨s32,pv',d1,d2,d3,d4,d5⟩:=hloop'
    obtain ⟨r2,a2,l2⟩:=hj23
    have a232:=a2.keepB d2 (by have:=a23.lt;omega) (by simp;omega)
    obtain ⟨s38,f1,f2,f3,f4,f5⟩:=zbe (n:=5) a232 l2 d4 rfl (by simp only [List.all_cons,List.all_nil,d5.cell.2];rfl)
    have K32:Keep B [b] s s32:=K23.then (d2.mono (by omega) (fun j hj hlt=>by simp at hj ⊢;omega))
    have nx32:=d2.next
    refine ⟨s38,.slice none 0 0,pv',?_,K32.thenI f4 (by omega) (.inl hBj),d3.modI f4 hbj,Own.nil _ _ _,((zkd (S:=[]) d5 f4 (.inl (by have:=a23.lt;omega))).low (by omega))⟩
    simp only [zhr,c23',zob,zal,zcf,d1,hb0,zct,zac,f1,f2,f3,zgs,zgz]
    rfl
end Go.Proofs.YtifploedaacedaaGreatDoorE
namespace Go.Proofs.YtifploedaacedaaGreatDoorE
open Go Go.E Go.Proofs
theorem ziJ.to {B b i e ln:Nat} {v:Value} {us:List (Nat×Tok)} {st s:SS} {r r':Option (Value×SS)} {x:Except Nat PLine} (h:ziJ B b v us i e ln s r x) (K:Keep B [b] st s) (hr:∀ y,r=some y→r'=some y):ziJ B b v us i e ln st r' x:=by
 cases x with
 | ok x=>obtain ⟨st',av,pv,a,k,c⟩:=h;exact ⟨st',av,pv,hr _ a,K.then k,c⟩
 | error o=>obtain ⟨st',row,a,k,c⟩:=h;exact ⟨st',row,hr _ a,K.then k,c⟩
def offE (d:Nat):Except Nat PLine→Except Nat PLine
 | .error o=>.error (d+o)
 | .ok x=>.ok x
theorem ziJ.off {B b i d e ln:Nat} {v:Value} {us:List (Nat×Tok)} {s:SS} {r:Option (Value×SS)} {x:Except Nat PLine} (h:ziJ B b v us (i+d) e ln s r x):ziJ B b v us i e ln s r (offE d x):=by
 cases x with
 | ok x=>exact h
 | error o=>obtain ⟨st',row,a,k,c,dd⟩:=h;exact ⟨st',row,a,k,by rw [← Nat.add_assoc];exact c,dd⟩
abbrev L5:List Value:=[.int .i64 0,.string ⟨#[]⟩,.string ⟨#[]⟩,.slice none 0 0,.slice none 0 0]
theorem zl5 (t:Tok):zaE t [58]=(decide ((t.kd:Int)=3)&&decide (t.tx=[58])):=by
 unfold zaE
 congr 1
 by_cases h:t.kd=3
 ·have:(t.kd:Int)=3:=by omega
  rw [zdt h,zdt this]
 ·have:¬ (t.kd:Int)=3:=by omega
  rw [zdf h,zdf this]
theorem zu4 [Sym] {st:SS} {ln b i:Nat} {v:Value} {us:List (Nat×Tok)} {l:List Tok} (hsz:l.length≤1099511627776/8) (h:PAt st b v us i) (hl:LineAt us i ln l):
  ziJ st.next b v us i (i+(l.length-1)) ln st (cc 68 [ptr b 0] st) (readT l):=by
 obtain ⟨t,r,rfl⟩:=hl.lin.ne
 have hisz:=LineAt.sz h hl
 have hb:=h.blk.lt
 have a1:At (st.new (.cells L5 0)) st.next L5:=At.new h.ll L5
 have x1:Ext st (st.new (.cells L5 0)):=(Ext.refl st).new _
 obtain ⟨n1,hn1,c1⟩:=zdd (h.ext x1).has hl.head
 have hn1':st.next+1≤n1:=hn1
 obtain ⟨s5,e5,a5,x5,_⟩:=ziC (st:=(st.new (.cells L5 0)).adv n1) (zlt h.ll (by simp;omega)) (r:=L5) (row:=[.int .i64 ln,.string (mkS []),.string ⟨#[]⟩,.slice none 0 0,.slice none 0 0]) rfl rfl
 have e5':(((st.new (.cells L5 0)).adv n1).new (.cells L5 0)).st ((st.new (.cells L5 0)).adv n1).next 0 [.int .i64 ln,.string ⟨#[]⟩,.string ⟨#[]⟩,.slice none 0 0,.slice none 0 0]=some s5:=e5
 have x05:Ext st s5:=x1.trans ((Ext.advR _ hn1).trans x5)
 have b5:=(a1.adv hn1).ext x5
 have p5:=h.ext x05
 have k3:=(zdr (ln:=ln) (t:=t)).2.2.1
 have k0:=(zdr (ln:=ln) (t:=t)).1
 have k1:=(zdr (ln:=ln) (t:=t)).2.1
 obtain ⟨u,hu,hread⟩:∃ u,us[if t.kd=0 then i else i+1]?=some (ln,u)∧((t.kd=1∧zaE u [58]=true∧∃ r',r=u::r')∨(¬ (t.kd=1∧zaE u [58]=true)∧readT (t::r)=zc5 [] (t::r))):=by
  by_cases h0:t.kd=0
  ·have hr:=hl.lin.last h0
   subst hr
   exact ⟨t,by rw [if_pos h0];exact hl.head,.inr ⟨fun x=>by omega,rfl⟩⟩
  ·have hl1:=hl.tail h0
   obtain ⟨u,r',rfl⟩:=hl1.lin.ne
   refine ⟨u,by rw [if_neg h0];exact hl1.head,?_⟩
   by_cases hc:t.kd=1∧zaE u [58]=true
   ·exact .inl ⟨hc.1,hc.2,r',rfl⟩
   ·exact .inr ⟨hc,by rw [zfh,if_neg hc]⟩
 obtain ⟨n2,hn2,c2⟩:=zv8 p5.has hl.head hu
 obtain ⟨s8,e8,a8,x8,_⟩:=zaO (st:=s5.adv n2) (zlt (x05.ll h.ll) hn2) (r:=Z5) (zaC (zbn ln u)) (n:=5) rfl rfl rfl
 have x08:Ext st s8:=x05.trans ((Ext.advR _ hn2).trans x8)
 obtain ⟨n3,hn3,c3⟩:=zdd (h.ext x08).has hl.head
 have x58:Ext s5 (s8.adv n3):=((Ext.advR _ hn2).trans x8).trans (.advR _ hn3)
 have x09:Ext st (s8.adv n3):=x05.trans x58
 have p9:=h.ext x09
 have a9:=a5.ext x58
 have b9:=b5.ext x58
 have q9:=a8.ext (Ext.advR _ hn3)
 have l0:(s8.adv n3).ld (s5.adv n2).next 0=some (.int .i64 u.kd):=q9.ld
 have l1:(s8.adv n3).ld (s5.adv n2).next 1=some (.string (mkS u.tx)):=q9.ld
 have hlb:st.next<((st.new (.cells L5 0)).adv n1).next:=by simp;omega
 rcases hread with ⟨hk,hc,r',rfl⟩ | ⟨hc,hread⟩
 ·
  have hoff:readT (t::u::r')=offE 2 (zc5 t.tx r'):=by
   rw [zfh,if_pos ⟨hk,hc⟩]
   cases zc5 t.tx r'<;>rfl
  rw [hoff]
  rw [zl5,zae,decide_eq_true_eq,decide_eq_true_eq] at hc
  have hk':(t.kd:Int)=1:=by omega
  have hl2:=(hl.tail (by omega)).tail (by omega)
  obtain ⟨n4,hn4,c4⟩:=zdd p9.has hl.head
  have x010:Ext st ((s8.adv n3).adv n4):=x09.trans (.advR _ hn4)
  obtain ⟨s15,e15,a15,m15,_⟩:=(a9.adv hn4).sto (k:=1) (vs:=[.string (mkS t.tx)]) (row':=[.int .i64 ln,.string (mkS t.tx),.string ⟨#[]⟩,.slice none 0 0,.slice none 0 0]) rfl rfl
  have p15:=(h.ext x010).modI m15 (by omega)
  have b15:=(b9.adv hn4).mod m15 (by simp;omega)
  have M15:Mod [b] st s15:=(Mod.ofExt x010).thenI m15 (.inl (by omega))
  have l18:s15.ld b 1=some (.int .i64 i):=p15.blk.ld
  have hw:IntKind.wrap .i64 ((i:Int)+2)=((i+2:Nat):Int):=zn8 hisz (k:=2) (by omega)
  obtain ⟨s22,e22,p22,m22,n22⟩:=p15.move (i+2)
  have a22:=a15.mod m22 (by simp;omega)
  have b22:=b15.mod m22 (by simp;omega)
  have M22:=M15.then m22
  have ht:=zrN (B:=st.next) (zlr _) hb hlb a22.lt (by simp at hsz ⊢;omega) p22 hl2 a22 ⟨_,b22,rfl⟩
  have hend:i+2+(r'.length-1)=i+((t::u::r').length-1):=by
   obtain ⟨z1,z2,rfl⟩:=hl2.lin.ne
   simp;omega
  rw [hend] at ht
  refine ziJ.to (ziJ.off (d:=2) ht) (M22.keepB (zlr _)) fun y hy=>?_
  refine zgx _ st ?_
  have hq:eqT (mkS u.tx) ⟨#[58]⟩=true:=by
   have:eqT (mkS u.tx) (mkS [58])=decide (u.tx=[58]):=zdK _ _
   rw [zdt hc.2] at this;exact this
  simp only [zcY,c1,zob,k3,e5',c2,e8,c3,k0,zdt hk',zct,l0,l1,zaa,zab,zdt hc.1,hq,c4,k1,e15,zb3,zac,Nat.zero_add,l18,hw,e22]
  exact hy
 ·rw [hread]
  have ht:=zrN (B:=st.next) (s:=s8.adv n3) (zlr _) hb hlb a9.lt hsz p9 hl a9 ⟨_,b9,rfl⟩
  refine ziJ.to ht (x09.keepB (zlr _)) fun y hy=>?_
  refine zgx _ st ?_
  by_cases hk:t.kd=1
  ·have hk':(t.kd:Int)=1:=by omega
   by_cases h3:(u.kd:Int)=3
   ·have hx:¬ u.tx=[58]:=fun e=>hc ⟨hk,by rw [zl5,zdt h3,zdt e];rfl⟩
    have hq:eqT (mkS u.tx) ⟨#[58]⟩=false:=by
     have:eqT (mkS u.tx) (mkS [58])=decide (u.tx=[58]):=zdK _ _
     rw [zdf hx] at this;exact this
    simp only [zcY,c1,zob,k3,e5',c2,e8,c3,k0,zdt hk',zct,l0,l1,zaa,zab,zdt h3,hq,zcf]
    exact hy
   ·simp only [zcY,c1,zob,k3,e5',c2,e8,c3,k0,zdt hk',zct,l0,zaa,zdf h3,zcf]
    exact hy
  ·have hk':¬ (t.kd:Int)=1:=by omega
   simp only [zcY,c1,zob,k3,e5',c2,e8,c3,k0,zdf hk',zcf]
   exact hy
theorem ztX {lab:List UInt8} {l:List Tok} {x:PLine} (h:zc5 lab l=.ok x):x.lab=lab:=by
 cases l with
 | nil=>cases h
 | cons t r=>
   rw [zeC] at h
   repeat' (split at h)
   all_goals first
    | (cases h;done)
    | (cases h;rfl)
theorem zu5 {k:Nat} {seen:List (List UInt8)} {t:Tok} {r:List Tok} {ps:List Pr} (hk:t.kd≠0) (h:zbq (k+1) seen (t::r)=.ok ps):ps≠[]:=by
 unfold zbq at h
 rw [if_neg hk] at h
 cases hx:pairT seen (t::r) with
 | error o=>rw [hx] at h;cases h
 | ok y=>
   obtain ⟨p,n⟩:=y
   rw [hx] at h
   simp only at h
   cases hz:zbq k (seen++[p.fd]) ((t::r).drop n) with
   | error o=>rw [hz] at h;cases h
   | ok qs=>rw [hz] at h;cases h;simp
theorem ztY {l:List Tok} {x:PLine} (hl:Lin l) (hok:∀ t∈l,TokOk t) (h:readT l=.ok x):(x.lab≠[]∨x.dir≠[]∨x.prs≠[])↔1<l.length:=by
 obtain ⟨t,r,rfl⟩:=hl.ne
 cases r with
 | nil=>
   have h0:t.kd=0:=by
    rcases hl with h | h
    ·exact h.1
    ·exact h.2.elim
   have hs:zaE t [46]=false:=by simp [zaE,h0]
   have h':zc5 [] [t]=.ok x:=h
   rw [zeC,hs] at h'
   have e:zbq [t].length [] [t]=.ok []:=by
    show zbq 1 [] [t]=_
    unfold zbq
    rw [if_pos h0]
   rw [e] at h'
   cases h'
   simp
 | cons s r=>
   have hk:t.kd≠0:=by
    rcases hl with h | h
    ·exact absurd h.2 (by simp)
    ·exact h.1
   refine ⟨fun _=>by simp,fun _=>?_⟩
   rw [zfh] at h
   split at h
   ·rename_i hc
    cases hx:zc5 t.tx r with
    | error o=>rw [hx] at h;cases h
    | ok y=>
      rw [hx] at h;cases h
      left
      rw [ztX hx]
      exact (hok t (List.mem_cons_self ..)).tx hc.1
   ·rw [zeC] at h
    split at h
    ·rename_i hs
     have hl1:=hl.tail hk
     simp only at h
     split at h
     ·rename_i hd
      split at h
      ·cases h
      ·cases h
       exact .inr (.inl ((hok s (by simp)).tx hd))
     ·cases h
    ·split at h
     ·cases h
     ·rename_i ps hp
      cases h
      exact .inr (.inr (zu5 hk hp))
end Go.Proofs.YtifploedaacedaaGreatDoorE
namespace Go.Proofs.YtifploedaacedaaGreatDoorE
open Go Go.E Go.Proofs
def RdB (st:SS) (lo hi:Nat) (v:Value) (c:List Value) (z n:Nat):Prop:=Rd st v c z n∧∀ j k l q,v=.slice (some ⟨j,k,none⟩) l q→lo<j∧j<hi
theorem Own.rdB {B lo hi:Nat} {st:SS} {v:Value} {c:List Value} {z n:Nat} (h:Own B st v c z n) (hlo:lo<B) (hhi:st.next≤hi):RdB st lo hi v c z n:=by
 refine ⟨h.rd,fun j k l q hv=>?_⟩
 obtain ⟨_,⟨ev,_⟩ | ⟨i',ev,_,_,hbi,hi'⟩⟩:=h
 ·rw [ev] at hv;cases hv
 ·rw [ev] at hv;cases hv;omega
theorem RdB.go {st st':SS} {lo hi hi':Nat} {v:Value} {c:List Value} {z n:Nat} (h:RdB st lo hi v c z n) (hh:hi≤hi') (hn:st.next≤st'.next) (hk:∀ j,j<st.next→lo<j→j<hi→st'.mem.get j=st.mem.get j):RdB st' lo hi' v c z n:=by
 obtain ⟨⟨h1,h2⟩,h3⟩:=h
 refine ⟨⟨h1,h2.imp id ?_⟩,fun j k l q hv=>by have:=h3 j k l q hv;omega⟩
 rintro ⟨i,cap,e,⟨z',hm⟩,hi⟩
 have:=h3 i 0 n cap e
 exact ⟨i,cap,e,⟨z',(hk i hi this.1 this.2).trans hm⟩,zll hi hn⟩
abbrev Item:=PLine×Value×Value
def lnRow (x:Item):List Value:=[.int .i64 x.1.ln,.string (mkS x.1.lab),.string (mkS x.1.dir),x.2.1,x.2.2]
theorem ztZ (x:Item):(lnRow x).length=5:=rfl
def ItB (st:SS) (lo hi:Nat) (x:Item):Prop:=RdB st lo hi x.2.1 (rowsF valRow x.1.args) 3 x.1.args.length∧RdB st lo hi x.2.2 (rowsF prRow x.1.prs) 5 x.1.prs.length
structure Coll (st:SS) (lo m B:Nat) (v:Value) (its:List Item):Prop where
 own:Own B st v (rowsF lnRow its) 5 its.length
 blk:∀ j k l q,v=.slice (some ⟨j,k,none⟩) l q→m≤j
 it:∀ x∈its,ItB st lo m x
 lo:lo<B
 le:m≤st.next
def zke (st:SS) (v:Value) (xs:List PLine):Prop:=∃ its:List Item,its.map (·.1)=xs∧Rd st v (rowsF lnRow its) 5 its.length∧
 ∀ x∈its,Rd st x.2.1 (rowsF valRow x.1.args) 3 x.1.args.length∧Rd st x.2.2 (rowsF prRow x.1.prs) 5 x.1.prs.length
theorem zke.ext {st st':SS} {v:Value} {xs:List PLine} (h:zke st v xs) (x:Ext st st'):zke st' v xs:=by
 obtain ⟨its,a,b,c⟩:=h
 exact ⟨its,a,b.ext x,fun y hy=>⟨(c y hy).1.ext x,(c y hy).2.ext x⟩⟩
theorem Coll.lines {st:SS} {lo m B:Nat} {v:Value} {its:List Item} (h:Coll st lo m B v its):zke st v (its.map (·.1)):=⟨its,rfl,h.own.rd,fun x hx=>⟨(h.it x hx).1.1,(h.it x hx).2.1⟩⟩
theorem Coll.keep {st st':SS} {lo m B:Nat} {v:Value} {its:List Item} (h:Coll st lo m B v its) (k:Keep st.next [lo] st st'):Coll st' lo m B v its:=by
 refine ⟨?_,h.blk,fun x hx=>?_,h.lo,zlt h.le k.next⟩
 ·obtain ⟨h1,h2⟩:=h.own
  refine ⟨h1,h2.imp id ?_⟩
  rintro ⟨i,e,h0,hm,hb,hi⟩
  exact ⟨i,e,h0,(k.keep i hi (by have:=h.lo;simp;omega)).trans hm,hb,zll hi k.next⟩
 ·obtain ⟨h1,h2⟩:=h.it x hx
  exact ⟨h1.go (zlr _) k.next fun j hj h1 h2=>k.keep j hj (by simp;omega),h2.go (zlr _) k.next fun j hj h1 h2=>k.keep j hj (by simp;omega)⟩
theorem Coll.ext {st st':SS} {lo m B:Nat} {v:Value} {its:List Item} (h:Coll st lo m B v its) (x:Ext st st'):Coll st' lo m B v its:=h.keep (x.keepB (zlr _))
theorem Coll.push {st:SS} {lo m B:Nat} {v:Value} {its:List Item} (h:Coll st lo m B v its) (x:Item) (hB:B≤st.next) (hl:st.lim≤B) (hn:its.length≤1099511627776/8)
  (ho1:one x.2.1=true) (ho2:one x.2.2=true) (h1:RdB st lo st.next x.2.1 (rowsF valRow x.1.args) 3 x.1.args.length) (h2:RdB st lo st.next x.2.2 (rowsF prRow x.1.prs) 5 x.1.prs.length)
  (hne1:∀ j k l q k' l' q',v=.slice (some ⟨j,k,none⟩) l q→x.2.1≠.slice (some ⟨j,k',none⟩) l' q') (hne2:∀ j k l q k' l' q',v=.slice (some ⟨j,k,none⟩) l q→x.2.2≠.slice (some ⟨j,k',none⟩) l' q'):
  ∃ v' st',(st.new (.cells (lnRow x) 5)).app 5 88 v (.slice (some ⟨st.next,0,none⟩) 1 1)=some (v',st')∧Coll st' lo st.next B v' (its++[x])∧∀ S,Keep B S st st':=by
 obtain ⟨k,st',g1,gk,g2,g3,g4,g5⟩:=h.own.pushN hB hl (ztZ x) (by omega) (by simp only [lnRow,List.all_cons,List.all_nil,ho1,ho2];rfl) (bt:=88) (by omega) (by omega)
 have kept:∀ j,j<st.next→(∀ k l q,v≠.slice (some ⟨j,k,none⟩) l q)→st'.mem.get j=st.mem.get j:=fun j hj hv=>g5 j hj fun q=>hv 0 q q
 refine ⟨_,st',g1,⟨?_,?_,?_,h.lo,g4⟩,fun S=>⟨g4,g3,fun j hj _=>kept j (by omega) fun k l q hv=>?_⟩⟩
 ·rw [zbz,zcg,List.length_append];exact g2
 ·intro j k' l q hv;cases hv;exact gk
 ·intro y hy
  rcases List.mem_append.1 hy with hy | hy
  ·obtain ⟨i1,i2⟩:=h.it y hy
   exact ⟨i1.go h.le g4 fun j hj _ hjm=>kept j hj fun k l q hv=>by have:=h.blk j k l q hv;omega,i2.go h.le g4 fun j hj _ hjm=>kept j hj fun k l q hv=>by have:=h.blk j k l q hv;omega⟩
  ·have:y=x:=by simpa using hy
   subst this
   refine ⟨?_,?_⟩
   ·obtain ⟨⟨c1,c2⟩,c3⟩:=h1
    refine ⟨⟨c1,c2.imp id ?_⟩,c3⟩
    rintro ⟨i,cap,e,⟨z',hm⟩,hi⟩
    exact ⟨i,cap,e,⟨z',(kept i hi fun k l q hv=>hne1 i k l q 0 _ cap hv e).trans hm⟩,zll hi g4⟩
   ·obtain ⟨⟨c1,c2⟩,c3⟩:=h2
    refine ⟨⟨c1,c2.imp id ?_⟩,c3⟩
    rintro ⟨i,cap,e,⟨z',hm⟩,hi⟩
    exact ⟨i,cap,e,⟨z',(kept i hi fun k l q hv=>hne2 i k l q 0 _ cap hv e).trans hm⟩,zll hi g4⟩
 ·obtain ⟨_,⟨ev,_⟩ | ⟨i',ev,_,_,hbi,hi'⟩⟩:=h.own
  ·rw [ev] at hv;cases hv
  ·rw [ev] at hv;cases hv;omega
theorem zt0 (k:Nat) (ts:List Tok) (r:List (List Tok)):flat k (ts::r)=ts.map (fun t=>(k+1,t))++flat (k+1) r:=rfl
theorem zt1 {us:List (Nat×Tok)} {i k:Nat} {ts:List Tok} {r:List (List Tok)} (h:us.drop i=flat k (ts::r)):us.drop (i+ts.length)=flat (k+1) r:=by
 rw [← List.drop_drop,h,zt0]
 rw [List.drop_append_of_le_length (by simp),List.drop_of_length_le (by simp),List.nil_append]
def zok (B lo b0:Nat) (st:SS) (its:List Item) (r:Option (Nat×List Value×SS)):Except (Nat×Nat) (List PLine)→Prop
 | .ok xs=>∃ v st' m its',r=some (0,[ptr b0 0,v],st')∧Keep B [lo] st st'∧its'.map (·.1)=its.map (·.1)++xs∧Coll st' lo m B v its'
 | .error e=>∃ st',r=some (1,[.slice none 0 0,ptr b0 0,.int .i64 4],st')∧Keep B [lo,b0] st st'∧At st' b0 [.int .i64 e.1,.int .i64 e.2]
theorem zok.to {B lo b0:Nat} {st s:SS} {its its':List Item} {x:PLine} {c:Bool} {r r':Option (Nat×List Value×SS)} {y:Except (Nat×Nat) (List PLine)} (h:zok B lo b0 s its' r y) (K:Keep B [lo] st s) (hr:∀ z,r=some z→r'=some z) (hi:its'.map (·.1)=its.map (·.1)++(if c=true then [x] else [])):
  zok B lo b0 st its r' (match y with
   | .error e=>.error e
   | .ok xs=>.ok (if c=true then x::xs else xs)):=by
 cases y with
 | error e=>
   obtain ⟨st',a,k,d⟩:=h
   exact ⟨st',hr _ a,(K.mono (zlr _) (fun j hj _=>by simp at hj ⊢;omega)).then k,d⟩
 | ok xs=>
   obtain ⟨v,st',m,its2,a,k,d,e⟩:=h
   refine ⟨v,st',m,its2,hr _ a,K.then k,?_,e⟩
   rw [d,hi]
   cases c<;>simp
theorem zsE [Sym] {lo b0 B:Nat} {v:Value} {us:List (Nat×Tok)} (hb0:b0<lo) (hloB:lo<B) (hus:us.length≤1099511627776/64):∀ (tss:List (List Tok)) (i k m:Nat) (out:Value) (its:List Item) (st:SS),us.drop i=flat k tss→i≤us.length→(∀ ts∈tss,Lin ts∧∀ t∈ts,TokOk t)→
  PAt st lo v us i→Coll st lo m B out its→(∃ r,At st b0 r∧r.length=2)→B≤st.next→its.length≤i→
  zok B lo b0 st its (zb5 6 [ptr b0 0,v,ptr lo 0,out] st) (zbO k tss):=by
 intro tss
 induction tss with
 | nil=>
   intro i k m out its st hd hi hok h hc ha hB hn
   have hil:i=us.length:=by
    have:us.drop i=[]:=hd
    rw [List.drop_eq_nil_iff] at this;omega
   have hlv:(lenV v).bind (asI .i64)=some (us.length:Int):=by rw [h.rd.len];rfl
   have l1:st.ld lo 1=some (.int .i64 i):=h.blk.ld
   have hlt:¬ (i:Int)<(us.length:Int):=by omega
   refine ⟨out,st,m,its,zdU _ v _ out st ?_,.refl _,by simp,hc⟩
   simp only [zcx,zb3,zac,zob,Nat.zero_add,l1,zaa,hlv,zdf hlt,zcf]
 | cons ts r ih=>
   intro i k m out its st hd hi hok h hc ha hB hn
   obtain ⟨hlin,htok⟩:=hok ts (List.mem_cons_self ..)
   have hl:LineAt us i (k+1) ts:=⟨⟨flat (k+1) r,hd⟩,hlin,htok⟩
   have hlen:i+ts.length≤us.length:=by
    have:=congrArg List.length hd
    unfold flat at this
    simp at this
    omega
   have hpos:0<ts.length:=by obtain ⟨t,u,rfl⟩:=hlin.ne;simp
   have hlt:(i:Int)<(us.length:Int):=by omega
   have hlv:(lenV v).bind (asI .i64)=some (us.length:Int):=by rw [h.rd.len];rfl
   have l1:st.ld lo 1=some (.int .i64 i):=h.blk.ld
   have hline:=zu4 (by omega) h hl
   have hlim:st.lim≤B:=by have:=h.blk.2.2;omega
   unfold zbO
   cases hx:readT ts with
   | error o=>
     rw [hx] at hline
     obtain ⟨s5,row,c5,K5,p5,hrow,hrow1⟩:=hline
     have hoff:=zpk ts hlin o hx
     obtain ⟨t,ht⟩:∃ t,ts[o]?=some t:=⟨_,zge hoff⟩
     have hu:us[i+o]?=some (k+1,t):=by
      obtain ⟨rest,hr⟩:=hl.drop
      have:=congrArg (·[o]?) hr
      simp only [List.getElem?_drop] at this
      rw [this,List.getElem?_append_left (by simp;omega),List.getElem?_map,ht]
      rfl
     obtain ⟨s9,e9,a9,x9,_⟩:=zaO (st:=s5) p5.ll (r:=L5) (zaC row) (n:=5) hrow hrow1 rfl
     have p9:=p5.ext x9
     obtain ⟨n1,hn1,c1⟩:=zdd p9.has hu
     have x1:Ext s9 (s9.adv n1):=.advR _ hn1
     obtain ⟨n2,hn2,c2⟩:=zdd (p9.ext x1).has hu
     have x2:Ext s9 ((s9.adv n1).adv n2):=x1.trans (.advR _ hn2)
     obtain ⟨ra,aa,hra⟩:=ha
     have aa2:=((aa.keepB K5 aa.lt (by simp;omega)).ext x9).ext x2
     obtain ⟨s15,e15,a15,m15,_⟩:=aa2.sto (k:=0) (vs:=[.int .i64 ((k+1:Nat):Int),.int .i64 t.col]) (row':=[.int .i64 ((k+1:Nat):Int),.int .i64 t.col]) rfl (by rw [zbL (by simp;omega)];simp [hra])
     have k3:=(zdr (ln:=k+1) (t:=t)).2.2.1
     have k4:=(zdr (ln:=k+1) (t:=t)).2.2.2
     have hcol:zof ts o=t.col:=by unfold zof;rw [ht];rfl
     have K5':Keep B [lo,b0] st s5:=K5.mono hB (fun j hj _=>by simp at hj ⊢;omega)
     have nx5:B≤s5.next:=zlt hB K5'.next
     have nx9:B≤s9.next:=zlt nx5 x9.next
     refine ⟨s15,zdU _ v _ out st ?_,((K5'.thenX x9 nx5).thenX x2 nx9).thenI m15 (zlt nx9 x2.next) (.inr (by simp)),by rw [hcol];exact a15⟩
     simp only [zcx,zb3,zac,zob,Nat.zero_add,l1,zaa,hlv,zdt hlt,zct,c5,zan,List.getElem?_toArray,zgs,zgz,zal,e9,znf,c1,k3,c2,k4,e15]
   | ok x=>
     rw [hx] at hline
     obtain ⟨s5,av,pv,c5,K5,p5,o1,o2⟩:=hline
     have hkept:=ztY hlin htok hx
     obtain ⟨s9,e9,a9,x9,_⟩:=zaO (st:=s5) p5.ll (r:=L5) (zaC [.int .i64 ((k+1:Nat):Int),.string (mkS x.lab),.string (mkS x.dir),av,pv]) (n:=5) rfl (by simp only [List.all_cons,List.all_nil,o1.cell.2,o2.cell.2];rfl) rfl
     have e9':(s5.new (.cells L5 0)).stV s5.next 0 5 (zms (k+1) x av pv)=some s9:=e9
     have p9:=p5.ext x9
     have hend:i+(ts.length-1)+1=i+ts.length:=by omega
     have l18:s9.ld lo 1=some (.int .i64 ((i+(ts.length-1):Nat):Int)):=p9.blk.ld
     have hw:IntKind.wrap .i64 (((i+(ts.length-1):Nat):Int)+1)=((i+ts.length:Nat):Int):=by rw [za4 (by omega),hend]
     obtain ⟨s22,e22,p22,m22,n22⟩:=p9.move (i+ts.length)
     have hlo5:lo<s5.next:=p5.blk.lt
     have a22:=a9.mod m22 (by simp;omega)
     have K9:Keep st.next [lo] st s9:=K5.thenX x9 K5.next
     have K22:Keep st.next [lo] st s22:=K9.thenI m22 (zlt K5.next x9.next) (.inr (by simp))
     have hc22:=hc.keep K22
     have nx22:B≤s22.next:=zlt hB K22.next
     have ha22:∃ r,At s22 b0 r∧r.length=2:=by
      obtain ⟨ra,aa,hra⟩:=ha
      exact ⟨ra,aa.keepB K22 aa.lt (by simp;omega),hra⟩
     have hd':=zt1 hd
     have hok':∀ ts∈r,Lin ts∧∀ t∈ts,TokOk t:=fun q hq=>hok q (List.mem_cons_of_mem _ hq)
     have l23:s22.ld s5.next 1=some (.string (mkS x.lab)):=a22.ld
     have l28:s22.ld s5.next 2=some (.string (mkS x.dir)):=a22.ld
     have l33:s22.ld s5.next 4=some pv:=a22.ld
     have hq1:eqT (mkS x.lab) ⟨#[]⟩=decide (x.lab=[]):=zc3 _
     have hq2:eqT (mkS x.dir) ⟨#[]⟩=decide (x.dir=[]):=zc3 _
     have hlp:(lenV pv).bind (asI .i64)=some (x.prs.length:Int):=by rw [o2.len];rfl
     by_cases hkp:1<ts.length
     ·
      have w1:RdB s22 lo s22.next av (rowsF valRow x.args) 3 x.args.length:=by
       refine (Own.rdB o1 (lo:=lo) (hi:=s5.next) h.blk.lt (zlr _)).go (by have:=x9.next;omega) (by have:=x9.next;omega) fun j hj h1 _=>?_
       rw [m22.keep j (by have:=x9.next;omega) (by simp;omega),x9.keep j hj]
      have w2:RdB s22 lo s22.next pv (rowsF prRow x.prs) 5 x.prs.length:=by
       refine (Own.rdB o2 (lo:=lo) (hi:=s5.next) h.blk.lt (zlr _)).go (by have:=x9.next;omega) (by have:=x9.next;omega) fun j hj h1 _=>?_
       rw [m22.keep j (by have:=x9.next;omega) (by simp;omega),x9.keep j hj]
      have hnew:∀ w:Value,(∀ j k l q,w=.slice (some ⟨j,k,none⟩) l q→st.next≤j)→∀ j k l q k' l' q',out=.slice (some ⟨j,k,none⟩) l q→w≠.slice (some ⟨j,k',none⟩) l' q':=by
       intro w hw j k l q k' l' q' ho he
       have h1:=hw j k' l' q' he
       obtain ⟨_,⟨ev,_⟩ | ⟨i',ev,_,_,hbi,hi'⟩⟩:=hc.own
       ·rw [ev] at ho;cases ho
       ·rw [ev] at ho;cases ho;omega
      have hown:∀ {w:Value} {c:List Value} {z n:Nat},Own st.next s5 w c z n→∀ j k l q,w=.slice (some ⟨j,k,none⟩) l q→st.next≤j:=by
       intro w c z n ho j k l q hv
       obtain ⟨_,⟨ev,_⟩ | ⟨i',ev,_,_,hbi,hi'⟩⟩:=ho
       ·rw [ev] at hv;cases hv
       ·rw [ev] at hv;cases hv;exact hbi
      obtain ⟨out',s27,g1,g2,g3⟩:=hc22.push ({ x with ln:=k+1 },av,pv) nx22 (by rw [K22.lim];exact hlim) (by omega) o1.cell.2 o2.cell.2 w1 w2 (hnew av (hown o1)) (hnew pv (hown o2))
      have g1':(s22.new (.cells ([.int .i64 ((k+1:Nat):Int),.string (mkS x.lab),.string (mkS x.dir),av,pv]++[]) 5)).app 5 88 out (.slice (some ⟨s22.next,0,none⟩) 1 1)=some (out',s27):=g1
      have K27:Keep B [lo] st s27:=(K22.mono hB (fun _ hj _=>hj)).then (g3 _)
      have ha27:∃ r,At s27 b0 r∧r.length=2:=by
       obtain ⟨ra,aa,hra⟩:=ha22
       exact ⟨ra,aa.keepB (g3 []) (by omega) (by simp),hra⟩
      have next:=ih (i+ts.length) (k+1) s22.next out' (its++[({ x with ln:=k+1 },av,pv)]) s27 hd' (by omega) hok' (p22.keepB (g3 []) hloB (by simp)) g2 ha27 (zlt hB K27.next) (by simp;omega)
      have l24:s22.ldN s5.next 0 5=some (.agg [.int .i64 ((k+1:Nat):Int),.string (mkS x.lab),.string (mkS x.dir),av,pv].toArray):=a22.ldN rfl
      have hc25:zaB (.agg [.int .i64 ((k+1:Nat):Int),.string (mkS x.lab),.string (mkS x.dir),av,pv].toArray) 5=some [.int .i64 ((k+1:Nat):Int),.string (mkS x.lab),.string (mkS x.dir),av,pv]:=cells5 _ _ _ _ _
      have step:∀ z,zb5 6 [ptr b0 0,v,ptr lo 0,out'] s27=some z→zb5 6 [ptr b0 0,v,ptr lo 0,out] st=some z:=fun z hz=>by
       refine zdU _ v _ out st ?_
       by_cases h1:x.lab=[]
       ·by_cases h2:x.dir=[]
        ·have h3:x.prs≠[]:=by
          rcases hkept.2 hkp with h | h | h
          ·exact absurd h1 h
          ·exact absurd h2 h
          ·exact h
         have h4:(0:Int)<(x.prs.length:Int):=by
          have:=List.length_pos_iff.2 h3
          omega
         simp only [zcx,zb3,zac,zob,Nat.zero_add,l1,zaa,hlv,zdt hlt,zct,c5,zan,List.getElem?_toArray,zgs,zgz,zal,e9',znt,zcf,l18,hw,e22,l23,zab,hq1,zdt h1,l28,hq2,zdt h2,l33,hlp,zdt h4,l24,hc25,g1']
         exact hz
        ·simp only [zcx,zb3,zac,zob,Nat.zero_add,l1,zaa,hlv,zdt hlt,zct,c5,zan,List.getElem?_toArray,zgs,zgz,zal,e9',znt,zcf,l18,hw,e22,l23,zab,hq1,zdt h1,l28,hq2,zdf h2,znf,l24,hc25,g1']
         exact hz
       ·simp only [zcx,zb3,zac,zob,Nat.zero_add,l1,zaa,hlv,zdt hlt,zct,c5,zan,List.getElem?_toArray,zgs,zgz,zal,e9',znt,zcf,l18,hw,e22,l23,zab,hq1,zdf h1,znf,l24,hc25,g1']
        exact hz
      simp only
      cases hy:zbO (k+1) r with
      | error e=>
        rw [hy] at next
        obtain ⟨st',a,k',d⟩:=next
        exact ⟨st',step _ a,(K27.mono (zlr _) (fun j hj _=>by simp at hj ⊢;omega)).then k',d⟩
      | ok xs=>
        rw [hy] at next
        obtain ⟨v2,st',m',its2,a,k',d,e⟩:=next
        refine ⟨v2,st',m',its2,step _ a,K27.then k',?_,e⟩
        rw [d];simp [hkp]
     ·have hnone:¬ (x.lab≠[]∨x.dir≠[]∨x.prs≠[]):=fun hh=>hkp (hkept.1 hh)
      have h1:x.lab=[]:=Classical.byContradiction fun hh=>hnone (.inl hh)
      have h2:x.dir=[]:=Classical.byContradiction fun hh=>hnone (.inr (.inl hh))
      have h3:x.prs=[]:=Classical.byContradiction fun hh=>hnone (.inr (.inr hh))
      have h4:¬ (0:Int)<(x.prs.length:Int):=by rw [h3];simp
      have K22':Keep B [lo] st s22:=K22.mono hB (fun _ hj _=>hj)
      have next:=ih (i+ts.length) (k+1) m out its s22 hd' (by omega) hok' p22 hc22 ha22 nx22 (by omega)
      have step:∀ z,zb5 6 [ptr b0 0,v,ptr lo 0,out] s22=some z→zb5 6 [ptr b0 0,v,ptr lo 0,out] st=some z:=fun z hz=>by
       refine zdU _ v _ out st ?_
       simp only [zcx,zb3,zac,zob,Nat.zero_add,l1,zaa,hlv,zdt hlt,zct,c5,zan,List.getElem?_toArray,zgs,zgz,zal,e9',znt,zcf,l18,hw,e22,l23,zab,hq1,zdt h1,l28,hq2,zdt h2,l33,hlp,zdf h4]
       exact hz
      simp only
      cases hy:zbO (k+1) r with
      | error e=>
        rw [hy] at next
        obtain ⟨st',a,k',d⟩:=next
        exact ⟨st',step _ a,(K22'.mono (zlr _) (fun j hj _=>by simp at hj ⊢;omega)).then k',d⟩
      | ok xs=>
        rw [hy] at next
        obtain ⟨v2,st',m',its2,a,k',d,e⟩:=next
        refine ⟨v2,st',m',its2,step _ a,K22'.then k',?_,e⟩
        rw [d];simp [hkp]
theorem zt2 (ps:List (List UInt8)) (i:Nat) (tss:List (List Tok)) (h:zco i ps=.ok tss):tss.length=ps.length:=by
 induction ps generalizing i tss with
 | nil=>cases h;rfl
 | cons p r ih=>
   unfold zco at h
   cases hx:zcb p with
   | error c=>rw [hx] at h;cases h
   | ok ts=>
     rw [hx] at h
     cases hy:zco (i+1) r with
     | error e=>rw [hy] at h;cases h
     | ok us=>rw [hy] at h;cases h;simp [ih _ _ hy]
def ParR (st:SS) (r:Option (Value×SS)):Except (Nat×Nat) (List PLine)→Prop
 | .ok xs=>∃ v st',r=some (.tuple #[v,zaX (0,0),.int .i64 0],st')∧Ext st st'∧zke st' v xs
 | .error e=>∃ st',r=some (.tuple #[.slice none 0 0,zaX e,.int .i64 4],st')∧Ext st st'
theorem zu6 [Sym] {st:SS} (hg:Gd st) (hl:st.lim≤st.next) (s:ByteArray) (hs:s.size≤65536):ParR st (cc 42 [.string s] st) (zfs (bl s)):=by
 have a1:At (st.new (.cells [.int .i64 0,.int .i64 0] 0)) st.next [.int .i64 0,.int .i64 0]:=At.new hl _
 have x1:Ext st (st.new (.cells [.int .i64 0,.int .i64 0] 0)):=(Ext.refl st).new _
 have hlex:=lex_ok (hg.ext x1) (x1.ll hl) s (by omega)
 have hlx:znn (bl s)=match zco 0 (pieces 10 (bl s)) with
  | .error e=>.error e
  | .ok tss=>.ok (flat 0 tss):=zog _ _
 unfold zfs
 have hb0:Nat.beq 0 0=true:=rfl
 have hb1:Nat.beq 1 0=false:=rfl
 cases hy:zco 0 (pieces 10 (bl s)) with
 | error e=>
   rw [hy] at hlx
   rw [hlx] at hlex
   obtain ⟨s2,c2,x2⟩:=hlex
   have c2':cc 67 [.string s] (st.new (.cells [.int .i64 0,.int .i64 0] 0))=some (.tuple #[.slice none 0 0,zaX e,.int .i64 4],s2):=c2
   obtain ⟨s7,e7,a7,x7,_⟩:=zaO (st:=s2) ((x1.trans x2).ll hl) (r:=[.int .i64 0,.int .i64 0]) (v:=zaX e) (row:=[.int .i64 e.1,.int .i64 e.2]) (n:=2) rfl rfl rfl rfl
   have a17:=(a1.ext x2).ext x7
   obtain ⟨s9,f1,f2,f3,f4,f5⟩:=zbe (n:=2) a17 rfl a7 rfl rfl
   have h40:decide ((4:Int)=0)=false:=rfl
   refine ⟨s9,zgY s st ?_,((Mod.ofExt (S:=[st.next]) ((x1.trans x2).trans x7)).then f4).fresh (by simp)⟩
   simp only [zgX,c2',zob,zan,List.getElem?_toArray,zgs,zgz,zaa,e7,h40,znf,zct,f1,f2,f3]
   rfl
 | ok tss=>
   rw [hy] at hlx
   have hlen:=zuU _ _ hlx
   rw [zaJ] at hlen
   have hlen2:(s.size+1)*(s.size+1)≤65537*65537:=Nat.mul_le_mul (by omega) (by omega)
   rw [hlx] at hlex
   obtain ⟨v,s2,c2,x2,o2⟩:=hlex
   have c2':cc 67 [.string s] (st.new (.cells [.int .i64 0,.int .i64 0] 0))=some (.tuple #[v,zaX (0,0),.int .i64 0],s2):=c2
   obtain ⟨s7,e7,a7,x7,_⟩:=zaO (st:=s2) ((x1.trans x2).ll hl) (r:=[.int .i64 0,.int .i64 0]) (v:=zaX (0,0)) (row:=[.int .i64 0,.int .i64 0]) (n:=2) rfl rfl rfl rfl
   have x07:=(x1.trans x2).trans x7
   have hc11:zaB v 1=some [v]:=by unfold zaB;obtain ⟨_,⟨rfl,_⟩ | ⟨i,rfl,_⟩⟩:=o2<;>rfl
   have hrow:(Value.agg ⟨spl [.slice none 0 0,.int .i64 0] 0 [v]⟩:Value).cells.toList=[v,.int .i64 0]:=by simp [spl,Value.cells]
   have ab:At (s7.new (.cells [v,.int .i64 0] 0)) s7.next [v,.int .i64 0]:=At.new (x07.ll hl) _
   have x12:Ext s7 (s7.new (.cells [v,.int .i64 0] 0)):=(Ext.refl s7).new _
   have hsn:st.next<s7.next:=by have:=x2.next;have:=x7.next;simp at*;omega
   have hp:PAt (s7.new (.cells [v,.int .i64 0] 0)) s7.next v (flat 0 tss) 0:=by
    refine ⟨ab,((o2.rd.ext x7).ext x12),fun j k l q hv=>?_,by omega,(x07.trans x12).ll hl⟩
    obtain ⟨_,⟨ev,_⟩ | ⟨i',ev,_,_,hbi,hi'⟩⟩:=o2
    ·rw [ev] at hv;cases hv
    ·rw [ev] at hv;cases hv
     have:=x7.next
     omega
   have hloop:=zsE (lo:=s7.next) (b0:=st.next) (B:=s7.next+1) hsn (by omega) (by omega) tss 0 0 s7.next (.slice none 0 0) [] (s7.new (.cells [v,.int .i64 0] 0)) (by simp) (by omega) (zu3 _ _ _ hy) hp
    ⟨Own.nil _ _ _,fun j k l q hv=>(by cases hv),fun x hx=>(by cases hx),by omega,by simp⟩ ⟨_,(((a1.ext x2).ext x7).ext x12),rfl⟩ (by simp) (by simp)
   show ParR st _ (zbO 0 tss)
   cases hz:zbO 0 tss with
   | error e=>
     rw [hz] at hloop
     obtain ⟨s13,d1,d2,d3⟩:=hloop
     have hr:=d3.rdN (n:=2) rfl
     have x13:Ext st s13:=((Mod.ofExt (S:=[s7.next,st.next]) (x07.trans x12)).then (d2.mod (by simp))).fresh (by simp;omega)
     refine ⟨s13,zgY s st ?_,x13⟩
     simp only [zgX,c2',zob,zan,List.getElem?_toArray,zgs,zgz,zaa,e7,decide_true,znt,zcf,hc11,hrow,d1,hb1,zac,hr]
     rfl
   | ok xs=>
     rw [hz] at hloop
     obtain ⟨w,s13,m,its,d1,d2,d3,d4⟩:=hloop
     have a13:=(((a1.ext x2).ext x7).ext x12).keepB d2 (by omega) (by simp;omega)
     obtain ⟨s17,e17,a17,m17,n17⟩:=a13.sto (k:=0) (vs:=[.int .i64 0,.int .i64 0]) (row':=[.int .i64 0,.int .i64 0]) rfl rfl
     have hr:=a17.rdN (n:=2) rfl
     have d4':Coll s17 s7.next m (s7.next+1) w its:=by
      refine ⟨zkd (S:=[]) d4.own m17 (.inl (by omega)),d4.blk,fun x hx=>?_,d4.lo,by rw [n17];exact d4.le⟩
      obtain ⟨i1,i2⟩:=d4.it x hx
      exact ⟨i1.go (zlr _) m17.next fun j hj h1 h2=>m17.keep j hj (by simp;omega),i2.go (zlr _) m17.next fun j hj h1 h2=>m17.keep j hj (by simp;omega)⟩
     have x17:Ext st s17:=(((Mod.ofExt (S:=[s7.next,st.next]) (x07.trans x12)).then ((d2.mod (by simp)).mono (by simp))).thenI m17 (.inr (by simp))).fresh (by simp;omega)
     refine ⟨w,s17,zgY s st ?_,x17,?_⟩
     ·simp only [zgX,c2',zob,zan,List.getElem?_toArray,zgs,zgz,zaa,e7,decide_true,znt,zcf,hc11,hrow,d1,hb0,zct,zac,e17,hr]
      rfl
     ·have:=d4'.lines
      rw [d3] at this
      simpa using this
end Go.Proofs.YtifploedaacedaaGreatDoorE
namespace Go.Proofs.YtifploedaacedaaGreatDoorE
set_option maxRecDepth 20000
open Go Go.E Go.Proofs
noncomputable def zgd (cf:zam) (lf:zad) (l':Value) (i':Int) (kind':Int) (text':ByteArray) (st:SS):Option (Value×SS):=
 ((lenV l').bind (asI .i64)).bind fun a=>
 cond (decide (i'<a)) (
 (zah l' i' 5).bind fun b=>
 (((st.ro st.next).ld b.1 b.2).bind (asI .i64)).bind fun c=>
 cond (decide (c=kind')) (
 (zah l' i' 5).bind fun d=>
 (((st.ro st.next).ld d.1 (d.2+1)).bind asS).bind fun e=>
 some (.bool (eqT e text'),st.adv (st.ro st.next).next)) (
 some (.bool false,st.adv (st.ro st.next).next))) (
 some (.bool false,st.adv (st.ro st.next).next))
noncomputable abbrev zlo:zad:=lS Tryz.prog Lk0 Tryz.f81 zaF
theorem zlp:Lk0.func 81=some (81,Tryz.f81):=by kernel_rfl
theorem zlq [Sym] (l':Value) (i':Int) (kind':Int) (text':ByteArray) (st:SS) {r:Value×SS} (h:zgd cc zlo l' i' kind' text' st=some r):cc 81 [l',.int .i64 i',.int .i64 kind',.string text'] st=some r:=
 zai (li:=zaF) zaj zao zlp rfl (fun _=>rfl) (.trans (by kernel_rfl) h)
noncomputable def zbC (cf:zam) (lf:zad) (l':Value) (i':Int) (st:SS):Option (Value×SS):=
 let a:SS:=(st.ro st.next).new (.cells [.string ⟨#[]⟩,.int .i64 0,.int .i64 0] 0)
 (zah l' i' 5).bind fun b=>
 ((a.ld b.1 (b.2+4)).bind (asI .i64)).bind fun c=>
 let d:SS:=a.new (.cells [.string ⟨#[]⟩,.int .i64 0,.int .i64 0] 0)
 (d.st a.next 0 [.string ⟨#[]⟩,.int .i64 0,.int .i64 c]).bind fun e=>
 (zah l' i' 5).bind fun f=>
 ((e.ld f.1 f.2).bind (asI .i64)).bind fun g=>
 cond (decide (g=2)) (
 (zah l' i' 5).bind fun h=>
 ((e.ld h.1 (h.2+2)).bind (asI .i64)).bind fun i=>
 (e.st a.next 1 [.int .i64 i]).bind fun j=>
 (j.ldN a.next 0 3).bind fun k=>
 (j.stV ((st.ro st.next).next) 0 3 k).bind fun l=>
 (l.rdN ((st.ro st.next).next) 0 3).bind fun m=>
 cond (flat3 (.tuple #[m,.int .i64 1])) (some (.tuple #[m,.int .i64 1],st.adv l.next)) none) (
 (zah l' i' 5).bind fun n=>
 ((e.ld n.1 n.2).bind (asI .i64)).bind fun o=>
 cond (!(decide (o=1))) (
 (e.ldN a.next 0 3).bind fun p=>
 (e.stV ((st.ro st.next).next) 0 3 p).bind fun q=>
 (q.rdN ((st.ro st.next).next) 0 3).bind fun r=>
 cond (flat3 (.tuple #[r,.int .i64 (-1)])) (some (.tuple #[r,.int .i64 (-1)],st.adv q.next)) none) (
 (zah l' i' 5).bind fun s=>
 ((e.ld s.1 (s.2+1)).bind asS).bind fun t=>
 (e.st a.next 0 [.string t]).bind fun u=>
 let v:Int:=IntKind.wrap .i64 (i'+1)
 (cf 81 [l',.int .i64 v,.int .i64 3,.string ⟨#[43]⟩] u).bind fun w=>
 ((some w.1).bind asB).bind fun x=>
 cond (!x) (
 let y:Int:=IntKind.wrap .i64 (i'+1)
 (cf 81 [l',.int .i64 y,.int .i64 3,.string ⟨#[45]⟩] w.2).bind fun z=>
 ((some z.1).bind asB).bind fun A=>
 cond (!A) (
 (z.2.ldN a.next 0 3).bind fun B=>
 (z.2.stV ((st.ro st.next).next) 0 3 B).bind fun C=>
 (C.rdN ((st.ro st.next).next) 0 3).bind fun D=>
 cond (flat3 (.tuple #[D,.int .i64 1])) (some (.tuple #[D,.int .i64 1],st.adv C.next)) none) (
 let E:Int:=IntKind.wrap .i64 (i'+2)
 (zah l' E 5).bind fun F=>
 ((z.2.ld F.1 F.2).bind (asI .i64)).bind fun G=>
 cond (!(decide (G=2))) (
 (z.2.ldN a.next 0 3).bind fun H=>
 (z.2.stV ((st.ro st.next).next) 0 3 H).bind fun I=>
 (I.rdN ((st.ro st.next).next) 0 3).bind fun J=>
 cond (flat3 (.tuple #[J,.int .i64 (-3)])) (some (.tuple #[J,.int .i64 (-3)],st.adv I.next)) none) (
 let K:Int:=IntKind.wrap .i64 (i'+2)
 (zah l' K 5).bind fun L=>
 ((z.2.ld L.1 (L.2+2)).bind (asI .i64)).bind fun M=>
 (z.2.st a.next 1 [.int .i64 M]).bind fun N=>
 cond (!x) (
 ((N.ld a.next 1).bind (asI .i64)).bind fun O=>
 let P:Int:=IntKind.wrap .i64 (0-O)
 (N.st a.next 1 [.int .i64 P]).bind fun Q=>
 (Q.ldN a.next 0 3).bind fun R=>
 (Q.stV ((st.ro st.next).next) 0 3 R).bind fun S=>
 (S.rdN ((st.ro st.next).next) 0 3).bind fun T=>
 cond (flat3 (.tuple #[T,.int .i64 3])) (some (.tuple #[T,.int .i64 3],st.adv S.next)) none) (
 (N.ldN a.next 0 3).bind fun U=>
 (N.stV ((st.ro st.next).next) 0 3 U).bind fun V=>
 (V.rdN ((st.ro st.next).next) 0 3).bind fun W=>
 cond (flat3 (.tuple #[W,.int .i64 3])) (some (.tuple #[W,.int .i64 3],st.adv V.next)) none)))) (
 let X:Int:=IntKind.wrap .i64 (i'+2)
 (zah l' X 5).bind fun Y=>
 ((w.2.ld Y.1 Y.2).bind (asI .i64)).bind fun Z=>
 cond (!(decide (Z=2))) (
 (w.2.ldN a.next 0 3).bind fun aA=>
 (w.2.stV ((st.ro st.next).next) 0 3 aA).bind fun aB=>
 (aB.rdN ((st.ro st.next).next) 0 3).bind fun aC=>
 cond (flat3 (.tuple #[aC,.int .i64 (-3)])) (some (.tuple #[aC,.int .i64 (-3)],st.adv aB.next)) none) (
 let aD:Int:=IntKind.wrap .i64 (i'+2)
 (zah l' aD 5).bind fun aE=>
 ((w.2.ld aE.1 (aE.2+2)).bind (asI .i64)).bind fun aF=>
 (w.2.st a.next 1 [.int .i64 aF]).bind fun aG=>
 cond (!x) (
 ((aG.ld a.next 1).bind (asI .i64)).bind fun aH=>
 let aI:Int:=IntKind.wrap .i64 (0-aH)
 (aG.st a.next 1 [.int .i64 aI]).bind fun aJ=>
 (aJ.ldN a.next 0 3).bind fun aK=>
 (aJ.stV ((st.ro st.next).next) 0 3 aK).bind fun aL=>
 (aL.rdN ((st.ro st.next).next) 0 3).bind fun aM=>
 cond (flat3 (.tuple #[aM,.int .i64 3])) (some (.tuple #[aM,.int .i64 3],st.adv aL.next)) none) (
 (aG.ldN a.next 0 3).bind fun aN=>
 (aG.stV ((st.ro st.next).next) 0 3 aN).bind fun aO=>
 (aO.rdN ((st.ro st.next).next) 0 3).bind fun aP=>
 cond (flat3 (.tuple #[aP,.int .i64 3])) (some (.tuple #[aP,.int .i64 3],st.adv aO.next)) none)))))
noncomputable abbrev zkf:zad:=lS Tryz.prog Lk0 Tryz.f82 zaF
theorem zkg:Lk0.func 82=some (82,Tryz.f82):=by kernel_rfl
theorem zbA [Sym] (l':Value) (i':Int) (st:SS) {r:Value×SS} (h:zbC cc zkf l' i' st=some r):cc 82 [l',.int .i64 i'] st=some r:=
 zai (li:=zaF) zaj zao zkg rfl (fun _=>rfl) (.trans (by kernel_rfl) h)
def zfz:LoopI:=⟨[(0,.any),(2,.any),(4,.any),(5,.int .i64),(8,.bool),(90,.any),(91,.int .i64),(92,.int .i64)],[(.exit 4,[(0,.any),(2,.any),(4,.any),(5,.int .i64),(8,.bool)])]⟩
def zfA:LoopI:=⟨[(0,.any),(2,.any),(4,.any),(5,.int .i64)],[(.exit 2,[(2,.any),(4,.any)]),(.ret,[(2,.any),(3,.int .i64)])]⟩
def zfB:LoopI:=⟨[(0,.any),(2,.any),(4,.any),(5,.int .i64)],[(.exit 0,[(2,.any),(4,.any)]),(.ret,[(2,.any),(3,.int .i64)])]⟩
def zgy (n:Nat):Option LoopI:=cond (Nat.beq n 11) (some zfB) (cond (Nat.beq n 18) (some zfA) (cond (Nat.beq n 21) (some zfz) (none)))
noncomputable def zdV (cf:zam) (lf:zad) (l':Value) (st:SS):Option (Value×SS):=
 let a:SS:=st.new (.cells [.int .i64 0,.string ⟨#[]⟩,.string ⟨#[]⟩,.slice none 0 0,.slice none 0 0] 0)
 (zah l' 0 5).bind fun b=>
 ((a.ld b.1 (b.2+3)).bind (asI .i64)).bind fun c=>
 let d:SS:=a.new (.cells [.int .i64 0,.string ⟨#[]⟩,.string ⟨#[]⟩,.slice none 0 0,.slice none 0 0] 0)
 (d.st a.next 0 [.int .i64 c,.string ⟨#[]⟩,.string ⟨#[]⟩,.slice none 0 0,.slice none 0 0]).bind fun e=>
 (zah l' 0 5).bind fun f=>
 ((e.ld f.1 f.2).bind (asI .i64)).bind fun g=>
 cond (decide (g=1)) (
 (cf 81 [l',.int .i64 1,.int .i64 3,.string ⟨#[58]⟩] e).bind fun h=>
 ((some h.1).bind asB).bind fun i=>
 cond i (
 (zah l' 0 5).bind fun j=>
 ((h.2.ld j.1 (j.2+1)).bind asS).bind fun k=>
 (h.2.st a.next 1 [.string k]).bind fun l=>
 (cf 81 [l',.int .i64 2,.int .i64 3,.string ⟨#[46]⟩] l).bind fun m=>
 ((some m.1).bind asB).bind fun n=>
 cond n (
 (zah l' 3 5).bind fun o=>
 ((m.2.ld o.1 o.2).bind (asI .i64)).bind fun p=>
 cond (!(decide (p=1))) (
 (m.2.ldN a.next 0 5).bind fun q=>
 (m.2.stV st.next 0 5 q).bind fun r=>
 (r.rdN st.next 0 5).bind fun s=>
 some (.tuple #[s,.int .i64 3],r)) (
 (zah l' 3 5).bind fun t=>
 ((m.2.ld t.1 (t.2+1)).bind asS).bind fun u=>
 (m.2.st a.next 2 [.string u]).bind fun v=>
 (lf 11 [l',ptr st.next 0,ptr a.next 0,.int .i64 4] v).bind fun w=>
 cond (Nat.beq w.1 0) (
 (w.2.1[0]?).bind fun x=>
 (w.2.1[1]?).bind fun y=>
 (addr? y).bind fun z=>
 (w.2.2.ldN z.1 z.2 5).bind fun A=>
 (addr? x).bind fun B=>
 (w.2.2.stV B.1 B.2 5 A).bind fun C=>
 (addr? x).bind fun D=>
 (C.rdN D.1 D.2 5).bind fun E=>
 some (.tuple #[E,.int .i64 (-1)],C)) (
 (w.2.1[0]?).bind fun F=>
 ((w.2.1[1]?).bind (asI .i64)).bind fun G=>
 (addr? F).bind fun H=>
 (w.2.2.rdN H.1 H.2 5).bind fun I=>
 some (.tuple #[I,.int .i64 G],w.2.2)))) (
 (lf 18 [l',ptr st.next 0,ptr a.next 0,.int .i64 2] m.2).bind fun J=>
 cond (Nat.beq J.1 0) (
 (J.2.1[0]?).bind fun K=>
 (J.2.1[1]?).bind fun L=>
 (addr? L).bind fun M=>
 (J.2.2.ldN M.1 M.2 5).bind fun N=>
 (addr? K).bind fun O=>
 (J.2.2.stV O.1 O.2 5 N).bind fun P=>
 (addr? K).bind fun Q=>
 (P.rdN Q.1 Q.2 5).bind fun R=>
 some (.tuple #[R,.int .i64 (-1)],P)) (
 (J.2.1[0]?).bind fun S=>
 ((J.2.1[1]?).bind (asI .i64)).bind fun T=>
 (addr? S).bind fun U=>
 (J.2.2.rdN U.1 U.2 5).bind fun V=>
 some (.tuple #[V,.int .i64 T],J.2.2)))) (
 (cf 81 [l',.int .i64 0,.int .i64 3,.string ⟨#[46]⟩] h.2).bind fun W=>
 ((some W.1).bind asB).bind fun X=>
 cond X (
 (zah l' 1 5).bind fun Y=>
 ((W.2.ld Y.1 Y.2).bind (asI .i64)).bind fun Z=>
 cond (!(decide (Z=1))) (
 (W.2.ldN a.next 0 5).bind fun aA=>
 (W.2.stV st.next 0 5 aA).bind fun aB=>
 (aB.rdN st.next 0 5).bind fun aC=>
 some (.tuple #[aC,.int .i64 1],aB)) (
 (zah l' 1 5).bind fun aD=>
 ((W.2.ld aD.1 (aD.2+1)).bind asS).bind fun aE=>
 (W.2.st a.next 2 [.string aE]).bind fun aF=>
 (lf 11 [l',ptr st.next 0,ptr a.next 0,.int .i64 2] aF).bind fun aG=>
 cond (Nat.beq aG.1 0) (
 (aG.2.1[0]?).bind fun aH=>
 (aG.2.1[1]?).bind fun aI=>
 (addr? aI).bind fun aJ=>
 (aG.2.2.ldN aJ.1 aJ.2 5).bind fun aK=>
 (addr? aH).bind fun aL=>
 (aG.2.2.stV aL.1 aL.2 5 aK).bind fun aM=>
 (addr? aH).bind fun aN=>
 (aM.rdN aN.1 aN.2 5).bind fun aO=>
 some (.tuple #[aO,.int .i64 (-1)],aM)) (
 (aG.2.1[0]?).bind fun aP=>
 ((aG.2.1[1]?).bind (asI .i64)).bind fun aQ=>
 (addr? aP).bind fun aR=>
 (aG.2.2.rdN aR.1 aR.2 5).bind fun aS=>
 some (.tuple #[aS,.int .i64 aQ],aG.2.2)))) (
 (lf 18 [l',ptr st.next 0,ptr a.next 0,.int .i64 0] W.2).bind fun aT=>
 cond (Nat.beq aT.1 0) (
 (aT.2.1[0]?).bind fun aU=>
 (aT.2.1[1]?).bind fun aV=>
 (addr? aV).bind fun aW=>
 (aT.2.2.ldN aW.1 aW.2 5).bind fun aX=>
 (addr? aU).bind fun aY=>
 (aT.2.2.stV aY.1 aY.2 5 aX).bind fun aZ=>
 (addr? aU).bind fun bA=>
 (aZ.rdN bA.1 bA.2 5).bind fun bB=>
 some (.tuple #[bB,.int .i64 (-1)],aZ)) (
 (aT.2.1[0]?).bind fun bC=>
 ((aT.2.1[1]?).bind (asI .i64)).bind fun bD=>
 (addr? bC).bind fun bE=>
 (aT.2.2.rdN bE.1 bE.2 5).bind fun bF=>
 some (.tuple #[bF,.int .i64 bD],aT.2.2))))) (
 (cf 81 [l',.int .i64 0,.int .i64 3,.string ⟨#[46]⟩] e).bind fun bG=>
 ((some bG.1).bind asB).bind fun bH=>
 cond bH (
 (zah l' 1 5).bind fun bI=>
 ((bG.2.ld bI.1 bI.2).bind (asI .i64)).bind fun bJ=>
 cond (!(decide (bJ=1))) (
 (bG.2.ldN a.next 0 5).bind fun bK=>
 (bG.2.stV st.next 0 5 bK).bind fun bL=>
 (bL.rdN st.next 0 5).bind fun bM=>
 some (.tuple #[bM,.int .i64 1],bL)) (
 (zah l' 1 5).bind fun bN=>
 ((bG.2.ld bN.1 (bN.2+1)).bind asS).bind fun bO=>
 (bG.2.st a.next 2 [.string bO]).bind fun bP=>
 (lf 11 [l',ptr st.next 0,ptr a.next 0,.int .i64 2] bP).bind fun bQ=>
 cond (Nat.beq bQ.1 0) (
 (bQ.2.1[0]?).bind fun bR=>
 (bQ.2.1[1]?).bind fun bS=>
 (addr? bS).bind fun bT=>
 (bQ.2.2.ldN bT.1 bT.2 5).bind fun bU=>
 (addr? bR).bind fun bV=>
 (bQ.2.2.stV bV.1 bV.2 5 bU).bind fun bW=>
 (addr? bR).bind fun bX=>
 (bW.rdN bX.1 bX.2 5).bind fun bY=>
 some (.tuple #[bY,.int .i64 (-1)],bW)) (
 (bQ.2.1[0]?).bind fun bZ=>
 ((bQ.2.1[1]?).bind (asI .i64)).bind fun cA=>
 (addr? bZ).bind fun cB=>
 (bQ.2.2.rdN cB.1 cB.2 5).bind fun cC=>
 some (.tuple #[cC,.int .i64 cA],bQ.2.2)))) (
 (lf 18 [l',ptr st.next 0,ptr a.next 0,.int .i64 0] bG.2).bind fun cD=>
 cond (Nat.beq cD.1 0) (
 (cD.2.1[0]?).bind fun cE=>
 (cD.2.1[1]?).bind fun cF=>
 (addr? cF).bind fun cG=>
 (cD.2.2.ldN cG.1 cG.2 5).bind fun cH=>
 (addr? cE).bind fun cI=>
 (cD.2.2.stV cI.1 cI.2 5 cH).bind fun cJ=>
 (addr? cE).bind fun cK=>
 (cJ.rdN cK.1 cK.2 5).bind fun cL=>
 some (.tuple #[cL,.int .i64 (-1)],cJ)) (
 (cD.2.1[0]?).bind fun cM=>
 ((cD.2.1[1]?).bind (asI .i64)).bind fun cN=>
 (addr? cM).bind fun cO=>
 (cD.2.2.rdN cO.1 cO.2 5).bind fun cP=>
 some (.tuple #[cP,.int .i64 cN],cD.2.2))))
noncomputable abbrev zas:zad:=lS Tryz.prog Lk0 Tryz.f52 zgy
theorem zkh:Lk0.func 52=some (52,Tryz.f52):=by kernel_rfl
theorem zef [Sym] (l':Value) (st:SS) {r:Value×SS} (h:zdV cc zas l' st=some r):cc 52 [l'] st=some r:=
 zai (li:=zgy) zaj zao zkh rfl (fun _=>rfl) (.trans (by kernel_rfl) h)
noncomputable def zcS (cf:zam) (lf:zad) (l':Value) (t2':Value) (x':Value) (i':Int) (st:SS):Option (Nat×List Value×SS):=
 (zah l' i' 5).bind fun a=>
 ((st.ld a.1 a.2).bind (asI .i64)).bind fun b=>
 cond (!(decide (b=0))) (
 (cf 82 [l',.int .i64 i'] st).bind fun c=>
 (zan c.1 0).bind fun d=>
 ((zan c.1 1).bind (asI .i64)).bind fun e=>
 let f:SS:=c.2.new (.cells [.string ⟨#[]⟩,.int .i64 0,.int .i64 0] 0)
 (f.stV c.2.next 0 3 d).bind fun g=>
 cond (decide (e<0)) (
 (addr? x').bind fun h=>
 (g.ldN h.1 h.2 5).bind fun i=>
 let j:Int:=IntKind.wrap .i64 (i'-e)
 let k:Int:=IntKind.wrap .i64 (j-1)
 (addr? t2').bind fun l=>
 (g.stV l.1 l.2 5 i).bind fun m=>
 some (1,[t2',.int .i64 k],m)) (
 (addr? x').bind fun n=>
 (g.ld n.1 (n.2+3)).bind fun o=>
 (g.ldN c.2.next 0 3).bind fun p=>
 (zaB p 3).bind fun q=>
 let r:SS:=g.new (.cells (q++([])) 3)
 (r.app 3 32 o (.slice (some ⟨g.next,0,none⟩) 1 1)).bind fun s=>
 (addr? x').bind fun t=>
 (s.2.stV t.1 (t.2+3) 1 s.1).bind fun u=>
 let v:Int:=IntKind.wrap .i64 (i'+e)
 lf 11 [l',t2',x',.int .i64 v] u)) (
 some (0,[t2',x'],st))
theorem zdm [Sym] (l':Value) (t2':Value) (x':Value) (i':Int) (st:SS) {r:Nat×List Value×SS} (h:zcS cc zas l' t2' x' i' st=some r):zas 11 [l',t2',x',.int .i64 i'] st=some r:=
 zav zaj zao (key:=11) (I:=zfB) rfl (by kernel_rfl) (by kernel_rfl) rfl rfl (.trans (by kernel_rfl) h)
noncomputable def zd3 (cf:zam) (lf:zad) (l':Value) (t2':Value) (x':Value) (i':Int) (st:SS):Option (Nat×List Value×SS):=
 (zah l' i' 5).bind fun a=>
 ((st.ld a.1 a.2).bind (asI .i64)).bind fun b=>
 cond (!(decide (b=0))) (
 (addr? x').bind fun c=>
 (st.ld c.1 (c.2+4)).bind fun d=>
 ((lenV d).bind (asI .i64)).bind fun e=>
 (lf 21 [l',t2',x',.int .i64 i',.bool false,d,.int .i64 e,.int .i64 0] st).bind fun f=>
 (f.2.1[0]?).bind fun g=>
 (f.2.1[1]?).bind fun h=>
 (f.2.1[2]?).bind fun i=>
 ((f.2.1[3]?).bind (asI .i64)).bind fun j=>
 ((f.2.1[4]?).bind asB).bind fun k=>
 (zah g j 5).bind fun l=>
 ((f.2.2.ld l.1 l.2).bind (asI .i64)).bind fun m=>
 cond (!(decide (m=1))) (
 (addr? i).bind fun n=>
 (f.2.2.ldN n.1 n.2 5).bind fun o=>
 (addr? h).bind fun p=>
 (f.2.2.stV p.1 p.2 5 o).bind fun q=>
 some (1,[h,.int .i64 j],q)) (
 cond k (
 (addr? i).bind fun r=>
 (f.2.2.ldN r.1 r.2 5).bind fun s=>
 (addr? h).bind fun t=>
 (f.2.2.stV t.1 t.2 5 s).bind fun u=>
 some (1,[h,.int .i64 j],u)) (
 let v:Int:=IntKind.wrap .i64 (j+1)
 (cf 81 [g,.int .i64 v,.int .i64 3,.string ⟨#[61]⟩] f.2.2).bind fun w=>
 ((some w.1).bind asB).bind fun x=>
 cond (!x) (
 (addr? i).bind fun y=>
 (w.2.ldN y.1 y.2 5).bind fun z=>
 let A:Int:=IntKind.wrap .i64 (j+1)
 (addr? h).bind fun B=>
 (w.2.stV B.1 B.2 5 z).bind fun C=>
 some (1,[h,.int .i64 A],C)) (
 let D:Int:=IntKind.wrap .i64 (j+2)
 (cf 82 [g,.int .i64 D] w.2).bind fun E=>
 (zan E.1 0).bind fun F=>
 ((zan E.1 1).bind (asI .i64)).bind fun G=>
 let H:SS:=E.2.new (.cells [.string ⟨#[]⟩,.int .i64 0,.int .i64 0] 0)
 (H.stV E.2.next 0 3 F).bind fun I=>
 cond (decide (G<0)) (
 (addr? i).bind fun J=>
 (I.ldN J.1 J.2 5).bind fun K=>
 let L:Int:=IntKind.wrap .i64 (j+2)
 let M:Int:=IntKind.wrap .i64 (L-G)
 let N:Int:=IntKind.wrap .i64 (M-1)
 (addr? h).bind fun O=>
 (I.stV O.1 O.2 5 K).bind fun P=>
 some (1,[h,.int .i64 N],P)) (
 (addr? i).bind fun Q=>
 (I.ld Q.1 (Q.2+4)).bind fun R=>
 (zah g j 5).bind fun S=>
 ((I.ld S.1 (S.2+1)).bind asS).bind fun T=>
 (zah g j 5).bind fun U=>
 ((I.ld U.1 (U.2+4)).bind (asI .i64)).bind fun V=>
 (I.ldN E.2.next 0 3).bind fun W=>
 (zaB W 3).bind fun X=>
 (zaB (.agg ⟨spl [.string T,.int .i64 V,.string ⟨#[]⟩,.int .i64 0,.int .i64 0] 2 X⟩) 5).bind fun Y=>
 let Z:SS:=I.new (.cells (Y++([])) 5)
 (Z.app 5 56 R (.slice (some ⟨I.next,0,none⟩) 1 1)).bind fun aA=>
 (addr? i).bind fun aB=>
 (aA.2.stV aB.1 (aB.2+4) 1 aA.1).bind fun aC=>
 let aD:Int:=IntKind.wrap .i64 (j+2)
 let aE:Int:=IntKind.wrap .i64 (aD+G)
 lf 18 [g,h,i,.int .i64 aE] aC))))) (
 some (0,[t2',x'],st))
theorem ze4 [Sym] (l':Value) (t2':Value) (x':Value) (i':Int) (st:SS) {r:Nat×List Value×SS} (h:zd3 cc zas l' t2' x' i' st=some r):zas 18 [l',t2',x',.int .i64 i'] st=some r:=
 zav zaj zao (key:=18) (I:=zfA) rfl (by kernel_rfl) (by kernel_rfl) rfl rfl (.trans (by kernel_rfl) h)
noncomputable def zcT (cf:zam) (lf:zad) (l':Value) (t2':Value) (x':Value) (i':Int) (known':Bool) (t90':Value) (t91':Int) (t92':Int) (st:SS):Option (Nat×List Value×SS):=
 cond (decide (t92'<t91')) (
 (zah t90' t92' 5).bind fun a=>
 (st.ldN a.1 a.2 5).bind fun b=>
 let c:SS:=st.new (.cells [.string ⟨#[]⟩,.int .i64 0,.string ⟨#[]⟩,.int .i64 0,.int .i64 0] 0)
 (c.stV st.next 0 5 b).bind fun d=>
 cond known' (
 let e:Int:=IntKind.wrap .i64 (t92'+1)
 lf 21 [l',t2',x',.int .i64 i',.bool true,t90',.int .i64 t91',.int .i64 e] d) (
 ((d.ld st.next 0).bind asS).bind fun f=>
 (zah l' i' 5).bind fun g=>
 ((d.ld g.1 (g.2+1)).bind asS).bind fun h=>
 let i:Int:=IntKind.wrap .i64 (t92'+1)
 lf 21 [l',t2',x',.int .i64 i',.bool (eqT f h),t90',.int .i64 t91',.int .i64 i] d)) (
 some (0,[l',t2',x',.int .i64 i',.bool known'],st))
theorem zdn [Sym] (l':Value) (t2':Value) (x':Value) (i':Int) (known':Bool) (t90':Value) (t91':Int) (t92':Int) (st:SS) {r:Nat×List Value×SS} (h:zcT cc zas l' t2' x' i' known' t90' t91' t92' st=some r):zas 21 [l',t2',x',.int .i64 i',.bool known',t90',.int .i64 t91',.int .i64 t92'] st=some r:=
 zav zaj zao (key:=21) (I:=zfz) rfl (by kernel_rfl) (by kernel_rfl) rfl rfl (.trans (by kernel_rfl) h)
def zfC:LoopI:=⟨[(3,.any),(6,.any),(23,.any),(24,.int .i64),(25,.int .i64)],[(.exit 0,[(3,.any),(6,.any)]),(.ret,[(2,.any),(3,.any)])]⟩
def zfY (n:Nat):Option LoopI:=cond (Nat.beq n 6) (some zfC) (none)
noncomputable def zdz (cf:zam) (lf:zad) (text':ByteArray) (st:SS):Option (Value×SS):=
 let a:SS:=st.new (.cells [.int .i64 0,.int .i64 0] 0)
 (cf 49 [.string text'] a).bind fun b=>
 (zan b.1 0).bind fun c=>
 (zan b.1 1).bind fun d=>
 let e:SS:=b.2.new (.cells [.int .i64 0,.int .i64 0] 0)
 (e.stV b.2.next 0 2 d).bind fun f=>
 (zbl (ptr b.2.next 0) 2 0 1).bind fun g=>
 ((f.ld g.1 g.2).bind (asI .i64)).bind fun h=>
 cond (decide (0<h)) (
 (f.ldN b.2.next 0 2).bind fun i=>
 (f.stV st.next 0 2 i).bind fun j=>
 (j.rdN st.next 0 2).bind fun k=>
 some (.tuple #[.slice none 0 0,k],j)) (
 (cf 50 [.string text',.int .u8 10] f).bind fun l=>
 ((lenV l.1).bind (asI .i64)).bind fun m=>
 (lf 6 [ptr st.next 0,.slice none 0 0,l.1,.int .i64 m,.int .i64 0] l.2).bind fun n=>
 cond (Nat.beq n.1 0) (
 (n.2.1[0]?).bind fun o=>
 (n.2.1[1]?).bind fun p=>
 (addr? o).bind fun q=>
 (n.2.2.st q.1 q.2 [.int .i64 0,.int .i64 0]).bind fun r=>
 (addr? o).bind fun s=>
 (r.rdN s.1 s.2 2).bind fun t=>
 some (.tuple #[p,t],r)) (
 (n.2.1[0]?).bind fun u=>
 (n.2.1[1]?).bind fun v=>
 (addr? v).bind fun w=>
 (n.2.2.rdN w.1 w.2 2).bind fun x=>
 some (.tuple #[u,x],n.2.2)))
noncomputable abbrev za2:zad:=lS Tryz.prog Lk0 Tryz.f19 zfY
theorem zjB:Lk0.func 19=some (19,Tryz.f19):=by kernel_rfl
theorem zd4 [Sym] (text':ByteArray) (st:SS) {r:Value×SS} (h:zdz cc za2 text' st=some r):cc 19 [.string text'] st=some r:=
 zai (li:=zfY) zaj zao zjB rfl (fun _=>rfl) (.trans (by kernel_rfl) h)
noncomputable def zb9 (cf:zam) (lf:zad) (t3':Value) (out':Value) (t23':Value) (t24':Int) (t25':Int) (st:SS):Option (Nat×List Value×SS):=
 cond (decide (t25'<t24')) (
 (zah t23' t25' 1).bind fun a=>
 ((st.ld a.1 a.2).bind asS).bind fun b=>
 let c:Int:=IntKind.wrap .i64 (t25'+1)
 (cf 51 [.string b,.int .i64 c] st).bind fun d=>
 (zan d.1 0).bind fun e=>
 ((zan d.1 1).bind (asI .i64)).bind fun f=>
 (cf 52 [e] d.2).bind fun g=>
 (zan g.1 0).bind fun h=>
 ((zan g.1 1).bind (asI .i64)).bind fun i=>
 let j:SS:=g.2.new (.cells [.int .i64 0,.string ⟨#[]⟩,.string ⟨#[]⟩,.slice none 0 0,.slice none 0 0] 0)
 (j.stV g.2.next 0 5 h).bind fun k=>
 cond (decide (0≤i)) (
 let l:Int:=IntKind.wrap .i64 (t25'+1)
 (zah e i 5).bind fun m=>
 ((k.ld m.1 (m.2+4)).bind (asI .i64)).bind fun n=>
 (addr? t3').bind fun o=>
 (k.st o.1 o.2 [.int .i64 l,.int .i64 n]).bind fun p=>
 some (1,[.slice none 0 0,t3'],p)) (
 ((lenV e).bind (asI .i64)).bind fun q=>
 cond (decide (1<q)) (
 (k.ldN g.2.next 0 5).bind fun r=>
 (zaB r 5).bind fun s=>
 let t:SS:=k.new (.cells (s++([])) 5)
 (t.app 5 88 out' (.slice (some ⟨k.next,0,none⟩) 1 1)).bind fun u=>
 let v:Int:=IntKind.wrap .i64 (t25'+1)
 lf 6 [t3',u.1,t23',.int .i64 t24',.int .i64 v] u.2) (
 let w:Int:=IntKind.wrap .i64 (t25'+1)
 lf 6 [t3',out',t23',.int .i64 t24',.int .i64 w] k))) (
 some (0,[t3',out'],st))
theorem zcp [Sym] (t3':Value) (out':Value) (t23':Value) (t24':Int) (t25':Int) (st:SS) {r:Nat×List Value×SS} (h:zb9 cc za2 t3' out' t23' t24' t25' st=some r):za2 6 [t3',out',t23',.int .i64 t24',.int .i64 t25'] st=some r:=
 zav zaj zao (key:=6) (I:=zfC) rfl (by kernel_rfl) (by kernel_rfl) rfl rfl (.trans (by kernel_rfl) h)
end Go.Proofs.YtifploedaacedaaGreatDoorE
namespace Go.Proofs.YtifploedaacedaaGreatDoorE
open Go Go.E Go.Proofs
structure RT (st:SS) (v:Value) (us:List (Nat×Tok)) (hi:Nat):Prop where
 rd:Rd st v (rowsL us) 5 us.length
 vb:∀ j k l q,v=.slice (some ⟨j,k,none⟩) l q→j<hi
 sz:us.length≤1099511627776/8
section
variable {S : List Nat} {st st' : SS} {v : Value} {us : List (Nat × Tok)} {hi B : Nat}
theorem RT.keepB (h:RT st v us hi) (k:Keep B S st st') (hB:hi≤B) (hS:∀ j,j∈S→hi≤j):RT st' v us hi:=by
 refine ⟨?_,h.vb,h.sz⟩
 obtain ⟨h1,h2⟩:=h.rd
 refine ⟨h1,h2.imp id ?_⟩
 rintro ⟨j,cap,e,⟨z',hm⟩,hj⟩
 have hjb:=h.vb j 0 _ cap e
 exact ⟨j,cap,e,⟨z',(k.keep j (by omega) (fun hx=>by have:=hS j hx;omega)).trans hm⟩,zll hj k.next⟩
theorem RT.ext (h:RT st v us hi) (x:Ext st st'):RT st' v us hi:=⟨h.rd.ext x,h.vb,h.sz⟩
theorem RT.at' (h:RT st v us hi) {i:Nat} {t:Nat×Tok} (ht:us[i]?=some t):∃ p,zah v (i:Int) 5=some p∧∀ s:SS,RT s v us hi→
  s.ld p.1 p.2=some (.int .i64 t.2.kd)∧s.ld p.1 (p.2+1)=some (.string (mkS t.2.tx))∧s.ld p.1 (p.2+2)=some (.int .i64 t.2.nm)∧s.ld p.1 (p.2+3)=some (.int .i64 t.1)∧s.ld p.1 (p.2+4)=some (.int .i64 t.2.col):=by
 have hlt:(i:Int)<(us.length:Int):=by have:=(List.getElem?_eq_some_iff.1 ht).1;omega
 obtain ⟨p,a1,_,_⟩:=h.rd.load (j:=(i:Int)) (by omega) hlt (zi4 us i t ht) rfl
 refine ⟨p,a1,fun s hs=>?_⟩
 obtain ⟨q,b1,_,b3⟩:=hs.rd.load (j:=(i:Int)) (by omega) hlt (zi4 us i t ht) rfl
 rw [a1] at b1
 cases b1
 exact ⟨b3 0 (by omega),b3 1 (by omega),b3 2 (by omega),b3 3 (by omega),b3 4 (by omega)⟩
theorem RT.len (h:RT st v us hi):(lenV v).bind (asI .i64)=some (us.length:Int):=by rw [h.rd.len];rfl
end
theorem zl6 [Sym] {st:SS} {v:Value} {us:List (Nat×Tok)} {hi i:Nat} (h:RT st v us hi) {t:Nat×Tok} (ht:us[i]?=some t) (sg:List UInt8):cc 81 [v,.int .i64 i,.int .i64 3,.string (mkS sg)] st=some (.bool (zaE t.2 sg),st):=by
 obtain ⟨p,e,hp⟩:=h.at' ht
 obtain ⟨k0,k1,_⟩:=hp (st.ro st.next) ⟨h.rd,h.vb,h.sz⟩
 have hlt:(i:Int)<(us.length:Int):=by have:=(List.getElem?_eq_some_iff.1 ht).1;omega
 refine zlq v _ _ _ st ?_
 unfold zaE
 by_cases hk:t.2.kd=3
 ·have hk':(t.2.kd:Int)=3:=by omega
  rw [zdt hk]
  simp only [zgd,h.len,zob,zdt hlt,zct,e,k0,k1,zaa,zab,zdt hk',zdK,Bool.true_and]
  rfl
 ·have hk':¬ (t.2.kd:Int)=3:=by omega
  rw [zdf hk]
  simp only [zgd,h.len,zob,zdt hlt,zct,e,k0,zaa,zdf hk',zcf,Bool.false_and]
  rfl
theorem LineAt.isz {us:List (Nat×Tok)} {i ln:Nat} {l:List Tok} (hl:LineAt us i ln l):i<us.length:=by
 obtain ⟨t,r,rfl⟩:=hl.lin.ne
 exact (List.getElem?_eq_some_iff.1 hl.head).1
theorem zfk (w:Val) (n:Int):flat3 (.tuple #[.agg (valRow w).toArray,.int .i64 n])=true:=by rfl
theorem wrapN {n:Int} (h0: -1000000≤n) (h1:n≤2199023255552):IntKind.wrap .i64 n=n:=wrap64 (by omega) (by omega)
def TakR (v:Value) (i:Nat) (st:SS) (r:Option (Value×SS)):Except Nat (Val×Nat)→Prop
 | .ok (x,n)=>∃ m,st.next≤m∧r=some (.tuple #[.agg (valRow x).toArray,.int .i64 n],st.adv m)
 | .error o=>∃ m w,st.next≤m∧r=some (.tuple #[.agg (valRow w).toArray,.int .i64 (-((o:Int)+1))],st.adv m)
theorem zrO [Sym] {st:SS} {v:Value} {us:List (Nat×Tok)} {hi i ln:Nat} {l:List Tok} (h:RT st v us hi) (hhi:hi≤st.next) (hl:LineAt us i ln l):TakR v i st (cc 82 [v,.int .i64 i] st) (zd8 l):=by
 obtain ⟨t,r,rfl⟩:=hl.lin.ne
 have hisz:i≤1099511627776:=by have:=hl.isz;have:=h.sz;omega
 have h0:RT (st.ro st.next) v us hi:=⟨h.rd,h.vb,h.sz⟩
 have a1:At ((st.ro st.next).new (.cells Z3 0)) st.next Z3:=At.new (st:=st.ro st.next) (zlr _) Z3
 have x1:Ext (st.ro st.next) ((st.ro st.next).new (.cells Z3 0)):=(Ext.refl _).new _
 obtain ⟨p,e,hp⟩:=h.at' hl.head
 obtain ⟨s5,e5,a5,x5,n5⟩:=ziC (st:=(st.ro st.next).new (.cells Z3 0)) (by simp) (r:=Z3) (row:=valRow ⟨[],0,t.col⟩) rfl rfl
 have e5':(((st.ro st.next).new (.cells Z3 0)).new (.cells Z3 0)).st ((st.ro st.next).new (.cells Z3 0)).next 0 [.string ⟨#[]⟩,.int .i64 0,.int .i64 t.col]=some s5:=e5
 have b5:=a1.ext x5
 have h5:=(h0.ext x1).ext x5
 obtain ⟨_,_,_,_,q4⟩:=hp _ (h0.ext x1)
 obtain ⟨k0,k1,k2,_,_⟩:=hp _ h5
 have hn5:s5.next=st.next+2:=by rw [n5];rfl
 have hj:((st.ro st.next).new (.cells Z3 0)).next=st.next+1:=rfl
 have nx:∀ {s:SS},s5.next≤s.next→st.next≤s.next:=fun hs=>by omega
 rw [zgW]
 by_cases h2:t.kd=2
 ·rw [if_pos h2]
  have h2':(t.kd:Int)=2:=by omega
  obtain ⟨s10,e10,a10,m10,n10⟩:=a5.sto (k:=1) (vs:=[.int .i64 t.nm]) (row':=valRow ⟨[],t.nm,t.col⟩) rfl rfl
  obtain ⟨s12,f1,f2,f3,f4,_⟩:=zbe (n:=3) (b5.mod m10 (by simp)) rfl a10 rfl rfl
  refine ⟨s12.next,nx (by have:=f4.next;omega),zbA v _ st ?_⟩
  simp only [zbC,SS.ro_next,e,zob,q4,zaa,e5',k0,zdt h2',zct,k2,e10,f1,f2,f3,zfk]
  rfl
 ·rw [if_neg h2]
  have h2':¬ (t.kd:Int)=2:=by omega
  by_cases h1:t.kd=1
  case neg=>
   rw [if_neg h1]
   have h1':¬ (t.kd:Int)=1:=by omega
   obtain ⟨s17,f1,f2,f3,f4,_⟩:=zbe (n:=3) b5 rfl a5 rfl rfl
   have hfl:=zfk ⟨[],0,t.col⟩ (-1)
   refine ⟨s17.next,⟨[],0,t.col⟩,nx (by have:=f4.next;omega),zbA v _ st ?_⟩
   simp only [zbC,SS.ro_next,e,zob,q4,zaa,e5',k0,zdf h2',zcf,zdf h1',znf,zct,f1,f2,f3,hfl]
   rfl
  rw [if_pos h1]
  have h1':(t.kd:Int)=1:=by omega
  have hl1:=hl.tail (by omega)
  obtain ⟨s,u,rfl⟩:=hl1.lin.ne
  obtain ⟨s21,e21,a21,m21,n21⟩:=a5.sto (k:=0) (vs:=[.string (mkS t.tx)]) (row':=valRow ⟨t.tx,0,t.col⟩) rfl rfl
  have b21:=b5.mod m21 (by simp)
  have h21:RT s21 v us hi:=h5.keepB (m21.keepB (zlr _)) (by omega) (by simp;omega)
  have hw1:=za4 hisz
  have hw2:IntKind.wrap .i64 ((i:Int)+2)=((i+2:Nat):Int):=zn8 hisz (k:=2) (by omega)
  have c1:=zl6 h21 hl1.head [43]
  have c1':cc 81 [v,.int .i64 ((i+1:Nat):Int),.int .i64 3,.string ⟨#[43]⟩] s21=some (.bool (zaE s [43]),s21):=c1
  simp only
  by_cases hpl:zaE s [43]=true
  ·rw [hpl] at c1'
   rw [if_pos hpl]
   have hl2:=hl1.tail (by have:=zb4 hpl;omega)
   obtain ⟨w,z,rfl⟩:=hl2.lin.ne
   obtain ⟨p2,g2,hp2⟩:=h.at' hl2.head
   have g2':zah v ((i+2:Nat):Int) 5=some p2:=g2
   obtain ⟨w0,_,w2,_⟩:=hp2 s21 h21
   simp only
   by_cases hw:w.kd=2
   ·rw [if_pos hw]
    have hw':(w.kd:Int)=2:=by omega
    obtain ⟨s59,e59,a59,m59,n59⟩:=a21.sto (k:=1) (vs:=[.int .i64 w.nm]) (row':=valRow ⟨t.tx,w.nm,t.col⟩) rfl rfl
    obtain ⟨s67,f1,f2,f3,f4,_⟩:=zbe (n:=3) (b21.mod m59 (by simp)) rfl a59 rfl rfl
    have hfl:=zfk ⟨t.tx,w.nm,t.col⟩ 3
    refine ⟨s67.next,nx (by have:=f4.next;omega),zbA v _ st ?_⟩
    simp only [zbC,SS.ro_next,e,zob,q4,zaa,zab,e5',k0,k1,zdf h2',zcf,zdt h1',znt,e21,hw1,c1',zal,hw2,g2',w0,zdt hw',w2,e59,f1,f2,f3,hfl,zct]
    rfl
   ·rw [if_neg hw]
    have hw':¬ (w.kd:Int)=2:=by omega
    obtain ⟨s54,f1,f2,f3,f4,_⟩:=zbe (n:=3) b21 rfl a21 rfl rfl
    have hfl:=zfk ⟨t.tx,0,t.col⟩ (-3)
    refine ⟨s54.next,⟨t.tx,0,t.col⟩,nx (by have:=f4.next;omega),zbA v _ st ?_⟩
    simp only [zbC,SS.ro_next,e,zob,q4,zaa,zab,e5',k0,k1,zdf h2',zcf,zdt h1',znt,e21,hw1,c1',zal,hw2,g2',w0,zdf hw',znf,f1,f2,f3,hfl,zct]
    rfl
  ·have hpl':zaE s [43]=false:=Bool.eq_false_iff.2 hpl
   rw [hpl'] at c1'
   rw [if_neg hpl]
   have c2:=zl6 h21 hl1.head [45]
   have c2':cc 81 [v,.int .i64 ((i+1:Nat):Int),.int .i64 3,.string ⟨#[45]⟩] s21=some (.bool (zaE s [45]),s21):=c2
   by_cases hm:zaE s [45]=true
   ·rw [hm] at c2'
    rw [if_pos hm]
    have hl2:=hl1.tail (by have:=zb4 hm;omega)
    obtain ⟨w,z,rfl⟩:=hl2.lin.ne
    obtain ⟨p2,g2,hp2⟩:=h.at' hl2.head
    have g2':zah v ((i+2:Nat):Int) 5=some p2:=g2
    obtain ⟨w0,_,w2,_⟩:=hp2 s21 h21
    simp only
    by_cases hw:w.kd=2
    ·rw [if_pos hw]
     have hw':(w.kd:Int)=2:=by omega
     obtain ⟨s40,e40,a40,m40,n40⟩:=a21.sto (k:=1) (vs:=[.int .i64 w.nm]) (row':=valRow ⟨t.tx,w.nm,t.col⟩) rfl rfl
     have l41:s40.ld ((st.ro st.next).new (.cells Z3 0)).next 1=some (.int .i64 w.nm):=a40.ld
     obtain ⟨s43,e43,a43,m43,n43⟩:=a40.sto (k:=1) (vs:=[.int .i64 (-w.nm)]) (row':=valRow ⟨t.tx, -w.nm,t.col⟩) rfl rfl
     obtain ⟨s45,f1,f2,f3,f4,_⟩:=zbe (n:=3) ((b21.mod m40 (by simp)).mod m43 (by simp)) rfl a43 rfl rfl
     have hneg:=zrM hl2.tok.nm0 hl2.tok.nm1
     have hfl:=zfk ⟨t.tx, -w.nm,t.col⟩ 3
     refine ⟨s45.next,nx (by have:=f4.next;omega),zbA v _ st ?_⟩
     simp only [zbC,SS.ro_next,e,zob,q4,zaa,zab,e5',k0,k1,zdf h2',zcf,zdt h1',znt,e21,hw1,c1',zal,znf,zct,c2',hw2,g2',w0,zdt hw',w2,e40,l41,hneg,e43,f1,f2,f3,hfl]
     rfl
    ·rw [if_neg hw]
     have hw':¬ (w.kd:Int)=2:=by omega
     obtain ⟨s54,f1,f2,f3,f4,_⟩:=zbe (n:=3) b21 rfl a21 rfl rfl
     have hfl:=zfk ⟨t.tx,0,t.col⟩ (-3)
     refine ⟨s54.next,⟨t.tx,0,t.col⟩,nx (by have:=f4.next;omega),zbA v _ st ?_⟩
     simp only [zbC,SS.ro_next,e,zob,q4,zaa,zab,e5',k0,k1,zdf h2',zcf,zdt h1',znt,e21,hw1,c1',zal,znf,zct,c2',hw2,g2',w0,zdf hw',f1,f2,f3,hfl]
     rfl
   ·have hm':zaE s [45]=false:=Bool.eq_false_iff.2 hm
    rw [hm'] at c2'
    rw [if_neg hm]
    obtain ⟨s54,f1,f2,f3,f4,_⟩:=zbe (n:=3) b21 rfl a21 rfl rfl
    have hfl:=zfk ⟨t.tx,0,t.col⟩ 1
    refine ⟨s54.next,nx (by have:=f4.next;omega),zbA v _ st ?_⟩
    simp only [zbC,SS.ro_next,e,zob,q4,zaa,zab,e5',k0,k1,zdf h2',zcf,zdt h1',znt,e21,hw1,c1',zal,znf,zct,c2',f1,f2,f3,hfl]
    rfl
def RArgsR (B lb j2:Nat) (w0 w1 w2 w4 v:Value) (i:Nat) (vs:List Val) (st:SS) (r:Option (Nat×List Value×SS)):Except Nat (List Val)→Prop
 | .ok qs=>∃ st' av',r=some (0,[ptr j2 0,ptr lb 0],st')∧Keep B [lb] st st'∧At st' lb [w0,w1,w2,av',w4]∧Own B st' av' (rowsF valRow (vs++qs)) 3 (vs++qs).length
 | .error o=>∃ st' row,r=some (1,[ptr j2 0,.int .i64 ((i+o:Nat):Int)],st')∧Keep B [lb,j2] st st'∧At st' j2 row∧row.length=5∧row.all one=true
theorem zsF [Sym] {ln lb B j2 hi:Nat} {v w0 w1 w2 w4:Value} {us:List (Nat×Tok)} (hhj:hi≤j2) (hjl:j2<lb) (hlB:lb<B) (hw:one w0=true∧one w1=true∧one w2=true∧one w4=true):∀ (k i:Nat) (l:List Tok) (vs:List Val) (av:Value) (st:SS),l.length≤k→vs.length+k≤1099511627776/8→st.lim≤st.next→RT st v us hi→LineAt us i ln l→
  At st lb [w0,w1,w2,av,w4]→(∃ r2,At st j2 r2∧r2.length=5)→B≤st.next→Own B st av (rowsF valRow vs) 3 vs.length→
  RArgsR B lb j2 w0 w1 w2 w4 v i vs st (zas 11 [v,ptr j2 0,ptr lb 0,.int .i64 i] st) (zdj k l):=by
 intro k
 induction k with
 | zero=>
   intro i l vs av st hk _ _ h hl
   obtain ⟨t,r,rfl⟩:=hl.lin.ne
   simp at hk
 | succ k ih=>
   intro i l vs av st hk hvs hll h hl ha hj2 hB ho
   obtain ⟨t,r,rfl⟩:=hl.lin.ne
   obtain ⟨p,e,hp⟩:=h.at' hl.head
   obtain ⟨k0,_⟩:=hp st h
   have hlim:st.lim≤B:=by have:=ha.2.2;omega
   have hisz:i≤1099511627776:=by have:=hl.isz;have:=h.sz;omega
   unfold zdj
   by_cases h0:t.kd=0
   ·rw [if_pos h0]
    have hr:=hl.lin.last h0
    subst hr
    have h0':(t.kd:Int)=0:=by omega
    refine ⟨st,av,zdm v _ _ _ st ?_,.refl _,ha,by simpa using ho⟩
    simp only [zcS,e,zob,k0,zaa,zdt h0',znt,zcf]
   ·rw [if_neg h0]
    have h0':¬ (t.kd:Int)=0:=by omega
    have hp:=zrO h (by omega) hl
    have hlin:=zi7 hl.lin
    cases hx:zd8 (t::r) with
    | error o=>
      rw [hx] at hp hlin
      obtain ⟨m,w,hm,c3⟩:=hp
      have x3:Ext st (st.adv m):=.advR st hm
      obtain ⟨s7,e7,a7,x7,_⟩:=zaO (st:=st.adv m) (x3.ll hll) (r:=Z3) (zaC (valRow w)) (n:=3) rfl rfl rfl
      have x07:=x3.trans x7
      obtain ⟨r2,a2,l2⟩:=hj2
      have la7:=ha.ext x07
      obtain ⟨s8,f1,f2,f3,f4,f5⟩:=zbe (n:=5) (a2.ext x07) l2 la7 rfl (by simp [hw,ho.cell.2])
      have hneg: -((o:Int)+1)<0:=by omega
      have hw1:IntKind.wrap .i64 ((i:Int)- -((o:Int)+1))=(i:Int)+o+1:=by
       have:=hl.isz;have:=h.sz
       simp only at hlin
       have:o<us.length:=by
        obtain ⟨rest,hr⟩:=hl.drop
        have:=congrArg List.length hr
        simp at this hlin
        omega
       rw [wrapN (by omega) (by omega)];omega
      have hw2:IntKind.wrap .i64 ((i:Int)+o+1-1)=((i+o:Nat):Int):=by
       have:=hl.isz;have:=h.sz
       simp only at hlin
       have:o<us.length:=by
        obtain ⟨rest,hr⟩:=hl.drop
        have:=congrArg List.length hr
        simp at this hlin
        omega
       rw [wrapN (by omega) (by omega)];omega
      refine ⟨s8,[w0,w1,w2,av,w4],zdm v _ _ _ st ?_,(x07.keepB hB).thenI f4 (zlt hB x07.next) (.inr (by simp)),f5,rfl,by simp [hw,ho.cell.2]⟩
      simp only [zcS,e,zob,k0,zaa,zdf h0',znf,zct,c3,zan,List.getElem?_toArray,zgs,zgz,e7,zdt hneg,zac,f1,hw1,hw2,f2]
    | ok y=>
      obtain ⟨x,n⟩:=y
      rw [hx] at hp hlin
      obtain ⟨m,hm,c3⟩:=hp
      simp only at hlin
      have x3:Ext st (st.adv m):=.advR st hm
      obtain ⟨s7,e7,a7,x7,_⟩:=zaO (st:=st.adv m) (x3.ll hll) (r:=Z3) (zaC (valRow x)) (n:=3) rfl rfl rfl
      have x07:=x3.trans x7
      have nx7:B≤s7.next:=zlt hB x07.next
      have la7:=ha.ext x07
      have o7:=ho.ext x07
      have l13:s7.ld lb 3=some av:=la7.ld
      have l14:s7.ldN (st.adv m).next 0 3=some (.agg (valRow x).toArray):=a7.ldN rfl
      have hc15:zaB (.agg (valRow x).toArray) 3=some (valRow x):=zia rfl
      obtain ⟨av',s17,g1,g2,g3⟩:=o7.pushK nx7 (by rw [x07.lim];exact hlim) (row:=valRow x) rfl (by omega) rfl (bt:=32) (by omega) (by omega)
      have la17:=la7.keepB (g3 []) hlB (by simp)
      have h17:=(h.ext x07).keepB (g3 []) (by omega) (by simp)
      have K17:Keep B [lb] st s17:=(x07.keepB hB).then (g3 _)
      obtain ⟨s19,e19,a19,m19,_⟩:=la17.stV (k:=3) (n:=1) g2.cell.1 rfl (by simp [g2.cell.2]) (row':=[w0,w1,w2,av',w4]) rfl
      have nx17:B≤s17.next:=zlt hB K17.next
      have K19:=K17.thenI m19 nx17 (.inr (by simp))
      have h19:=h17.keepB (m19.keepB (zlr _)) (by omega) (by simp;omega)
      have o19:=g2.modLt m19 (by simp;omega)
      have o19':Own B s19 av' (rowsF valRow (vs++[x])) 3 (vs++[x]).length:=by rw [zbz,zcg,List.length_append];exact o19
      have hnl:n<(t::r).length:=by
       obtain ⟨t',r',e⟩:=hlin.1.ne
       have:=congrArg List.length e
       simp at this ⊢
       omega
      have hj23:∃ r2,At s19 j2 r2∧r2.length=5:=by
       obtain ⟨r2,a2,l2⟩:=hj2
       exact ⟨r2,a2.keepB K19 (by omega) (by simp;omega),l2⟩
      have next:=ih (i+n) ((t::r).drop n) (vs++[x]) av' s19 (by rw [List.length_drop];omega) (by simp;omega) (K19.ll hll) h19 (hl.go hlin.1) a19 hj23 (zlt hB K19.next) o19'
      have hneg:¬ (n:Int)<0:=by omega
      have hgo:=(hl.go hlin.1).isz
      have hwn:IntKind.wrap .i64 ((i:Int)+(n:Int))=((i+n:Nat):Int):=zn8 hisz (by have:=h.sz;omega)
      have step:∀ y,zas 11 [v,ptr j2 0,ptr lb 0,.int .i64 ((i+n:Nat):Int)] s19=some y→zas 11 [v,ptr j2 0,ptr lb 0,.int .i64 i] st=some y:=fun y hy=>by
       refine zdm v _ _ _ st ?_
       simp only [zcS,e,zob,k0,zaa,zdf h0',znf,zct,c3,zan,List.getElem?_toArray,zgs,zgz,e7,zdf hneg,zcf,zac,l13,l14,hc15,List.append_nil,g1,e19,hwn]
       exact hy
      simp only
      cases hz:zdj k ((t::r).drop n) with
      | error o=>
        rw [hz] at next
        obtain ⟨st',row,d1,d2,d4,d5,d6⟩:=next
        rw [Nat.add_assoc] at d1
        exact ⟨st',row,step _ d1,(K19.mono (zlr _) (fun j hj _=>by simp at hj ⊢;omega)).then d2,d4,d5,d6⟩
      | ok qs=>
        rw [hz] at next
        obtain ⟨st',pv2,d1,d2,d4,d5⟩:=next
        exact ⟨st',pv2,step _ d1,K19.then d2,d4,by simpa using d5⟩
theorem zsG [Sym] {us:List (Nat×Tok)} {hi i:Nat} {t:Nat×Tok} (ps:List Pr) (hsz:ps.length≤1099511627776) (v pv t2 x:Value) (st0:SS) (hll:st0.lim≤st0.next) (h:RT st0 v us hi) (ht:us[i]?=some t) (hv:Rd st0 pv (rowsF prRow ps) 5 ps.length):
  ∀ (k j:Nat) (b:Bool) (st:SS),ps.length=k+j→Ext st0 st→∃ st',zas 21 [v,t2,x,.int .i64 i,.bool b,pv,.int .i64 ps.length,.int .i64 j] st=some (0,[v,t2,x,.int .i64 i,.bool (b||decide (t.2.tx∈(ps.drop j).map (·.fd)))],st')∧Ext st0 st':=by
 intro k
 induction k with
 | zero=>
   intro j b st hk he
   have hlt:¬ (j:Int)<(ps.length:Int):=by omega
   refine ⟨st,zdn v t2 x _ _ pv _ _ st ?_,he⟩
   rw [List.drop_of_length_le (by omega)]
   simp only [zcT,zdf hlt,zcf,List.map_nil,List.not_mem_nil,decide_false,Bool.or_false]
 | succ k ih=>
   intro j b st hk he
   obtain ⟨p,hp⟩:∃ p,ps[j]?=some p:=⟨_,zge (by omega)⟩
   have hjl:(j:Int)<(ps.length:Int):=by omega
   obtain ⟨y,b1,b2,_⟩:=(hv.ext he).load (j:=(j:Int)) (by omega) hjl (zaW zja ps j p hp) rfl
   have b2':st.ldN y.1 y.2 5=some (.agg (prRow p).toArray):=b2
   obtain ⟨s4,e4,a4,x4,_⟩:=zaO (st:=st) (he.ll hll) (r:=[.string ⟨#[]⟩,.int .i64 0,.string ⟨#[]⟩,.int .i64 0,.int .i64 0]) (zaC (prRow p)) (n:=5) rfl rfl rfl
   have l0:s4.ld st.next 0=some (.string (mkS p.fd)):=a4.ld
   obtain ⟨q,e,hq⟩:=h.at' ht
   obtain ⟨_,k1,_⟩:=hq s4 (h.ext (he.trans x4))
   have hw:=za4 (i:=j) (by omega)
   rw [drop_cons hp]
   cases b with
   | true=>
     obtain ⟨st',d1,d2⟩:=ih (j+1) true s4 (by omega) (he.trans x4)
     refine ⟨st',zdn v t2 x _ _ pv _ _ st ?_,d2⟩
     simp only [Bool.true_or] at d1
     simp only [zcT,zdt hjl,zct,b1,zob,b2',e4,hw,Bool.true_or]
     exact d1
   | false=>
     obtain ⟨st',d1,d2⟩:=ih (j+1) (eqT (mkS p.fd) (mkS t.2.tx)) s4 (by omega) (he.trans x4)
     refine ⟨st',zdn v t2 x _ _ pv _ _ st ?_,d2⟩
     have hor:(eqT (mkS p.fd) (mkS t.2.tx)||decide (t.2.tx∈(ps.drop (j+1)).map (·.fd)))=(false||decide (t.2.tx∈(p::ps.drop (j+1)).map (·.fd))):=by
      rw [zdK,Bool.eq_iff_iff]
      simp only [Bool.or_eq_true,decide_eq_true_eq,List.map_cons,List.mem_cons,Bool.false_eq_true,false_or]
      constructor
      ·rintro (h | h)
       ·exact .inl h.symm
       ·exact .inr h
      ·rintro (h | h)
       ·exact .inl h.symm
       ·exact .inr h
     rw [hor] at d1
     simp only [zcT,zdt hjl,zct,b1,zob,b2',e4,zcf,l0,zab,e,k1,hw]
     exact d1
noncomputable def zg0 (cf:zam) (lf:zad) (a b c:Value) (d:Int) (e:Bool) (s:SS):Option (Nat×List Value×SS):=
 (zah a d 5).bind fun f=>
  ((s.ld f.1 f.2).bind (asI .i64)).bind fun g=>
  cond (!(decide (g=1))) (
   (addr? c).bind fun h=>
   (s.ldN h.1 h.2 5).bind fun i=>
   (addr? b).bind fun j=>
   (s.stV j.1 j.2 5 i).bind fun k=>
   some (1,[b,.int .i64 d],k)) (
   cond e (
    (addr? c).bind fun l=>
    (s.ldN l.1 l.2 5).bind fun m=>
    (addr? b).bind fun n=>
    (s.stV n.1 n.2 5 m).bind fun o=>
    some (1,[b,.int .i64 d],o)) (
    let p:Int:=IntKind.wrap .i64 (d+1)
    (cf 81 [a,.int .i64 p,.int .i64 3,.string ⟨#[61]⟩] s).bind fun q=>
    ((some q.1).bind asB).bind fun r=>
    cond (!r) (
     (addr? c).bind fun t=>
     (q.2.ldN t.1 t.2 5).bind fun u=>
     let v:Int:=IntKind.wrap .i64 (d+1)
     (addr? b).bind fun w=>
     (q.2.stV w.1 w.2 5 u).bind fun x=>
     some (1,[b,.int .i64 v],x)) (
     let y:Int:=IntKind.wrap .i64 (d+2)
     (cf 82 [a,.int .i64 y] q.2).bind fun z=>
     (zan z.1 0).bind fun A=>
     ((zan z.1 1).bind (asI .i64)).bind fun B=>
     let C:SS:=z.2.new (.cells [.string ⟨#[]⟩,.int .i64 0,.int .i64 0] 0)
     (C.stV z.2.next 0 3 A).bind fun D=>
     cond (decide (B<0)) (
      (addr? c).bind fun E=>
      (D.ldN E.1 E.2 5).bind fun F=>
      let G:Int:=IntKind.wrap .i64 (d+2)
      let H:Int:=IntKind.wrap .i64 (G-B)
      let I:Int:=IntKind.wrap .i64 (H-1)
      (addr? b).bind fun J=>
      (D.stV J.1 J.2 5 F).bind fun K=>
      some (1,[b,.int .i64 I],K)) (
      (addr? c).bind fun L=>
      (D.ld L.1 (L.2+4)).bind fun M=>
      (zah a d 5).bind fun N=>
      ((D.ld N.1 (N.2+1)).bind asS).bind fun O=>
      (zah a d 5).bind fun P=>
      ((D.ld P.1 (P.2+4)).bind (asI .i64)).bind fun Q=>
      (D.ldN z.2.next 0 3).bind fun R=>
      (zaB R 3).bind fun S=>
      (zaB (.agg ⟨spl [.string O,.int .i64 Q,.string ⟨#[]⟩,.int .i64 0,.int .i64 0] 2 S⟩) 5).bind fun T=>
      let U:SS:=D.new (.cells (T++([])) 5)
      (U.app 5 56 M (.slice (some ⟨D.next,0,none⟩) 1 1)).bind fun V=>
      (addr? c).bind fun W=>
      (V.2.stV W.1 (W.2+4) 1 V.1).bind fun X=>
      let Y:Int:=IntKind.wrap .i64 (d+2)
      let Z:Int:=IntKind.wrap .i64 (Y+B)
      lf 18 [a,b,c,.int .i64 Z] X))))
noncomputable def rpK (cf:zam) (lf:zad) (a:Nat×List Value×SS):Option (Nat×List Value×SS):=
 (a.2.1[0]?).bind fun b=>(a.2.1[1]?).bind fun c=>(a.2.1[2]?).bind fun d=>((a.2.1[3]?).bind (asI .i64)).bind fun e=>((a.2.1[4]?).bind asB).bind fun f=>zg0 cf lf b c d e f a.2.2
theorem rpK_eq (cf:zam) (lf:zad) (e:Nat) (v7 v8 v9:Value) (n:Int) (b:Bool) (s:SS):rpK cf lf (e,[v7,v8,v9,.int .i64 n,.bool b],s)=zg0 cf lf v7 v8 v9 n b s:=rfl
theorem zpl (cf:zam) (lf:zad) (v t2 x:Value) (i:Int) (st:SS):zd3 cf lf v t2 x i st=(zah v i 5).bind fun p1=>((st.ld p1.1 p1.2).bind (asI .i64)).bind fun n2=>cond (!(decide (n2=0)))
  ((addr? x).bind fun p3=>(st.ld p3.1 (p3.2+4)).bind fun v4=>((lenV v4).bind (asI .i64)).bind fun n5=>(lf 21 [v,t2,x,.int .i64 i,.bool false,v4,.int .i64 n5,.int .i64 0] st).bind (rpK cf lf)) (some (0,[t2,x],st)):=rfl
def zoR (B lb j2:Nat) (w0 w1 w2 w3 v:Value) (i:Nat) (ps:List Pr) (st:SS) (r:Option (Nat×List Value×SS)):Except Nat (List Pr)→Prop
 | .ok qs=>∃ st' pv',r=some (0,[ptr j2 0,ptr lb 0],st')∧Keep B [lb] st st'∧At st' lb [w0,w1,w2,w3,pv']∧Own B st' pv' (rowsF prRow (ps++qs)) 5 (ps++qs).length
 | .error o=>∃ st' row,r=some (1,[ptr j2 0,.int .i64 ((i+o:Nat):Int)],st')∧Keep B [lb,j2] st st'∧At st' j2 row∧row.length=5∧row.all one=true
theorem spl_pr (a:ByteArray) (c:Int) (w:Val):zaB (.agg ⟨spl [.string a,.int .i64 c,.string ⟨#[]⟩,.int .i64 0,.int .i64 0] 2 (valRow w)⟩) 5=some [.string a,.int .i64 c,.string (mkS w.nm),.int .i64 w.x,.int .i64 w.col]:=rfl
def RStepR (B lb j2:Nat) (w0 w1 w2 w3 pv v:Value) (us:List (Nat×Tok)) (hi i:Nat) (ps:List Pr) (st s6:SS) (lf:zad) (r:Option (Nat×List Value×SS)):Except Nat (Pr×Nat)→Prop
 | .ok (p,n)=>∃ s55 pv',r=lf 18 [v,ptr j2 0,ptr lb 0,.int .i64 ((i+n:Nat):Int)] s55∧Keep B [lb] st s55∧At s55 lb [w0,w1,w2,w3,pv']∧Own B s55 pv' (rowsF prRow (ps++[p])) 5 (ps++[p]).length∧RT s55 v us hi
 | .error o=>∃ s',r=some (1,[ptr j2 0,.int .i64 ((i+o:Nat):Int)],s')∧Keep B [lb,j2] st s'∧At s' j2 [w0,w1,w2,w3,pv]
theorem zt3 [Sym] {ln lb B j2 hi i:Nat} {v w0 w1 w2 w3 pv:Value} {us:List (Nat×Tok)} {l:List Tok} {t:Tok} {r:List Tok} (hlr:l=t::r) {ps:List Pr} {st s6:SS} (lf:zad) (hhj:hi≤j2) (hjl:j2<lb) (hlB:lb<B) (hw:one w0=true∧one w1=true∧one w2=true∧one w3=true)
  (hps:ps.length≤1099511627776/8) (hll:st.lim≤st.next) (h:RT st v us hi) (hl:LineAt us i ln l) (ha:At st lb [w0,w1,w2,w3,pv]) (hj2:∃ r2,At st j2 r2∧r2.length=5) (hB:B≤st.next) (ho:Own B st pv (rowsF prRow ps) 5 ps.length) (x6:Ext st s6):
  RStepR B lb j2 w0 w1 w2 w3 pv v us hi i ps st s6 lf (zg0 cc lf v (ptr j2 0) (ptr lb 0) i (decide (t.tx∈ps.map (·.fd))) s6) (pairT (ps.map (·.fd)) l):=by
 subst hlr
 obtain ⟨p,e,hp⟩:=h.at' hl.head
 have hlim:st.lim≤B:=by have:=ha.2.2;omega
 have hisz:i≤1099511627776:=by have:=hl.isz;have:=h.sz;omega
 have h6:=h.ext x6
 obtain ⟨q0,q1,_,_,q4⟩:=hp s6 h6
 have fail:∀ (s:SS),Ext st s→∃ s',s.ldN lb 0 5=some (.agg [w0,w1,w2,w3,pv].toArray)∧s.stV j2 0 5 (.agg [w0,w1,w2,w3,pv].toArray)=some s'∧Keep B [lb,j2] st s'∧At s' j2 [w0,w1,w2,w3,pv]:=by
  intro s x
  obtain ⟨r2,a2,l2⟩:=hj2
  obtain ⟨s',f1,f2,f3,f4,f5⟩:=zbe (n:=5) (a2.ext x) l2 (ha.ext x) rfl (by simp [hw,ho.cell.2])
  exact ⟨s',f1,f2,(x.keepB hB).thenI f4 (zlt hB x.next) (.inr (by simp)),f5⟩
 have hlin:=zi8 (seen:=ps.map (·.fd)) hl.lin
 have hoff:∀ o,pairT (ps.map (·.fd)) (t::r)=.error o→i+o<us.length:=fun o ho'=>by
  rw [ho'] at hlin
  simp only at hlin
  obtain ⟨rest,hr⟩:=hl.drop
  have hr':=congrArg List.length hr
  rw [List.length_drop,List.length_append,List.length_map] at hr'
  have hlt:=hl.isz
  omega
 rw [zib] at hlin hoff ⊢
 by_cases h1:t.kd=1
 case neg=>
  rw [if_neg (fun x=>h1 x.1)]
  have h1':¬ (t.kd:Int)=1:=by omega
  obtain ⟨s',f1,f2,f3,f4⟩:=fail s6 x6
  refine ⟨s',?_,f3,f4⟩
  rw [Nat.add_zero]
  simp only [zg0,e,zob,zaa,zac,q0,zdf h1',znf,zct,f1,f2]
 have h1':(t.kd:Int)=1:=by omega
 by_cases hk:t.tx∈ps.map (·.fd)
 ·rw [if_neg (fun x=>x.2 hk)]
  obtain ⟨s',f1,f2,f3,f4⟩:=fail s6 x6
  refine ⟨s',?_,f3,f4⟩
  rw [Nat.add_zero,zdt hk]
  simp only [zg0,e,zob,zaa,zac,q0,zdt h1',znt,zcf,zct,f1,f2]
 rw [if_pos ⟨h1,hk⟩] at hlin hoff ⊢
 rw [zdf hk]
 have hl1:=hl.tail (by omega)
 obtain ⟨e',u,rfl⟩:=hl1.lin.ne
 have c23:=zl6 h6 hl1.head [61]
 have c23':cc 81 [v,.int .i64 ((i+1:Nat):Int),.int .i64 3,.string ⟨#[61]⟩] s6=some (.bool (zaE e' [61]),s6):=c23
 have hw1:=za4 hisz
 have hw2:IntKind.wrap .i64 ((i:Int)+2)=((i+2:Nat):Int):=zn8 hisz (k:=2) (by omega)
 simp only at hlin hoff ⊢
 by_cases he:zaE e' [61]=true
 case neg=>
  have he':zaE e' [61]=false:=Bool.eq_false_iff.2 he
  rw [he'] at c23'
  rw [if_neg he]
  obtain ⟨s',f1,f2,f3,f4⟩:=fail s6 x6
  refine ⟨s',?_,f3,f4⟩
  simp only [zg0,e,zob,zaa,zac,q0,zdt h1',znt,zcf,hw1,c23',zal,znf,zct,f1,f2]
 rw [he] at c23'
 rw [if_pos he] at hlin hoff ⊢
 have hl2:=hl1.tail (by have:=zb4 he;omega)
 have hval:=zrO h6 (by have:=x6.next;omega) hl2
 cases hx:zd8 u with
 | error o=>
   rw [hx] at hval hoff
   have hoff':=hoff (2+o) rfl
   obtain ⟨m,w,hm,c31⟩:=hval
   have c31':cc 82 [v,.int .i64 ((i+2:Nat):Int)] s6=some (.tuple #[.agg (valRow w).toArray,.int .i64 (-((o:Int)+1))],s6.adv m):=c31
   have x31:Ext s6 (s6.adv m):=.advR _ hm
   obtain ⟨s35,e35,a35,x35,_⟩:=zaO (st:=s6.adv m) ((x6.trans x31).ll hll) (r:=Z3) (zaC (valRow w)) (n:=3) rfl rfl rfl
   have hneg: -((o:Int)+1)<0:=by omega
   have hw3:IntKind.wrap .i64 (((i+2:Nat):Int)- -((o:Int)+1))=(i:Int)+2+o+1:=by have:=h.sz;rw [wrapN (by omega) (by omega)];omega
   have hw4:IntKind.wrap .i64 ((i:Int)+2+o+1-1)=((i+(2+o):Nat):Int):=by have:=h.sz;rw [wrapN (by omega) (by omega)];omega
   obtain ⟨s',f1,f2,f3,f4⟩:=fail s35 ((x6.trans x31).trans x35)
   refine ⟨s',?_,f3,f4⟩
   simp only [zg0,e,zob,zaa,zac,q0,zdt h1',znt,zcf,hw1,c23',zal,hw2,c31',zan,List.getElem?_toArray,zgs,zgz,e35,zdt hneg,zct,f1,hw3,hw4,f2]
 | ok y=>
   obtain ⟨x,n⟩:=y
   rw [hx] at hval hlin
   simp only at hlin
   obtain ⟨m,hm,c31⟩:=hval
   have c31':cc 82 [v,.int .i64 ((i+2:Nat):Int)] s6=some (.tuple #[.agg (valRow x).toArray,.int .i64 n],s6.adv m):=c31
   have x31:Ext s6 (s6.adv m):=.advR _ hm
   obtain ⟨s35,e35,a35,x35,_⟩:=zaO (st:=s6.adv m) ((x6.trans x31).ll hll) (r:=Z3) (zaC (valRow x)) (n:=3) rfl rfl rfl
   have x035:=(x6.trans x31).trans x35
   have la35:=ha.ext x035
   have o35:=ho.ext x035
   have l44:s35.ld lb 4=some pv:=la35.ld
   obtain ⟨_,z1,_,_,z4⟩:=hp s35 (h.ext x035)
   have l49:s35.ldN (s6.adv m).next 0 3=some (.agg (valRow x).toArray):=a35.ldN rfl
   have hc50:zaB (.agg (valRow x).toArray) 3=some (valRow x):=zia rfl
   have nx35:B≤s35.next:=zlt hB x035.next
   obtain ⟨pv',s53,g1,g2,g3⟩:=o35.pushK nx35 (by rw [x035.lim];exact hlim) (row:=prRow ⟨t.tx,t.col,x⟩) rfl (by omega) rfl (bt:=56) (by omega) (by omega)
   have g1':(s35.new (.cells [.string (mkS t.tx),.int .i64 t.col,.string (mkS x.nm),.int .i64 x.x,.int .i64 x.col] 5)).app 5 56 pv (.slice (some ⟨s35.next,0,none⟩) 1 1)=some (pv',s53):=g1
   have la53:=la35.keepB (g3 []) hlB (by simp)
   have h53:=(h.ext x035).keepB (g3 []) (by omega) (by simp)
   have K53:Keep B [lb] st s53:=(x035.keepB hB).then (g3 _)
   obtain ⟨s55,e55,a55,m55,_⟩:=la53.stV (k:=4) (n:=1) g2.cell.1 rfl (by simp [g2.cell.2]) (row':=[w0,w1,w2,w3,pv']) rfl
   have nx53:B≤s53.next:=zlt hB K53.next
   have K55:=K53.thenI m55 nx53 (.inr (by simp))
   have h55:=h53.keepB (m55.keepB (zlr _)) (by omega) (by simp;omega)
   have o55:=g2.modLt m55 (by simp;omega)
   have o55':Own B s55 pv' (rowsF prRow (ps++[(⟨t.tx,t.col,x⟩:Pr)])) 5 (ps++[(⟨t.tx,t.col,x⟩:Pr)]).length:=by rw [zbz,zcg,List.length_append];exact o55
   have hgo:=hl.go (n:=2+n) hlin.1
   have hgz:=hgo.isz
   have hneg:¬ (n:Int)<0:=by omega
   have hw3:IntKind.wrap .i64 (((i+2:Nat):Int)+(n:Int))=((i+(2+n):Nat):Int):=by have:=h.sz;rw [wrapN (by omega) (by omega)];omega
   refine ⟨s55,pv',?_,K55,a55,o55',h55⟩
   simp only [zg0,e,zob,zaa,zac,q0,zdt h1',znt,zcf,hw1,c23',zal,hw2,c31',zan,List.getElem?_toArray,zgs,zgz,e35,zdf hneg,l44,z1,zab,z4,l49,hc50,spl_pr,List.append_nil,g1',e55,hw3]
theorem zrh [Sym] {ln lb B j2 hi:Nat} {v w0 w1 w2 w3:Value} {us:List (Nat×Tok)} (hhj:hi≤j2) (hjl:j2<lb) (hlB:lb<B) (hw:one w0=true∧one w1=true∧one w2=true∧one w3=true):∀ (k i:Nat) (l:List Tok) (ps:List Pr) (pv:Value) (st:SS),l.length≤k→ps.length+k≤1099511627776/8→st.lim≤st.next→RT st v us hi→LineAt us i ln l→
  At st lb [w0,w1,w2,w3,pv]→(∃ r2,At st j2 r2∧r2.length=5)→B≤st.next→Own B st pv (rowsF prRow ps) 5 ps.length→
  zoR B lb j2 w0 w1 w2 w3 v i ps st (zas 18 [v,ptr j2 0,ptr lb 0,.int .i64 i] st) (zbq k (ps.map (·.fd)) l):=by
 intro k
 induction k with
 | zero=>
   intro i l ps pv st hk _ _ h hl
   obtain ⟨t,r,rfl⟩:=hl.lin.ne
   simp at hk
 | succ k ih=>
   intro i l ps pv st hk hps hll h hl ha hj2 hB ho
   obtain ⟨t,r,rfl⟩:=hl.lin.ne
   obtain ⟨p,e,hp⟩:=h.at' hl.head
   obtain ⟨k0,_⟩:=hp st h
   unfold zbq
   by_cases h0:t.kd=0
   ·rw [if_pos h0]
    have hr:=hl.lin.last h0
    subst hr
    have h0':(t.kd:Int)=0:=by omega
    refine ⟨st,pv,ze4 v _ _ _ st ?_,.refl _,ha,by simpa using ho⟩
    simp only [zpl,e,zob,k0,zaa,zdt h0',znt,zcf]
   rw [if_neg h0]
   have h0':¬ (t.kd:Int)=0:=by omega
   have l4:st.ld lb 4=some pv:=ha.ld
   have hlp:(lenV pv).bind (asI .i64)=some (ps.length:Int):=by rw [ho.len];rfl
   obtain ⟨s6,c6,x6⟩:=zsG ps (by omega) v pv (ptr j2 0) (ptr lb 0) st hll h hl.head ho.rd ps.length 0 false st (by omega) (.refl _)
   have c6':zas 21 [v,ptr j2 0,ptr lb 0,.int .i64 i,.bool false,pv,.int .i64 ps.length,.int .i64 0] st=some (0,[v,ptr j2 0,ptr lb 0,.int .i64 i,.bool (decide (t.tx∈ps.map (·.fd)))],s6):=c6
   have hst:=zt3 rfl zas hhj hjl hlB hw (by omega) hll h hl ha hj2 hB ho x6
   have step:∀ y,zg0 cc zas v (ptr j2 0) (ptr lb 0) i (decide (t.tx∈ps.map (·.fd))) s6=some y→zas 18 [v,ptr j2 0,ptr lb 0,.int .i64 i] st=some y:=fun y hy=>by
    refine ze4 v _ _ _ st ?_
    have E:zd3 cc zas v (ptr j2 0) (ptr lb 0) i st=(zas 21 [v,ptr j2 0,ptr lb 0,.int .i64 i,.bool false,pv,.int .i64 ps.length,.int .i64 0] st).bind (rpK cc zas):=by
     rw [zpl]
     simp only [e,zob,k0,zaa,zdf h0',znf,zct,zac,Nat.zero_add,l4,hlp]
    rw [E,c6',zob,rpK_eq]
    exact hy
   have hlin:=zi8 (seen:=ps.map (·.fd)) hl.lin
   cases hx:pairT (ps.map (·.fd)) (t::r) with
   | error o=>
     rw [hx] at hst
     obtain ⟨s',d1,d2,d3⟩:=hst
     exact ⟨s',_,step _ d1,d2,d3,rfl,by simp [hw,ho.cell.2]⟩
   | ok y=>
     obtain ⟨x,n⟩:=y
     rw [hx] at hst hlin
     simp only at hlin
     obtain ⟨s55,pv',d1,K55,a55,o55,h55⟩:=hst
     have hgo:=hl.go (n:=n) hlin.1
     have hnl:n<(t::r).length:=by
      obtain ⟨t',r',e⟩:=hlin.1.ne
      have:=congrArg List.length e
      simp at this ⊢
      omega
     have hj23:∃ r2,At s55 j2 r2∧r2.length=5:=by
      obtain ⟨r2,a2,l2⟩:=hj2
      exact ⟨r2,a2.keepB K55 (by omega) (by simp;omega),l2⟩
     have next:=ih (i+n) ((t::r).drop n) (ps++[x]) pv' s55 (by rw [List.length_drop];omega) (by simp;omega) (K55.ll hll) h55 hgo a55 hj23 (zlt hB K55.next) o55
     rw [List.map_append] at next
     have next':zoR B lb j2 w0 w1 w2 w3 v (i+n) (ps++[x]) s55 (zas 18 [v,ptr j2 0,ptr lb 0,.int .i64 ((i+n:Nat):Int)] s55) (zbq k (ps.map (·.fd)++[x.fd]) ((t::r).drop n)):=next
     simp only
     cases hz:zbq k (ps.map (·.fd)++[x.fd]) ((t::r).drop n) with
     | error o=>
       rw [hz] at next'
       obtain ⟨st',row,b1,b2,b4,b5,b6⟩:=next'
       rw [Nat.add_assoc] at b1
       exact ⟨st',row,step _ (d1.trans b1),(K55.mono (zlr _) (fun j hj _=>by simp at hj ⊢;omega)).then b2,b4,b5,b6⟩
     | ok qs=>
       rw [hz] at next'
       obtain ⟨st',pv2,b1,b2,b4,b5⟩:=next'
       exact ⟨st',pv2,step _ (d1.trans b1),K55.then b2,b4,by simpa using b5⟩
noncomputable def zgf (cf:zam) (lf:zad) (l':Value) (j2 lb:Nat) (a0 a1 a2:Int) (s:SS):Option (Value×SS):=
 (cf 81 [l',.int .i64 a0,.int .i64 3,.string ⟨#[46]⟩] s).bind fun a=>
  ((some a.1).bind asB).bind fun b=>
  cond b (
   (zah l' a1 5).bind fun c=>
   ((a.2.ld c.1 c.2).bind (asI .i64)).bind fun d=>
   cond (!(decide (d=1))) (
    (a.2.ldN lb 0 5).bind fun e=>
    (a.2.stV j2 0 5 e).bind fun f=>
    (f.rdN j2 0 5).bind fun g=>
    some (.tuple #[g,.int .i64 a1],f)) (
    (zah l' a1 5).bind fun h=>
    ((a.2.ld h.1 (h.2+1)).bind asS).bind fun i=>
    (a.2.st lb 2 [.string i]).bind fun j=>
    (lf 11 [l',ptr j2 0,ptr lb 0,.int .i64 a2] j).bind fun k=>
    cond (Nat.beq k.1 0) (
     (k.2.1[0]?).bind fun l=>
     (k.2.1[1]?).bind fun m=>
     (addr? m).bind fun n=>
     (k.2.2.ldN n.1 n.2 5).bind fun o=>
     (addr? l).bind fun p=>
     (k.2.2.stV p.1 p.2 5 o).bind fun q=>
     (addr? l).bind fun r=>
     (q.rdN r.1 r.2 5).bind fun t=>
     some (.tuple #[t,.int .i64 (-1)],q)) (
     (k.2.1[0]?).bind fun u=>
     ((k.2.1[1]?).bind (asI .i64)).bind fun v=>
     (addr? u).bind fun w=>
     (k.2.2.rdN w.1 w.2 5).bind fun x=>
     some (.tuple #[x,.int .i64 v],k.2.2)))) (
   (lf 18 [l',ptr j2 0,ptr lb 0,.int .i64 a0] a.2).bind fun y=>
   cond (Nat.beq y.1 0) (
    (y.2.1[0]?).bind fun z=>
    (y.2.1[1]?).bind fun A=>
    (addr? A).bind fun B=>
    (y.2.2.ldN B.1 B.2 5).bind fun C=>
    (addr? z).bind fun D=>
    (y.2.2.stV D.1 D.2 5 C).bind fun E=>
    (addr? z).bind fun F=>
    (E.rdN F.1 F.2 5).bind fun G=>
    some (.tuple #[G,.int .i64 (-1)],E)) (
    (y.2.1[0]?).bind fun H=>
    ((y.2.1[1]?).bind (asI .i64)).bind fun I=>
    (addr? H).bind fun J=>
    (y.2.2.rdN J.1 J.2 5).bind fun K=>
    some (.tuple #[K,.int .i64 I],y.2.2)))
def RdR (B ln:Nat) (i:Nat) (st:SS) (r:Option (Value×SS)):Except Nat PLine→Prop
 | .ok x=>∃ st' av pv,r=some (.tuple #[zms ln x av pv,.int .i64 (-1)],st')∧Keep B [] st st'∧Own B st' av (rowsF valRow x.args) 3 x.args.length∧Own B st' pv (rowsF prRow x.prs) 5 x.prs.length
 | .error o=>∃ (st':SS) (row:List Value),r=some (.tuple #[.agg row.toArray,.int .i64 ((i+o:Nat):Int)],st')∧Keep B [] st st'∧row.length=5∧row.all one=true
theorem zqF [Sym] {ln lb j2 i B hi:Nat} {v:Value} {us:List (Nat×Tok)} {l:List Tok} {lab:List UInt8} {s:SS} (hhi:hi≤B) (hBj:B≤j2) (hjl:j2<lb) (hls:lb<s.next) (hll:s.lim≤s.next) (h:RT s v us hi) (hl:LineAt us i ln l)
  (ha:At s lb [.int .i64 ln,.string (mkS lab),.string ⟨#[]⟩,.slice none 0 0,.slice none 0 0]) (hj2:∃ r2,At s j2 r2∧r2.length=5):
  RdR B ln i s (zgf cc zas v j2 lb i ((i+1:Nat):Int) ((i+2:Nat):Int) s) (zc5 lab l):=by
 obtain ⟨t,r,rfl⟩:=hl.lin.ne
 have hb0:Nat.beq 0 0=true:=rfl
 have hb1:Nat.beq 1 0=false:=rfl
 have hBs:B≤s.next:=by omega
 have hlen:(t::r).length≤us.length:=by
  obtain ⟨rest,hr⟩:=hl.drop
  have:=congrArg List.length hr
  simp at this ⊢
  omega
 have hsz:=h.sz
 have c23:=zl6 h hl.head [46]
 have c23':cc 81 [v,.int .i64 i,.int .i64 3,.string ⟨#[46]⟩] s=some (.bool (zaE t [46]),s):=c23
 rw [zeC]
 by_cases hs:zaE t [46]=true
 ·rw [hs] at c23'
  rw [if_pos hs]
  have hl1:=hl.tail (by have:=zb4 hs;omega)
  obtain ⟨d,u,rfl⟩:=hl1.lin.ne
  obtain ⟨p,e,hp⟩:=h.at' hl1.head
  obtain ⟨k0,k1,_⟩:=hp s h
  simp only
  by_cases hd:d.kd=1
  ·rw [if_pos hd]
   have hd':(d.kd:Int)=1:=by omega
   have hl2:=hl1.tail (by omega)
   obtain ⟨s28,e28,a28,m28,n28⟩:=ha.sto (k:=2) (vs:=[.string (mkS d.tx)]) (row':=[.int .i64 ln,.string (mkS lab),.string (mkS d.tx),.slice none 0 0,.slice none 0 0]) rfl rfl
   have hj28:∃ r2,At s28 j2 r2∧r2.length=5:=by obtain ⟨r2,a,l2⟩:=hj2;exact ⟨r2,a.mod m28 (by simp;omega),l2⟩
   have h28:=h.keepB (m28.keepB (zlr _)) (by omega) (by simp;omega)
   have K28:Keep B [] s s28:=(m28.keepB hBs).mono (zlr _) (fun j hj hlt=>by simp at hj;omega)
   have hloop:=zsF (B:=s28.next) (lb:=lb) (j2:=j2) (ln:=ln) (by omega) hjl (by omega) (w0:=.int .i64 ln) (w1:=.string (mkS lab)) (w2:=.string (mkS d.tx)) (w4:=.slice none 0 0) ⟨rfl,rfl,rfl,rfl⟩ u.length (i+1+1) u [] (.slice none 0 0) s28 (zlr _) (by simp at hlen ⊢;omega) (m28.ll hll) h28 hl2 a28 hj28 (zlr _) (Own.nil _ _ _)
   cases hx:zdj u.length u with
   | error o=>
     rw [hx] at hloop
     obtain ⟨s32,row,d1,d2,d4,d5,d6⟩:=hloop
     have d1':zas 11 [v,ptr j2 0,ptr lb 0,.int .i64 ((i+2:Nat):Int)] s28=some (1,[ptr j2 0,.int .i64 ((i+1+1+o:Nat):Int)],s32):=d1
     have hr:=d4.rdN d5
     refine ⟨s32,row,?_,K28.then (d2.mono (by omega) (fun j hj hlt=>by simp at hj;omega)),d5,d6⟩
     have ei:i+1+1+o=i+(2+o):=by omega
     rw [ei] at d1'
     simp only [zgf,c23',zob,zal,zct,e,k0,zaa,zdt hd',znt,zcf,k1,zab,e28,d1',hb1,zgs,zgz,zac,hr]
   | ok vs=>
     rw [hx] at hloop
     obtain ⟨s32,av',d1,d2,d4,d5⟩:=hloop
     have d1':zas 11 [v,ptr j2 0,ptr lb 0,.int .i64 ((i+2:Nat):Int)] s28=some (0,[ptr j2 0,ptr lb 0],s32):=d1
     obtain ⟨r2,a2,l2⟩:=hj28
     have a232:=a2.keepB d2 (by have:=a28.lt;omega) (by simp;omega)
     obtain ⟨s38,f1,f2,f3,f4,f5⟩:=zbe (n:=5) a232 l2 d4 rfl (by simp only [List.all_cons,List.all_nil,d5.cell.2];rfl)
     have K32:Keep B [] s s32:=K28.then (d2.mono (by omega) (fun j hj hlt=>by simp at hj;omega))
     have nx32:=d2.next
     refine ⟨s38,av',.slice none 0 0,?_,K32.thenI f4 (by omega) (.inl hBj),((zkd (S:=[]) d5 f4 (.inl (by have:=a28.lt;omega))).low (by omega)),Own.nil _ _ _⟩
     simp only [zgf,c23',zob,zal,zct,e,k0,zaa,zdt hd',znt,zcf,k1,zab,e28,d1',hb0,zgs,zgz,zac,f1,f2,f3]
     rfl
  ·rw [if_neg hd]
   have hd':¬ (d.kd:Int)=1:=by omega
   obtain ⟨r2,a2,l2⟩:=hj2
   obtain ⟨s30,f1,f2,f3,f4,f5⟩:=zbe (n:=5) a2 l2 ha rfl rfl
   refine ⟨s30,[.int .i64 ln,.string (mkS lab),.string ⟨#[]⟩,.slice none 0 0,.slice none 0 0],?_,((f4.keepB hBs).mono (zlr _) (fun j hj hlt=>by simp at hj;omega)),rfl,rfl⟩
   simp only [zgf,c23',zob,zal,zct,e,k0,zaa,zdf hd',znf,f1,f2,f3]
 ·have hs':zaE t [46]=false:=Bool.eq_false_iff.2 hs
  rw [hs'] at c23'
  rw [if_neg hs]
  have hloop:=zrh (B:=s.next) (lb:=lb) (j2:=j2) (ln:=ln) (by omega) hjl (by omega) (w0:=.int .i64 ln) (w1:=.string (mkS lab)) (w2:=.string ⟨#[]⟩) (w3:=.slice none 0 0) ⟨rfl,rfl,rfl,rfl⟩ (t::r).length i (t::r) [] (.slice none 0 0) s (zlr _) (by simp at hlen ⊢;omega) hll h hl ha hj2 (zlr _) (Own.nil _ _ _)
  have hloop':zoR s.next lb j2 (.int .i64 ln) (.string (mkS lab)) (.string ⟨#[]⟩) (.slice none 0 0) v i [] s (zas 18 [v,ptr j2 0,ptr lb 0,.int .i64 i] s) (zbq (t::r).length [] (t::r)):=hloop
  cases hx:zbq (t::r).length [] (t::r) with
  | error o=>
    rw [hx] at hloop'
    obtain ⟨s32,row,d1,d2,d4,d5,d6⟩:=hloop'
    have hr:=d4.rdN d5
    refine ⟨s32,row,?_,d2.mono (by omega) (fun j hj hlt=>by simp at hj;omega),d5,d6⟩
    simp only [zgf,c23',zob,zal,zcf,d1,hb1,zgs,zgz,zaa,zac,hr]
  | ok ps=>
    rw [hx] at hloop'
    obtain ⟨s32,pv',d1,d2,d4,d5⟩:=hloop'
    obtain ⟨r2,a2,l2⟩:=hj2
    have a232:=a2.keepB d2 (by have:=ha.lt;omega) (by simp;omega)
    obtain ⟨s38,f1,f2,f3,f4,f5⟩:=zbe (n:=5) a232 l2 d4 rfl (by simp only [List.all_cons,List.all_nil,d5.cell.2];rfl)
    have K32:Keep B [] s s32:=d2.mono (by omega) (fun j hj hlt=>by simp at hj;omega)
    have nx32:=d2.next
    refine ⟨s38,.slice none 0 0,pv',?_,K32.thenI f4 (by omega) (.inl hBj),Own.nil _ _ _,((zkd (S:=[]) d5 f4 (.inl (by have:=ha.lt;omega))).low (by omega))⟩
    simp only [zgf,c23',zob,zal,zcf,d1,hb0,zct,zgs,zgz,zac,f1,f2,f3]
    rfl
theorem RdR.to {B ln i:Nat} {st s:SS} {r r':Option (Value×SS)} {x:Except Nat PLine} (h:RdR B ln i s r x) (K:Keep B [] st s) (hr:∀ y,r=some y→r'=some y):RdR B ln i st r' x:=by
 cases x with
 | ok x=>obtain ⟨st',av,pv,a,k,c⟩:=h;exact ⟨st',av,pv,hr _ a,K.then k,c⟩
 | error o=>obtain ⟨st',row,a,k,c⟩:=h;exact ⟨st',row,hr _ a,K.then k,c⟩
theorem RdR.off {B ln d:Nat} {st:SS} {r:Option (Value×SS)} {x:Except Nat PLine} (h:RdR B ln d st r x):RdR B ln 0 st r (offE d x):=by
 cases x with
 | ok x=>exact h
 | error o=>obtain ⟨st',row,a,k,c⟩:=h;exact ⟨st',row,by rw [Nat.zero_add];exact a,k,c⟩
theorem zwb [Sym] {st:SS} {ln hi:Nat} {v:Value} {l:List Tok} (hll:st.lim≤st.next) (hhi:hi≤st.next) (h:RT st v (l.map fun t=>(ln,t)) hi) (hlin:Lin l) (hok:∀ t∈l,TokOk t):RdR st.next ln 0 st (cc 52 [v] st) (readT l):=by
 have hl:LineAt (l.map fun t=>(ln,t)) 0 ln l:=⟨⟨[],by simp⟩,hlin,hok⟩
 obtain ⟨t,r,rfl⟩:=hlin.ne
 have a1:At (st.new (.cells L5 0)) st.next L5:=At.new hll L5
 have x1:Ext st (st.new (.cells L5 0)):=(Ext.refl st).new _
 obtain ⟨p,e,hp⟩:=h.at' hl.head
 have e':zah v 0 5=some p:=e
 obtain ⟨_,_,_,q3,_⟩:=hp _ (h.ext x1)
 obtain ⟨s5,e5,a5,x5,n5⟩:=ziC (st:=st.new (.cells L5 0)) (x1.ll hll) (r:=L5) (row:=[.int .i64 ln,.string (mkS []),.string ⟨#[]⟩,.slice none 0 0,.slice none 0 0]) rfl rfl
 have e5':((st.new (.cells L5 0)).new (.cells L5 0)).st (st.new (.cells L5 0)).next 0 [.int .i64 ln,.string ⟨#[]⟩,.string ⟨#[]⟩,.slice none 0 0,.slice none 0 0]=some s5:=e5
 have x05:=x1.trans x5
 have b5:=a1.ext x5
 have h5:=h.ext x05
 obtain ⟨k0,k1,_⟩:=hp _ h5
 have hlb:st.next<(st.new (.cells L5 0)).next:=by simp
 have K5:Keep st.next [] st s5:=x05.keepB (zlr _)
 have plain:readT (t::r)=zc5 [] (t::r)→(∀ y,zgf cc zas v st.next (st.new (.cells L5 0)).next 0 1 2 s5=some y→cc 52 [v] st=some y)→RdR st.next ln 0 st (cc 52 [v] st) (readT (t::r)):=by
  intro hr step
  rw [hr]
  have ht:=zqF (B:=st.next) (s:=s5) hhi (zlr _) hlb a5.lt (x05.ll hll) h5 hl a5 ⟨_,b5,rfl⟩
  exact RdR.to ht K5 step
 by_cases hk:t.kd=1
 ·have hk':(t.kd:Int)=1:=by omega
  have hl1:=hl.tail (by omega)
  obtain ⟨u,r',rfl⟩:=hl1.lin.ne
  have c8:=zl6 h5 hl1.head [58]
  have c8':cc 81 [v,.int .i64 1,.int .i64 3,.string ⟨#[58]⟩] s5=some (.bool (zaE u [58]),s5):=c8
  by_cases hc:zaE u [58]=true
  ·rw [hc] at c8'
   have hoff:readT (t::u::r')=offE 2 (zc5 t.tx r'):=by
    rw [zfh,if_pos ⟨hk,hc⟩]
    cases zc5 t.tx r'<;>rfl
   rw [hoff]
   have hl2:=hl1.tail (by have:=zb4 hc;omega)
   obtain ⟨s12,e12,a12,m12,n12⟩:=a5.sto (k:=1) (vs:=[.string (mkS t.tx)]) (row':=[.int .i64 ln,.string (mkS t.tx),.string ⟨#[]⟩,.slice none 0 0,.slice none 0 0]) rfl rfl
   have b12:=b5.mod m12 (by simp)
   have h12:=h5.keepB (m12.keepB (zlr _)) (by simp at n5;omega) (by simp;omega)
   have K12:=K5.thenI m12 x05.next (.inl (by simp))
   have ht:=zqF (B:=st.next) (s:=s12) (i:=2) hhi (zlr _) hlb a12.lt (K12.ll hll) h12 hl2 a12 ⟨_,b12,rfl⟩
   refine RdR.to (RdR.off ht) K12 fun y hy=>?_
   refine zef v st ?_
   simp only [zdV,e',zob,q3,zaa,e5',k0,zdt hk',zct,c8',zal,k1,zab,e12]
   exact hy
  ·have hc':zaE u [58]=false:=Bool.eq_false_iff.2 hc
   rw [hc'] at c8'
   refine plain (by rw [zfh,if_neg (fun x=>hc x.2)]) fun y hy=>?_
   refine zef v st ?_
   simp only [zdV,e',zob,q3,zaa,e5',k0,zdt hk',zct,c8',zal,zcf]
   exact hy
 ·have hk':¬ (t.kd:Int)=1:=by omega
  refine plain ?_ fun y hy=>?_
  ·cases r with
   | nil=>rfl
   | cons u r'=>rw [zfh,if_neg (fun x=>hk x.1)]
  ·refine zef v st ?_
   simp only [zdV,e',zob,q3,zaa,e5',k0,zdf hk',zcf]
   exact hy
end Go.Proofs.YtifploedaacedaaGreatDoorE
namespace Go.Proofs.YtifploedaacedaaGreatDoorE
open Go Go.E Go.Proofs
def zrP (B b0:Nat) (st:SS) (its:List Item) (r:Option (Nat×List Value×SS)):Except (Nat×Nat) (List PLine)→Prop
 | .ok xs=>∃ v st' m its',r=some (0,[ptr b0 0,v],st')∧Keep B [] st st'∧its'.map (·.1)=its.map (·.1)++xs∧Coll st' b0 m B v its'
 | .error e=>∃ st',r=some (1,[.slice none 0 0,ptr b0 0],st')∧Keep B [b0] st st'∧At st' b0 [.int .i64 e.1,.int .i64 e.2]
theorem Keep.toExt {B:Nat} {a b:SS} (h:Keep B [] a b) (hB:a.next≤B):Ext a b:=(h.mod hB).toExt
theorem zri [Sym] {b0 B:Nat} {w:Value} (hb0:b0<B) (all:List (List UInt8)) (hall:all.length≤65537) (hsz:∀ p∈all,p.length≤65536):∀ (ps:List (List UInt8)) (i m:Nat) (out:Value) (its:List Item) (tss:List (List Tok)) (st:SS),all.drop i=ps→i≤all.length→zco i ps=.ok tss→
  RdB st b0 B w (strs all) 1 all.length→st.lim≤st.next→Coll st b0 m B out its→(∃ r,At st b0 r∧r.length=2)→B≤st.next→its.length≤i→
  zrP B b0 st its (za2 6 [ptr b0 0,out,w,.int .i64 all.length,.int .i64 i] st) (zbO i tss):=by
 intro ps
 induction ps with
 | nil=>
   intro i m out its tss st hd hi hx hw hll hc ha hB hn
   rw [List.drop_eq_nil_iff] at hd
   cases hx
   have hlt:¬ (i:Int)<(all.length:Int):=by omega
   refine ⟨out,st,m,its,zcp _ out w _ _ st ?_,.refl _,by simp,hc⟩
   simp only [zb9,zdf hlt,zcf]
 | cons p r ih=>
   intro i m out its tss st hd hi hx hw hll hc ha hB hn
   have hgp:all[i]?=some p:=by
    have:=congrArg (·[0]?) hd
    simpa using this
   have hlt:i<all.length:=(List.getElem?_eq_some_iff.1 hgp).1
   have hpl:=hsz p (zmg hgp)
   have hr:all.drop (i+1)=r:=by
    have:=drop_cons hgp
    rw [hd] at this
    exact (List.cons.inj this).2.symm
   have hlt':(i:Int)<(all.length:Int):=by omega
   unfold zco at hx
   cases hy:zcb p with
   | error c=>rw [hy] at hx;cases hx
   | ok ts=>
     rw [hy] at hx
     cases hz:zco (i+1) r with
     | error e=>rw [hz] at hx;cases hx
     | ok tss'=>
       rw [hz] at hx
       cases hx
       obtain ⟨hlin,htok⟩:=znr hy
       have hlen:=zlY p ts hy
       obtain ⟨q,hq1,hq2,hq3⟩:=hw.1.load (j:=(i:Int)) (by omega) hlt' (strs_get _ i p hgp) rfl
       have hld:(st.ld q.1 q.2).bind asS=some (mkS p):=by
        have:=hq3 0 (by omega)
        rw [Nat.add_zero] at this
        rw [this];rfl
       have h1:=zqp hll (mkS p) (by simp;omega) ((i+1:Nat):Int)
       rw [zbu,hy] at h1
       obtain ⟨v5,s4,c4,x4,o4,_⟩:=h1
       have c4':cc 51 [.string (mkS p),.int .i64 ((i+1:Nat):Int)] st=some (.tuple #[v5,.int .i64 0],s4):=c4
       have hT:RT s4 v5 (ts.map fun t=>(i+1,t)) s4.next:=by
        refine ⟨?_,fun j k l q hv=>?_,by simp;omega⟩
        ·rw [zph];simpa using o4.rd
        ·obtain ⟨_,⟨ev,_⟩ | ⟨i',ev,_,_,hbi,hi'⟩⟩:=o4
         ·rw [ev] at hv;cases hv
         ·rw [ev] at hv;cases hv;exact hi'
       have h2:=zwb (x4.ll hll) (zlr _) hT hlin htok
       have hw1:IntKind.wrap .i64 ((i:Int)+1)=((i+1:Nat):Int):=za4 (by omega)
       have hpos:0<ts.length:=by obtain ⟨t,u,rfl⟩:=hlin.ne;simp
       have hlv:(lenV v5).bind (asI .i64)=some (ts.length:Int):=by rw [o4.rd.len];rfl
       have hlim:st.lim≤B:=by obtain ⟨_,a,_⟩:=ha;have:=a.2.2;omega
       unfold zbO
       cases hu:readT ts with
       | error o=>
         rw [hu] at h2
         obtain ⟨s7,row,c7,K7,hrow,hrow1⟩:=h2
         have x7:Ext s4 s7:=Keep.toExt K7 (zlr _)
         have c7':cc 52 [v5] s4=some (.tuple #[.agg row.toArray,.int .i64 (o:Nat)],s7):=by rw [Nat.zero_add] at c7;exact c7
         have hoff:=zpk ts hlin o hu
         obtain ⟨t,ht⟩:∃ t,ts[o]?=some t:=⟨_,zge hoff⟩
         obtain ⟨s11,e11,a11,x11,_⟩:=zaO (st:=s7) ((x4.trans x7).ll hll) (r:=L5) (zaC row) (n:=5) hrow hrow1 rfl
         have x:=(x4.trans x7).trans x11
         obtain ⟨z,g1,g2⟩:=hT.at' (i:=o) (t:=(i+1,t)) (by rw [List.getElem?_map,ht];rfl)
         obtain ⟨_,_,_,_,g5⟩:=g2 s11 (hT.ext (x7.trans x11))
         obtain ⟨ra,aa,hra⟩:=ha
         obtain ⟨s15,e15,a15,m15,_⟩:=(aa.ext x).sto (k:=0) (vs:=[.int .i64 ((i+1:Nat):Int),.int .i64 t.col]) (row':=[.int .i64 ((i+1:Nat):Int),.int .i64 t.col]) rfl (by rw [zbL (by simp;omega)];simp [hra])
         have hcol:zof ts o=t.col:=by unfold zof;rw [ht];rfl
         have hpos':(0:Int)≤((o:Nat):Int):=by omega
         refine ⟨s15,zcp _ out w _ _ st ?_,(x.keepB hB).thenI m15 (zlt hB x.next) (.inr (by simp)),by rw [hcol];exact a15⟩
         simp only [zb9,zdt hlt',zct,hq1,zob,hld,hw1,c4',zan,List.getElem?_toArray,zgs,zgz,zaa,c7',e11,zdt hpos',g1,g5,zac,e15]
       | ok x=>
         rw [hu] at h2
         obtain ⟨s7,av,pv,c7,K7,o1,o2⟩:=h2
         have x7:Ext s4 s7:=Keep.toExt K7 (zlr _)
         obtain ⟨s11,e11,a11,x11,_⟩:=zaO (st:=s7) ((x4.trans x7).ll hll) (r:=L5) (zaC [.int .i64 ((i+1:Nat):Int),.string (mkS x.lab),.string (mkS x.dir),av,pv]) (n:=5) rfl (by simp only [List.all_cons,List.all_nil,o1.cell.2,o2.cell.2];rfl) rfl
         have e11':(s7.new (.cells L5 0)).stV s7.next 0 5 (zms (i+1) x av pv)=some s11:=e11
         have xx:=(x4.trans x7).trans x11
         have hc11:=hc.ext xx
         have nx11:B≤s11.next:=zlt hB xx.next
         have ha11:∃ r,At s11 b0 r∧r.length=2:=by obtain ⟨ra,aa,hra⟩:=ha;exact ⟨ra,aa.ext xx,hra⟩
         have hw11:RdB s11 b0 B w (strs all) 1 all.length:=hw.go (zlr _) xx.next fun j hj _ _=>xx.keep j hj
         have hneg:¬ (0:Int)≤ -1:=by omega
         have hb4:b0<s4.next:=by have:=x4.next;omega
         by_cases hkp:1<ts.length
         ·have hkp':(1:Int)<(ts.length:Int):=by omega
          have w1:RdB s11 b0 s11.next av (rowsF valRow x.args) 3 x.args.length:=(Own.rdB o1 hb4 (zlr _)).go x11.next x11.next fun j hj _ _=>x11.keep j hj
          have w2:RdB s11 b0 s11.next pv (rowsF prRow x.prs) 5 x.prs.length:=(Own.rdB o2 hb4 (zlr _)).go x11.next x11.next fun j hj _ _=>x11.keep j hj
          have hnew:∀ u:Value,(∀ j k l q,u=.slice (some ⟨j,k,none⟩) l q→st.next≤j)→∀ j k l q k' l' q',out=.slice (some ⟨j,k,none⟩) l q→u≠.slice (some ⟨j,k',none⟩) l' q':=by
           intro u hu' j k l q k' l' q' ho he
           have h1:=hu' j k' l' q' he
           obtain ⟨_,⟨ev,_⟩ | ⟨i',ev,_,_,hbi,hi'⟩⟩:=hc.own
           ·rw [ev] at ho;cases ho
           ·rw [ev] at ho;cases ho;omega
          have hown:∀ {u:Value} {c:List Value} {z n:Nat},Own s4.next s7 u c z n→∀ j k l q,u=.slice (some ⟨j,k,none⟩) l q→st.next≤j:=by
           intro u c z n ho j k l q hv
           have:=x4.next
           obtain ⟨_,⟨ev,_⟩ | ⟨i',ev,_,_,hbi,hi'⟩⟩:=ho
           ·rw [ev] at hv;cases hv
           ·rw [ev] at hv;cases hv;omega
          obtain ⟨out',s21,g1,g2,g3⟩:=hc11.push ({ x with ln:=i+1 },av,pv) nx11 (by rw [xx.lim];exact hlim) (by omega) o1.cell.2 o2.cell.2 w1 w2 (hnew av (hown o1)) (hnew pv (hown o2))
          have g1':(s11.new (.cells ([.int .i64 ((i+1:Nat):Int),.string (mkS x.lab),.string (mkS x.dir),av,pv]++[]) 5)).app 5 88 out (.slice (some ⟨s11.next,0,none⟩) 1 1)=some (out',s21):=g1
          have K21:Keep B [] st s21:=(xx.keepB hB).then (g3 _)
          have ha21:∃ r,At s21 b0 r∧r.length=2:=by obtain ⟨ra,aa,hra⟩:=ha11;exact ⟨ra,aa.keepB (g3 []) hb0 (by simp),hra⟩
          have hw21:RdB s21 b0 B w (strs all) 1 all.length:=hw11.go (zlr _) (g3 []).next fun j _ _ hjB=>(g3 []).keep j hjB (by simp)
          have next:=ih (i+1) s11.next out' (its++[({ x with ln:=i+1 },av,pv)]) tss' s21 hr (by omega) hz hw21 (K21.ll hll) g2 ha21 (zlt hB K21.next) (by simp;omega)
          have l18:s11.ldN s7.next 0 5=some (.agg [.int .i64 ((i+1:Nat):Int),.string (mkS x.lab),.string (mkS x.dir),av,pv].toArray):=a11.ldN rfl
          have hc19:zaB (.agg [.int .i64 ((i+1:Nat):Int),.string (mkS x.lab),.string (mkS x.dir),av,pv].toArray) 5=some [.int .i64 ((i+1:Nat):Int),.string (mkS x.lab),.string (mkS x.dir),av,pv]:=cells5 _ _ _ _ _
          have step:∀ z,za2 6 [ptr b0 0,out',w,.int .i64 all.length,.int .i64 ((i+1:Nat):Int)] s21=some z→za2 6 [ptr b0 0,out,w,.int .i64 all.length,.int .i64 i] st=some z:=fun z hz=>by
           refine zcp _ out w _ _ st ?_
           simp only [zb9,zdt hlt',zct,hq1,zob,hld,hw1,c4',zan,List.getElem?_toArray,zgs,zgz,zaa,c7,e11',zdf hneg,zcf,hlv,zdt hkp',l18,hc19,g1']
           exact hz
          simp only
          cases hv:zbO (i+1) tss' with
          | error e=>
            rw [hv] at next
            obtain ⟨st',a,k',d⟩:=next
            exact ⟨st',step _ a,(K21.mono (zlr _) (fun j hj _=>by cases hj)).then k',d⟩
          | ok xs=>
            rw [hv] at next
            obtain ⟨v2,st',m',its2,a,k',d,e⟩:=next
            refine ⟨v2,st',m',its2,step _ a,K21.then k',?_,e⟩
            rw [d];simp [hkp]
         ·have hkp':¬ (1:Int)<(ts.length:Int):=by omega
          have K11:Keep B [] st s11:=xx.keepB hB
          have next:=ih (i+1) m out its tss' s11 hr (by omega) hz hw11 (xx.ll hll) hc11 ha11 nx11 (by omega)
          have step:∀ z,za2 6 [ptr b0 0,out,w,.int .i64 all.length,.int .i64 ((i+1:Nat):Int)] s11=some z→za2 6 [ptr b0 0,out,w,.int .i64 all.length,.int .i64 i] st=some z:=fun z hz=>by
           refine zcp _ out w _ _ st ?_
           simp only [zb9,zdt hlt',zct,hq1,zob,hld,hw1,c4',zan,List.getElem?_toArray,zgs,zgz,zaa,c7,e11',zdf hneg,zcf,hlv,zdf hkp']
           exact hz
          simp only
          cases hv:zbO (i+1) tss' with
          | error e=>
            rw [hv] at next
            obtain ⟨st',a,k',d⟩:=next
            exact ⟨st',step _ a,(K11.mono (zlr _) (fun j hj _=>by cases hj)).then k',d⟩
          | ok xs=>
            rw [hv] at next
            obtain ⟨v2,st',m',its2,a,k',d,e⟩:=next
            refine ⟨v2,st',m',its2,step _ a,K11.then k',?_,e⟩
            rw [d];simp [hkp]
def RParR (st:SS) (r:Option (Value×SS)):Except (Nat×Nat) (List PLine)→Prop
 | .ok xs=>∃ v st',r=some (.tuple #[v,zaX (0,0)],st')∧Ext st st'∧zke st' v xs
 | .error e=>∃ st',r=some (.tuple #[.slice none 0 0,zaX e],st')∧Ext st st'
theorem zt4 [Sym] {st:SS} (hl:st.lim≤st.next) (s:ByteArray) (hs:s.size≤65536):RParR st (cc 19 [.string s] st) (zfs (bl s)):=by
 have a1:At (st.new (.cells [.int .i64 0,.int .i64 0] 0)) st.next [.int .i64 0,.int .i64 0]:=At.new hl _
 have x1:Ext st (st.new (.cells [.int .i64 0,.int .i64 0] 0)):=(Ext.refl st).new _
 have hlex:=zvU (x1.ll hl) s (by omega)
 have hlx:znn (bl s)=match zco 0 (pieces 10 (bl s)) with
  | .error e=>.error e
  | .ok tss=>.ok (flat 0 tss):=zog _ _
 unfold zfs
 have hb0:Nat.beq 0 0=true:=rfl
 have hb1:Nat.beq 1 0=false:=rfl
 cases hy:zco 0 (pieces 10 (bl s)) with
 | error e=>
   rw [hy] at hlx
   rw [hlx] at hlex
   obtain ⟨s2,c2,x2⟩:=hlex
   have c2':cc 49 [.string s] (st.new (.cells [.int .i64 0,.int .i64 0] 0))=some (.tuple #[.slice none 0 0,zaX e],s2):=c2
   obtain ⟨s7,e7,a7,x7,_⟩:=zaO (st:=s2) ((x1.trans x2).ll hl) (r:=[.int .i64 0,.int .i64 0]) (v:=zaX e) (row:=[.int .i64 e.1,.int .i64 e.2]) (n:=2) rfl rfl rfl rfl
   have a17:=(a1.ext x2).ext x7
   obtain ⟨s9,f1,f2,f3,f4,f5⟩:=zbe (n:=2) a17 rfl a7 rfl rfl
   have hpos:=ztG (pieces 10 (bl s)) 0 e (show zdR 0 (pieces 10 (bl s))=.error e from hlx)
   have hpos':(0:Int)<(e.1:Int):=by omega
   have l8:s7.ld s2.next 0=some (.int .i64 e.1):=a7.ld
   refine ⟨s9,zd4 s st ?_,((Mod.ofExt (S:=[st.next]) ((x1.trans x2).trans x7)).then f4).fresh (by simp)⟩
   simp only [zdz,c2',zob,zan,List.getElem?_toArray,zgs,zgz,e7,zqr,l8,zaa,zdt hpos',zct,f1,f2,f3]
   rfl
 | ok tss=>
   rw [hy] at hlx
   rw [hlx] at hlex
   obtain ⟨v,s2,c2,x2,o2⟩:=hlex
   have c2':cc 49 [.string s] (st.new (.cells [.int .i64 0,.int .i64 0] 0))=some (.tuple #[v,zaX (0,0)],s2):=c2
   obtain ⟨s7,e7,a7,x7,_⟩:=zaO (st:=s2) ((x1.trans x2).ll hl) (r:=[.int .i64 0,.int .i64 0]) (v:=zaX (0,0)) (row:=[.int .i64 0,.int .i64 0]) (n:=2) rfl rfl rfl rfl
   have x07:=(x1.trans x2).trans x7
   have l8:s7.ld s2.next 0=some (.int .i64 0):=a7.ld
   obtain ⟨w,s12,c12,x12,o12⟩:=zjP s 10 (by omega) s7 (x07.ll hl)
   have c12':cc 50 [.string s,.int .u8 10] s7=some (w,s12):=c12
   have hlw:(lenV w).bind (asI .i64)=some ((pieces 10 (bl s)).length:Int):=by rw [o12.rd.len];rfl
   have hplen:=pieces_len 10 (bl s)
   rw [zaJ] at hplen
   have hpm:=zgP 10 (bl s)
   rw [zaJ] at hpm
   have a12:=((a1.ext x2).ext x7).ext x12
   have hn7:st.next<s7.next:=by have:=x2.next;have:=x7.next;simp at*;omega
   have hloop:=zri (b0:=st.next) (B:=s12.next) (w:=w) (by have:=x12.next;omega) (pieces 10 (bl s)) (by omega) (fun p hp=>by have:=hpm p hp;omega) (pieces 10 (bl s)) 0 s12.next (.slice none 0 0) [] tss s12 (by simp) (by omega) hy
    (Own.rdB o12 hn7 (zlr _)) ((x07.trans x12).ll hl) ⟨Own.nil _ _ _,fun j k l q hv=>(by cases hv),fun x hx=>(by cases hx),by have:=x12.next;omega,zlr _⟩ ⟨_,a12,rfl⟩ (zlr _) (by simp)
   have hloop':zrP s12.next st.next s12 [] (za2 6 [ptr st.next 0,.slice none 0 0,w,.int .i64 (pieces 10 (bl s)).length,.int .i64 0] s12) (zbO 0 tss):=hloop
   have h00:¬ (0:Int)<0:=by omega
   show RParR st _ (zbO 0 tss)
   cases hz:zbO 0 tss with
   | error e=>
     rw [hz] at hloop'
     obtain ⟨s13,d1,d2,d3⟩:=hloop'
     have hr:=d3.rdN (n:=2) rfl
     have x13:Ext st s13:=((Mod.ofExt (S:=[st.next]) (x07.trans x12)).then (d2.mod (zlr _))).fresh (by simp)
     refine ⟨s13,zd4 s st ?_,x13⟩
     simp only [zdz,c2',zob,zan,List.getElem?_toArray,zgs,zgz,e7,zqr,l8,zaa,zdf h00,zcf,c12',hlw,d1,hb1,zac,hr]
     rfl
   | ok xs=>
     rw [hz] at hloop'
     obtain ⟨u,s13,m,its,d1,d2,d3,d4⟩:=hloop'
     have a13:=a12.keepB d2 a12.lt (by simp)
     obtain ⟨s17,e17,a17,m17,n17⟩:=a13.sto (k:=0) (vs:=[.int .i64 0,.int .i64 0]) (row':=[.int .i64 0,.int .i64 0]) rfl rfl
     have hr:=a17.rdN (n:=2) rfl
     have d4':=d4.keep (m17.keepB (zlr _))
     have x17:Ext st s17:=((Mod.ofExt (S:=[st.next]) (x07.trans x12)).then ((d2.mod (zlr _)).mono (by simp)) |>.then m17).fresh (by simp)
     refine ⟨u,s17,zd4 s st ?_,x17,?_⟩
     ·simp only [zdz,c2',zob,zan,List.getElem?_toArray,zgs,zgz,e7,zqr,l8,zaa,zdf h00,zcf,c12',hlw,d1,hb0,zct,zac,e17,hr]
      rfl
     ·have:=d4'.lines
      rw [d3] at this
      simpa using this
end Go.Proofs.YtifploedaacedaaGreatDoorE
