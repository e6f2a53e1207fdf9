/- Parts of the proof of UcodeBuilds, packed by a program: an evaluator over the given code, functions as plain texts, their laws. -/
import Derived.Test.YtifploedaacedaaGreatDoorPBC
set_option linter.unusedVariables false
set_option linter.unusedSimpArgs false
namespace Go.Proofs.YtifploedaacedaaGreatDoorE
open Go Go.E Go.Proofs
abbrev Wd:=List Int
def wRow (w:Wd):List Value:=w.map (.int .i64)
def wV (w:Wd):Value:=.agg (wRow w).toArray
theorem Ol (w:Wd) (i:Nat):(wRow w)[i]?=(w[i]?).map (.int .i64):=by unfold wRow;rw [List.getElem?_map]
theorem rX (w:Wd):(wRow w).length=w.length:=by simp [wRow]
theorem FW (w:Wd):(wRow w).all one=true:=by simp [wRow,one]
def Aa (p:Int×Int):List Value:=[.int .i64 p.1,.int .i64 p.2]
def zK (s tw a:Int):List (Int×Int):=
 if s=0 then [(a+1,1)] else if s=1 then [(tw,1)] else if s=2∨s=3 then [(a+1,1),(tw,1)] else if s=5 then [(tw,64)] else if s=6 then [(tw,16)] else []
theorem zwP [Sym] (w:Wd) (a s tw:Int) (h8:w[8]?=some s) (h10:w[10]?=some tw) (h0:0≤a) (h1:a≤1099511627776) (st:SS) (hll:st.lim≤st.next):
  ∃ v st',cc 62 [wV w,.int .i64 a] st=some (v,st')∧Ext st st'∧Own st.next st' v (ak Aa (zK s tw a)) 2 (zK s tw a).length:=by
 have hw:IntKind.wrap .i64 (a+1)=a+1:=wrap64 (by omega) (by omega)
 have x1:Ext st (st.new (.cells (wRow w) 0)):=(Ext.refl st).new _
 have hm:(st.new (.cells (wRow w) 0)).mem.get st.next=some (.cells (wRow w) 0):=SS.fV
 have l8:(st.new (.cells (wRow w) 0)).ld st.next 8=some (.int .i64 s):=by rw [SS.eU hm,Ol,h8];rfl
 have l10:(st.new (.cells (wRow w) 0)).ld st.next 10=some (.int .i64 tw):=by rw [SS.eU hm,Ol,h10];rfl
 have hc:(wV w).cells.toList=wRow w:=lU _
 have mk:∀ (l:List (Int×Int)),l≠[]→∃ v st',some (Value.slice (some ⟨(st.new (.cells (wRow w) 0)).next,0,none⟩) l.length l.length,(st.new (.cells (wRow w) 0)).new (.cells (ak Aa l) 2))=some (v,st')∧Ext st st'∧Own st.next st' v (ak Aa l) 2 l.length:=fun l hl=>by
  have hne:l.length≠0:=fun e=>hl (List.length_eq_zero_iff.1 e)
  exact ⟨_,_,rfl,x1.new _,⟨RF (f:=Aa) (z:=2) (fun _=>rfl) l,.inr ⟨_,rfl,by omega,SS.fV,by simp,by simp⟩⟩⟩
 have nil:∃ v st',some (Value.slice none 0 0,(st.new (.cells (wRow w) 0)))=some (v,st')∧Ext st st'∧Own st.next st' v (ak Aa []) 2 0:=⟨_,_,rfl,x1,Own.nil _ _ _⟩
 unfold zK
 by_cases s0:s=0
 ·rw [if_pos s0]
  obtain ⟨v,st',c,r⟩:=mk [(a+1,1)] (by simp)
  refine ⟨v,st',OD _ _ st ?_,r⟩
  simp only [MJ,hc,l8,l10,bf,eP,zdt s0,cu,hw]
  exact c
 rw [if_neg s0]
 by_cases s1:s=1
 ·rw [if_pos s1]
  obtain ⟨v,st',c,r⟩:=mk [(tw,1)] (by simp)
  refine ⟨v,st',OD _ _ st ?_,r⟩
  simp only [MJ,hc,l8,l10,bf,eP,bg s0,zdt s1,cu,dn,hw]
  exact c
 rw [if_neg s1]
 by_cases s2:s=2
 ·rw [if_pos (.inl s2)]
  obtain ⟨v,st',c,r⟩:=mk [(a+1,1),(tw,1)] (by simp)
  refine ⟨v,st',OD _ _ st ?_,r⟩
  simp only [MJ,hc,l8,l10,bf,eP,bg s0,bg s1,zdt s2,cu,dn,hw]
  exact c
 by_cases s3:s=3
 ·rw [if_pos (.inr s3)]
  obtain ⟨v,st',c,r⟩:=mk [(a+1,1),(tw,1)] (by simp)
  refine ⟨v,st',OD _ _ st ?_,r⟩
  simp only [MJ,hc,l8,l10,bf,eP,bg s0,bg s1,bg s2,zdt s3,cu,dn,hw]
  exact c
 rw [if_neg (fun h=>h.elim s2 s3)]
 by_cases s5:s=5
 ·rw [if_pos s5]
  obtain ⟨v,st',c,r⟩:=mk [(tw,64)] (by simp)
  refine ⟨v,st',OD _ _ st ?_,r⟩
  simp only [MJ,hc,l8,l10,bf,eP,bg s0,bg s1,bg s2,bg s3,zdt s5,cu,dn,hw]
  exact c
 rw [if_neg s5]
 by_cases s6:s=6
 ·rw [if_pos s6]
  obtain ⟨v,st',c,r⟩:=mk [(tw,16)] (by simp)
  refine ⟨v,st',OD _ _ st ?_,r⟩
  simp only [MJ,hc,l8,l10,bf,eP,bg s0,bg s1,bg s2,bg s3,bg s5,zdt s6,cu,dn,hw]
  exact c
 rw [if_neg s6]
 obtain ⟨v,st',c,r⟩:=nil
 refine ⟨v,st',OD _ _ st ?_,r⟩
 simp only [MJ,hc,l8,l10,bf,eP,bg s0,bg s1,bg s2,bg s3,bg s5,bg s6,cu,dn,hw]
 exact c
theorem zvs [Sym] (w:Wd) (a s tw:Int) (h8:w[8]?=some s) (h10:w[10]?=some tw) (h0:0≤a) (h1:a≤1099511627776) (st:SS) (hll:st.lim≤st.next):
  ∃ v st',cc 21 [wV w,.int .i64 a] st=some (v,st')∧Ext st st'∧Own st.next st' v (ak Aa (zK s tw a)) 2 (zK s tw a).length:=by
 have hw:IntKind.wrap .i64 (a+1)=a+1:=wrap64 (by omega) (by omega)
 have x1:Ext st (st.new (.cells (wRow w) 0)):=(Ext.refl st).new _
 have hm:(st.new (.cells (wRow w) 0)).mem.get st.next=some (.cells (wRow w) 0):=SS.fV
 have l8:(st.new (.cells (wRow w) 0)).ld st.next 8=some (.int .i64 s):=by rw [SS.eU hm,Ol,h8];rfl
 have l10:(st.new (.cells (wRow w) 0)).ld st.next 10=some (.int .i64 tw):=by rw [SS.eU hm,Ol,h10];rfl
 have hc:(wV w).cells.toList=wRow w:=lU _
 have mk:∀ (l:List (Int×Int)),l≠[]→∃ v st',some (Value.slice (some ⟨(st.new (.cells (wRow w) 0)).next,0,none⟩) l.length l.length,(st.new (.cells (wRow w) 0)).new (.cells (ak Aa l) 2))=some (v,st')∧Ext st st'∧Own st.next st' v (ak Aa l) 2 l.length:=fun l hl=>by
  have hne:l.length≠0:=fun e=>hl (List.length_eq_zero_iff.1 e)
  exact ⟨_,_,rfl,x1.new _,⟨RF (f:=Aa) (z:=2) (fun _=>rfl) l,.inr ⟨_,rfl,by omega,SS.fV,by simp,by simp⟩⟩⟩
 have nil:∃ v st',some (Value.slice none 0 0,(st.new (.cells (wRow w) 0)))=some (v,st')∧Ext st st'∧Own st.next st' v (ak Aa []) 2 0:=⟨_,_,rfl,x1,Own.nil _ _ _⟩
 have go:∀ (l:List (Int×Int)),(∃ v st',Kv cc zgl (wV w) a st=some (v,st')∧Ext st st'∧Own st.next st' v (ak Aa l) 2 l.length)→
   ∃ v st',cc 21 [wV w,.int .i64 a] st=some (v,st')∧Ext st st'∧Own st.next st' v (ak Aa l) 2 l.length:=fun l ⟨v,st',c,r⟩=>⟨v,st',zkc _ _ st c,r⟩
 refine go _ ?_
 unfold zK
 by_cases s0:s=0
 ·rw [if_pos s0]
  simp only [Kv,hc,l8,l10,bf,eP,zdt s0,cu,hw]
  exact mk [(a+1,1)] (by simp)
 rw [if_neg s0]
 by_cases s1:s=1
 ·rw [if_pos s1]
  simp only [Kv,hc,l8,l10,bf,eP,bg s0,zdt s1,cu,dn,hw]
  exact mk [(tw,1)] (by simp)
 rw [if_neg s1]
 by_cases s2:s=2
 ·rw [if_pos (.inl s2)]
  simp only [Kv,hc,l8,l10,bf,eP,bg s0,bg s1,zdt s2,cu,dn,hw]
  exact mk [(a+1,1),(tw,1)] (by simp)
 by_cases s3:s=3
 ·rw [if_pos (.inr s3)]
  simp only [Kv,hc,l8,l10,bf,eP,bg s0,bg s1,bg s2,zdt s3,cu,dn,hw]
  exact mk [(a+1,1),(tw,1)] (by simp)
 rw [if_neg (fun h=>h.elim s2 s3)]
 by_cases s5:s=5
 ·rw [if_pos s5]
  simp only [Kv,hc,l8,l10,bf,eP,bg s0,bg s1,bg s2,bg s3,zdt s5,cu,dn,hw]
  exact mk [(tw,64)] (by simp)
 rw [if_neg s5]
 by_cases s6:s=6
 ·rw [if_pos s6]
  simp only [Kv,hc,l8,l10,bf,eP,bg s0,bg s1,bg s2,bg s3,bg s5,zdt s6,cu,dn,hw]
  exact mk [(tw,16)] (by simp)
 rw [if_neg s6]
 simp only [Kv,hc,l8,l10,bf,eP,bg s0,bg s1,bg s2,bg s3,bg s5,bg s6,cu,dn,hw]
 exact nil
end Go.Proofs.YtifploedaacedaaGreatDoorE
namespace Go.Proofs.YtifploedaacedaaGreatDoorE
set_option maxRecDepth 20000
open Go Go.E Go.Proofs
noncomputable def zlU (cf:fQ) (lf:eX) (name':ByteArray) (st:SS):Option (Value×SS):=
 (cf 115 [.string name'] (st.ro st.next)).bind fun a=>
 ((some a.1).bind (ay .i64)).bind fun b=>
 cond (decide (0≤b)) (
 (sQ (ptr 0 0) 12 b 2).bind fun c=>
 ((a.2.ld c.1 (c.2+1)).bind (ay .i64)).bind fun d=>
 some (.int .i64 d,st.dw a.2.next)) (
 some (.int .i64 0,st.dw a.2.next))
noncomputable abbrev zq4:eX:=lS Tryz.prog Lk0 Tryz.f98 lQ
theorem zq5:Lk0.func 98=some (98,Tryz.f98):=by kernel_rfl
theorem zq6 [Sym] (name':ByteArray) (st:SS) {r:Value×SS} (h:zlU cc zq4 name' st=some r):cc 98 [.string name'] st=some r:=
 mF (li:=lQ) gu gy zq5 rfl (fun _=>rfl) (.trans (by kernel_rfl) h)
noncomputable def zn2 (cf:fQ) (lf:eX) (name':ByteArray) (st:SS):Option (Value×SS):=
 let a:SS:=(st.ro st.next).new (.cells [.string name'] 0)
 (Tq 0 0 12 2 0 12).bind fun b=>
 (cf 134 [b,.func (.func 135) #[] #[ptr ((st.ro st.next).next) 0]] a).bind fun c=>
 ((some c.1).bind (ay .i64)).bind fun d=>
 some (.int .i64 d,st.dw c.2.next)
noncomputable abbrev zp1:eX:=lS Tryz.prog Lk0 Tryz.f115 lQ
theorem zp2:Lk0.func 115=some (115,Tryz.f115):=by kernel_rfl
theorem zp3 [Sym] (name':ByteArray) (st:SS) {r:Value×SS} (h:zn2 cc zp1 name' st=some r):cc 115 [.string name'] st=some r:=
 mF (li:=lQ) gu gy zp2 rfl (fun _=>rfl) (.trans (by kernel_rfl) h)
def zm3:eu:=⟨[(0,.any),(1,.any),(7,.int .i64),(8,.int .i64)],[(.exit 0,[]),(.ret,[(4,.int .i64)])]⟩
def zn3 (n:Nat):Option eu:=cond (Nat.beq n 2) (some zm3) (none)
noncomputable def zos (cf:fQ) (lf:eX) (s':Value) (q':Nat) (st:SS):Option (Value×SS):=
 ((lenV s').bind (ay .i64)).bind fun a=>
 (lf 2 [s',.func (.func 135) #[] #[ptr q' 0],.int .i64 a,.int .i64 0] (st.ro st.next)).bind fun b=>
 cond (Nat.beq b.1 0) (
 some (.int .i64 (-1),st.dw b.2.2.next)) (
 ((b.2.1[0]?).bind (ay .i64)).bind fun c=>
 some (.int .i64 c,st.dw b.2.2.next))
noncomputable abbrev RJ:eX:=lS Tryz.prog Lk0 Tryz.f134 zn3
theorem zsH:Lk0.func 134=some (134,Tryz.f134):=by kernel_rfl
theorem zn4 [Sym] (s':Value) (q':Nat) (st:SS) {r:Value×SS} (h:zos cc RJ s' q' st=some r):cc 134 [s',.func (.func 135) #[] #[ptr q' 0]] st=some r:=
 mF (li:=zn3) gu gy zsH rfl (fun _=>rfl) (.trans (by kernel_rfl) h)
noncomputable def zke (cf:fQ) (lf:eX) (s':Value) (q':Nat) (pY:Int) (sU:Int) (st:SS):Option (Nat×List Value×SS):=
 cond (decide (sU<pY)) (
 (fK s' sU 2).bind fun a=>
 (st.eF a.1 a.2 2).bind fun b=>
 (cf 135 [b,ptr q' 0] st).bind fun c=>
 ((some c.1).bind lF).bind fun d=>
 cond d (
 some (1,[.int .i64 sU],c.2)) (
 let e:Int:=IntKind.wrap .i64 (sU+1)
 lf 2 [s',.func (.func 135) #[] #[ptr q' 0],.int .i64 pY,.int .i64 e] c.2)) (
 some (0,[],st))
theorem zh3 [Sym] (s':Value) (q':Nat) (pY:Int) (sU:Int) (st:SS) {r:Nat×List Value×SS} (h:zke cc RJ s' q' pY sU st=some r):RJ 2 [s',.func (.func 135) #[] #[ptr q' 0],.int .i64 pY,.int .i64 sU] st=some r:=
 oM gu gy (key:=2) (I:=zm3) rfl (by kernel_rfl) (by kernel_rfl) rfl rfl (.trans (by kernel_rfl) h)
noncomputable def zth (cf:fQ) (lf:eX) (f':Value) (x1':Value) (st:SS):Option (Value×SS):=
 let a:SS:=(st.ro st.next).new (.cells (f':Value).cells.toList 0)
 ((a.ld ((st.ro st.next).next) 0).bind asS).bind fun b=>
 (aj x1').bind fun c=>
 ((a.ld c.1 c.2).bind asS).bind fun d=>
 some (.bool (fA b d),st.dw a.next)
noncomputable abbrev zt4:eX:=lS Tryz.prog Lk0 Tryz.f135 lQ
theorem zt5:Lk0.func 135=some (135,Tryz.f135):=by kernel_rfl
theorem zt6 [Sym] (f':Value) (x1':Value) (st:SS) {r:Value×SS} (h:zth cc zt4 f' x1' st=some r):cc 135 [f',x1'] st=some r:=
 mF (li:=lQ) gu gy zt5 rfl (fun _=>rfl) (.trans (by kernel_rfl) h)
noncomputable def Yu (cf:fQ) (lf:eX) (w':Value) (name':ByteArray) (x':Int) (st:SS):Option (Value×SS):=
 let a:SS:=(st.ro st.next).new (.cells (w':Value).cells.toList 0)
 let b:SS:=a.new (.cells [.int .i64 0,.int .i64 0,.int .i64 0,.int .i64 0,.int .i64 0,.int .i64 0,.int .i64 0,.int .i64 0,.int .i64 0,.int .i64 0,.int .i64 0,.int .i64 0] 0)
 (cf 115 [.string name'] b).bind fun c=>
 ((some c.1).bind (ay .i64)).bind fun d=>
 cond (decide (d<0)) (
 (c.2.eF ((st.ro st.next).next) 0 12).bind fun e=>
 (c.2.eH a.next 0 12 e).bind fun f=>
 (f.fH a.next 0 12).bind fun g=>
 cond (flat3 (.tuple #[g,.int .i64 5])) (some (.tuple #[g,.int .i64 5],st.dw f.next)) none) (
 (sQ (ptr 0 0) 12 d 2).bind fun h=>
 ((c.2.ld h.1 (h.2+1)).bind (ay .i64)).bind fun i=>
 (cf 118 [.int .i64 x',.int .i64 i] c.2).bind fun j=>
 ((some j.1).bind lF).bind fun k=>
 cond (!k) (
 (j.2.eF ((st.ro st.next).next) 0 12).bind fun l=>
 (j.2.eH a.next 0 12 l).bind fun m=>
 (m.fH a.next 0 12).bind fun n=>
 cond (flat3 (.tuple #[n,.int .i64 1])) (some (.tuple #[n,.int .i64 1],st.dw m.next)) none) (
 (cf 53 [ptr ((st.ro st.next).next) 0] j.2).bind fun o=>
 (fK o.1 d 1).bind fun p=>
 (o.2.ld p.1 p.2).bind fun q=>
 (fG q).bind fun r=>
 (aj r).bind fun s=>
 (o.2.st s.1 s.2 [.int .i64 x']).bind fun t=>
 (t.eF ((st.ro st.next).next) 0 12).bind fun u=>
 (t.eH a.next 0 12 u).bind fun v=>
 (v.fH a.next 0 12).bind fun w=>
 cond (flat3 (.tuple #[w,.int .i64 0])) (some (.tuple #[w,.int .i64 0],st.dw v.next)) none))
noncomputable abbrev zrW:eX:=lS Tryz.prog Lk0 Tryz.f100 lQ
theorem zrX:Lk0.func 100=some (100,Tryz.f100):=by kernel_rfl
theorem zjl [Sym] (w':Value) (name':ByteArray) (x':Int) (st:SS) {r:Value×SS} (h:Yu cc zrW w' name' x' st=some r):cc 100 [w',.string name',.int .i64 x'] st=some r:=
 mF (li:=lQ) gu gy zrX rfl (fun _=>rfl) (.trans (by kernel_rfl) h)
noncomputable def zlV (cf:fQ) (lf:eX) (x':Int) (bits':Int) (st:SS):Option (Value×SS):=
 cond (decide (0≤x')) (
 ((aI .shr .i64 x' bits').bind (ay .i64)).bind fun a=>
 some (.bool (decide (a=0)),st.dw (st.ro st.next).next)) (
 some (.bool false,st.dw (st.ro st.next).next))
noncomputable abbrev zq7:eX:=lS Tryz.prog Lk0 Tryz.f118 lQ
theorem zq8:Lk0.func 118=some (118,Tryz.f118):=by kernel_rfl
theorem zq9 [Sym] (x':Int) (bits':Int) (st:SS) {r:Value×SS} (h:zlV cc zq7 x' bits' st=some r):cc 118 [.int .i64 x',.int .i64 bits'] st=some r:=
 mF (li:=lQ) gu gy zq8 rfl (fun _=>rfl) (.trans (by kernel_rfl) h)
def zkM:eu:=⟨[(5,.any),(6,.int .i64),(7,.int .i64)],[(.exit 0,[]),(.ret,[(2,.bool)])]⟩
def zmf (n:Nat):Option eu:=cond (Nat.beq n 2) (some zkM) (none)
noncomputable def zlW (cf:fQ) (lf:eX) (w':Value) (st:SS):Option (Value×SS):=
 let a:SS:=(st.ro st.next).new (.cells (w':Value).cells.toList 0)
 (cf 53 [ptr ((st.ro st.next).next) 0] a).bind fun b=>
 ((lenV b.1).bind (ay .i64)).bind fun c=>
 (lf 2 [b.1,.int .i64 c,.int .i64 0] b.2).bind fun d=>
 cond (Nat.beq d.1 0) (
 some (.bool true,st.dw d.2.2.next)) (
 ((d.2.1[0]?).bind lF).bind fun e=>
 some (.bool e,st.dw d.2.2.next))
noncomputable abbrev Uz:eX:=lS Tryz.prog Lk0 Tryz.f101 zmf
theorem zra:Lk0.func 101=some (101,Tryz.f101):=by kernel_rfl
theorem zrb [Sym] (w':Value) (st:SS) {r:Value×SS} (h:zlW cc Uz w' st=some r):cc 101 [w'] st=some r:=
 mF (li:=zmf) gu gy zra rfl (fun _=>rfl) (.trans (by kernel_rfl) h)
noncomputable def ziv (cf:fQ) (lf:eX) (Dk:Value) (zO:Int) (pY:Int) (st:SS):Option (Nat×List Value×SS):=
 cond (decide (pY<zO)) (
 (fK Dk pY 1).bind fun a=>
 (st.ld a.1 a.2).bind fun b=>
 (fG b).bind fun c=>
 (aj c).bind fun d=>
 ((st.ld d.1 d.2).bind (ay .i64)).bind fun e=>
 (sQ (ptr 0 0) 12 pY 2).bind fun f=>
 ((st.ld f.1 (f.2+1)).bind (ay .i64)).bind fun g=>
 (cf 118 [.int .i64 e,.int .i64 g] st).bind fun h=>
 ((some h.1).bind lF).bind fun i=>
 cond (!i) (
 some (1,[.bool false],h.2)) (
 let j:Int:=IntKind.wrap .i64 (pY+1)
 lf 2 [Dk,.int .i64 zO,.int .i64 j] h.2)) (
 some (0,[],st))
theorem zgI [Sym] (Dk:Value) (zO:Int) (pY:Int) (st:SS) {r:Nat×List Value×SS} (h:ziv cc Uz Dk zO pY st=some r):Uz 2 [Dk,.int .i64 zO,.int .i64 pY] st=some r:=
 oM gu gy (key:=2) (I:=zkM) rfl (by kernel_rfl) (by kernel_rfl) rfl rfl (.trans (by kernel_rfl) h)
def zkN:eu:=⟨[(4,.int .u64),(5,.int .i64),(11,.any),(12,.int .i64),(13,.int .i64)],[(.exit 0,[(4,.int .u64)])]⟩
def zmh (n:Nat):Option eu:=cond (Nat.beq n 5) (some zkN) (none)
noncomputable def zlX (cf:fQ) (lf:eX) (w':Value) (st:SS):Option (Value×SS):=
 let a:SS:=(st.ro st.next).new (.cells (w':Value).cells.toList 0)
 (a.eF ((st.ro st.next).next) 0 12).bind fun b=>
 (cf 101 [b] a).bind fun c=>
 ((some c.1).bind lF).bind fun d=>
 cond (!d) (
 some (.tuple #[.int .u64 0,.int .i64 1],st.dw c.2.next)) (
 (cf 53 [ptr ((st.ro st.next).next) 0] c.2).bind fun e=>
 ((lenV e.1).bind (ay .i64)).bind fun f=>
 (lf 5 [.int .u64 0,.int .i64 0,e.1,.int .i64 f,.int .i64 0] e.2).bind fun g=>
 ((g.2.1[0]?).bind (ay .u64)).bind fun h=>
 some (.tuple #[.int .u64 h,.int .i64 0],st.dw g.2.2.next))
noncomputable abbrev Uy:eX:=lS Tryz.prog Lk0 Tryz.f73 zmh
theorem zrd:Lk0.func 73=some (73,Tryz.f73):=by kernel_rfl
theorem zmj [Sym] (w':Value) (st:SS) {r:Value×SS} (h:zlX cc Uy w' st=some r):cc 73 [w'] st=some r:=
 mF (li:=zmh) gu gy zrd rfl (fun _=>rfl) (.trans (by kernel_rfl) h)
noncomputable def zmk (cf:fQ) (lf:eX) (x':Int) (lD:Int) (Aj:Value) (oW:Int) (zu:Int) (st:SS):Option (Nat×List Value×SS):=
 cond (decide (zu<oW)) (
 (fK Aj zu 1).bind fun a=>
 (st.ld a.1 a.2).bind fun b=>
 (fG b).bind fun c=>
 (aj c).bind fun d=>
 ((st.ld d.1 d.2).bind (ay .i64)).bind fun e=>
 let f:Int:=IntKind.wrap .u64 e
 ((aI .shl .u64 f lD).bind (ay .u64)).bind fun g=>
 let h:Int:=GV .u64 x' g
 (sQ (ptr 0 0) 12 zu 2).bind fun i=>
 ((st.ld i.1 (i.2+1)).bind (ay .i64)).bind fun j=>
 let k:Int:=IntKind.wrap .i64 (lD+j)
 let l:Int:=IntKind.wrap .i64 (zu+1)
 lf 5 [.int .u64 h,.int .i64 k,Aj,.int .i64 oW,.int .i64 l] st) (
 some (0,[.int .u64 x'],st))
theorem zjm [Sym] (x':Int) (lD:Int) (Aj:Value) (oW:Int) (zu:Int) (st:SS) {r:Nat×List Value×SS} (h:zmk cc Uy x' lD Aj oW zu st=some r):Uy 5 [.int .u64 x',.int .i64 lD,Aj,.int .i64 oW,.int .i64 zu] st=some r:=
 oM gu gy (key:=5) (I:=zkN) rfl (by kernel_rfl) (by kernel_rfl) rfl rfl (.trans (by kernel_rfl) h)
noncomputable def zm4 (cf:fQ) (lf:eX) (w':Value) (st:SS):Option (Value×SS):=
 (fG w').bind fun a=>
 (aj a).bind fun b=>
 (fG w').bind fun c=>
 (aj c).bind fun d=>
 (fG w').bind fun e=>
 (aj e).bind fun f=>
 (fG w').bind fun g=>
 (aj g).bind fun h=>
 (fG w').bind fun i=>
 (aj i).bind fun j=>
 (fG w').bind fun k=>
 (aj k).bind fun l=>
 (fG w').bind fun m=>
 (aj m).bind fun n=>
 (fG w').bind fun o=>
 (aj o).bind fun p=>
 (fG w').bind fun q=>
 (aj q).bind fun r=>
 (fG w').bind fun s=>
 (aj s).bind fun t=>
 (fG w').bind fun u=>
 (aj u).bind fun v=>
 (fG w').bind fun w=>
 (aj w).bind fun x=>
 let y:SS:=st.new (.cells ([ptr b.1 b.2,ptr d.1 (d.2+1),ptr f.1 (f.2+2),ptr h.1 (h.2+3),ptr j.1 (j.2+4),ptr l.1 (l.2+5),ptr n.1 (n.2+6),ptr p.1 (p.2+7),ptr r.1 (r.2+8),ptr t.1 (t.2+9),ptr v.1 (v.2+10),ptr x.1 (x.2+11)]) 1)
 some (.slice (some ⟨st.next,0,none⟩) 12 12,y)
noncomputable abbrev zpi:eX:=lS Tryz.prog Lk0 Tryz.f53 lQ
theorem zpk:Lk0.func 53=some (53,Tryz.f53):=by kernel_rfl
theorem zpl [Sym] (w':Value) (st:SS) {r:Value×SS} (h:zm4 cc zpi w' st=some r):cc 53 [w'] st=some r:=
 mF (li:=lQ) gu gy zpk rfl (fun _=>rfl) (.trans (by kernel_rfl) h)
end Go.Proofs.YtifploedaacedaaGreatDoorE
namespace Go.Proofs.YtifploedaacedaaGreatDoorE
open Go Go.E Go.Proofs
def Jw (x:List UInt8×Nat):List Value:=[.string (mkS x.1),.int .i64 x.2]
theorem zm5:y7=ak Jw AU:=rfl
def FM (f:List UInt8) (x:List UInt8×Nat):Bool:=decide (x.1=f)
def CQ (f:List UInt8):Option Nat:=AU.findIdx? (FM f)
def BI:Option Nat→Int
 | none=> -1
 | some k=>(k:Int)
theorem zxW {i:Nat} {x:List UInt8×Nat} (h:AU[i]?=some x):cut y7 (0+i*2) 2=some (Jw x):=by
 rw [Nat.zero_add,zm5]
 exact zvb (xw (f:=Jw) (z:=2) (fun _=>rfl) AU i x h) rfl
theorem zwQ {i:Nat} {x:List UInt8×Nat} (h:AU[i]?=some x):y7[0+i*2+1]?=some (.int .i64 x.2):=by
 have:=xw (f:=Jw) (z:=2) (fun _=>rfl) AU i x h
 rw [← zm5] at this
 have h1:=congrArg (·[1]?) this
 simp only [List.getElem?_take_of_lt (show 1<2 by omega),List.getElem?_drop] at h1
 rw [Nat.zero_add]
 exact h1
theorem zt7 [Sym] (x:List UInt8×Nat) (f:List UInt8) (q:Nat) (st:SS) (hq:st.mem.get q=some (.cells [.string (mkS f)] 0)) (hlt:q<st.next):∃ n,st.next≤n∧cc 135 [.agg (Jw x).toArray,ptr q 0] st=some (.bool (FM f x),st.dw n):=by
 refine ⟨st.next+1,by omega,zt6 _ _ st ?_⟩
 have l0:((st.ro st.next).new (.cells (Jw x) 0)).ld st.next 0=some (.string (mkS x.1)):=by
  have hm:((st.ro st.next).new (.cells (Jw x) 0)).mem.get st.next=some (.cells (Jw x) 0):=SS.fV (st:=st.ro st.next)
  rw [SS.eU hm];rfl
 have l1:((st.ro st.next).new (.cells (Jw x) 0)).ld q 0=some (.string (mkS f)):=by
  rw [SS.eU (c:=[.string (mkS f)]) (z:=0) (by rw [SS.nM (by simp;omega)];exact hq)];rfl
 have he:fA (mkS x.1) (mkS f)=FM f x:=by rw [JC,vW,vW];rfl
 simp only [zth,lU,SS.fE,l0,bf,fP,fZ,l1,he]
 rfl
theorem zwR [Sym] (f:List UInt8) (q:Nat) (st0:SS) (hg:Gd st0) (hq:st0.mem.get q=some (.cells [.string (mkS f)] 0)) (hlt:q<st0.next):
  ∀ (k j:Nat) (st:SS),12=k+j→Ext st0 st→∃ e vs st',RJ 2 [.slice (some ⟨0,0,none⟩) 12 12,.func (.func 135) #[] #[ptr q 0],.int .i64 12,.int .i64 j] st=some (e,vs,st')∧Ext st0 st'∧
   ((e=0∧vs=[]∧(AU.drop j).findIdx? (FM f)=none)∨(∃ m:Nat,e=1∧(AU.drop j).findIdx? (FM f)=some m∧vs=[.int .i64 ((j+m:Nat):Int)])):=by
 intro k
 induction k with
 | zero=>
   intro j st hk he
   have:j=12:=by omega
   subst this
   exact ⟨0,[],st,zh3 _ q _ _ st rfl,he,.inl ⟨rfl,rfl,rfl⟩⟩
 | succ k ih=>
   intro j st hk he
   obtain ⟨x,hx⟩:∃ x,AU[j]?=some x:=⟨_,mW (by show j<12;omega)⟩
   have hjl:(j:Int)<12:=by omega
   have hel:fK (.slice (some ⟨0,0,none⟩) 12 12) (j:Int) 2=some (0,0+j*2):=by
    unfold fK
    have h1:(0:Int)≤(j:Int):=by omega
    have h2:(j:Int)<((12:Nat):Int):=by omega
    simp only [zdt h1,zdt h2,Bool.and_self,cu,Int.toNat_natCast]
   have hld:st.eF 0 (0+j*2) 2=some (.agg (Jw x).toArray):=by rw [SS.Gq (hg.ext he).gF,zxW hx];rfl
   obtain ⟨n,hn,c1⟩:=zt7 x f q st (he.get hlt hq) (pz hlt he.next)
   have hd:=drop_cons hx
   have hw:=ru (i:=j) (by omega)
   by_cases hf:FM f x=true
   ·refine ⟨1,[.int .i64 j],st.dw n,zh3 _ q _ _ st ?_,he.dw (by have:=he.next;omega),.inr ⟨0,rfl,?_,rfl⟩⟩
    ·rw [hf] at c1
     simp only [zke,zdt hjl,cu,hel,bf,hld,c1,mg]
    ·rw [hd,List.findIdx?_cons,hf];rfl
   ·have hf':FM f x=false:=by simpa using hf
    obtain ⟨e,vs,st',d1,d2,d3⟩:=ih (j+1) (st.dw n) (by omega) (he.dw (by have:=he.next;omega))
    rw [hf'] at c1
    refine ⟨e,vs,st',zh3 _ q _ _ st ?_,d2,?_⟩
    ·simp only [zke,zdt hjl,cu,hel,bf,hld,c1,mg,dn,hw]
     exact d1
    ·rw [hd,List.findIdx?_cons,hf']
     rcases d3 with ⟨e1,e2,e3⟩ | ⟨m,e1,e2,e3⟩
     ·exact .inl ⟨e1,e2,by rw [e3];rfl⟩
     ·exact .inr ⟨m+1,e1,by rw [e2];rfl,by rw [e3,show j+1+m=j+(m+1) by omega]⟩
theorem zrY [Sym] (f:List UInt8) (st:SS) (hg:Gd st):∃ n,st.next≤n∧cc 115 [.string (mkS f)] st=some (.int .i64 (BI (CQ f)),st.dw n):=by
 have g1:Gd ((st.ro st.next).new (.cells [.string (mkS f)] 0)):=(hg.ro (n:=st.next)).ext ((Ext.refl _).new _)
 have hm:((st.ro st.next).new (.cells [.string (mkS f)] 0)).mem.get st.next=some (.cells [.string (mkS f)] 0):=SS.fV (st:=st.ro st.next)
 have g2:=g1.ro (n:=((st.ro st.next).new (.cells [.string (mkS f)] 0)).next)
 obtain ⟨e,vs,st',d1,d2,d3⟩:=zwR f st.next _ g2 hm (by simp) 12 0 _ (by omega) (.refl _)
 have d1':RJ 2 [.slice (some ⟨0,0,none⟩) 12 12,.func (.func 135) #[] #[ptr st.next 0],.int .i64 12,.int .i64 0] (((st.ro st.next).new (.cells [.string (mkS f)] 0)).ro ((st.ro st.next).new (.cells [.string (mkS f)] 0)).next)=_:=d1
 have hnx:=d2.next
 simp at hnx
 have hsl:Tq 0 0 12 2 0 12=some (.slice (some ⟨0,0,none⟩) 12 12):=rfl
 have hlen:(lenV (.slice (some ⟨0,0,none⟩) 12 12)).bind (ay .i64)=some 12:=rfl
 have c:∀ z,(∃ e vs,RJ 2 [.slice (some ⟨0,0,none⟩) 12 12,.func (.func 135) #[] #[ptr st.next 0],.int .i64 12,.int .i64 0] (((st.ro st.next).new (.cells [.string (mkS f)] 0)).ro ((st.ro st.next).new (.cells [.string (mkS f)] 0)).next)=some (e,vs,st')∧((e=0∧z= -1)∨(e=1∧vs=[.int .i64 z])))→
   cc 134 [.slice (some ⟨0,0,none⟩) 12 12,.func (.func 135) #[] #[ptr st.next 0]] ((st.ro st.next).new (.cells [.string (mkS f)] 0))=some (.int .i64 z,((st.ro st.next).new (.cells [.string (mkS f)] 0)).dw st'.next):=by
  rintro z ⟨e,vs,h,⟨rfl,rfl⟩ | ⟨rfl,rfl⟩⟩
  ·refine zn4 _ _ _ ?_
   have hb0:Nat.beq 0 0=true:=rfl
   simp only [zos,hlen,bf,h,hb0,cu]
  ·refine zn4 _ _ _ ?_
   have hb0:Nat.beq 1 0=false:=rfl
   simp only [zos,hlen,bf,h,hb0,dn,iZ,eP]
 have c':=c (BI (CQ f)) ⟨e,vs,d1',by
  rw [List.drop_zero] at d3
  rcases d3 with ⟨e1,e2,e3⟩ | ⟨m,e1,e2,e3⟩
  ·exact .inl ⟨e1,by unfold CQ;rw [e3];rfl⟩
  ·exact .inr ⟨e1,by unfold CQ;rw [e2,e3,Nat.zero_add];rfl⟩⟩
 refine ⟨st'.next,by omega,zp3 _ st ?_⟩
 simp only [zn2,hsl,bf,SS.fE,c',eP]
 rfl
theorem TW {f:List UInt8} {k:Nat} (h:CQ f=some k):∃ x,AU[k]?=some x∧x.1=f∧k<12:=by
 unfold CQ at h
 obtain ⟨hlt,hp,_⟩:=List.findIdx?_eq_some_iff_getElem.1 h
 exact ⟨_,mW hlt,by simpa [FM] using hp,hlt⟩
def oh (k:Nat):Nat:=((AU[k]?).map (·.2)).getD 0
def Ee (f:List UInt8):Nat:=match CQ f with | none=>0 | some k=>oh k
theorem Xr {k:Nat} (h:k<12):sQ (ptr 0 0) 12 (k:Int) 2=some (0,0+k*2):=by
 have h1:(0:Int)≤(k:Int):=by omega
 have h2:(k:Int)<((12:Nat):Int):=by omega
 unfold ptr sQ
 simp only [zdt h1,zdt h2,Bool.and_self,cu,Int.toNat_natCast]
theorem Xz {st:SS} (hg:Gd st) {k:Nat} (h:k<12):st.ld 0 (0+k*2+1)=some (.int .i64 (oh k)):=by
 obtain ⟨x,hx⟩:∃ x,AU[k]?=some x:=⟨_,mW (by show k<12;omega)⟩
 rw [SS.Dy hg.gF,zwQ hx]
 unfold oh
 rw [hx];rfl
theorem zxX [Sym] (f:List UInt8) (st:SS) (hg:Gd st):∃ n,st.next≤n∧cc 98 [.string (mkS f)] st=some (.int .i64 (Ee f),st.dw n):=by
 obtain ⟨n,hn,c⟩:=zrY f (st.ro st.next) hg.ro
 refine ⟨n,hn,zq6 _ st ?_⟩
 unfold Ee
 cases hk:CQ f with
 | none=>
   rw [hk] at c
   have h0:¬ (0:Int)≤BI none:=by decide
   simp only [zlU,c,bf,eP,bg h0,dn]
   rfl
 | some k=>
   rw [hk] at c
   obtain ⟨x,_,_,hlt⟩:=TW hk
   have h0:(0:Int)≤BI (some k):=Int.natCast_nonneg k
   have e1:sQ (ptr 0 0) 12 (BI (some k)) 2=some (0,0+k*2):=Xr hlt
   have e2:((st.ro st.next).dw n).ld 0 (0+k*2+1)=some (.int .i64 (oh k)):=Xz (hg.ro.ext ((Ext.refl _).dw hn)) hlt
   simp only [zlU,c,bf,eP,zdt h0,cu,e1,e2]
   rfl
end Go.Proofs.YtifploedaacedaaGreatDoorE
namespace Go.Proofs.YtifploedaacedaaGreatDoorE
open Go Go.E Go.Proofs
def sN (b:Nat):List Value:=(List.range 12).map fun i=>ptr b i
theorem zqE (b:Nat) {k:Nat} (h:k<12):(sN b)[k]?=some (ptr b k):=by
 unfold sN
 rw [List.getElem?_map,List.getElem?_range h];rfl
theorem zm6 [Sym] (b:Nat) (st:SS):cc 53 [ptr b 0] st=some (.slice (some ⟨st.next,0,none⟩) 12 12,st.new (.cells (sN b) 1)):=by
 refine zpl _ st ?_
 have h1:fG (ptr b 0)=some (ptr b 0):=rfl
 simp only [zm4,h1,bf,fZ]
 rfl
def fitsT (x:Int) (n:Nat):Bool:=decide (0≤x∧x<2^n)
theorem zti [Sym] (x:Int) (n:Nat) (hn:n≤62) (st:SS):cc 118 [.int .i64 x,.int .i64 n] st=some (.bool (fitsT x n),st.dw st.next):=by
 refine zq9 _ _ st ?_
 by_cases h:0≤x
 ·have hb:¬ ((n:Int)<0):=by omega
  have h1:(aI .shr .i64 x (n:Int)).bind (ay .i64)=some (x/2^n):=by
   have e:min ((n:Int)).toNat (IntKind.bits .i64)=n:=by
    show min ((n:Int)).toNat 64=n
    rw [Int.toNat_natCast];omega
   have e2:KH .i64 x (n:Int)=x/2^n:=by
    unfold KH
    rw [e]
    exact Int.fdiv_eq_ediv_of_nonneg x (Int.pow_nonneg (by omega))
   simp only [aI,bg hb,dn,bf,eP,e2]
  have e3:decide (x/2^n=0)=fitsT x n:=by
   unfold fitsT
   have hp:(0:Int)<2^n:=Int.pow_pos (by omega)
   by_cases hx:x<2^n
   ·rw [zdt (Int.ediv_eq_zero_of_lt h hx),zdt ⟨h,hx⟩]
   ·rw [bg (fun hc=>hx ?_),bg (fun hc=>hx hc.2)]
    have:=Int.lt_ediv_add_one_mul_self x hp
    rw [hc] at this
    omega
  simp only [zlV,zdt h,cu,h1,bf,e3]
  rfl
 ·have e3:fitsT x n=false:=bg (fun hc=>h hc.1)
  simp only [zlV,bg h,dn,e3]
  rfl
theorem Yt (k:Nat):oh k≤11:=by
 by_cases h:k<12
 ·have:∀ k,k<12→oh k≤11:=by decide+kernel
  exact this k h
 ·unfold oh
  rw [List.getElem?_eq_none (by show 12≤k;omega)]
  decide
def pI (w:Wd) (f:List UInt8) (x:Int):Wd×Int:=match CQ f with
 | none=>(w,5)
 | some k=>if fitsT x (oh k)=true then (w.set k x,0) else (w,1)
theorem EX (w:Wd) (f:List UInt8) (x:Int):(pI w f x).1.length=w.length:=by
 unfold pI
 repeat' split
 all_goals simp
theorem He (w:Wd) (z:Int):flat3 (.tuple #[wV w,.int .i64 z])=true:=by
 have:nK (wV w)=true:=by
  show ((wRow w).toArray.toList.all Ae)=true
  simp [wRow,Ae]
 show ([wV w,.int .i64 z].all nK)=true
 simp only [List.all_cons,this,Bool.true_and,List.all_nil,Bool.and_true]
 rfl
theorem zrZ (w:Wd) (k:Nat) (x:Int):wRow (w.set k x)=(wRow w).set k (.int .i64 x):=by simp [wRow,List.map_set]
theorem zlY {row:List Value} {k:Nat} (h:k<row.length) (v:Value):FU row k [v]=some (row.set k v):=by
 rw [DY (by simp;omega)]
 congr 1
 rw [List.set_eq_take_append_cons_drop,if_pos h]
 simp
abbrev mP:List Value:=[.int .i64 0,.int .i64 0,.int .i64 0,.int .i64 0,.int .i64 0,.int .i64 0,.int .i64 0,.int .i64 0,.int .i64 0,.int .i64 0,.int .i64 0,.int .i64 0]
theorem O7 [Sym] (w:Wd) (hw:w.length=12) (f:List UInt8) (x:Int) (st:SS) (hg:Gd st):∃ n,st.next≤n∧cc 100 [wV w,.string (mkS f),.int .i64 x] st=some (.tuple #[wV (pI w f x).1,.int .i64 (pI w f x).2],st.dw n):=by
 have hc:(wV w).cells.toList=wRow w:=lU _
 have hl:(wRow w).length=12:=by rw [rX,hw]
 have a0:At ((st.ro st.next).new (.cells (wRow w) 0)) st.next (wRow w):=At.new (st:=st.ro st.next) (fF _) _
 have x1:Ext (st.ro st.next) ((st.ro st.next).new (.cells (wRow w) 0)):=(Ext.refl _).new _
 have a1:At (((st.ro st.next).new (.cells (wRow w) 0)).new (.cells mP 0)) (st.next+1) mP:=At.new (st:=(st.ro st.next).new (.cells (wRow w) 0)) (by simp) _
 have x2:Ext ((st.ro st.next).new (.cells (wRow w) 0)) (((st.ro st.next).new (.cells (wRow w) 0)).new (.cells mP 0)):=(Ext.refl _).new _
 have g2:Gd (((st.ro st.next).new (.cells (wRow w) 0)).new (.cells mP 0)):=(hg.ro (n:=st.next)).ext (x1.trans x2)
 have hn2:(((st.ro st.next).new (.cells (wRow w) 0)).new (.cells mP 0)).next=st.next+2:=rfl
 obtain ⟨n3,hn3,c3⟩:=zrY f _ g2
 have x3:Ext (((st.ro st.next).new (.cells (wRow w) 0)).new (.cells mP 0)) ((((st.ro st.next).new (.cells (wRow w) 0)).new (.cells mP 0)).dw n3):=(Ext.refl _).dw hn3
 have a0':=(a0.ext x2).ext x3
 have a1':=a1.ext x3
 cases hk:CQ f with
 | none=>
   rw [hk] at c3
   have hs:pI w f x=(w,5):=by unfold pI;rw [hk]
   rw [hs]
   obtain ⟨s',f1,f2,f3,f4,_⟩:=vT (n:=12) a1' rfl a0' hl (FW w)
   have h0:BI none<0:=by decide
   refine ⟨s'.next,by have:=f4.next;simp at this;omega,zjl _ _ _ st ?_⟩
   have hz:=He w 5
   unfold wV at hz
   simp only [Yu,hc,SS.fE,SS.rQ,c3,bf,eP,zdt h0,cu,f1,f2,f3,hz]
   rfl
 | some k=>
   rw [hk] at c3
   obtain ⟨fx,_,_,hlt⟩:=TW hk
   have h0:¬ BI (some k)<0:=by
    show ¬ (k:Int)<0
    omega
   have e1:sQ (ptr 0 0) 12 (BI (some k)) 2=some (0,0+k*2):=Xr hlt
   have e2:=Xz (g2.ext x3) hlt
   have c4:=zti x (oh k) (by have:=Yt k;omega) ((((st.ro st.next).new (.cells (wRow w) 0)).new (.cells mP 0)).dw n3)
   have x4:Ext ((((st.ro st.next).new (.cells (wRow w) 0)).new (.cells mP 0)).dw n3) (((((st.ro st.next).new (.cells (wRow w) 0)).new (.cells mP 0)).dw n3).dw ((((st.ro st.next).new (.cells (wRow w) 0)).new (.cells mP 0)).dw n3).next):=(Ext.refl _).dw (fF _)
   have Xd:=a0'.ext x4
   have Xc:=a1'.ext x4
   by_cases hf:fitsT x (oh k)=true
   ·rw [hf] at c4
    have hs:pI w f x=(w.set k x,0):=by unfold pI;rw [hk];exact if_pos hf
    rw [hs]
    have c5:=zm6 st.next (((((st.ro st.next).new (.cells (wRow w) 0)).new (.cells mP 0)).dw n3).dw ((((st.ro st.next).new (.cells (wRow w) 0)).new (.cells mP 0)).dw n3).next)
    generalize hs4:(((((st.ro st.next).new (.cells (wRow w) 0)).new (.cells mP 0)).dw n3).dw ((((st.ro st.next).new (.cells (wRow w) 0)).new (.cells mP 0)).dw n3).next)=s4 at*
    have x5:Ext s4 (s4.new (.cells (sN st.next) 1)):=(Ext.refl _).new _
    have QN:=Xd.ext x5
    have S9:=Xc.ext x5
    have hel:fK (.slice (some ⟨s4.next,0,none⟩) 12 12) (BI (some k)) 1=some (s4.next,0+k*1):=by
     show fK (.slice (some ⟨s4.next,0,none⟩) 12 12) (k:Int) 1=_
     unfold fK
     have h1:(0:Int)≤(k:Int):=by omega
     have h2:(k:Int)<((12:Nat):Int):=by omega
     simp only [zdt h1,zdt h2,Bool.and_self,cu,Int.toNat_natCast]
    have hld:(s4.new (.cells (sN st.next) 1)).ld s4.next (0+k*1)=some (ptr st.next k):=by
     rw [SS.eU SS.fV,show 0+k*1=k by omega,zqE _ hlt]
    obtain ⟨s6,e6,a6,m6,_⟩:=QN.pU (k:=k) (vs:=[.int .i64 x]) (row':=wRow (w.set k x)) rfl (by rw [zrZ];exact zlY (by rw [hl];exact hlt) _)
    have ZO:=S9.mod m6 (by simp)
    obtain ⟨s',f1,f2,f3,f4,_⟩:=vT (n:=12) ZO rfl a6 (by rw [rX,List.length_set,hw]) (FW _)
    have hnl:fG (ptr st.next k)=some (ptr st.next k):=rfl
    have hz:=He (w.set k x) 0
    unfold wV at hz
    have hq:∀ q:Nat,s4.next≥st.next:=fun _=>by rw [← hs4];simp;omega
    refine ⟨s'.next,by have:=f4.next;have:=m6.next;have:=x5.next;have:=hq 0;omega,zjl _ _ _ st ?_⟩
    have e1':sQ (ptr 0 0) 12 (BI (some k)) 2=some (0,0+k*2):=e1
    simp only [Yu,hc,SS.fE,SS.rQ,c3,bf,eP,bg h0,dn,e1',e2,c4,mg,lY,c5,hel,hld,hnl,fZ,e6,f1,f2,f3,hz,cu]
    rfl
   ·have hf':fitsT x (oh k)=false:=by simpa using hf
    rw [hf'] at c4
    have hs:pI w f x=(w,1):=by unfold pI;rw [hk];exact if_neg hf
    rw [hs]
    obtain ⟨s',f1,f2,f3,f4,_⟩:=vT (n:=12) Xc rfl Xd hl (FW w)
    have hz:=He w 1
    unfold wV at hz
    refine ⟨s'.next,by have:=f4.next;simp at this;omega,zjl _ _ _ st ?_⟩
    simp only [Yu,hc,SS.fE,SS.rQ,c3,bf,eP,bg h0,dn,e1,e2,c4,mg,nJ,f1,f2,f3,hz,cu]
    rfl
end Go.Proofs.YtifploedaacedaaGreatDoorE
namespace Go.Proofs.YtifploedaacedaaGreatDoorE
open Go Go.E Go.Proofs
def CP (w:Wd):Bool:=(List.range 12).all fun k=>fitsT (w.getD k 0) (oh k)
structure Jq (st:SS) (b j:Nat) (w:Wd):Prop where
 pl:st.mem.get j=some (.cells (sN b) 1)
 lt:j<st.next
 at0:At st b (wRow w)
section
variable {st st' : SS} {b j : Nat} {w : Wd}
theorem Jq.ext (h:Jq st b j w) (e:Ext st st'):Jq st' b j w:=⟨e.get h.lt h.pl,pz h.lt e.next,h.at0.ext e⟩
theorem BH {k:Nat} (h:k<12):fK (.slice (some ⟨j,0,none⟩) 12 12) (k:Int) 1=some (j,0+k*1):=by
 unfold fK
 have h1:(0:Int)≤(k:Int):=by omega
 have h2:(k:Int)<((12:Nat):Int):=by omega
 simp only [zdt h1,zdt h2,Bool.and_self,cu,Int.toNat_natCast]
theorem Jq.ptr (h:Jq st b j w) {k:Nat} (hk:k<12):st.ld j (0+k*1)=some (Go.E.ptr b k):=by
 rw [SS.eU h.pl,show 0+k*1=k by omega,zqE _ hk]
theorem Jq.part (h:Jq st b j w) (hw:w.length=12) {k:Nat} (hk:k<12):st.ld b k=some (.int .i64 (w.getD k 0)):=by
 rw [h.at0.ld,Ol,List.getD_eq_getElem?_getD]
 rw [mW (by omega)]
 rfl
end
theorem zvt [Sym] (w:Wd) (hw:w.length=12) (b j:Nat) (st0:SS) (hg:Gd st0) (hp:Jq st0 b j w):∀ (m k:Nat) (st:SS),12=m+k→Ext st0 st→
  ∃ st',Ext st0 st'∧Uz 2 [.slice (some ⟨j,0,none⟩) 12 12,.int .i64 12,.int .i64 k] st=some (if ((List.range' k m).all fun k=>fitsT (w.getD k 0) (oh k))=true then (0,[],st') else (1,[.bool false],st')):=by
 intro m
 induction m with
 | zero=>
   intro k st hk he
   have:k=12:=by omega
   subst this
   exact ⟨st,he,zgI _ _ _ st rfl⟩
 | succ m ih=>
   intro k st hk he
   have hkl:k<12:=by omega
   have h1:(k:Int)<12:=by omega
   have hnl:fG (ptr b k)=some (ptr b k):=rfl
   have c:=zti (w.getD k 0) (oh k) (by have:=Yt k;omega) st
   have hw1:=ru (i:=k) (by omega)
   have e1:=(hp.ext he).ptr hkl
   have e2:=(hp.ext he).part hw hkl
   have e3:=Xz (hg.ext he) hkl
   have e4:=Xr hkl
   rw [List.range'_succ,List.all_cons]
   cases hf:fitsT (w.getD k 0) (oh k) with
   | true=>
     obtain ⟨st',x',l⟩:=ih (k+1) (st.dw st.next) (by omega) (he.dw (fF _))
     rw [hf] at c
     refine ⟨st',x',zgI _ _ _ st ?_⟩
     simp only [ziv,zdt h1,cu,BH hkl,bf,e1,hnl,fZ,e2,eP,e4,e3,c,mg,lY,dn,hw1,Bool.true_and]
     exact l
   | false=>
     rw [hf] at c
     refine ⟨st.dw st.next,he.dw (fF _),zgI _ _ _ st ?_⟩
     simp only [ziv,zdt h1,cu,BH hkl,bf,e1,hnl,fZ,e2,eP,e4,e3,c,mg,nJ,Bool.false_and]
     rfl
theorem zxY [Sym] (w:Wd) (hw:w.length=12) (st:SS) (hg:Gd st):∃ n,st.next≤n∧cc 101 [wV w] st=some (.bool (CP w),st.dw n):=by
 have hc:(wV w).cells.toList=wRow w:=lU _
 have a0:At ((st.ro st.next).new (.cells (wRow w) 0)) st.next (wRow w):=At.new (st:=st.ro st.next) (fF _) _
 have x1:Ext (st.ro st.next) ((st.ro st.next).new (.cells (wRow w) 0)):=(Ext.refl _).new _
 have c2:=zm6 st.next ((st.ro st.next).new (.cells (wRow w) 0))
 have x2:Ext ((st.ro st.next).new (.cells (wRow w) 0)) (((st.ro st.next).new (.cells (wRow w) 0)).new (.cells (sN st.next) 1)):=(Ext.refl _).new _
 have hp:Jq (((st.ro st.next).new (.cells (wRow w) 0)).new (.cells (sN st.next) 1)) st.next (st.next+1) w:=⟨SS.fV (st:=(st.ro st.next).new (.cells (wRow w) 0)),by simp,a0.ext x2⟩
 obtain ⟨s',x',l⟩:=zvt w hw st.next (st.next+1) _ ((hg.ro (n:=st.next)).ext (x1.trans x2)) hp 12 0 _ (by omega) (.refl _)
 have hnx:=x'.next
 simp at hnx
 have hlen:(lenV (.slice (some ⟨st.next+1,0,none⟩) 12 12)).bind (ay .i64)=some 12:=rfl
 have l':Uz 2 [.slice (some ⟨st.next+1,0,none⟩) 12 12,.int .i64 12,.int .i64 0] (((st.ro st.next).new (.cells (wRow w) 0)).new (.cells (sN st.next) 1))=some (if CP w=true then (0,[],s') else (1,[.bool false],s')):=by
  have hg':CP w=(List.range' 0 12).all fun k=>fitsT (w.getD k 0) (oh k):=by unfold CP;rw [List.range_eq_range']
  rw [hg']
  exact l
 refine ⟨s'.next,by omega,zrb _ st ?_⟩
 have b0:Nat.beq 0 0=true:=rfl
 have b1:Nat.beq 1 0=false:=rfl
 cases hgd:CP w with
 | true=>
   rw [hgd,if_pos rfl] at l'
   simp only [zlW,hc,SS.fE,c2,bf,SS.rQ,hlen,l',b0,cu]
 | false=>
   rw [hgd,if_neg (by decide)] at l'
   simp only [zlW,hc,SS.fE,c2,bf,SS.rQ,hlen,l',b1,dn,iZ,mg]
def Bo:List Nat:=AU.map (·.2)
def FK:List Nat→List Int→Int
 | n::ns,p::ps=>p+2^n*FK ns ps
 | _,_=>0
def Gu (w:Wd):Int:=FK Bo w
theorem orU64 {a c s:Nat} (ha:a<2^s) (hc:a+c*2^s<2^64):GV .u64 (a:Int) ((c*2^s:Nat):Int)=((a+c*2^s:Nat):Int):=by
 have h1:a||| c*2^s=a+c*2^s:=by
  have:=Nat.two_pow_add_eq_or_of_lt ha c
  rw [Nat.or_comm,Nat.mul_comm,← this,Nat.add_comm]
 unfold GV
 have e:((BitVec.ofInt 64 (a:Int)||| BitVec.ofInt 64 ((c*2^s:Nat):Int)).toNat:Nat)=a+c*2^s:=by
  rw [BitVec.toNat_or,BitVec.ofInt_natCast,BitVec.ofInt_natCast,BitVec.toNat_ofNat,BitVec.toNat_ofNat,Nat.mod_eq_of_lt (by omega),Nat.mod_eq_of_lt (by omega),h1]
 show IntKind.wrap .u64 (((BitVec.ofInt 64 (a:Int)||| BitVec.ofInt 64 ((c*2^s:Nat):Int)).toNat:Nat):Int)=_
 rw [e]
 exact Ho (by omega) (by omega)
theorem Vl {c s:Nat} (hs:s<64) (hc:c*2^s<2^64):(aI .shl .u64 (c:Int) (s:Int)).bind (ay .u64)=some ((c*2^s:Nat):Int):=by
 have hb:¬ ((s:Int)<0):=by omega
 have e:min ((s:Int)).toNat (IntKind.bits .u64)=s:=by
  show min ((s:Int)).toNat 64=s
  rw [Int.toNat_natCast];omega
 have e2:LX .u64 (c:Int) (s:Int)=((c*2^s:Nat):Int):=by
  unfold LX
  rw [e]
  have:(c:Int)*2^s=((c*2^s:Nat):Int):=by simp
  rw [this]
  exact Ho (by omega) (by omega)
 simp only [aI,bg hb,dn,bf,eP,e2]
def zA (k:Nat):Nat:=(Bo.take k).sum
theorem zvu {k:Nat} (h:k<12):zA (k+1)=zA k+oh k:=by
 have:∀ k,k<12→zA (k+1)=zA k+oh k:=by decide+kernel
 exact this k h
theorem ztj {k:Nat} (h:k<12):zA k+oh k≤64∧0<oh k:=by
 have:∀ k,k<12→zA k+oh k≤64∧0<oh k:=by decide+kernel
 exact this k h
theorem zpn {k:Nat} (h:k<12):Bo.drop k=oh k::Bo.drop (k+1):=by
 have:∀ k,k<12→Bo.drop k=oh k::Bo.drop (k+1):=by decide+kernel
 exact this k h
theorem getD_drop {w:Wd} {k:Nat} (h:k<w.length):w.drop k=w.getD k 0::w.drop (k+1):=by
 rw [List.drop_eq_getElem_cons h,List.getD_eq_getElem?_getD,mW h]
 rfl
theorem zot {w:Wd} (h:CP w=true) {k:Nat} (hk:k<12):∃ p:Nat,w.getD k 0=(p:Int)∧p<2^oh k:=by
 have:=List.all_eq_true.1 h k (List.mem_range.2 hk)
 unfold fitsT at this
 obtain ⟨h1,h2⟩:=of_decide_eq_true this
 obtain ⟨p,hp⟩:=Int.eq_ofNat_of_zero_le h1
 refine ⟨p,hp,?_⟩
 rw [hp] at h2
 have:((p:Int))<((2^oh k:Nat):Int):=by simpa using h2
 omega
theorem zvv [Sym] (w:Wd) (hw:w.length=12) (hgd:CP w=true) (b j:Nat) (st0:SS) (hg:Gd st0) (hp:Jq st0 b j w):∀ (m k x:Nat),12=m+k→x<2^zA k→
  Uy 5 [.int .u64 x,.int .i64 (zA k),.slice (some ⟨j,0,none⟩) 12 12,.int .i64 12,.int .i64 k] st0=some (0,[.int .u64 ((x:Int)+2^zA k*FK (Bo.drop k) (w.drop k))],st0):=by
 intro m
 induction m with
 | zero=>
   intro k x hk hx
   have:k=12:=by omega
   subst this
   refine zjm _ _ _ _ _ st0 ?_
   have e:FK (Bo.drop 12) (w.drop 12)=0:=rfl
   rw [e,Int.mul_zero,Int.add_zero]
   rfl
 | succ m ih=>
   intro k x hk hx
   have hkl:k<12:=by omega
   have h1:(k:Int)<12:=by omega
   have hnl:fG (ptr b k)=some (ptr b k):=rfl
   obtain ⟨p,hp1,hp2⟩:=zot hgd hkl
   have hs:=ztj hkl
   have hss:=zvu hkl
   have hw1:=ru (i:=k) (by omega)
   have e1:=hp.ptr hkl
   have e2:=hp.part hw hkl
   rw [hp1] at e2
   have e3:=Xz hg hkl
   have e4:=Xr hkl
   have hpow:2^oh k≤2^11:=Nat.pow_le_pow_right (by omega) (Yt k)
   have hw2:IntKind.wrap .u64 (p:Int)=(p:Int):=Ho (by omega) (by omega)
   have hpm:p*2^zA k+2^zA k≤2^(zA k+oh k):=by
    rw [Nat.pow_add,Nat.mul_comm (2^zA k)]
    have:(p+1)*2^zA k≤2^oh k*2^zA k:=Nat.mul_le_mul_right _ hp2
    rw [Nat.add_mul] at this
    omega
   have h64:2^(zA k+oh k)≤2^64:=Nat.pow_le_pow_right (by omega) hs.1
   have e5:=Vl (c:=p) (s:=zA k) (by omega) (by omega)
   have e6:=orU64 (a:=x) (c:=p) (s:=zA k) hx (by omega)
   have hw3:IntKind.wrap .i64 ((zA k:Int)+(oh k:Int))=((zA (k+1):Nat):Int):=by rw [wrap64 (by omega) (by omega),hss];omega
   have:=ih (k+1) (x+p*2^zA k) (by omega) (by rw [hss];omega)
   have e7:(((x+p*2^zA k:Nat):Int)+2^zA (k+1)*FK (Bo.drop (k+1)) (w.drop (k+1)))=(x:Int)+2^zA k*FK (Bo.drop k) (w.drop k):=by
    rw [zpn hkl,getD_drop (w:=w) (k:=k) (by omega),hp1]
    show _=(x:Int)+2^zA k*((p:Int)+2^oh k*FK (Bo.drop (k+1)) (w.drop (k+1)))
    rw [hss,Int.pow_add,Int.mul_add,Int.mul_assoc]
    simp only [Int.natCast_add,Int.natCast_mul,Int.natCast_pow]
    rw [Int.mul_comm (p:Int)]
    simp [Int.add_assoc]
   rw [e7] at this
   refine zjm _ _ _ _ _ st0 ?_
   simp only [zmk,zdt h1,cu,BH hkl,bf,e1,hnl,fZ,e2,eP,hw2,e5,e6,e4,e3,hw3,hw1]
   exact this
theorem zxZ [Sym] (w:Wd) (hw:w.length=12) (st:SS) (hg:Gd st):∃ n,st.next≤n∧cc 73 [wV w] st=some (if CP w=true then .tuple #[.int .u64 (Gu w),.int .i64 0] else .tuple #[.int .u64 0,.int .i64 1],st.dw n):=by
 have hc:(wV w).cells.toList=wRow w:=lU _
 have a0:At ((st.ro st.next).new (.cells (wRow w) 0)) st.next (wRow w):=At.new (st:=st.ro st.next) (fF _) _
 have x1:Ext (st.ro st.next) ((st.ro st.next).new (.cells (wRow w) 0)):=(Ext.refl _).new _
 have l0:((st.ro st.next).new (.cells (wRow w) 0)).eF st.next 0 12=some (wV w):=a0.eF (by rw [rX,hw])
 obtain ⟨n3,hn3,c3⟩:=zxY w hw _ ((hg.ro (n:=st.next)).ext x1)
 have x3:Ext ((st.ro st.next).new (.cells (wRow w) 0)) (((st.ro st.next).new (.cells (wRow w) 0)).dw n3):=(Ext.refl _).dw hn3
 simp at hn3
 have b0:Nat.beq 0 0=true:=rfl
 cases hgd:CP w with
 | false=>
   rw [hgd] at c3
   refine ⟨n3,by omega,zmj _ st ?_⟩
   simp only [zlX,hc,SS.fE,l0,c3,bf,mg,nJ,cu]
   rfl
 | true=>
   rw [hgd] at c3
   have c5:=zm6 st.next (((st.ro st.next).new (.cells (wRow w) 0)).dw n3)
   have x5:Ext (((st.ro st.next).new (.cells (wRow w) 0)).dw n3) ((((st.ro st.next).new (.cells (wRow w) 0)).dw n3).new (.cells (sN st.next) 1)):=(Ext.refl _).new _
   have hp:Jq ((((st.ro st.next).new (.cells (wRow w) 0)).dw n3).new (.cells (sN st.next) 1)) st.next n3 w:=⟨SS.fV (st:=((st.ro st.next).new (.cells (wRow w) 0)).dw n3),by simp,(a0.ext x3).ext x5⟩
   have l:=zvv w hw hgd st.next n3 _ ((hg.ro (n:=st.next)).ext (x1.trans (x3.trans x5))) hp 12 0 0 (by omega) (by decide)
   have e:((0:Nat):Int)+2^zA 0*FK (Bo.drop 0) (w.drop 0)=Gu w:=by
    rw [List.drop_zero,List.drop_zero]
    show (0:Int)+2^0*Gu w=Gu w
    omega
   rw [e] at l
   have l':Uy 5 [.int .u64 0,.int .i64 0,.slice (some ⟨n3,0,none⟩) 12 12,.int .i64 12,.int .i64 0] ((((st.ro st.next).new (.cells (wRow w) 0)).dw n3).new (.cells (sN st.next) 1))=_:=l
   have hlen:(lenV (.slice (some ⟨n3,0,none⟩) 12 12)).bind (ay .i64)=some 12:=rfl
   refine ⟨n3+1,by omega,zmj _ st ?_⟩
   have hnx:(((st.ro st.next).new (.cells (wRow w) 0)).dw n3).next=n3:=rfl
   simp only [zlX,hc,SS.fE,l0,c3,bf,mg,lY,dn,c5,hnx,hlen,l',iZ,eP]
   rfl
end Go.Proofs.YtifploedaacedaaGreatDoorE
namespace Go.Proofs.YtifploedaacedaaGreatDoorE
set_option maxRecDepth 20000
open Go Go.E Go.Proofs
noncomputable def zmp (cf:fQ) (lf:eX) (st:SS):Option (Value×SS):=
 let st1:SS:=st.new (.cells ([.string ⟨#[97,108,117]⟩,.string ⟨#[97]⟩,.string ⟨#[98]⟩,.string ⟨#[100]⟩,.string ⟨#[108,105,116]⟩,.string ⟨#[115,105,122,101]⟩,.string ⟨#[99,99]⟩,.string ⟨#[109,101,109]⟩,.string ⟨#[115,101,113]⟩,.string ⟨#[99,111,110,100]⟩,.string ⟨#[116,111]⟩,.string ⟨#[109,105,115,99]⟩]) 1)
 some (.slice (some ⟨st.next,0,none⟩) 12 12,st1)
noncomputable abbrev zkf:eX:=lS Tryz.prog Lk0 Tryz.f24 lQ
theorem zkg:Lk0.func 24=some (24,Tryz.f24):=by kernel_rfl
theorem zkh [Sym] (st:SS) {r:Value×SS} (h:zmp cc zkf st=some r):cc 24 [] st=some r:=
 mF (li:=lQ) gu gy zkg rfl (fun _=>rfl) (.trans (by kernel_rfl) h)
noncomputable def zm7 (cf:fQ) (lf:eX) (st:SS):Option (Value×SS):=
 let st1:SS:=st.new (.cells ([.int .i64 32,.int .i64 64,.int .i64 64,.int .i64 64,.int .i64 256,.int .i64 4,.int .i64 4,.int .i64 16,.int .i64 8,.int .i64 32,.int .i64 2048,.int .i64 64]) 1)
 some (.slice (some ⟨st.next,0,none⟩) 12 12,st1)
noncomputable abbrev zkO:eX:=lS Tryz.prog Lk0 Tryz.f48 lQ
theorem zkP:Lk0.func 48=some (48,Tryz.f48):=by kernel_rfl
theorem zkQ [Sym] (st:SS) {r:Value×SS} (h:zm7 cc zkO st=some r):cc 48 [] st=some r:=
 mF (li:=lQ) gu gy zkP rfl (fun _=>rfl) (.trans (by kernel_rfl) h)
noncomputable def zhN (cf:fQ) (lf:eX) (w':Value) (st:SS):Option (Value×SS):=
 let a:SS:=st.new (.cells (w':Value).cells.toList 0)
 ((a.ld st.next 0).bind (ay .i64)).bind fun b=>
 ((a.ld st.next 1).bind (ay .i64)).bind fun c=>
 ((a.ld st.next 2).bind (ay .i64)).bind fun d=>
 ((a.ld st.next 3).bind (ay .i64)).bind fun e=>
 ((a.ld st.next 4).bind (ay .i64)).bind fun f=>
 ((a.ld st.next 5).bind (ay .i64)).bind fun g=>
 ((a.ld st.next 6).bind (ay .i64)).bind fun h=>
 ((a.ld st.next 7).bind (ay .i64)).bind fun i=>
 ((a.ld st.next 8).bind (ay .i64)).bind fun j=>
 ((a.ld st.next 9).bind (ay .i64)).bind fun k=>
 ((a.ld st.next 10).bind (ay .i64)).bind fun l=>
 ((a.ld st.next 11).bind (ay .i64)).bind fun m=>
 let n:SS:=a.new (.cells ([.int .i64 b,.int .i64 c,.int .i64 d,.int .i64 e,.int .i64 f,.int .i64 g,.int .i64 h,.int .i64 i,.int .i64 j,.int .i64 k,.int .i64 l,.int .i64 m]) 1)
 some (.slice (some ⟨a.next,0,none⟩) 12 12,n)
noncomputable abbrev zki:eX:=lS Tryz.prog Lk0 Tryz.f23 lQ
theorem zkj:Lk0.func 23=some (23,Tryz.f23):=by kernel_rfl
theorem zkk [Sym] (w':Value) (st:SS) {r:Value×SS} (h:zhN cc zki w' st=some r):cc 23 [w'] st=some r:=
 mF (li:=lQ) gu gy zkj rfl (fun _=>rfl) (.trans (by kernel_rfl) h)
noncomputable def zim (cf:fQ) (lf:eX) (p':Value) (st:SS):Option (Value×SS):=
 let a:SS:=(st.ro st.next).new (.cells [.int .i64 0,.int .i64 0,.int .i64 0,.int .i64 0,.int .i64 0,.int .i64 0,.int .i64 0,.int .i64 0,.int .i64 0,.int .i64 0,.int .i64 0,.int .i64 0] 0)
 (fK p' 0 1).bind fun b=>
 ((a.ld b.1 b.2).bind (ay .i64)).bind fun c=>
 (fK p' 1 1).bind fun d=>
 ((a.ld d.1 d.2).bind (ay .i64)).bind fun e=>
 (fK p' 2 1).bind fun f=>
 ((a.ld f.1 f.2).bind (ay .i64)).bind fun g=>
 (fK p' 3 1).bind fun h=>
 ((a.ld h.1 h.2).bind (ay .i64)).bind fun i=>
 (fK p' 4 1).bind fun j=>
 ((a.ld j.1 j.2).bind (ay .i64)).bind fun k=>
 (fK p' 5 1).bind fun l=>
 ((a.ld l.1 l.2).bind (ay .i64)).bind fun m=>
 (fK p' 6 1).bind fun n=>
 ((a.ld n.1 n.2).bind (ay .i64)).bind fun o=>
 (fK p' 7 1).bind fun p=>
 ((a.ld p.1 p.2).bind (ay .i64)).bind fun q=>
 (fK p' 8 1).bind fun r=>
 ((a.ld r.1 r.2).bind (ay .i64)).bind fun s=>
 (fK p' 9 1).bind fun t=>
 ((a.ld t.1 t.2).bind (ay .i64)).bind fun u=>
 (fK p' 10 1).bind fun v=>
 ((a.ld v.1 v.2).bind (ay .i64)).bind fun w=>
 (fK p' 11 1).bind fun x=>
 ((a.ld x.1 x.2).bind (ay .i64)).bind fun y=>
 (a.st ((st.ro st.next).next) 0 [.int .i64 c,.int .i64 e,.int .i64 g,.int .i64 i,.int .i64 k,.int .i64 m,.int .i64 o,.int .i64 q,.int .i64 s,.int .i64 u,.int .i64 w,.int .i64 y]).bind fun z=>
 (z.fH ((st.ro st.next).next) 0 12).bind fun A=>
 cond (flat3 A) (some (A,st.dw z.next)) none
noncomputable abbrev zkR:eX:=lS Tryz.prog Lk0 Tryz.f56 lQ
theorem zkS:Lk0.func 56=some (56,Tryz.f56):=by kernel_rfl
theorem zkT [Sym] (p':Value) (st:SS) {r:Value×SS} (h:zim cc zkR p' st=some r):cc 56 [p'] st=some r:=
 mF (li:=lQ) gu gy zkS rfl (fun _=>rfl) (.trans (by kernel_rfl) h)
def zhu:eu:=⟨[(0,.str),(5,.any),(6,.int .i64),(7,.int .i64)],[(.exit 0,[]),(.ret,[(2,.int .i64)])]⟩
def zhO (n:Nat):Option eu:=cond (Nat.beq n 2) (some zhu) (none)
noncomputable def zgJ (cf:fQ) (lf:eX) (name':ByteArray) (st:SS):Option (Value×SS):=
 (cf 24 [] (st.ro st.next)).bind fun a=>
 ((lenV a.1).bind (ay .i64)).bind fun b=>
 (lf 2 [.string name',a.1,.int .i64 b,.int .i64 0] a.2).bind fun c=>
 cond (Nat.beq c.1 0) (
 some (.int .i64 (-1),st.dw c.2.2.next)) (
 ((c.2.1[0]?).bind (ay .i64)).bind fun d=>
 some (.int .i64 d,st.dw c.2.2.next))
noncomputable abbrev UM:eX:=lS Tryz.prog Lk0 Tryz.f75 zhO
theorem zmq:Lk0.func 75=some (75,Tryz.f75):=by kernel_rfl
theorem zmr [Sym] (name':ByteArray) (st:SS) {r:Value×SS} (h:zgJ cc UM name' st=some r):cc 75 [.string name'] st=some r:=
 mF (li:=zhO) gu gy zmq rfl (fun _=>rfl) (.trans (by kernel_rfl) h)
noncomputable def zfi (cf:fQ) (lf:eX) (name':ByteArray) (Dk:Value) (zO:Int) (pY:Int) (st:SS):Option (Nat×List Value×SS):=
 cond (decide (pY<zO)) (
 (fK Dk pY 1).bind fun a=>
 ((st.ld a.1 a.2).bind asS).bind fun b=>
 cond (fA b name') (
 some (1,[.int .i64 pY],st)) (
 let c:Int:=IntKind.wrap .i64 (pY+1)
 lf 2 [.string name',Dk,.int .i64 zO,.int .i64 c] st)) (
 some (0,[],st))
theorem zgn [Sym] (name':ByteArray) (Dk:Value) (zO:Int) (pY:Int) (st:SS) {r:Nat×List Value×SS} (h:zfi cc UM name' Dk zO pY st=some r):UM 2 [.string name',Dk,.int .i64 zO,.int .i64 pY] st=some r:=
 oM gu gy (key:=2) (I:=zhu) rfl (by kernel_rfl) (by kernel_rfl) rfl rfl (.trans (by kernel_rfl) h)
def zgo:eu:=⟨[(3,.int .u64),(4,.any),(5,.int .i64)],[(.exit 0,[(3,.int .u64)])]⟩
def zgY (n:Nat):Option eu:=cond (Nat.beq n 4) (some zgo) (none)
noncomputable def zin (cf:fQ) (lf:eX) (w':Value) (st:SS):Option (Value×SS):=
 let a:SS:=(st.ro st.next).new (.cells (w':Value).cells.toList 0)
 (a.eF ((st.ro st.next).next) 0 12).bind fun b=>
 (cf 23 [b] a).bind fun c=>
 (lf 4 [.int .u64 0,c.1,.int .i64 11] c.2).bind fun d=>
 ((d.2.1[0]?).bind (ay .u64)).bind fun e=>
 some (.int .u64 e,st.dw d.2.2.next)
noncomputable abbrev UG:eX:=lS Tryz.prog Lk0 Tryz.f18 zgY
theorem zkU:Lk0.func 18=some (18,Tryz.f18):=by kernel_rfl
theorem zkV [Sym] (w':Value) (st:SS) {r:Value×SS} (h:zin cc UG w' st=some r):cc 18 [w'] st=some r:=
 mF (li:=zgY) gu gy zkU rfl (fun _=>rfl) (.trans (by kernel_rfl) h)
noncomputable def zew (cf:fQ) (lf:eX) (x':Int) (p':Value) (i':Int) (st:SS):Option (Nat×List Value×SS):=
 cond (decide (0≤i')) (
 (cf 48 [] (st.ro st.next)).bind fun a=>
 (fK a.1 i' 1).bind fun b=>
 (((a.2.ro st.lim).ld b.1 b.2).bind (ay .i64)).bind fun c=>
 let d:Int:=IntKind.wrap .u64 c
 let e:Int:=IntKind.wrap .u64 (x'*d)
 (fK p' i' 1).bind fun f=>
 (((a.2.ro st.lim).ld f.1 f.2).bind (ay .i64)).bind fun g=>
 let h:Int:=IntKind.wrap .u64 g
 let i:Int:=IntKind.wrap .u64 (e+h)
 let j:Int:=IntKind.wrap .i64 (i'-1)
 lf 4 [.int .u64 i,p',.int .i64 j] (a.2.ro st.lim)) (
 some (0,[.int .u64 x'],st))
theorem zfB [Sym] (x':Int) (p':Value) (i':Int) (st:SS) {r:Nat×List Value×SS} (h:zew cc UG x' p' i' st=some r):UG 4 [.int .u64 x',p',.int .i64 i'] st=some r:=
 oM gu gy (key:=4) (I:=zgo) rfl (by kernel_rfl) (by kernel_rfl) rfl rfl (.trans (by kernel_rfl) h)
noncomputable def UA (cf:fQ) (lf:eX) (w':Value) (name':ByteArray) (x':Int) (st:SS):Option (Value×SS):=
 let a:SS:=(st.ro st.next).new (.cells (w':Value).cells.toList 0)
 let b:SS:=a.new (.cells [.int .i64 0,.int .i64 0,.int .i64 0,.int .i64 0,.int .i64 0,.int .i64 0,.int .i64 0,.int .i64 0,.int .i64 0,.int .i64 0,.int .i64 0,.int .i64 0] 0)
 (cf 75 [.string name'] b).bind fun c=>
 ((some c.1).bind (ay .i64)).bind fun d=>
 cond (decide (d<0)) (
 (c.2.eF ((st.ro st.next).next) 0 12).bind fun e=>
 (c.2.eH a.next 0 12 e).bind fun f=>
 (f.fH a.next 0 12).bind fun g=>
 cond (flat3 (.tuple #[g,.int .i64 5])) (some (.tuple #[g,.int .i64 5],st.dw f.next)) none) (
 cond (decide (x'<0)) (
 (c.2.eF ((st.ro st.next).next) 0 12).bind fun h=>
 (c.2.eH a.next 0 12 h).bind fun i=>
 (i.fH a.next 0 12).bind fun j=>
 cond (flat3 (.tuple #[j,.int .i64 1])) (some (.tuple #[j,.int .i64 1],st.dw i.next)) none) (
 (cf 48 [] c.2).bind fun k=>
 (fK k.1 d 1).bind fun l=>
 ((k.2.ld l.1 l.2).bind (ay .i64)).bind fun m=>
 cond (decide (m≤x')) (
 (k.2.eF ((st.ro st.next).next) 0 12).bind fun n=>
 (k.2.eH a.next 0 12 n).bind fun o=>
 (o.fH a.next 0 12).bind fun p=>
 cond (flat3 (.tuple #[p,.int .i64 1])) (some (.tuple #[p,.int .i64 1],st.dw o.next)) none) (
 (k.2.eF ((st.ro st.next).next) 0 12).bind fun q=>
 (cf 23 [q] k.2).bind fun r=>
 (fK r.1 d 1).bind fun s=>
 (r.2.st s.1 s.2 [.int .i64 x']).bind fun t=>
 (cf 56 [r.1] t).bind fun u=>
 (u.2.eH a.next 0 12 u.1).bind fun v=>
 (v.fH a.next 0 12).bind fun w=>
 cond (flat3 (.tuple #[w,.int .i64 0])) (some (.tuple #[w,.int .i64 0],st.dw v.next)) none)))
noncomputable abbrev zlZ:eX:=lS Tryz.prog Lk0 Tryz.f77 lQ
theorem zl0:Lk0.func 77=some (77,Tryz.f77):=by kernel_rfl
theorem YW [Sym] (w':Value) (name':ByteArray) (x':Int) (st:SS) {r:Value×SS} (h:UA cc zlZ w' name' x' st=some r):cc 77 [w',.string name',.int .i64 x'] st=some r:=
 mF (li:=lQ) gu gy zl0 rfl (fun _=>rfl) (.trans (by kernel_rfl) h)
end Go.Proofs.YtifploedaacedaaGreatDoorE
namespace Go.Proofs.YtifploedaacedaaGreatDoorE
open Go Go.E Go.Proofs
theorem Z4 {α:Type} {w:List α} (h:w.length=12):∃ a b c d e f g i j k l m,w=[a,b,c,d,e,f,g,i,j,k,l,m]:=by
 match w,h with
 | [a,b,c,d,e,f,g,i,j,k,l,m],_=>exact ⟨a,b,c,d,e,f,g,i,j,k,l,m,rfl⟩
def TV:List (List UInt8):=AU.map (·.1)
def Ed:List Int:=Bo.map fun n=>2^n
theorem zr0 [Sym] (w:Wd) (hw:w.length=12) (st:SS):cc 23 [wV w] st=some (.slice (some ⟨st.next+1,0,none⟩) 12 12,(st.new (.cells (wRow w) 0)).new (.cells (wRow w) 1)):=by
 have hc:(wV w).cells.toList=wRow w:=lU _
 have hm:(st.new (.cells (wRow w) 0)).mem.get st.next=some (.cells (wRow w) 0):=SS.fV
 have l:∀ k x,(wRow w)[k]?=some x→(st.new (.cells (wRow w) 0)).ld st.next k=some x:=fun k x h=>by rw [SS.eU hm,h]
 obtain ⟨a,b,c,d,e,f,g,i,j,k,m,n,rfl⟩:=Z4 hw
 refine zkk _ st ?_
 simp only [zhN,hc,l 0 _ rfl,l 1 _ rfl,l 2 _ rfl,l 3 _ rfl,l 4 _ rfl,l 5 _ rfl,l 6 _ rfl,l 7 _ rfl,l 8 _ rfl,l 9 _ rfl,l 10 _ rfl,l 11 _ rfl,bf,eP]
 rfl
theorem ztk [Sym] (st:SS):cc 48 [] st=some (.slice (some ⟨st.next,0,none⟩) 12 12,st.new (.cells (wRow Ed) 1)):=by
 refine zkQ st ?_
 have:wRow Ed=[.int .i64 32,.int .i64 64,.int .i64 64,.int .i64 64,.int .i64 256,.int .i64 4,.int .i64 4,.int .i64 16,.int .i64 8,.int .i64 32,.int .i64 2048,.int .i64 64]:=by rfl
 rw [this]
 rfl
theorem zt9 [Sym] (st:SS):cc 24 [] st=some (.slice (some ⟨st.next,0,none⟩) 12 12,st.new (.cells (strs TV) 1)):=zkh st rfl
theorem zr1 {k:Nat} (h:k<12):(wRow Ed)[k]?=some (.int .i64 ((2^oh k:Nat):Int)):=by
 rw [Ol]
 unfold Ed Bo oh
 rw [List.getElem?_map,List.getElem?_map]
 obtain ⟨x,hx⟩:∃ x,AU[k]?=some x:=⟨_,mW (by show k<12;omega)⟩
 rw [hx]
 simp
theorem at_loop [Sym] (f:List UInt8) (j:Nat) (st:SS) (hj:st.mem.get j=some (.cells (strs TV) 1)):∀ (m k:Nat),12=m+k→
  UM 2 [.string (mkS f),.slice (some ⟨j,0,none⟩) 12 12,.int .i64 12,.int .i64 k] st=some (match (AU.drop k).findIdx? (FM f) with | none=>(0,[],st) | some i=>(1,[.int .i64 ((k+i:Nat):Int)],st)):=by
 intro m
 induction m with
 | zero=>
   intro k hk
   have:k=12:=by omega
   subst this
   exact zgn _ _ _ _ st rfl
 | succ m ih=>
   intro k hk
   have hkl:k<12:=by omega
   have h1:(k:Int)<12:=by omega
   obtain ⟨x,hx⟩:∃ x,AU[k]?=some x:=⟨_,mW (by show k<12;omega)⟩
   have e1:st.ld j (0+k*1)=some (.string (mkS x.1)):=by
    rw [SS.eU hj,show 0+k*1=k by omega]
    unfold strs TV
    rw [List.getElem?_map,List.getElem?_map,hx];rfl
   have he:fA (mkS x.1) (mkS f)=FM f x:=by rw [JC,vW,vW];rfl
   have hw1:=ru (i:=k) (by omega)
   refine zgn _ _ _ _ st ?_
   rw [drop_cons hx,List.findIdx?_cons]
   cases hf:FM f x with
   | true=>
     rw [hf] at he
     simp only [zfi,zdt h1,cu,BH hkl,bf,e1,fP,he,if_true]
     rfl
   | false=>
     rw [hf] at he
     have:=ih (k+1) (by omega)
     simp only [zfi,zdt h1,cu,BH hkl,bf,e1,fP,he,dn,hw1]
     rw [this]
     cases (AU.drop (k+1)).findIdx? (FM f) with
     | none=>rfl
     | some i=>simp;omega
theorem NC [Sym] (f:List UInt8) (st:SS):∃ n,st.next≤n∧cc 75 [.string (mkS f)] st=some (.int .i64 (BI (CQ f)),st.dw n):=by
 have c1:=zt9 (st.ro st.next)
 have l:=at_loop f st.next ((st.ro st.next).new (.cells (strs TV) 1)) (SS.fV (st:=st.ro st.next)) 12 0 (by omega)
 rw [List.drop_zero] at l
 have l':UM 2 [.string (mkS f),.slice (some ⟨st.next,0,none⟩) 12 12,.int .i64 12,.int .i64 0] ((st.ro st.next).new (.cells (strs TV) 1))=_:=l
 have hlen:(lenV (.slice (some ⟨st.next,0,none⟩) 12 12)).bind (ay .i64)=some 12:=rfl
 refine ⟨st.next+1,by omega,zmr _ st ?_⟩
 have b0:Nat.beq 0 0=true:=rfl
 have b1:Nat.beq 1 0=false:=rfl
 unfold CQ
 cases hk:AU.findIdx? (FM f) with
 | none=>
   rw [hk] at l'
   simp only [zgJ,c1,bf,SS.fE,hlen,l',b0,cu]
   rfl
 | some k=>
   rw [hk] at l'
   simp only [zgJ,c1,bf,SS.fE,hlen,l',b1,dn,iZ,eP]
   rw [Nat.zero_add]
   rfl
theorem WL (w:Wd):flat3 (wV w)=true:=by
 show ((wRow w).toArray.toList.all Ae)=true
 simp [wRow,Ae]
theorem zx0 [Sym] (w:Wd) (hw:w.length=12) (j:Nat) (z:Nat) (st:SS) (hj:st.mem.get j=some (.cells (wRow w) z)) (hlt:j<st.next):cc 56 [.slice (some ⟨j,0,none⟩) 12 12] st=some (wV w,st.dw (st.next+1)):=by
 have hm:((st.ro st.next).new (.cells mP 0)).mem.get j=some (.cells (wRow w) z):=by rw [SS.nM (by simp;omega)];exact hj
 have l:∀ k x,(wRow w)[k]?=some x→((st.ro st.next).new (.cells mP 0)).ld j (0+k*1)=some x:=fun k x h=>by rw [SS.eU hm,show 0+k*1=k by omega,h]
 obtain ⟨s2,e2,a2,x2,n2⟩:=N7 (st:=st.ro st.next) (fF _) (r:=mP) (row:=wRow w) (FW w) (by rw [rX,hw];rfl)
 have hr:=a2.fH (n:=12) (by rw [rX,hw])
 have hz:flat3 (wV w)=true:=WL w
 obtain ⟨a,b,c,d,e,f,g,i,jj,k,m,n,rfl⟩:=Z4 hw
 refine zkT _ st ?_
 have p0:fK (.slice (some ⟨j,0,none⟩) 12 12) 0 1=some (j,0+0*1):=BH (k:=0) (by omega)
 have p1:fK (.slice (some ⟨j,0,none⟩) 12 12) 1 1=some (j,0+1*1):=BH (k:=1) (by omega)
 have p2:fK (.slice (some ⟨j,0,none⟩) 12 12) 2 1=some (j,0+2*1):=BH (k:=2) (by omega)
 have p3:fK (.slice (some ⟨j,0,none⟩) 12 12) 3 1=some (j,0+3*1):=BH (k:=3) (by omega)
 have p4:fK (.slice (some ⟨j,0,none⟩) 12 12) 4 1=some (j,0+4*1):=BH (k:=4) (by omega)
 have p5:fK (.slice (some ⟨j,0,none⟩) 12 12) 5 1=some (j,0+5*1):=BH (k:=5) (by omega)
 have p6:fK (.slice (some ⟨j,0,none⟩) 12 12) 6 1=some (j,0+6*1):=BH (k:=6) (by omega)
 have p7:fK (.slice (some ⟨j,0,none⟩) 12 12) 7 1=some (j,0+7*1):=BH (k:=7) (by omega)
 have p8:fK (.slice (some ⟨j,0,none⟩) 12 12) 8 1=some (j,0+8*1):=BH (k:=8) (by omega)
 have p9:fK (.slice (some ⟨j,0,none⟩) 12 12) 9 1=some (j,0+9*1):=BH (k:=9) (by omega)
 have p10:fK (.slice (some ⟨j,0,none⟩) 12 12) 10 1=some (j,0+10*1):=BH (k:=10) (by omega)
 have p11:fK (.slice (some ⟨j,0,none⟩) 12 12) 11 1=some (j,0+11*1):=BH (k:=11) (by omega)
 have e2':((st.ro st.next).new (.cells mP 0)).st (st.ro st.next).next 0 [.int .i64 a,.int .i64 b,.int .i64 c,.int .i64 d,.int .i64 e,.int .i64 f,.int .i64 g,.int .i64 i,.int .i64 jj,.int .i64 k,.int .i64 m,.int .i64 n]=some s2:=e2
 have hr':s2.fH (st.ro st.next).next 0 12=some (wV [a,b,c,d,e,f,g,i,jj,k,m,n]):=hr
 simp only [zim,p0,p1,p2,p3,p4,p5,p6,p7,p8,p9,p10,p11,l 0 _ rfl,l 1 _ rfl,l 2 _ rfl,l 3 _ rfl,l 4 _ rfl,l 5 _ rfl,l 6 _ rfl,l 7 _ rfl,l 8 _ rfl,l 9 _ rfl,l 10 _ rfl,l 11 _ rfl,bf,eP,e2',hr',hz,cu]
 rw [n2]
 rfl
end Go.Proofs.YtifploedaacedaaGreatDoorE
namespace Go.Proofs.YtifploedaacedaaGreatDoorE
open Go Go.E Go.Proofs
theorem zwS (x:Int) (n:Nat):fitsT x n=(decide (0≤x)&&decide (x<((2^n:Nat):Int))):=by
 unfold fitsT
 have:(((2^n:Nat):Int))=2^n:=by simp
 rw [this,Bool.decide_and]
theorem zx1 [Sym] (w:Wd) (hw:w.length=12) (f:List UInt8) (x:Int) (st:SS):∃ n,st.next≤n∧cc 77 [wV w,.string (mkS f),.int .i64 x] st=some (.tuple #[wV (pI w f x).1,.int .i64 (pI w f x).2],st.dw n):=by
 have hc:(wV w).cells.toList=wRow w:=lU _
 have hl:(wRow w).length=12:=by rw [rX,hw]
 have a0:At ((st.ro st.next).new (.cells (wRow w) 0)) st.next (wRow w):=At.new (st:=st.ro st.next) (fF _) _
 have a1:At (((st.ro st.next).new (.cells (wRow w) 0)).new (.cells mP 0)) (st.next+1) mP:=At.new (st:=(st.ro st.next).new (.cells (wRow w) 0)) (by simp) _
 have x2:Ext ((st.ro st.next).new (.cells (wRow w) 0)) (((st.ro st.next).new (.cells (wRow w) 0)).new (.cells mP 0)):=(Ext.refl _).new _
 obtain ⟨n3,hn3,c3⟩:=NC f (((st.ro st.next).new (.cells (wRow w) 0)).new (.cells mP 0))
 have x3:Ext (((st.ro st.next).new (.cells (wRow w) 0)).new (.cells mP 0)) ((((st.ro st.next).new (.cells (wRow w) 0)).new (.cells mP 0)).dw n3):=(Ext.refl _).dw hn3
 have hnx2:(((st.ro st.next).new (.cells (wRow w) 0)).new (.cells mP 0)).next=st.next+2:=rfl
 generalize hs2:(((st.ro st.next).new (.cells (wRow w) 0)).new (.cells mP 0))=s2 at*
 generalize hs3:s2.dw n3=s3 at*
 have hn33:s3.next=n3:=by rw [← hs3];rfl
 have a0':=(a0.ext x2).ext x3
 have a1':=a1.ext x3
 have hs1:((st.ro st.next).new (.cells (wRow w) 0)).next=st.next+1:=rfl
 have hsB:((st.ro st.next).new (.cells (wRow w) 0)).new (.cells mP 0)=s2:=hs2
 cases hk:CQ f with
 | none=>
   rw [hk] at c3
   have hs:pI w f x=(w,5):=by unfold pI;rw [hk]
   rw [hs]
   obtain ⟨s',f1,f2,f3,f4,_⟩:=vT (n:=12) a1' rfl a0' hl (FW w)
   have h0:BI none<0:=by decide
   refine ⟨s'.next,by have:=f4.next;omega,YW _ _ _ st ?_⟩
   have hz:=He w 5
   unfold wV at hz
   simp only [UA,hc,hsB,SS.fE,hs1,c3,bf,eP,zdt h0,cu,f1,f2,f3,hz]
   rfl
 | some k=>
   rw [hk] at c3
   obtain ⟨fx,_,_,hlt⟩:=TW hk
   have h0:¬ BI (some k)<0:=by
    show ¬ (k:Int)<0
    omega
   have hfi:=zwS x (oh k)
   by_cases hx:x<0
   ·have hf:¬ fitsT x (oh k)=true:=by rw [hfi,bg (by omega),Bool.false_and];decide
    have hs:pI w f x=(w,1):=by unfold pI;rw [hk];exact if_neg hf
    rw [hs]
    obtain ⟨s',f1,f2,f3,f4,_⟩:=vT (n:=12) a1' rfl a0' hl (FW w)
    have hz:=He w 1
    unfold wV at hz
    refine ⟨s'.next,by have:=f4.next;omega,YW _ _ _ st ?_⟩
    simp only [UA,hc,hsB,SS.fE,hs1,c3,bf,eP,bg h0,dn,zdt hx,f1,f2,f3,hz,cu]
    rfl
   ·have c4:=ztk s3
    have x4:Ext s3 (s3.new (.cells (wRow Ed) 1)):=(Ext.refl _).new _
    have QN:=a0'.ext x4
    have S9:=a1'.ext x4
    have e4:fK (.slice (some ⟨s3.next,0,none⟩) 12 12) (BI (some k)) 1=some (s3.next,0+k*1):=BH hlt
    have e5:(s3.new (.cells (wRow Ed) 1)).ld s3.next (0+k*1)=some (.int .i64 ((2^oh k:Nat):Int)):=by
     rw [SS.eU SS.fV,show 0+k*1=k by omega,zr1 hlt]
    by_cases hb:((2^oh k:Nat):Int)≤x
    ·have hf:¬ fitsT x (oh k)=true:=by rw [hfi,bg (p:=x<_) (by omega),Bool.and_false];decide
     have hs:pI w f x=(w,1):=by unfold pI;rw [hk];exact if_neg hf
     rw [hs]
     obtain ⟨s',f1,f2,f3,f4,_⟩:=vT (n:=12) S9 rfl QN hl (FW w)
     have hz:=He w 1
     unfold wV at hz
     refine ⟨s'.next,by have:=f4.next;have:=x4.next;omega,YW _ _ _ st ?_⟩
     simp only [UA,hc,hsB,SS.fE,hs1,c3,bf,eP,bg h0,dn,bg hx,c4,e4,e5,zdt hb,f1,f2,f3,hz,cu]
     rfl
    ·have hf:fitsT x (oh k)=true:=by rw [hfi,zdt (show 0≤x by omega),zdt (p:=x<_) (by omega)];rfl
     have hs:pI w f x=(w.set k x,0):=by unfold pI;rw [hk];exact if_pos hf
     rw [hs]
     have l4:(s3.new (.cells (wRow Ed) 1)).eF st.next 0 12=some (wV w):=QN.eF hl
     have c5:=zr0 w hw (s3.new (.cells (wRow Ed) 1))
     generalize hs4:s3.new (.cells (wRow Ed) 1)=s4 at*
     have x5:Ext s4 ((s4.new (.cells (wRow w) 0)).new (.cells (wRow w) 1)):=((Ext.refl _).new _).new _
     have ZO:=S9.ext x5
     have BK:((s4.new (.cells (wRow w) 0)).new (.cells (wRow w) 1)).mem.get (s4.next+1)=some (.cells (wRow w) 1):=SS.fV (st:=s4.new (.cells (wRow w) 0))
     have hlim:((s4.new (.cells (wRow w) 0)).new (.cells (wRow w) 1)).lim≤s4.next+1:=by
      have:=QN.2.2
      have:=QN.lt
      simp
      omega
     have e6:fK (.slice (some ⟨s4.next+1,0,none⟩) 12 12) (BI (some k)) 1=some (s4.next+1,0+k*1):=BH hlt
     have hsp:FU (wRow w) (0+k*1) [.int .i64 x]=some (wRow (w.set k x)):=by
      rw [zrZ,show 0+k*1=k by omega];exact zlY (by rw [hl];exact hlt) _
     have e7:=SS.mM BK hlim (vs:=[.int .i64 x]) rfl hsp
     generalize hs5:(((s4.new (.cells (wRow w) 0)).new (.cells (wRow w) 1)).set (s4.next+1) (some (.cells (wRow (w.set k x)) 1)))=s5 at*
     have hm5:s5.mem.get (s4.next+1)=some (.cells (wRow (w.set k x)) 1):=by rw [← hs5];simp
     have hn5:s5.next=s4.next+2:=by rw [← hs5];rfl
     have a1x:At s5 (st.next+1) mP:=by
      have hne:st.next+1≠s4.next+1:=by have:=S9.lt;omega
      refine ⟨?_,by rw [hn5];have:=S9.lt;omega,by rw [← hs5];have:=ZO.2.2;simpa using this⟩
      rw [← hs5,SS.rC hne]
      exact ZO.1
     have c8:=zx0 (w.set k x) (by rw [List.length_set,hw]) (s4.next+1) 1 s5 hm5 (by omega)
     have a1y:At (s5.dw (s5.next+1)) (st.next+1) mP:=a1x.dw (by omega)
     obtain ⟨s',g1,g2,g3,_⟩:=a1y.eH (k:=0) (n:=12) (v:=wV (w.set k x)) (lU _) (by rw [rX,List.length_set,hw]) (FW _) (row':=wRow (w.set k x)) (by rw [DY (by rw [rX,List.length_set,hw];exact fF 12)];simp [rX,hw])
     have g4:s'.fH (st.next+1) 0 12=some (wV (w.set k x)):=g2.fH (by rw [rX,List.length_set,hw])
     have hz:=He (w.set k x) 0
     have hq:st.next≤s4.next:=by have:=QN.lt;omega
     refine ⟨s'.next,by have:=g3.next;simp at this;omega,YW _ _ _ st ?_⟩
     simp only [UA,hc,hsB,SS.fE,hs1,c3,bf,eP,bg h0,dn,bg hx,c4,e4,e5,bg hb,l4,c5,e6,e7,c8,g1,g4,hz,cu]
end Go.Proofs.YtifploedaacedaaGreatDoorE
namespace Go.Proofs.YtifploedaacedaaGreatDoorE
open Go Go.E Go.Proofs
structure Val where
 nm:List UInt8
 x:Int
 col:Nat
structure Pr where
 fd:List UInt8
 col:Nat
 v:Val
structure fU where
 ln:Nat
 lab:List UInt8
 dir:List UInt8
 args:List Val
 fC:List Pr
def oz (t:Tok) (s:List UInt8):Bool:=decide (t.kd=3)&&decide (t.tx=s)
def DR:List Tok→Except Nat (Val×Nat)
 | []=>.error 0
 | t::r=>if t.kd=2 then .ok (⟨[],t.nm,t.col⟩,1) else if t.kd=1 then (match r with
   | []=>.error 0
   | s::u=>if oz s [43]=true then (match u with
     | n::_=>if n.kd=2 then .ok (⟨t.tx,n.nm,t.col⟩,3) else .error 2
     | []=>.error 2)
     else if oz s [45]=true then (match u with
      | n::_=>if n.kd=2 then .ok (⟨t.tx, -n.nm,t.col⟩,3) else .error 2
      | []=>.error 2)
     else .ok (⟨t.tx,0,t.col⟩,1)) else .error 0
def BP:Nat→List Tok→Except Nat (List Val)
 | 0,_=>.ok []
 | _+1,[]=>.ok []
 | k+1,t::r=>if t.kd=0 then .ok [] else match DR (t::r) with
   | .error o=>.error o
   | .ok (v,n)=>match BP k ((t::r).drop n) with
     | .error o=>.error (n+o)
     | .ok vs=>.ok (v::vs)
def pairT (seen:List (List UInt8)):List Tok→Except Nat (Pr×Nat)
 | []=>.error 0
 | t::r=>if t.kd=1∧t.tx∉seen then (match r with
   | []=>.error 1
   | e::u=>if oz e [61]=true then (match DR u with
     | .error o=>.error (2+o)
     | .ok (v,n)=>.ok (⟨t.tx,t.col,v⟩,2+n)) else .error 1)
   else .error 0
def xJ:Nat→List (List UInt8)→List Tok→Except Nat (List Pr)
 | 0,_,_=>.ok []
 | _+1,_,[]=>.ok []
 | k+1,seen,t::r=>if t.kd=0 then .ok [] else match pairT seen (t::r) with
   | .error o=>.error o
   | .ok (p,n)=>match xJ k (seen++[p.fd]) ((t::r).drop n) with
     | .error o=>.error (n+o)
     | .ok ps=>.ok (p::ps)
def Bl (lab:List UInt8):List Tok→Except Nat fU
 | []=>.error 0
 | t::r=>if oz t [46]=true then (match r with
   | []=>.error 1
   | d::u=>if d.kd=1 then (match BP u.length u with
     | .error o=>.error (2+o)
     | .ok vs=>.ok ⟨0,lab,d.tx,vs,[]⟩) else .error 1)
   else match xJ (t::r).length [] (t::r) with
    | .error o=>.error o
    | .ok ps=>.ok ⟨0,lab,[],[],ps⟩
def oG:List Tok→Except Nat fU
 | t::s::r=>if t.kd=1∧oz s [58]=true then (match Bl t.tx r with
   | .error o=>.error (2+o)
   | .ok x=>.ok x) else Bl [] (t::s::r)
 | l=>Bl [] l
def Ti (l:List Tok) (o:Nat):Nat:=((l[o]?).map (·.col)).getD 0
def Bq:Nat→List (List Tok)→Except (Nat×Nat) (List fU)
 | _,[]=>.ok []
 | i,ts::r=>match oG ts with
   | .error o=>.error (i+1,Ti ts o)
   | .ok x=>match Bq (i+1) r with
     | .error e=>.error e
     | .ok xs=>.ok (if 1<ts.length then { x with ln:=i+1 }::xs else xs)
def zZ:Nat→List (List UInt8)→Except (Nat×Nat) (List (List Tok))
 | _,[]=>.ok []
 | i,p::r=>match zJ p with
   | .error c=>.error (i+1,c)
   | .ok ts=>match zZ (i+1) r with
     | .error e=>.error e
     | .ok oV=>.ok (ts::oV)
def Ec (l:List UInt8):Except (Nat×Nat) (List fU):=match zZ 0 (pieces 10 l) with
 | .error e=>.error e
 | .ok oV=>Bq 0 oV
def flat:Nat→List (List Tok)→List (Nat×Tok)
 | _,[]=>[]
 | i,ts::r=>ts.map (fun t=>(i+1,t))++flat (i+1) r
theorem zpp (ps:List (List UInt8)) (i:Nat):CX i ps=match zZ i ps with
  | .error e=>.error e
  | .ok oV=>.ok (flat i oV):=by
 induction ps generalizing i with
 | nil=>rfl
 | cons p r ih=>
   unfold CX zZ
   cases hx:zJ p with
   | error c=>rfl
   | ok ts=>
     simp only
     rw [ih (i+1)]
     cases hy:zZ (i+1) r with
     | error e=>rfl
     | ok oV=>rfl
def zi:List Tok→Prop
 | []=>False
 | t::r=>(t.kd=0∧r=[])∨(t.kd≠0∧zi r)
theorem zi.tail {t:Tok} {r:List Tok} (h:zi (t::r)) (hk:t.kd≠0):zi r:=h.elim (fun x=>absurd x.1 hk) (·.2)
theorem zi.last {t:Tok} {r:List Tok} (h:zi (t::r)) (hk:t.kd=0):r=[]:=h.elim (·.2) fun x=>absurd hk x.1
theorem zi.ne {r:List Tok} (h:zi r):∃ t u,r=t::u:=by
 cases r with
 | nil=>exact h.elim
 | cons t u=>exact ⟨t,u,rfl⟩
structure vG (t:Tok):Prop where
 kd:t.kd≤3
 tx:t.kd=1→t.tx≠[]
 VK:0≤t.nm
 VJ:t.nm≤2147483647
theorem zua {l:List UInt8} {m:Nat} (h:numO (zB l)=some m):m≤2147483647:=by
 have key:∀ B q,numO (vU B q)=some m→m≤2147483647:=by
  intro B q h
  have hr:=Uf (B:=B) (l:=q)
  cases hp:vU B q with
  | none=>rw [hp] at h;cases h
  | some x=>cases x with
    | none=>rw [hp] at h;cases h
    | some k=>
      rw [hp] at h hr
      have:k=m:=by injection h
      subst this
      simp only [zG] at hr
      omega
 unfold zB at h
 split at h
 ·exact key _ _ h
 ·exact key _ _ h
theorem zwT {l:List UInt8} {kd n:Nat} {x:Int} {c:Nat} (h:stepT l=.tok kd n x):vG ⟨kd,l.take n,x,c⟩∧kd≠0:=by
 obtain ⟨h1,h2,h3⟩:=zvo h
 have hne:l.take n≠[]:=by
  intro e
  have:=congrArg List.length e
  rw [List.length_take] at this
  simp at this
  rcases this with rfl | rfl
  ·omega
  ·simp at h2;omega
 have hx:0≤x∧x≤2147483647:=by
  cases l with
  | nil=>cases h
  | cons c r=>
    rw [zpd] at h
    split at h
    ·cases h
    ·split at h
     ·cases h
     ·split at h
      ·split at h
       ·cases h
       ·cases h;omega
      ·split at h
       ·split at h
        ·rename_i m hm
         cases h
         have:=zua hm
         omega
        ·cases h
       ·split at h
        ·cases h;omega
        ·cases h
 exact ⟨⟨by show kd≤3;omega,fun _=>hne,hx.1,hx.2⟩,by omega⟩
theorem zi.snoc {ts:List Tok} {e:Tok} (h:∀ t∈ts,t.kd≠0) (he:e.kd=0):zi (ts++[e]):=by
 induction ts with
 | nil=>exact .inl ⟨he,rfl⟩
 | cons t r ih=>exact .inr ⟨h t (List.mem_cons_self ..),ih fun u hu=>h u (List.mem_cons_of_mem _ hu)⟩
theorem zx2 (k col:Nat) (l:List UInt8) (ts:List Tok) (h:zX k col l=.ok ts):∀ t∈ts,vG t∧t.kd≠0:=by
 induction k generalizing col l ts with
 | zero=>cases h;intro t ht;cases ht
 | succ k ih=>
   unfold zX at h
   split at h
   ·cases h;intro t ht;cases ht
   ·exact ih _ _ _ h
   ·rename_i kd n x hs
    cases hx:zX k (col+n) (l.drop n) with
    | error e=>rw [hx] at h;cases h
    | ok us=>
      rw [hx] at h;cases h
      intro t ht
      rcases List.mem_cons.1 ht with rfl | ht
      ·exact zwT hs
      ·exact ih _ _ _ hx t ht
   ·cases h
theorem zou {p:List UInt8} {ts:List Tok} (h:zJ p=.ok ts):zi ts∧∀ t∈ts,vG t:=by
 unfold zJ at h
 split at h
 ·rename_i us hu
  cases h
  have h1:=zx2 _ _ _ _ hu
  refine ⟨zi.snoc (fun t ht=>(h1 t ht).2) rfl,fun t ht=>?_⟩
  rcases List.mem_append.1 ht with ht | ht
  ·exact (h1 t ht).1
  ·have:t=FI p:=by simpa using ht
   subst this
   exact ⟨by simp [FI],fun h=>by simp [FI] at h,by simp [FI],by simp [FI]⟩
 ·cases h
theorem zwU (ps:List (List UInt8)) (i:Nat) (oV:List (List Tok)) (h:zZ i ps=.ok oV):∀ ts∈oV,zi ts∧∀ t∈ts,vG t:=by
 induction ps generalizing i oV with
 | nil=>cases h;intro ts hts;cases hts
 | cons p r ih=>
   unfold zZ at h
   cases hx:zJ p with
   | error c=>rw [hx] at h;cases h
   | ok ts=>
     rw [hx] at h
     cases hy:zZ (i+1) r with
     | error e=>rw [hy] at h;cases h
     | ok us=>
       rw [hy] at h;cases h
       intro ts' ht
       rcases List.mem_cons.1 ht with rfl | ht
       ·exact zou hx
       ·exact ih _ _ hy ts' ht
theorem EY {t:Tok} {s:List UInt8} (h:oz t s=true):t.kd=3:=by
 simp [oz] at h;exact h.1
theorem Uo (t:Tok) (r:List Tok):DR (t::r)=(if t.kd=2 then .ok (⟨[],t.nm,t.col⟩,1) else if t.kd=1 then (match r with
   | []=>.error 0
   | s::u=>if oz s [43]=true then (match u with
     | n::_=>if n.kd=2 then .ok (⟨t.tx,n.nm,t.col⟩,3) else .error 2
     | []=>.error 2)
     else if oz s [45]=true then (match u with
      | n::_=>if n.kd=2 then .ok (⟨t.tx, -n.nm,t.col⟩,3) else .error 2
      | []=>.error 2)
     else .ok (⟨t.tx,0,t.col⟩,1)) else .error 0):=rfl
theorem YI (seen:List (List UInt8)) (t:Tok) (r:List Tok):pairT seen (t::r)=(if t.kd=1∧t.tx∉seen then (match r with
   | []=>.error 1
   | e::u=>if oz e [61]=true then (match DR u with
     | .error o=>.error (2+o)
     | .ok (v,n)=>.ok (⟨t.tx,t.col,v⟩,2+n)) else .error 1)
  else .error 0):=rfl
theorem Yr {l:List Tok} (hl:zi l):match DR l with
  | .ok (_,n)=>zi (l.drop n)∧0<n
  | .error o=>o<l.length:=by
 obtain ⟨t,r,rfl⟩:=hl.ne
 rw [Uo]
 by_cases h2:t.kd=2
 ·rw [if_pos h2]
  exact ⟨hl.tail (by omega),by omega⟩
 ·rw [if_neg h2]
  by_cases h1:t.kd=1
  ·rw [if_pos h1]
   have hr:=hl.tail (by omega)
   obtain ⟨s,u,rfl⟩:=hr.ne
   simp only
   by_cases hp:oz s [43]=true
   ·rw [if_pos hp]
    have hu:=hr.tail (by have:=EY hp;omega)
    obtain ⟨n,w,rfl⟩:=hu.ne
    simp only
    by_cases hn:n.kd=2
    ·rw [if_pos hn];exact ⟨hu.tail (by omega),by omega⟩
    ·rw [if_neg hn];simp
   ·rw [if_neg hp]
    by_cases hm:oz s [45]=true
    ·rw [if_pos hm]
     have hu:=hr.tail (by have:=EY hm;omega)
     obtain ⟨n,w,rfl⟩:=hu.ne
     simp only
     by_cases hn:n.kd=2
     ·rw [if_pos hn];exact ⟨hu.tail (by omega),by omega⟩
     ·rw [if_neg hn];simp
    ·rw [if_neg hm];exact ⟨hr,by omega⟩
  ·rw [if_neg h1];simp
theorem Yq {seen:List (List UInt8)} {l:List Tok} (hl:zi l):match pairT seen l with
  | .ok (_,n)=>zi (l.drop n)∧0<n
  | .error o=>o<l.length:=by
 obtain ⟨t,r,rfl⟩:=hl.ne
 rw [YI]
 by_cases h1:t.kd=1∧t.tx∉seen
 ·rw [if_pos h1]
  have hr:=hl.tail (by omega)
  obtain ⟨e,u,rfl⟩:=hr.ne
  simp only
  by_cases he:oz e [61]=true
  ·rw [if_pos he]
   have hu:=hr.tail (by have:=EY he;omega)
   have h:=Yr hu
   cases hx:DR u with
   | error o=>rw [hx] at h;simp only at h ⊢;simp;omega
   | ok y=>
     obtain ⟨v,n⟩:=y
     rw [hx] at h
     simp only at h ⊢
     rw [Nat.add_comm 2 n]
     exact ⟨h.1,by omega⟩
  ·rw [if_neg he];simp
 ·rw [if_neg h1];simp
theorem zvw (k:Nat) (l:List Tok) (hl:zi l) (o:Nat) (h:BP k l=.error o):o<l.length:=by
 induction k generalizing l o with
 | zero=>cases h
 | succ k ih=>
   obtain ⟨t,r,rfl⟩:=hl.ne
   unfold BP at h
   split at h
   ·cases h
   ·have hx:=Yr hl
    cases hy:DR (t::r) with
    | error o'=>rw [hy] at h hx;cases h;exact hx
    | ok y=>
      obtain ⟨v,n⟩:=y
      rw [hy] at h hx
      simp only at h hx
      cases hz:BP k ((t::r).drop n) with
      | ok vs=>rw [hz] at h;cases h
      | error o'=>
        rw [hz] at h
        have:=ih _ hx.1 o' hz
        rw [List.length_drop] at this
        have h':n+o'=o:=by injection h
        omega
theorem zue (k:Nat) (seen:List (List UInt8)) (l:List Tok) (hl:zi l) (o:Nat) (h:xJ k seen l=.error o):o<l.length:=by
 induction k generalizing seen l o with
 | zero=>cases h
 | succ k ih=>
   obtain ⟨t,r,rfl⟩:=hl.ne
   unfold xJ at h
   split at h
   ·cases h
   ·have hx:=Yq (seen:=seen) hl
    cases hy:pairT seen (t::r) with
    | error o'=>rw [hy] at h hx;cases h;exact hx
    | ok y=>
      obtain ⟨v,n⟩:=y
      rw [hy] at h hx
      simp only at h hx
      cases hz:xJ k (seen++[v.fd]) ((t::r).drop n) with
      | ok vs=>rw [hz] at h;cases h
      | error o'=>
        rw [hz] at h
        have:=ih _ _ hx.1 o' hz
        rw [List.length_drop] at this
        have h':n+o'=o:=by injection h
        omega
theorem OA (lab:List UInt8) (t:Tok) (r:List Tok):Bl lab (t::r)=if oz t [46]=true then (match r with
   | []=>.error 1
   | d::u=>if d.kd=1 then (match BP u.length u with
     | .error o=>.error (2+o)
     | .ok vs=>.ok ⟨0,lab,d.tx,vs,[]⟩) else .error 1)
  else match xJ (t::r).length [] (t::r) with
   | .error o=>.error o
   | .ok ps=>.ok ⟨0,lab,[],[],ps⟩:=rfl
theorem Ov (t s:Tok) (r:List Tok):oG (t::s::r)=if t.kd=1∧oz s [58]=true then (match Bl t.tx r with
   | .error o=>.error (2+o)
   | .ok x=>.ok x) else Bl [] (t::s::r):=rfl
theorem zm8 (lab:List UInt8) (l:List Tok) (hl:zi l) (o:Nat) (h:Bl lab l=.error o):o<l.length:=by
 obtain ⟨t,r,rfl⟩:=hl.ne
 rw [OA] at h
 by_cases hs:oz t [46]=true
 ·rw [if_pos hs] at h
  have hr:=hl.tail (by have:=EY hs;omega)
  obtain ⟨d,u,rfl⟩:=hr.ne
  simp only at h
  by_cases hd:d.kd=1
  ·rw [if_pos hd] at h
   have hu:=hr.tail (by omega)
   cases hx:BP u.length u with
   | ok vs=>rw [hx] at h;cases h
   | error o'=>
     rw [hx] at h
     have:=zvw _ _ hu o' hx
     have h':2+o'=o:=by injection h
     simp;omega
  ·rw [if_neg hd] at h;cases h;simp
 ·rw [if_neg hs] at h
  cases hx:xJ (t::r).length [] (t::r) with
  | ok vs=>rw [hx] at h;cases h
  | error o'=>
    rw [hx] at h
    have:=zue _ _ _ hl o' hx
    have h':o'=o:=by injection h
    omega
theorem zqF (l:List Tok) (hl:zi l) (o:Nat) (h:oG l=.error o):o<l.length:=by
 obtain ⟨t,r,rfl⟩:=hl.ne
 cases r with
 | nil=>exact zm8 [] _ hl o h
 | cons s r=>
   rw [Ov] at h
   split at h
   ·rename_i hc
    have hr:zi r:=(hl.tail (by omega)).tail (by have:=EY hc.2;omega)
    cases hx:Bl t.tx r with
    | ok x=>rw [hx] at h;cases h
    | error o'=>
      rw [hx] at h
      have:=zm8 _ _ hr o' hx
      have h':2+o'=o:=by injection h
      simp;omega
   ·exact zm8 [] _ hl o h
end Go.Proofs.YtifploedaacedaaGreatDoorE
namespace Go.Proofs.YtifploedaacedaaGreatDoorE
set_option maxRecDepth 20000
open Go Go.E Go.Proofs
noncomputable def ziB (cf:fQ) (lf:eX) (p':Value) (st:SS):Option (Value×SS):=
 let a:SS:=(st.ro st.next).new (.cells [.int .i64 0,.string ⟨#[]⟩,.int .i64 0,.int .i64 0,.int .i64 0] 0)
 (fG p').bind fun b=>
 (aj b).bind fun c=>
 (a.ld c.1 c.2).bind fun d=>
 (fG p').bind fun e=>
 (aj e).bind fun f=>
 ((a.ld f.1 (f.2+1)).bind (ay .i64)).bind fun g=>
 (fK d g 5).bind fun h=>
 (a.eF h.1 h.2 5).bind fun i=>
 (a.eH ((st.ro st.next).next) 0 5 i).bind fun j=>
 (j.fH ((st.ro st.next).next) 0 5).bind fun k=>
 cond (flat3 k) (some (k,st.dw j.next)) none
noncomputable abbrev zl1:eX:=lS Tryz.prog Lk0 Tryz.f69 lQ
theorem zl2:Lk0.func 69=some (69,Tryz.f69):=by kernel_rfl
theorem zl3 [Sym] (p':Value) (st:SS) {r:Value×SS} (h:ziB cc zl1 p' st=some r):cc 69 [p'] st=some r:=
 mF (li:=lQ) gu gy zl2 rfl (fun _=>rfl) (.trans (by kernel_rfl) h)
noncomputable def zfD (cf:fQ) (lf:eX) (p':Value) (st:SS):Option (Value×SS):=
 let a:SS:=(st.ro st.next).new (.cells [.int .i64 0,.string ⟨#[]⟩,.int .i64 0,.int .i64 0,.int .i64 0] 0)
 (cf 69 [p'] a).bind fun b=>
 ((BO Lk0 150 0 b.1).bind (ay .i64)).bind fun c=>
 cond (decide (c=0)) (
 (cf 69 [p'] b.2).bind fun d=>
 (d.2.eH ((st.ro st.next).next) 0 5 d.1).bind fun e=>
 (e.fH ((st.ro st.next).next) 0 5).bind fun f=>
 cond (flat3 f) (some (f,st.dw e.next)) none) (
 (fG p').bind fun g=>
 (aj g).bind fun h=>
 (b.2.ld h.1 h.2).bind fun i=>
 (fG p').bind fun j=>
 (aj j).bind fun k=>
 ((b.2.ld k.1 (k.2+1)).bind (ay .i64)).bind fun l=>
 let m:Int:=IntKind.wrap .i64 (l+1)
 (fK i m 5).bind fun n=>
 (b.2.eF n.1 n.2 5).bind fun o=>
 (b.2.eH ((st.ro st.next).next) 0 5 o).bind fun p=>
 (p.fH ((st.ro st.next).next) 0 5).bind fun q=>
 cond (flat3 q) (some (q,st.dw p.next)) none)
noncomputable abbrev zkW:eX:=lS Tryz.prog Lk0 Tryz.f91 lQ
theorem zkX:Lk0.func 91=some (91,Tryz.f91):=by kernel_rfl
theorem zgZ [Sym] (p':Value) (st:SS) {r:Value×SS} (h:zfD cc zkW p' st=some r):cc 91 [p'] st=some r:=
 mF (li:=lQ) gu gy zkX rfl (fun _=>rfl) (.trans (by kernel_rfl) h)
noncomputable def Y2 (cf:fQ) (lf:eX) (p':Value) (E5:ByteArray) (st:SS):Option (Value×SS):=
 (cf 69 [p'] st).bind fun a=>
 let b:SS:=a.2.new (.cells [.int .i64 0,.string ⟨#[]⟩,.int .i64 0,.int .i64 0,.int .i64 0] 0)
 (b.eH a.2.next 0 5 a.1).bind fun c=>
 ((c.ld a.2.next 0).bind (ay .i64)).bind fun d=>
 cond (!(decide (d=3))) (
 some (.bool false,c)) (
 ((c.ld a.2.next 1).bind asS).bind fun e=>
 cond (!(fA e E5)) (
 some (.bool false,c)) (
 (fG p').bind fun f=>
 (aj f).bind fun g=>
 ((c.ld g.1 (g.2+1)).bind (ay .i64)).bind fun h=>
 let i:Int:=IntKind.wrap .i64 (h+1)
 (fG p').bind fun j=>
 (aj j).bind fun k=>
 (c.st k.1 (k.2+1) [.int .i64 i]).bind fun l=>
 some (.bool true,l)))
noncomputable abbrev zkl:eX:=lS Tryz.prog Lk0 Tryz.f92 lQ
theorem zkm:Lk0.func 92=some (92,Tryz.f92):=by kernel_rfl
theorem zej [Sym] (p':Value) (E5:ByteArray) (st:SS) {r:Value×SS} (h:Y2 cc zkl p' E5 st=some r):cc 92 [p',.string E5] st=some r:=
 mF (li:=lQ) gu gy zkm rfl (fun _=>rfl) (.trans (by kernel_rfl) h)
noncomputable def zfE (cf:fQ) (lf:eX) (p':Value) (st:SS):Option (Value×SS):=
 (cf 69 [p'] st).bind fun a=>
 let b:SS:=a.2.new (.cells [.int .i64 0,.string ⟨#[]⟩,.int .i64 0,.int .i64 0,.int .i64 0] 0)
 (b.eH a.2.next 0 5 a.1).bind fun c=>
 ((c.ld a.2.next 0).bind (ay .i64)).bind fun d=>
 cond (!(decide (d=1))) (
 some (.tuple #[.string ⟨#[]⟩,.bool false],c)) (
 (fG p').bind fun e=>
 (aj e).bind fun f=>
 ((c.ld f.1 (f.2+1)).bind (ay .i64)).bind fun g=>
 let h:Int:=IntKind.wrap .i64 (g+1)
 (fG p').bind fun i=>
 (aj i).bind fun j=>
 (c.st j.1 (j.2+1) [.int .i64 h]).bind fun k=>
 ((k.ld a.2.next 1).bind asS).bind fun l=>
 some (.tuple #[.string l,.bool true],k))
noncomputable abbrev zkY:eX:=lS Tryz.prog Lk0 Tryz.f93 lQ
theorem zkZ:Lk0.func 93=some (93,Tryz.f93):=by kernel_rfl
theorem zg0 [Sym] (p':Value) (st:SS) {r:Value×SS} (h:zfE cc zkY p' st=some r):cc 93 [p'] st=some r:=
 mF (li:=lQ) gu gy zkZ rfl (fun _=>rfl) (.trans (by kernel_rfl) h)
noncomputable def zeY (cf:fQ) (lf:eX) (p':Value) (st:SS):Option (Value×SS):=
 (cf 69 [p'] st).bind fun a=>
 let b:SS:=a.2.new (.cells [.int .i64 0,.string ⟨#[]⟩,.int .i64 0,.int .i64 0,.int .i64 0] 0)
 (b.eH a.2.next 0 5 a.1).bind fun c=>
 ((c.ld a.2.next 0).bind (ay .i64)).bind fun d=>
 cond (!(decide (d=2))) (
 some (.tuple #[.int .i64 0,.bool false],c)) (
 (fG p').bind fun e=>
 (aj e).bind fun f=>
 ((c.ld f.1 (f.2+1)).bind (ay .i64)).bind fun g=>
 let h:Int:=IntKind.wrap .i64 (g+1)
 (fG p').bind fun i=>
 (aj i).bind fun j=>
 (c.st j.1 (j.2+1) [.int .i64 h]).bind fun k=>
 ((k.ld a.2.next 2).bind (ay .i64)).bind fun l=>
 some (.tuple #[.int .i64 l,.bool true],k))
noncomputable abbrev zjH:eX:=lS Tryz.prog Lk0 Tryz.f111 lQ
theorem zjI:Lk0.func 111=some (111,Tryz.f111):=by kernel_rfl
theorem zfU [Sym] (p':Value) (st:SS) {r:Value×SS} (h:zeY cc zjH p' st=some r):cc 111 [p'] st=some r:=
 mF (li:=lQ) gu gy zjI rfl (fun _=>rfl) (.trans (by kernel_rfl) h)
noncomputable def MN (cf:fQ) (lf:eX) (p':Value) (st:SS):Option (Value×SS):=
 let a:SS:=st.new (.cells [.string ⟨#[]⟩,.int .i64 0,.int .i64 0] 0)
 (cf 69 [p'] a).bind fun b=>
 ((BO Lk0 150 4 b.1).bind (ay .i64)).bind fun c=>
 let d:SS:=b.2.new (.cells [.string ⟨#[]⟩,.int .i64 0,.int .i64 0] 0)
 (d.st b.2.next 0 [.string ⟨#[]⟩,.int .i64 0,.int .i64 c]).bind fun e=>
 (cf 111 [p'] e).bind fun f=>
 ((fM f.1 0).bind (ay .i64)).bind fun g=>
 ((fM f.1 1).bind lF).bind fun h=>
 (f.2.st b.2.next 1 [.int .i64 g]).bind fun i=>
 cond h (
 (i.eF b.2.next 0 3).bind fun j=>
 (i.eH st.next 0 3 j).bind fun k=>
 (k.fH st.next 0 3).bind fun l=>
 some (.tuple #[l,.bool true],k)) (
 (cf 93 [p'] i).bind fun m=>
 ((fM m.1 0).bind asS).bind fun n=>
 ((fM m.1 1).bind lF).bind fun o=>
 (m.2.st b.2.next 0 [.string n]).bind fun p=>
 cond (!o) (
 (p.eF b.2.next 0 3).bind fun q=>
 (p.eH st.next 0 3 q).bind fun r=>
 (r.fH st.next 0 3).bind fun s=>
 some (.tuple #[s,.bool false],r)) (
 (cf 92 [p',.string ⟨#[43]⟩] p).bind fun t=>
 ((some t.1).bind lF).bind fun u=>
 cond u (
 (cf 111 [p'] t.2).bind fun v=>
 ((fM v.1 0).bind (ay .i64)).bind fun w=>
 ((fM v.1 1).bind lF).bind fun x=>
 (v.2.st b.2.next 1 [.int .i64 w]).bind fun y=>
 (y.eF b.2.next 0 3).bind fun z=>
 (y.eH st.next 0 3 z).bind fun A=>
 (A.fH st.next 0 3).bind fun B=>
 some (.tuple #[B,.bool x],A)) (
 (cf 92 [p',.string ⟨#[45]⟩] t.2).bind fun C=>
 ((some C.1).bind lF).bind fun D=>
 cond D (
 (cf 111 [p'] C.2).bind fun E=>
 ((fM E.1 0).bind (ay .i64)).bind fun F=>
 ((fM E.1 1).bind lF).bind fun G=>
 (E.2.st b.2.next 1 [.int .i64 F]).bind fun H=>
 ((H.ld b.2.next 1).bind (ay .i64)).bind fun I=>
 let J:Int:=IntKind.wrap .i64 (0-I)
 (H.st b.2.next 1 [.int .i64 J]).bind fun K=>
 (K.eF b.2.next 0 3).bind fun L=>
 (K.eH st.next 0 3 L).bind fun M=>
 (M.fH st.next 0 3).bind fun N=>
 some (.tuple #[N,.bool G],M)) (
 (C.2.eF b.2.next 0 3).bind fun O=>
 (C.2.eH st.next 0 3 O).bind fun P=>
 (P.fH st.next 0 3).bind fun Q=>
 some (.tuple #[Q,.bool o],P)))))
noncomputable abbrev zkn:eX:=lS Tryz.prog Lk0 Tryz.f94 lQ
theorem zko:Lk0.func 94=some (94,Tryz.f94):=by kernel_rfl
theorem OG [Sym] (p':Value) (st:SS) {r:Value×SS} (h:MN cc zkn p' st=some r):cc 94 [p'] st=some r:=
 mF (li:=lQ) gu gy zko rfl (fun _=>rfl) (.trans (by kernel_rfl) h)
noncomputable def Si (cf:fQ) (lf:eX) (p':Value) (l':Value) (st:SS):Option (Value×SS):=
 (cf 69 [p'] st).bind fun a=>
 ((BO Lk0 150 4 a.1).bind (ay .i64)).bind fun b=>
 let c:SS:=a.2.new (.cells [.string ⟨#[]⟩,.int .i64 0,.string ⟨#[]⟩,.int .i64 0,.int .i64 0] 0)
 (c.st a.2.next 0 [.string ⟨#[]⟩,.int .i64 b,.string ⟨#[]⟩,.int .i64 0,.int .i64 0]).bind fun d=>
 (cf 69 [p'] d).bind fun e=>
 ((BO Lk0 150 1 e.1).bind asS).bind fun f=>
 let g:SS:=e.2.new (.cells [.string ⟨#[]⟩] 0)
 (g.st e.2.next 0 [.string f]).bind fun h=>
 (cf 69 [p'] h).bind fun i=>
 ((BO Lk0 150 0 i.1).bind (ay .i64)).bind fun j=>
 cond (!(decide (j=1))) (
 some (.bool false,i.2)) (
 (fG l').bind fun k=>
 (aj k).bind fun l=>
 (i.2.ld l.1 (l.2+4)).bind fun m=>
 (cf 112 [m,.func (.func 113) #[] #[ptr e.2.next 0]] i.2).bind fun n=>
 ((some n.1).bind lF).bind fun o=>
 cond o (
 some (.bool false,n.2)) (
 ((n.2.ld e.2.next 0).bind asS).bind fun p=>
 (n.2.st a.2.next 0 [.string p]).bind fun q=>
 (fG p').bind fun r=>
 (aj r).bind fun s=>
 ((q.ld s.1 (s.2+1)).bind (ay .i64)).bind fun t=>
 let u:Int:=IntKind.wrap .i64 (t+1)
 (fG p').bind fun v=>
 (aj v).bind fun w=>
 (q.st w.1 (w.2+1) [.int .i64 u]).bind fun x=>
 (cf 92 [p',.string ⟨#[61]⟩] x).bind fun y=>
 ((some y.1).bind lF).bind fun z=>
 cond (!z) (
 some (.bool false,y.2)) (
 (cf 94 [p'] y.2).bind fun A=>
 (fM A.1 0).bind fun B=>
 ((fM A.1 1).bind lF).bind fun C=>
 (A.2.eH a.2.next 2 3 B).bind fun D=>
 cond (!C) (
 some (.bool false,D)) (
 (fG l').bind fun E=>
 (aj E).bind fun F=>
 (D.ld F.1 (F.2+4)).bind fun G=>
 (D.eF a.2.next 0 5).bind fun H=>
 (nX H 5).bind fun I=>
 let J:SS:=D.new (.cells (I++([])) 5)
 (J.app 5 56 G (.slice (some ⟨D.next,0,none⟩) 1 1)).bind fun K=>
 (fG l').bind fun L=>
 (aj L).bind fun M=>
 (K.2.eH M.1 (M.2+4) 1 K.1).bind fun N=>
 some (.bool true,N)))))
noncomputable abbrev zk0:eX:=lS Tryz.prog Lk0 Tryz.f95 lQ
theorem zk1:Lk0.func 95=some (95,Tryz.f95):=by kernel_rfl
theorem UF [Sym] (p':Value) (l':Value) (st:SS) {r:Value×SS} (h:Si cc zk0 p' l' st=some r):cc 95 [p',l'] st=some r:=
 mF (li:=lQ) gu gy zk1 rfl (fun _=>rfl) (.trans (by kernel_rfl) h)
def zfV:eu:=⟨[(0,.any),(2,.any),(4,.any)],[(.exit 2,[(2,.any),(4,.any)]),(.ret,[(2,.any),(3,.bool)])]⟩
def zfW:eu:=⟨[(0,.any),(2,.any),(4,.any)],[(.exit 0,[(2,.any),(4,.any)]),(.ret,[(2,.any),(3,.bool)])]⟩
def zg1 (n:Nat):Option eu:=cond (Nat.beq n 11) (some zfW) (cond (Nat.beq n 17) (some zfV) (none))
noncomputable def UU (cf:fQ) (lf:eX) (p':Value) (st:SS):Option (Value×SS):=
 let a:SS:=st.new (.cells [.int .i64 0,.string ⟨#[]⟩,.string ⟨#[]⟩,.slice none 0 0,.slice none 0 0] 0)
 (cf 69 [p'] a).bind fun b=>
 ((BO Lk0 150 3 b.1).bind (ay .i64)).bind fun c=>
 let d:SS:=b.2.new (.cells [.int .i64 0,.string ⟨#[]⟩,.string ⟨#[]⟩,.slice none 0 0,.slice none 0 0] 0)
 (d.st b.2.next 0 [.int .i64 c,.string ⟨#[]⟩,.string ⟨#[]⟩,.slice none 0 0,.slice none 0 0]).bind fun e=>
 (cf 91 [p'] e).bind fun f=>
 let g:SS:=f.2.new (.cells [.int .i64 0,.string ⟨#[]⟩,.int .i64 0,.int .i64 0,.int .i64 0] 0)
 (g.eH f.2.next 0 5 f.1).bind fun h=>
 (cf 69 [p'] h).bind fun i=>
 ((BO Lk0 150 0 i.1).bind (ay .i64)).bind fun j=>
 cond (decide (j=1)) (
 ((i.2.ld f.2.next 0).bind (ay .i64)).bind fun k=>
 cond (decide (k=3)) (
 ((i.2.ld f.2.next 1).bind asS).bind fun l=>
 cond (fA l ⟨#[58]⟩) (
 (cf 69 [p'] i.2).bind fun m=>
 ((BO Lk0 150 1 m.1).bind asS).bind fun n=>
 (m.2.st b.2.next 1 [.string n]).bind fun o=>
 (fG p').bind fun p=>
 (aj p).bind fun q=>
 ((o.ld q.1 (q.2+1)).bind (ay .i64)).bind fun r=>
 let s:Int:=IntKind.wrap .i64 (r+2)
 (fG p').bind fun t=>
 (aj t).bind fun u=>
 (o.st u.1 (u.2+1) [.int .i64 s]).bind fun v=>
 (cf 92 [p',.string ⟨#[46]⟩] v).bind fun w=>
 ((some w.1).bind lF).bind fun x=>
 cond x (
 (cf 93 [p'] w.2).bind fun y=>
 ((fM y.1 0).bind asS).bind fun z=>
 ((fM y.1 1).bind lF).bind fun A=>
 (y.2.st b.2.next 2 [.string z]).bind fun B=>
 cond (!A) (
 (B.eF b.2.next 0 5).bind fun C=>
 (B.eH st.next 0 5 C).bind fun D=>
 (D.fH st.next 0 5).bind fun E=>
 some (.tuple #[E,.bool false],D)) (
 (lf 11 [p',ptr st.next 0,ptr b.2.next 0] B).bind fun F=>
 cond (Nat.beq F.1 0) (
 (F.2.1[0]?).bind fun G=>
 (F.2.1[1]?).bind fun H=>
 (aj H).bind fun I=>
 (F.2.2.eF I.1 I.2 5).bind fun J=>
 (aj G).bind fun K=>
 (F.2.2.eH K.1 K.2 5 J).bind fun L=>
 (aj G).bind fun M=>
 (L.fH M.1 M.2 5).bind fun N=>
 some (.tuple #[N,.bool true],L)) (
 (F.2.1[0]?).bind fun O=>
 ((F.2.1[1]?).bind lF).bind fun P=>
 (aj O).bind fun Q=>
 (F.2.2.fH Q.1 Q.2 5).bind fun R=>
 some (.tuple #[R,.bool P],F.2.2)))) (
 (lf 17 [p',ptr st.next 0,ptr b.2.next 0] w.2).bind fun S=>
 cond (Nat.beq S.1 0) (
 (S.2.1[0]?).bind fun T=>
 (S.2.1[1]?).bind fun U=>
 (aj U).bind fun V=>
 (S.2.2.eF V.1 V.2 5).bind fun W=>
 (aj T).bind fun X=>
 (S.2.2.eH X.1 X.2 5 W).bind fun Y=>
 (aj T).bind fun Z=>
 (Y.fH Z.1 Z.2 5).bind fun aA=>
 some (.tuple #[aA,.bool true],Y)) (
 (S.2.1[0]?).bind fun aB=>
 ((S.2.1[1]?).bind lF).bind fun aC=>
 (aj aB).bind fun aD=>
 (S.2.2.fH aD.1 aD.2 5).bind fun aE=>
 some (.tuple #[aE,.bool aC],S.2.2)))) (
 (cf 92 [p',.string ⟨#[46]⟩] i.2).bind fun aF=>
 ((some aF.1).bind lF).bind fun aG=>
 cond aG (
 (cf 93 [p'] aF.2).bind fun aH=>
 ((fM aH.1 0).bind asS).bind fun aI=>
 ((fM aH.1 1).bind lF).bind fun aJ=>
 (aH.2.st b.2.next 2 [.string aI]).bind fun aK=>
 cond (!aJ) (
 (aK.eF b.2.next 0 5).bind fun aL=>
 (aK.eH st.next 0 5 aL).bind fun aM=>
 (aM.fH st.next 0 5).bind fun aN=>
 some (.tuple #[aN,.bool false],aM)) (
 (lf 11 [p',ptr st.next 0,ptr b.2.next 0] aK).bind fun aO=>
 cond (Nat.beq aO.1 0) (
 (aO.2.1[0]?).bind fun aP=>
 (aO.2.1[1]?).bind fun aQ=>
 (aj aQ).bind fun aR=>
 (aO.2.2.eF aR.1 aR.2 5).bind fun aS=>
 (aj aP).bind fun aT=>
 (aO.2.2.eH aT.1 aT.2 5 aS).bind fun aU=>
 (aj aP).bind fun aV=>
 (aU.fH aV.1 aV.2 5).bind fun aW=>
 some (.tuple #[aW,.bool true],aU)) (
 (aO.2.1[0]?).bind fun aX=>
 ((aO.2.1[1]?).bind lF).bind fun aY=>
 (aj aX).bind fun aZ=>
 (aO.2.2.fH aZ.1 aZ.2 5).bind fun bA=>
 some (.tuple #[bA,.bool aY],aO.2.2)))) (
 (lf 17 [p',ptr st.next 0,ptr b.2.next 0] aF.2).bind fun bB=>
 cond (Nat.beq bB.1 0) (
 (bB.2.1[0]?).bind fun bC=>
 (bB.2.1[1]?).bind fun bD=>
 (aj bD).bind fun bE=>
 (bB.2.2.eF bE.1 bE.2 5).bind fun bF=>
 (aj bC).bind fun bG=>
 (bB.2.2.eH bG.1 bG.2 5 bF).bind fun bH=>
 (aj bC).bind fun bI=>
 (bH.fH bI.1 bI.2 5).bind fun bJ=>
 some (.tuple #[bJ,.bool true],bH)) (
 (bB.2.1[0]?).bind fun bK=>
 ((bB.2.1[1]?).bind lF).bind fun bL=>
 (aj bK).bind fun bM=>
 (bB.2.2.fH bM.1 bM.2 5).bind fun bN=>
 some (.tuple #[bN,.bool bL],bB.2.2))))) (
 (cf 92 [p',.string ⟨#[46]⟩] i.2).bind fun bO=>
 ((some bO.1).bind lF).bind fun bP=>
 cond bP (
 (cf 93 [p'] bO.2).bind fun bQ=>
 ((fM bQ.1 0).bind asS).bind fun bR=>
 ((fM bQ.1 1).bind lF).bind fun bS=>
 (bQ.2.st b.2.next 2 [.string bR]).bind fun bT=>
 cond (!bS) (
 (bT.eF b.2.next 0 5).bind fun bU=>
 (bT.eH st.next 0 5 bU).bind fun bV=>
 (bV.fH st.next 0 5).bind fun bW=>
 some (.tuple #[bW,.bool false],bV)) (
 (lf 11 [p',ptr st.next 0,ptr b.2.next 0] bT).bind fun bX=>
 cond (Nat.beq bX.1 0) (
 (bX.2.1[0]?).bind fun bY=>
 (bX.2.1[1]?).bind fun bZ=>
 (aj bZ).bind fun cA=>
 (bX.2.2.eF cA.1 cA.2 5).bind fun cB=>
 (aj bY).bind fun cC=>
 (bX.2.2.eH cC.1 cC.2 5 cB).bind fun cD=>
 (aj bY).bind fun cE=>
 (cD.fH cE.1 cE.2 5).bind fun cF=>
 some (.tuple #[cF,.bool true],cD)) (
 (bX.2.1[0]?).bind fun cG=>
 ((bX.2.1[1]?).bind lF).bind fun cH=>
 (aj cG).bind fun cI=>
 (bX.2.2.fH cI.1 cI.2 5).bind fun cJ=>
 some (.tuple #[cJ,.bool cH],bX.2.2)))) (
 (lf 17 [p',ptr st.next 0,ptr b.2.next 0] bO.2).bind fun cK=>
 cond (Nat.beq cK.1 0) (
 (cK.2.1[0]?).bind fun cL=>
 (cK.2.1[1]?).bind fun cM=>
 (aj cM).bind fun cN=>
 (cK.2.2.eF cN.1 cN.2 5).bind fun cO=>
 (aj cL).bind fun cP=>
 (cK.2.2.eH cP.1 cP.2 5 cO).bind fun cQ=>
 (aj cL).bind fun cR=>
 (cQ.fH cR.1 cR.2 5).bind fun cS=>
 some (.tuple #[cS,.bool true],cQ)) (
 (cK.2.1[0]?).bind fun cT=>
 ((cK.2.1[1]?).bind lF).bind fun cU=>
 (aj cT).bind fun cV=>
 (cK.2.2.fH cV.1 cV.2 5).bind fun cW=>
 some (.tuple #[cW,.bool cU],cK.2.2))))) (
 (cf 92 [p',.string ⟨#[46]⟩] i.2).bind fun cX=>
 ((some cX.1).bind lF).bind fun cY=>
 cond cY (
 (cf 93 [p'] cX.2).bind fun cZ=>
 ((fM cZ.1 0).bind asS).bind fun dA=>
 ((fM cZ.1 1).bind lF).bind fun dB=>
 (cZ.2.st b.2.next 2 [.string dA]).bind fun dC=>
 cond (!dB) (
 (dC.eF b.2.next 0 5).bind fun dD=>
 (dC.eH st.next 0 5 dD).bind fun dE=>
 (dE.fH st.next 0 5).bind fun dF=>
 some (.tuple #[dF,.bool false],dE)) (
 (lf 11 [p',ptr st.next 0,ptr b.2.next 0] dC).bind fun dG=>
 cond (Nat.beq dG.1 0) (
 (dG.2.1[0]?).bind fun dH=>
 (dG.2.1[1]?).bind fun dI=>
 (aj dI).bind fun dJ=>
 (dG.2.2.eF dJ.1 dJ.2 5).bind fun dK=>
 (aj dH).bind fun dL=>
 (dG.2.2.eH dL.1 dL.2 5 dK).bind fun dM=>
 (aj dH).bind fun dN=>
 (dM.fH dN.1 dN.2 5).bind fun dO=>
 some (.tuple #[dO,.bool true],dM)) (
 (dG.2.1[0]?).bind fun dP=>
 ((dG.2.1[1]?).bind lF).bind fun dQ=>
 (aj dP).bind fun dR=>
 (dG.2.2.fH dR.1 dR.2 5).bind fun dS=>
 some (.tuple #[dS,.bool dQ],dG.2.2)))) (
 (lf 17 [p',ptr st.next 0,ptr b.2.next 0] cX.2).bind fun dT=>
 cond (Nat.beq dT.1 0) (
 (dT.2.1[0]?).bind fun dU=>
 (dT.2.1[1]?).bind fun dV=>
 (aj dV).bind fun dW=>
 (dT.2.2.eF dW.1 dW.2 5).bind fun dX=>
 (aj dU).bind fun dY=>
 (dT.2.2.eH dY.1 dY.2 5 dX).bind fun dZ=>
 (aj dU).bind fun gA=>
 (dZ.fH gA.1 gA.2 5).bind fun gB=>
 some (.tuple #[gB,.bool true],dZ)) (
 (dT.2.1[0]?).bind fun gC=>
 ((dT.2.1[1]?).bind lF).bind fun gD=>
 (aj gC).bind fun gE=>
 (dT.2.2.fH gE.1 gE.2 5).bind fun gF=>
 some (.tuple #[gF,.bool gD],dT.2.2))))
noncomputable abbrev EZ:eX:=lS Tryz.prog Lk0 Tryz.f68 zg1
theorem zk2:Lk0.func 68=some (68,Tryz.f68):=by kernel_rfl
theorem zg2 [Sym] (p':Value) (st:SS) {r:Value×SS} (h:UU cc EZ p' st=some r):cc 68 [p'] st=some r:=
 mF (li:=zg1) gu gy zk2 rfl (fun _=>rfl) (.trans (by kernel_rfl) h)
noncomputable def Zl (cf:fQ) (lf:eX) (p':Value) (t2':Value) (l':Value) (st:SS):Option (Nat×List Value×SS):=
 (cf 69 [p'] st).bind fun a=>
 ((BO Lk0 150 0 a.1).bind (ay .i64)).bind fun b=>
 cond (!(decide (b=0))) (
 (cf 94 [p'] a.2).bind fun c=>
 (fM c.1 0).bind fun d=>
 ((fM c.1 1).bind lF).bind fun e=>
 let f:SS:=c.2.new (.cells [.string ⟨#[]⟩,.int .i64 0,.int .i64 0] 0)
 (f.eH c.2.next 0 3 d).bind fun g=>
 cond (!e) (
 (aj l').bind fun h=>
 (g.eF h.1 h.2 5).bind fun i=>
 (aj t2').bind fun j=>
 (g.eH j.1 j.2 5 i).bind fun k=>
 some (1,[t2',.bool false],k)) (
 (aj l').bind fun l=>
 (g.ld l.1 (l.2+3)).bind fun m=>
 (g.eF c.2.next 0 3).bind fun n=>
 (nX n 3).bind fun o=>
 let p:SS:=g.new (.cells (o++([])) 3)
 (p.app 3 32 m (.slice (some ⟨g.next,0,none⟩) 1 1)).bind fun q=>
 (aj l').bind fun r=>
 (q.2.eH r.1 (r.2+3) 1 q.1).bind fun s=>
 lf 11 [p',t2',l'] s)) (
 some (0,[t2',l'],a.2))
theorem zdw [Sym] (p':Value) (t2':Value) (l':Value) (st:SS) {r:Nat×List Value×SS} (h:Zl cc EZ p' t2' l' st=some r):EZ 11 [p',t2',l'] st=some r:=
 oM gu gy (key:=11) (I:=zfW) rfl (by kernel_rfl) (by kernel_rfl) rfl rfl (.trans (by kernel_rfl) h)
noncomputable def Zk (cf:fQ) (lf:eX) (p':Value) (t2':Value) (l':Value) (st:SS):Option (Nat×List Value×SS):=
 (cf 69 [p'] st).bind fun a=>
 ((BO Lk0 150 0 a.1).bind (ay .i64)).bind fun b=>
 cond (!(decide (b=0))) (
 (cf 95 [p',l'] a.2).bind fun c=>
 ((some c.1).bind lF).bind fun d=>
 cond (!d) (
 (aj l').bind fun e=>
 (c.2.eF e.1 e.2 5).bind fun f=>
 (aj t2').bind fun g=>
 (c.2.eH g.1 g.2 5 f).bind fun h=>
 some (1,[t2',.bool false],h)) (
 lf 17 [p',t2',l'] c.2)) (
 some (0,[t2',l'],a.2))
theorem zdx [Sym] (p':Value) (t2':Value) (l':Value) (st:SS) {r:Nat×List Value×SS} (h:Zk cc EZ p' t2' l' st=some r):EZ 17 [p',t2',l'] st=some r:=
 oM gu gy (key:=17) (I:=zfV) rfl (by kernel_rfl) (by kernel_rfl) rfl rfl (.trans (by kernel_rfl) h)
def zjq:eu:=⟨[(3,.any),(5,.any),(8,.any),(9,.any)],[(.exit 0,[(3,.any),(9,.any)]),(.ret,[(2,.any),(3,.any),(4,.int .i64)])]⟩
def zjX (n:Nat):Option eu:=cond (Nat.beq n 6) (some zjq) (none)
noncomputable def YQ (cf:fQ) (lf:eX) (text':ByteArray) (st:SS):Option (Value×SS):=
 let a:SS:=st.new (.cells [.int .i64 0,.int .i64 0] 0)
 (cf 67 [.string text'] a).bind fun b=>
 (fM b.1 0).bind fun c=>
 (fM b.1 1).bind fun d=>
 ((fM b.1 2).bind (ay .i64)).bind fun e=>
 let f:SS:=b.2.new (.cells [.int .i64 0,.int .i64 0] 0)
 (f.eH b.2.next 0 2 d).bind fun g=>
 cond (!(decide (e=0))) (
 (g.eF b.2.next 0 2).bind fun h=>
 (g.eH st.next 0 2 h).bind fun i=>
 (i.fH st.next 0 2).bind fun j=>
 some (.tuple #[.slice none 0 0,j,.int .i64 e],i)) (
 (nX c 1).bind fun k=>
 let l:SS:=g.new (.cells (.agg ⟨spl [.slice none 0 0,.int .i64 0] 0 k⟩:Value).cells.toList 0)
 (lf 6 [ptr st.next 0,c,ptr g.next 0,.slice none 0 0] l).bind fun m=>
 cond (Nat.beq m.1 0) (
 (m.2.1[0]?).bind fun n=>
 (m.2.1[1]?).bind fun o=>
 (aj n).bind fun p=>
 (m.2.2.st p.1 p.2 [.int .i64 0,.int .i64 0]).bind fun q=>
 (aj n).bind fun r=>
 (q.fH r.1 r.2 2).bind fun s=>
 some (.tuple #[o,s,.int .i64 0],q)) (
 (m.2.1[0]?).bind fun t=>
 (m.2.1[1]?).bind fun u=>
 ((m.2.1[2]?).bind (ay .i64)).bind fun v=>
 (aj u).bind fun w=>
 (m.2.2.fH w.1 w.2 2).bind fun x=>
 some (.tuple #[t,x,.int .i64 v],m.2.2)))
noncomputable abbrev ML:eX:=lS Tryz.prog Lk0 Tryz.f42 zjX
theorem zpq:Lk0.func 42=some (42,Tryz.f42):=by kernel_rfl
theorem zhx [Sym] (text':ByteArray) (st:SS) {r:Value×SS} (h:YQ cc ML text' st=some r):cc 42 [.string text'] st=some r:=
 mF (li:=zjX) gu gy zpq rfl (fun _=>rfl) (.trans (by kernel_rfl) h)
noncomputable def OE (cf:fQ) (lf:eX) (nC:Value) (tokens':Value) (p':Value) (out':Value) (st:SS):Option (Nat×List Value×SS):=
 (fG p').bind fun a=>
 (aj a).bind fun b=>
 ((st.ld b.1 (b.2+1)).bind (ay .i64)).bind fun c=>
 ((lenV tokens').bind (ay .i64)).bind fun d=>
 cond (decide (c<d)) (
 (cf 68 [p'] st).bind fun e=>
 (fM e.1 0).bind fun f=>
 ((fM e.1 1).bind lF).bind fun g=>
 let h:SS:=e.2.new (.cells [.int .i64 0,.string ⟨#[]⟩,.string ⟨#[]⟩,.slice none 0 0,.slice none 0 0] 0)
 (h.eH e.2.next 0 5 f).bind fun i=>
 cond (!g) (
 (cf 69 [p'] i).bind fun j=>
 ((BO Lk0 150 3 j.1).bind (ay .i64)).bind fun k=>
 (cf 69 [p'] j.2).bind fun l=>
 ((BO Lk0 150 4 l.1).bind (ay .i64)).bind fun m=>
 (aj nC).bind fun n=>
 (l.2.st n.1 n.2 [.int .i64 k,.int .i64 m]).bind fun o=>
 some (1,[.slice none 0 0,nC,.int .i64 4],o)) (
 (fG p').bind fun p=>
 (aj p).bind fun q=>
 ((i.ld q.1 (q.2+1)).bind (ay .i64)).bind fun r=>
 let s:Int:=IntKind.wrap .i64 (r+1)
 (fG p').bind fun t=>
 (aj t).bind fun u=>
 (i.st u.1 (u.2+1) [.int .i64 s]).bind fun v=>
 ((v.ld e.2.next 1).bind asS).bind fun w=>
 cond (!(fA w ⟨#[]⟩)) (
 (v.eF e.2.next 0 5).bind fun x=>
 (nX x 5).bind fun y=>
 let z:SS:=v.new (.cells (y++([])) 5)
 (z.app 5 88 out' (.slice (some ⟨v.next,0,none⟩) 1 1)).bind fun A=>
 lf 6 [nC,tokens',p',A.1] A.2) (
 ((v.ld e.2.next 2).bind asS).bind fun B=>
 cond (!(fA B ⟨#[]⟩)) (
 (v.eF e.2.next 0 5).bind fun C=>
 (nX C 5).bind fun D=>
 let E:SS:=v.new (.cells (D++([])) 5)
 (E.app 5 88 out' (.slice (some ⟨v.next,0,none⟩) 1 1)).bind fun F=>
 lf 6 [nC,tokens',p',F.1] F.2) (
 (v.ld e.2.next 4).bind fun G=>
 ((lenV G).bind (ay .i64)).bind fun H=>
 cond (decide (0<H)) (
 (v.eF e.2.next 0 5).bind fun I=>
 (nX I 5).bind fun J=>
 let K:SS:=v.new (.cells (J++([])) 5)
 (K.app 5 88 out' (.slice (some ⟨v.next,0,none⟩) 1 1)).bind fun L=>
 lf 6 [nC,tokens',p',L.1] L.2) (
 lf 6 [nC,tokens',p',out'] v))))) (
 some (0,[nC,out'],st))
theorem Y6 [Sym] (nC:Value) (tokens':Value) (p':Value) (out':Value) (st:SS) {r:Nat×List Value×SS} (h:OE cc ML nC tokens' p' out' st=some r):ML 6 [nC,tokens',p',out'] st=some r:=
 oM gu gy (key:=6) (I:=zjq) rfl (by kernel_rfl) (by kernel_rfl) rfl rfl (.trans (by kernel_rfl) h)
end Go.Proofs.YtifploedaacedaaGreatDoorE
namespace Go.Proofs.YtifploedaacedaaGreatDoorE
open Go Go.E Go.Proofs
theorem DZ (b k:Nat):fG (ptr b k)=some (ptr b k):=rfl
structure CB (st:SS) (b:Nat) (v:Value) (us:List (Nat×Tok)) (i:Nat):Prop where
 mem:st.mem.get b=some (.cells [v,.int .i64 i] 0)
 lt:b<st.next
 rd:Rd st v (oD us) 5 us.length
 sz:us.length≤1099511627776
theorem CB.ext {st st':SS} {b i:Nat} {v:Value} {us:List (Nat×Tok)} (h:CB st b v us i) (x:Ext st st'):CB st' b v us i:=
 ⟨x.get h.lt h.mem,pz h.lt x.next,h.rd.ext x,h.sz⟩
theorem CB.ro {st:SS} {b i n:Nat} {v:Value} {us:List (Nat×Tok)} (h:CB st b v us i):CB (st.ro n) b v us i:=⟨h.mem,h.lt,h.rd,h.sz⟩
structure rJ (st:SS) (b:Nat) (v:Value) (us:List (Nat×Tok)) (i:Nat):Prop where
 blk:At st b [v,.int .i64 i]
 rd:Rd st v (oD us) 5 us.length
 vb:∀ j k l q,v=.slice (some ⟨j,k,none⟩) l q→j<b
 sz:us.length≤1099511627776
 ll:st.lim≤st.next
section
variable {S : List Nat} {st st' : SS} {b i : Nat} {v : Value} {us : List (Nat × Tok)}
theorem rJ.has (h:rJ st b v us i):CB st b v us i:=⟨h.blk.mem,h.blk.lt,h.rd,h.sz⟩
theorem rJ.mod (h:rJ st b v us i) (m:Mod S st st') (hS:∀ j,j∈S→b<j):rJ st' b v us i:=
 ⟨h.blk.mod m (fun hm=>by have:=hS b hm;omega),h.rd.mod m (fun j k l q e hm=>by have:=hS j hm;have:=h.vb j k l q e;omega),h.vb,h.sz,m.ll h.ll⟩
theorem rJ.ext (h:rJ st b v us i) (x:Ext st st'):rJ st' b v us i:=h.mod (S:=[]) (.nY x) (fun _ hj=>by cases hj)
theorem rJ.oq {j:Nat} (h:rJ st b v us i) (m:Mod [j] st st') (hj:b<j):rJ st' b v us i:=h.mod m fun k hk=>(show k=j by simpa using hk) ▸ hj
theorem rJ.move (h:rJ st b v us i) (i':Nat):∃ st',st.st b 1 [.int .i64 i']=some st'∧rJ st' b v us i'∧Mod [b] st st'∧st'.next=st.next:=by
 obtain ⟨st',e,a,m,n⟩:=h.blk.pU (k:=1) (vs:=[.int .i64 i']) (row':=[v,.int .i64 i']) rfl rfl
 exact ⟨st',e,⟨a,h.rd.mod m (fun j k l q e hm=>by have:j=b:=by simpa using hm
                                                  have:=h.vb j k l q e;omega),h.vb,h.sz,m.ll h.ll⟩,m,n⟩
end
abbrev Z5:List Value:=[.int .i64 0,.string ⟨#[]⟩,.int .i64 0,.int .i64 0,.int .i64 0]
theorem DU [Sym] {st:SS} {b i:Nat} {v:Value} {us:List (Nat×Tok)} (h:CB st b v us i) {t:Nat×Tok} (ht:us[i]?=some t):
  ∃ n,st.next≤n∧cc 69 [ptr b 0] st=some (.agg (xG t.1 t.2).toArray,st.dw n):=by
 obtain ⟨KG,e10,a10,x10,_⟩:=pX (st:=st.ro st.next) (fF _) (r:=Z5) (lU (xG t.1 t.2)) (n:=5) rfl rfl rfl
 have h1:=(h.ro (n:=st.next)).ext ((Ext.refl (st.ro st.next)).new (.cells Z5 0))
 have hlt:(i:Int)<(us.length:Int):=by have:=(List.getElem?_eq_some_iff.1 ht).1;omega
 obtain ⟨q,b1,b2,_⟩:=h1.rd.load (j:=(i:Int)) (by omega) hlt (Yv us i t ht) rfl
 have l0:((st.ro st.next).new (.cells Z5 0)).ld b 0=some v:=by rw [SS.eU h1.mem];rfl
 have l1:((st.ro st.next).new (.cells Z5 0)).ld b 1=some (.int .i64 i):=by rw [SS.eU h1.mem];rfl
 have hr:KG.fH (st.ro st.next).next 0 5=some (.agg (xG t.1 t.2).toArray):=a10.fH rfl
 refine ⟨KG.next,x10.next,zl3 _ st ?_⟩
 have Cm:((st.ro st.next).new (.cells Z5 0)).eH st.next 0 5 (.agg (xG t.1 t.2).toArray)=some KG:=e10
 have hr':KG.fH st.next 0 5=some (.agg (xG t.1 t.2).toArray):=hr
 simp only [ziB,SS.fE,DZ,bf,fZ,l0,Nat.zero_add,l1,eP,b1,b2,Cm,hr']
 rfl
theorem FT {ln:Nat} {t:Tok}:(BO Lk0 150 0 (.agg (xG ln t).toArray)).bind (ay .i64)=some (t.kd:Int)∧(BO Lk0 150 1 (.agg (xG ln t).toArray)).bind asS=some (mkS t.tx)∧
  (BO Lk0 150 3 (.agg (xG ln t).toArray)).bind (ay .i64)=some (ln:Int)∧(BO Lk0 150 4 (.agg (xG ln t).toArray)).bind (ay .i64)=some (t.col:Int):=⟨by kernel_rfl,by kernel_rfl,by kernel_rfl,by kernel_rfl⟩
theorem zx3 [Sym] {st:SS} {b i:Nat} {v:Value} {us:List (Nat×Tok)} (h:CB st b v us i) {t u:Nat×Tok} (ht:us[i]?=some t) (hu:us[if t.2.kd=0 then i else i+1]?=some u):
  ∃ n,st.next≤n∧cc 91 [ptr b 0] st=some (.agg (xG u.1 u.2).toArray,st.dw n):=by
 have h1:=(h.ro (n:=st.next)).ext ((Ext.refl (st.ro st.next)).new (.cells Z5 0))
 obtain ⟨n,hn,c1⟩:=DU h1 ht
 have a0:At ((st.ro st.next).new (.cells Z5 0)) st.next Z5:=At.new (st:=st.ro st.next) (fF _) Z5
 have h2:=h1.ext (Ext.pK _ hn)
 have a2:=a0.dw hn
 by_cases hk:t.2.kd=0
 ·rw [if_pos hk,ht] at hu
  cases hu
  obtain ⟨m,hm,c2⟩:=DU h2 ht
  have a3:=a2.dw hm
  obtain ⟨Gi,e5,a5,m5,n5⟩:=a3.eH (k:=0) (lU (xG t.1 t.2)) (n:=5) rfl rfl (row':=xG t.1 t.2) rfl
  have hr:Gi.fH st.next 0 5=some (.agg (xG t.1 t.2).toArray):=a5.fH rfl
  have hk':(t.2.kd:Int)=0:=by omega
  have hle:st.next≤Gi.next:=by rw [n5];simp at hn hm ⊢;omega
  refine ⟨Gi.next,hle,zgZ _ st ?_⟩
  simp only [zfD,SS.fE,c1,c2,bf,FT.1,zdt hk',cu,e5,hr]
  rfl
 ·rw [if_neg hk] at hu
  have hlt:((i+1:Nat):Int)<(us.length:Int):=by have:=(List.getElem?_eq_some_iff.1 hu).1;omega
  obtain ⟨q,b1,b2,_⟩:=h2.rd.load (j:=((i+1:Nat):Int)) (by omega) hlt (Yv us (i+1) u hu) rfl
  have hk':¬ (t.2.kd:Int)=0:=by omega
  obtain ⟨Gi,e5,a5,m5,n5⟩:=a2.eH (k:=0) (lU (xG u.1 u.2)) (n:=5) rfl rfl (row':=xG u.1 u.2) rfl
  have hr:Gi.fH st.next 0 5=some (.agg (xG u.1 u.2).toArray):=a5.fH rfl
  have l0:(((st.ro st.next).new (.cells Z5 0)).dw n).ld b 0=some v:=by rw [SS.eU h2.mem];rfl
  have l1:(((st.ro st.next).new (.cells Z5 0)).dw n).ld b 1=some (.int .i64 i):=by rw [SS.eU h2.mem];rfl
  have hw:IntKind.wrap .i64 ((i:Int)+1)=((i+1:Nat):Int):=by have:=h.sz;rw [wrap64 (by omega) (by omega)];omega
  have hle:st.next≤Gi.next:=by rw [n5];simp at hn ⊢;omega
  refine ⟨Gi.next,hle,zgZ _ st ?_⟩
  simp only [zfD,SS.fE,c1,bf,FT.1,bg hk',dn,DZ,fZ,l0,Nat.zero_add,l1,eP,hw,b1,b2,e5,hr]
  rfl
theorem zp4 {st:SS} {n:Nat} (hl:st.lim≤n) (t:Nat×Tok):∃ st',((st.dw n).new (.cells Z5 0)).eH n 0 5 (.agg (xG t.1 t.2).toArray)=some st'∧At st' n (xG t.1 t.2)∧Ext (st.dw n) st':=by
 obtain ⟨st',a,b,c,_⟩:=pX (st:=st.dw n) hl (r:=Z5) (lU (xG t.1 t.2)) (n:=5) rfl rfl rfl
 exact ⟨st',a,b,c⟩
theorem DW (a b:List UInt8):fA (mkS a) (mkS b)=decide (a=b):=by rw [JC,vW,vW]
theorem Yn [Sym] {st:SS} {b i:Nat} {v:Value} {us:List (Nat×Tok)} (h:rJ st b v us i) {t:Nat×Tok} (ht:us[i]?=some t) (sg:List UInt8):
  ∃ st',cc 92 [ptr b 0,.string (mkS sg)] st=some (.bool (oz t.2 sg),st')∧Mod [b] st st'∧rJ st' b v us (if oz t.2 sg=true then i+1 else i):=by
 obtain ⟨n,hn,h1⟩:=DU h.has ht
 obtain ⟨pV,e3,a3,x3⟩:=zp4 (st:=st) (n:=n) (lT h.ll hn) t
 have x:Ext st pV:=(Ext.pK st hn).trans x3
 have hp:=h.ext x
 have k0:pV.ld n 0=some (.int .i64 t.2.kd):=a3.ld
 have k1:pV.ld n 1=some (.string (mkS t.2.tx)):=a3.ld
 have hi:=(List.getElem?_eq_some_iff.1 ht).1
 have hsz:=h.sz
 by_cases hk:t.2.kd=3
 ·have hk':(t.2.kd:Int)=3:=by omega
  by_cases hx:t.2.tx=sg
  ·have hs:oz t.2 sg=true:=by simp [oz,hk,hx]
   obtain ⟨O4,e4,p4,m4,_⟩:=hp.move (i+1)
   have hl1:pV.ld b 1=some (.int .i64 i):=hp.blk.ld
   rw [hs]
   refine ⟨O4,zej _ _ st ?_,(Mod.nY x).then m4,p4⟩
   simp only [Y2,h1,bf,SS.lM,e3,k0,k1,eP,fP,zdt hk',lY,dn,DW,zdt hx,DZ,fZ,Nat.zero_add,hl1,ru (show i≤1099511627776 by omega),e4]
  ·have hs:oz t.2 sg=false:=by simp [oz,hk,hx]
   rw [hs]
   refine ⟨pV,zej _ _ st ?_,.nY x,hp⟩
   simp only [Y2,h1,bf,SS.lM,e3,k0,k1,eP,fP,zdt hk',lY,dn,DW,bg hx,nJ,cu]
 ·have hk':¬ (t.2.kd:Int)=3:=by omega
  have hs:oz t.2 sg=false:=by simp [oz,hk]
  rw [hs]
  refine ⟨pV,zej _ _ st ?_,.nY x,hp⟩
  simp only [Y2,h1,bf,SS.lM,e3,k0,eP,bg hk',nJ,cu]
theorem ztl [Sym] {st:SS} {b i:Nat} {v:Value} {us:List (Nat×Tok)} (h:rJ st b v us i) {t:Nat×Tok} (ht:us[i]?=some t):
  ∃ st',cc 93 [ptr b 0] st=some (.tuple #[.string (mkS (if t.2.kd=1 then t.2.tx else [])),.bool (decide (t.2.kd=1))],st')∧Mod [b] st st'∧rJ st' b v us (if t.2.kd=1 then i+1 else i):=by
 obtain ⟨n,hn,h1⟩:=DU h.has ht
 obtain ⟨pV,e3,a3,x3⟩:=zp4 (st:=st) (n:=n) (lT h.ll hn) t
 have x:Ext st pV:=(Ext.pK st hn).trans x3
 have hp:=h.ext x
 have k0:pV.ld n 0=some (.int .i64 t.2.kd):=a3.ld
 have hi:=(List.getElem?_eq_some_iff.1 ht).1
 have hsz:=h.sz
 by_cases hk:t.2.kd=1
 ·have hk':(t.2.kd:Int)=1:=by omega
  obtain ⟨O4,e4,p4,m4,_⟩:=hp.move (i+1)
  have hl1:pV.ld b 1=some (.int .i64 i):=hp.blk.ld
  have hne:n≠b:=by have:=h.blk.lt;omega
  have k1:O4.ld n 1=some (.string (mkS t.2.tx)):=(a3.mod m4 (by simpa using hne)).ld
  rw [if_pos hk,if_pos hk,zdt hk]
  refine ⟨O4,zg0 _ st ?_,(Mod.nY x).then m4,p4⟩
  simp only [zfE,h1,bf,SS.lM,e3,k0,eP,zdt hk',lY,dn,DZ,fZ,Nat.zero_add,hl1,ru (show i≤1099511627776 by omega),e4,k1,fP]
 ·have hk':¬ (t.2.kd:Int)=1:=by omega
  rw [if_neg hk,if_neg hk,bg hk]
  refine ⟨pV,zg0 _ st ?_,.nY x,hp⟩
  simp only [zfE,h1,bf,SS.lM,e3,k0,eP,bg hk',nJ,cu]
  rfl
theorem zl5 [Sym] {st:SS} {b i:Nat} {v:Value} {us:List (Nat×Tok)} (h:rJ st b v us i) {t:Nat×Tok} (ht:us[i]?=some t):
  ∃ st',cc 111 [ptr b 0] st=some (.tuple #[.int .i64 (if t.2.kd=2 then t.2.nm else 0),.bool (decide (t.2.kd=2))],st')∧Mod [b] st st'∧rJ st' b v us (if t.2.kd=2 then i+1 else i):=by
 obtain ⟨n,hn,h1⟩:=DU h.has ht
 obtain ⟨pV,e3,a3,x3⟩:=zp4 (st:=st) (n:=n) (lT h.ll hn) t
 have x:Ext st pV:=(Ext.pK st hn).trans x3
 have hp:=h.ext x
 have k0:pV.ld n 0=some (.int .i64 t.2.kd):=a3.ld
 have hi:=(List.getElem?_eq_some_iff.1 ht).1
 have hsz:=h.sz
 by_cases hk:t.2.kd=2
 ·have hk':(t.2.kd:Int)=2:=by omega
  obtain ⟨O4,e4,p4,m4,_⟩:=hp.move (i+1)
  have hl1:pV.ld b 1=some (.int .i64 i):=hp.blk.ld
  have hne:n≠b:=by have:=h.blk.lt;omega
  have k1:O4.ld n 2=some (.int .i64 t.2.nm):=(a3.mod m4 (by simpa using hne)).ld
  rw [if_pos hk,if_pos hk,zdt hk]
  refine ⟨O4,zfU _ st ?_,(Mod.nY x).then m4,p4⟩
  simp only [zeY,h1,bf,SS.lM,e3,k0,eP,zdt hk',lY,dn,DZ,fZ,Nat.zero_add,hl1,ru (show i≤1099511627776 by omega),e4,k1]
 ·have hk':¬ (t.2.kd:Int)=2:=by omega
  rw [if_neg hk,if_neg hk,bg hk]
  refine ⟨pV,zfU _ st ?_,.nY x,hp⟩
  simp only [zeY,h1,bf,SS.lM,e3,k0,eP,bg hk',nJ,cu]
structure lC (us:List (Nat×Tok)) (i ln:Nat) (l:List Tok):Prop where
 drop:∃ rest,us.drop i=(l.map fun t=>(ln,t))++rest
 lin:zi l
 ok:∀ t∈l,vG t
theorem lC.head {us:List (Nat×Tok)} {i ln:Nat} {t:Tok} {r:List Tok} (h:lC us i ln (t::r)):us[i]?=some (ln,t):=by
 obtain ⟨rest,hr⟩:=h.drop
 have:=congrArg (·[0]?) hr
 simpa using this
theorem lC.tail {us:List (Nat×Tok)} {i ln:Nat} {t:Tok} {r:List Tok} (h:lC us i ln (t::r)) (hk:t.kd≠0):lC us (i+1) ln r:=by
 refine ⟨?_,h.lin.tail hk,fun u hu=>h.ok u (List.mem_cons_of_mem _ hu)⟩
 obtain ⟨rest,hr⟩:=h.drop
 refine ⟨rest,?_⟩
 have:=drop_cons h.head
 rw [hr] at this
 exact (List.cons.inj this).2.symm
theorem lC.tok {us:List (Nat×Tok)} {i ln:Nat} {t:Tok} {r:List Tok} (h:lC us i ln (t::r)):vG t:=h.ok t (List.mem_cons_self ..)
end Go.Proofs.YtifploedaacedaaGreatDoorE
namespace Go.Proofs.YtifploedaacedaaGreatDoorE
set_option maxRecDepth 20000
open Go Go.E Go.Proofs
noncomputable def zov (cf:fQ) (lf:eX) (s':Value) (q':Nat) (st:SS):Option (Value×SS):=
 (cf 133 [s',.func (.func 113) #[] #[ptr q' 0]] (st.ro st.next)).bind fun a=>
 ((some a.1).bind (ay .i64)).bind fun b=>
 some (.bool (decide (0≤b)),st.dw a.2.next)
noncomputable abbrev zsI:eX:=lS Tryz.prog Lk0 Tryz.f112 lQ
theorem zsJ:Lk0.func 112=some (112,Tryz.f112):=by kernel_rfl
theorem zsK [Sym] (s':Value) (q':Nat) (st:SS) {r:Value×SS} (h:zov cc zsI s' q' st=some r):cc 112 [s',.func (.func 113) #[] #[ptr q' 0]] st=some r:=
 mF (li:=lQ) gu gy zsJ rfl (fun _=>rfl) (.trans (by kernel_rfl) h)
def zn5:eu:=⟨[(0,.any),(1,.any),(7,.int .i64),(8,.int .i64)],[(.exit 0,[]),(.ret,[(4,.int .i64)])]⟩
def zpr (n:Nat):Option eu:=cond (Nat.beq n 2) (some zn5) (none)
noncomputable def zp5 (cf:fQ) (lf:eX) (s':Value) (q':Nat) (st:SS):Option (Value×SS):=
 ((lenV s').bind (ay .i64)).bind fun a=>
 (lf 2 [s',.func (.func 113) #[] #[ptr q' 0],.int .i64 a,.int .i64 0] (st.ro st.next)).bind fun b=>
 cond (Nat.beq b.1 0) (
 some (.int .i64 (-1),st.dw b.2.2.next)) (
 ((b.2.1[0]?).bind (ay .i64)).bind fun c=>
 some (.int .i64 c,st.dw b.2.2.next))
noncomputable abbrev Un:eX:=lS Tryz.prog Lk0 Tryz.f133 zpr
theorem zuf:Lk0.func 133=some (133,Tryz.f133):=by kernel_rfl
theorem zps [Sym] (s':Value) (q':Nat) (st:SS) {r:Value×SS} (h:zp5 cc Un s' q' st=some r):cc 133 [s',.func (.func 113) #[] #[ptr q' 0]] st=some r:=
 mF (li:=zpr) gu gy zuf rfl (fun _=>rfl) (.trans (by kernel_rfl) h)
noncomputable def YH (cf:fQ) (lf:eX) (s':Value) (q':Nat) (pY:Int) (sU:Int) (st:SS):Option (Nat×List Value×SS):=
 cond (decide (sU<pY)) (
 (fK s' sU 5).bind fun a=>
 (st.eF a.1 a.2 5).bind fun b=>
 (cf 113 [b,ptr q' 0] st).bind fun c=>
 ((some c.1).bind lF).bind fun d=>
 cond d (
 some (1,[.int .i64 sU],c.2)) (
 let e:Int:=IntKind.wrap .i64 (sU+1)
 lf 2 [s',.func (.func 113) #[] #[ptr q' 0],.int .i64 pY,.int .i64 e] c.2)) (
 some (0,[],st))
theorem ziw [Sym] (s':Value) (q':Nat) (pY:Int) (sU:Int) (st:SS) {r:Nat×List Value×SS} (h:YH cc Un s' q' pY sU st=some r):Un 2 [s',.func (.func 113) #[] #[ptr q' 0],.int .i64 pY,.int .i64 sU] st=some r:=
 oM gu gy (key:=2) (I:=zn5) rfl (by kernel_rfl) (by kernel_rfl) rfl rfl (.trans (by kernel_rfl) h)
noncomputable def zvx (cf:fQ) (lf:eX) (y':Value) (x1':Value) (st:SS):Option (Value×SS):=
 let a:SS:=(st.ro st.next).new (.cells (y':Value).cells.toList 0)
 ((a.ld ((st.ro st.next).next) 0).bind asS).bind fun b=>
 (aj x1').bind fun c=>
 ((a.ld c.1 c.2).bind asS).bind fun d=>
 some (.bool (fA b d),st.dw a.next)
noncomputable abbrev zvy:eX:=lS Tryz.prog Lk0 Tryz.f113 lQ
theorem zvz:Lk0.func 113=some (113,Tryz.f113):=by kernel_rfl
theorem zvA [Sym] (y':Value) (x1':Value) (st:SS) {r:Value×SS} (h:zvx cc zvy y' x1' st=some r):cc 113 [y',x1'] st=some r:=
 mF (li:=lQ) gu gy zvz rfl (fun _=>rfl) (.trans (by kernel_rfl) h)
end Go.Proofs.YtifploedaacedaaGreatDoorE
namespace Go.Proofs.YtifploedaacedaaGreatDoorE
open Go Go.E Go.Proofs
def au (x:Val):List Value:=[.string (mkS x.nm),.int .i64 x.x,.int .i64 x.col]
def fB (p:Pr):List Value:=[.string (mkS p.fd),.int .i64 p.col,.string (mkS p.v.nm),.int .i64 p.v.x,.int .i64 p.v.col]
abbrev Z3:List Value:=[.string ⟨#[]⟩,.int .i64 0,.int .i64 0]
theorem lC.sz {st:SS} {b i ln:Nat} {v:Value} {us:List (Nat×Tok)} {l:List Tok} (h:rJ st b v us i) (hl:lC us i ln l):i≤1099511627776:=by
 obtain ⟨t,r,rfl⟩:=hl.lin.ne
 have:=(List.getElem?_eq_some_iff.1 hl.head).1
 have:=h.sz
 omega
theorem ztm {n:Int} (h0:0≤n) (h1:n≤2147483647):IntKind.wrap .i64 (0-n)= -n:=by rw [wrap64 (by omega) (by omega)];omega
def ValR (b:Nat) (v:Value) (us:List (Nat×Tok)) (i:Nat) (st:SS) (r:Option (Value×SS)):Except Nat (Val×Nat)→Prop
 | .ok (x,n)=>∃ st',r=some (.tuple #[.agg (au x).toArray,.bool true],st')∧Mod [b] st st'∧rJ st' b v us (i+n)
 | .error o=>∃ w st',r=some (.tuple #[.agg (au w).toArray,.bool false],st')∧Mod [b] st st'∧rJ st' b v us (i+o)
theorem zr2 [Sym] {st:SS} {b i ln:Nat} {v:Value} {us:List (Nat×Tok)} {l:List Tok} (h:rJ st b v us i) (hl:lC us i ln l):
  ValR b v us i st (cc 94 [ptr b 0] st) (DR l):=by
 obtain ⟨t,r,rfl⟩:=hl.lin.ne
 have hb:=h.blk.lt
 have a1:At (st.new (.cells Z3 0)) st.next Z3:=At.new h.ll Z3
 have x1:Ext st (st.new (.cells Z3 0)):=(Ext.refl st).new _
 obtain ⟨n,hn,c1⟩:=DU (h.ext x1).has hl.head
 have hn':st.next+1≤n:=hn
 obtain ⟨s5,e5,a5,x5,_⟩:=N7 (st:=(st.new (.cells Z3 0)).dw n) (lT h.ll (by simp;omega)) (r:=Z3) (row:=[.string ⟨#[]⟩,.int .i64 0,.int .i64 t.col]) rfl rfl
 have Ag:Ext st s5:=x1.trans ((Ext.pK _ hn).trans x5)
 have b5:At s5 st.next Z3:=(a1.dw hn).ext x5
 obtain ⟨s6,c6,m6,p6⟩:=zl5 (h.ext Ag) hl.head
 have a6:=a5.mod m6 (by simp;omega)
 have b6:=b5.mod m6 (by simp;omega)
 have M6:Mod [b] st s6:=(Mod.nY Ag).then m6
 have k4:=(FT (ln:=ln) (t:=t)).2.2.2
 have cN:∀ row:List Value,row.length=3→∀ d:List Value,d=row→True:=fun _ _ _ _=>trivial
 by_cases h2:t.kd=2
 ·rw [if_pos h2,zdt h2] at c6
  rw [if_pos h2] at p6
  obtain ⟨s9,e9,a9,m9,_⟩:=a6.pU (k:=1) (vs:=[.int .i64 t.nm]) (row':=au ⟨[],t.nm,t.col⟩) rfl rfl
  have b9:=b6.mod m9 (by simp;omega)
  obtain ⟨s11,f1,f2,f3,f4,_⟩:=vT (n:=3) b9 rfl a9 rfl rfl
  rw [Uo,if_pos h2]
  refine ⟨s11,OG _ st ?_,(M6.gq m9 (.inl (by simp;omega))).gq f4 (.inl (fF _)),(p6.oq m9 (by simp;omega)).oq f4 hb⟩
  simp only [MN,c1,bf,k4,e5,c6,fM,List.getElem?_toArray,lN,iZ,eP,mg,e9,cu,f1,f2,f3]
 ·rw [if_neg h2,bg h2] at c6
  rw [if_neg h2] at p6
  obtain ⟨s9,e9,a9,m9,_⟩:=a6.pU (k:=1) (vs:=[.int .i64 0]) (row':=au ⟨[],0,t.col⟩) rfl rfl
  have b9:=b6.mod m9 (by simp;omega)
  have p9:=p6.oq m9 (by simp;omega)
  have M9:=M6.gq m9 (.inl (by simp;omega))
  obtain ⟨s13,c13,m13,p13⟩:=ztl p9 hl.head
  have G5:=a9.mod m13 (by simp;omega)
  have b13:=b9.mod m13 (by simp;omega)
  have M13:=M9.then m13
  rw [Uo,if_neg h2]
  by_cases h1:t.kd=1
  ·rw [if_pos h1,zdt h1] at c13
   rw [if_pos h1] at p13
   rw [if_pos h1]
   have hl1:=hl.tail (by omega)
   obtain ⟨s,u,rfl⟩:=hl1.lin.ne
   obtain ⟨s16,e16,a16,m16,_⟩:=G5.pU (k:=0) (vs:=[.string (mkS t.tx)]) (row':=au ⟨t.tx,0,t.col⟩) rfl rfl
   have b16:=b13.mod m16 (by simp;omega)
   have p16:=p13.oq m16 (by simp;omega)
   have M16:=M13.gq m16 (.inl (by simp;omega))
   obtain ⟨s20,c20,m20,Zy⟩:=Yn p16 hl1.head [43]
   have EG:cc 92 [ptr b 0,.string ⟨#[43]⟩] s16=some (.bool (oz s [43]),s20):=c20
   have a20:=a16.mod m20 (by simp;omega)
   have b20:=b16.mod m20 (by simp;omega)
   have M20:=M16.then m20
   simp only
   by_cases hp:oz s [43]=true
   ·rw [hp] at EG
    rw [if_pos hp] at Zy
    rw [if_pos hp]
    have hl2:=hl1.tail (by have:=EY hp;omega)
    obtain ⟨w,z,rfl⟩:=hl2.lin.ne
    obtain ⟨xQ,ZK,m22,KL⟩:=zl5 Zy hl2.head
    have a22:=a20.mod m22 (by simp;omega)
    have b22:=b20.mod m22 (by simp;omega)
    have ZR:=M20.then m22
    simp only
    by_cases hw:w.kd=2
    ·rw [if_pos hw,zdt hw] at ZK
     rw [if_pos hw] at KL
     rw [if_pos hw]
     obtain ⟨Ap,e25,a25,Bf,_⟩:=a22.pU (k:=1) (vs:=[.int .i64 w.nm]) (row':=au ⟨t.tx,w.nm,t.col⟩) rfl rfl
     have b25:=b22.mod Bf (by simp;omega)
     obtain ⟨BF,f1,f2,f3,f4,_⟩:=vT (n:=3) b25 rfl a25 rfl rfl
     refine ⟨BF,OG _ st ?_,(ZR.gq Bf (.inl (by simp;omega))).gq f4 (.inl (fF _)),(KL.oq Bf (by simp;omega)).oq f4 hb⟩
     simp only [MN,c1,bf,k4,e5,c6,fM,List.getElem?_toArray,lN,iZ,eP,mg,e9,dn,c13,fP,e16,lY,EG,cu,ZK,e25,f1,f2,f3]
    ·rw [if_neg hw,bg hw] at ZK
     rw [if_neg hw] at KL
     rw [if_neg hw]
     obtain ⟨Ap,e25,a25,Bf,_⟩:=a22.pU (k:=1) (vs:=[.int .i64 0]) (row':=au ⟨t.tx,0,t.col⟩) rfl rfl
     have b25:=b22.mod Bf (by simp;omega)
     obtain ⟨BF,f1,f2,f3,f4,_⟩:=vT (n:=3) b25 rfl a25 rfl rfl
     refine ⟨⟨t.tx,0,t.col⟩,BF,OG _ st ?_,(ZR.gq Bf (.inl (by simp;omega))).gq f4 (.inl (fF _)),(KL.oq Bf (by simp;omega)).oq f4 hb⟩
     simp only [MN,c1,bf,k4,e5,c6,fM,List.getElem?_toArray,lN,iZ,eP,mg,e9,dn,c13,fP,e16,lY,EG,cu,ZK,e25,f1,f2,f3]
   ·rw [if_neg hp] at Zy
    have hp':oz s [43]=false:=Bool.eq_false_iff.2 hp
    rw [hp'] at EG
    rw [if_neg hp]
    obtain ⟨Zv,c29,m29,p29⟩:=Yn Zy hl1.head [45]
    have Jl:cc 92 [ptr b 0,.string ⟨#[45]⟩] s20=some (.bool (oz s [45]),Zv):=c29
    have a29:=a20.mod m29 (by simp;omega)
    have b29:=b20.mod m29 (by simp;omega)
    have M29:=M20.then m29
    by_cases hm:oz s [45]=true
    ·rw [hm] at Jl
     rw [if_pos hm] at p29
     rw [if_pos hm]
     have hl2:=hl1.tail (by have:=EY hm;omega)
     obtain ⟨w,z,rfl⟩:=hl2.lin.ne
     obtain ⟨s31,c31,m31,p31⟩:=zl5 p29 hl2.head
     have a31:=a29.mod m31 (by simp;omega)
     have b31:=b29.mod m31 (by simp;omega)
     have M31:=M29.then m31
     simp only
     by_cases hw:w.kd=2
     ·rw [if_pos hw,zdt hw] at c31
      rw [if_pos hw] at p31
      rw [if_pos hw]
      obtain ⟨Vs,e34,a34,JK,_⟩:=a31.pU (k:=1) (vs:=[.int .i64 w.nm]) (row':=au ⟨t.tx,w.nm,t.col⟩) rfl rfl
      have b34:=b31.mod JK (by simp;omega)
      have Nh:Vs.ld ((st.new (.cells Z3 0)).dw n).next 1=some (.int .i64 w.nm):=a34.ld
      obtain ⟨Zu,e37,a37,GX,_⟩:=a34.pU (k:=1) (vs:=[.int .i64 (-w.nm)]) (row':=au ⟨t.tx, -w.nm,t.col⟩) rfl rfl
      have b37:=b34.mod GX (by simp;omega)
      obtain ⟨BD,f1,f2,f3,f4,_⟩:=vT (n:=3) b37 rfl a37 rfl rfl
      have hneg:=ztm hl2.tok.VK hl2.tok.VJ
      refine ⟨BD,OG _ st ?_,((M31.gq JK (.inl (by simp;omega))).gq GX (.inl (by simp;omega))).gq f4 (.inl (fF _)),((p31.oq JK (by simp;omega)).oq GX (by simp;omega)).oq f4 hb⟩
      simp only [MN,c1,bf,k4,e5,c6,fM,List.getElem?_toArray,lN,iZ,eP,mg,e9,dn,c13,fP,e16,lY,EG,Jl,cu,c31,e34,Nh,hneg,e37,f1,f2,f3]
     ·rw [if_neg hw,bg hw] at c31
      rw [if_neg hw] at p31
      rw [if_neg hw]
      obtain ⟨Vs,e34,a34,JK,_⟩:=a31.pU (k:=1) (vs:=[.int .i64 0]) (row':=au ⟨t.tx,0,t.col⟩) rfl rfl
      have b34:=b31.mod JK (by simp;omega)
      have Nh:Vs.ld ((st.new (.cells Z3 0)).dw n).next 1=some (.int .i64 0):=a34.ld
      obtain ⟨Zu,e37,a37,GX,_⟩:=a34.pU (k:=1) (vs:=[.int .i64 0]) (row':=au ⟨t.tx,0,t.col⟩) rfl rfl
      have b37:=b34.mod GX (by simp;omega)
      obtain ⟨BD,f1,f2,f3,f4,_⟩:=vT (n:=3) b37 rfl a37 rfl rfl
      have hneg:IntKind.wrap .i64 (0-0)=0:=by decide
      refine ⟨⟨t.tx,0,t.col⟩,BD,OG _ st ?_,((M31.gq JK (.inl (by simp;omega))).gq GX (.inl (by simp;omega))).gq f4 (.inl (fF _)),((p31.oq JK (by simp;omega)).oq GX (by simp;omega)).oq f4 hb⟩
      simp only [MN,c1,bf,k4,e5,c6,fM,List.getElem?_toArray,lN,iZ,eP,mg,e9,dn,c13,fP,e16,lY,EG,Jl,cu,c31,e34,Nh,hneg,e37,f1,f2,f3]
    ·rw [if_neg hm] at p29
     have hm':oz s [45]=false:=Bool.eq_false_iff.2 hm
     rw [hm'] at Jl
     rw [if_neg hm]
     obtain ⟨s42,f1,f2,f3,f4,_⟩:=vT (n:=3) b29 rfl a29 rfl rfl
     refine ⟨s42,OG _ st ?_,M29.gq f4 (.inl (fF _)),p29.oq f4 hb⟩
     simp only [MN,c1,bf,k4,e5,c6,fM,List.getElem?_toArray,lN,iZ,eP,mg,e9,dn,c13,fP,e16,lY,EG,Jl,f1,f2,f3]
  ·rw [if_neg h1,bg h1] at c13
   rw [if_neg h1] at p13
   rw [if_neg h1]
   obtain ⟨s16,e16,a16,m16,_⟩:=G5.pU (k:=0) (vs:=[.string (mkS [])]) (row':=au ⟨[],0,t.col⟩) rfl rfl
   have b16:=b13.mod m16 (by simp;omega)
   obtain ⟨E8,f1,f2,f3,f4,_⟩:=vT (n:=3) b16 rfl a16 rfl rfl
   refine ⟨⟨[],0,t.col⟩,E8,OG _ st ?_,(M13.gq m16 (.inl (by simp;omega))).gq f4 (.inl (fF _)),(p13.oq m16 (by simp;omega)).oq f4 hb⟩
   simp only [MN,c1,bf,k4,e5,c6,fM,List.getElem?_toArray,lN,iZ,eP,mg,e9,dn,c13,fP,e16,nJ,cu,f1,f2,f3]
theorem Yp (p:Pr):(fB p).length=5:=rfl
theorem zug (p:Val):(au p).length=3:=rfl
theorem zvB [Sym] (p:Pr) (f:List UInt8) (q:Nat) (st:SS) (hq:st.mem.get q=some (.cells [.string (mkS f)] 0)) (hlt:q<st.next):∃ n,st.next≤n∧cc 113 [.agg (fB p).toArray,ptr q 0] st=some (.bool (decide (p.fd=f)),st.dw n):=by
 refine ⟨st.next+1,by omega,zvA _ _ st ?_⟩
 have l0:((st.ro st.next).new (.cells (fB p) 0)).ld st.next 0=some (.string (mkS p.fd)):=by
  have hm:((st.ro st.next).new (.cells (fB p) 0)).mem.get st.next=some (.cells (fB p) 0):=SS.fV (st:=st.ro st.next)
  rw [SS.eU hm];rfl
 have l1:((st.ro st.next).new (.cells (fB p) 0)).ld q 0=some (.string (mkS f)):=by
  rw [SS.eU (c:=[.string (mkS f)]) (z:=0) (by rw [SS.nM (by simp;omega)];exact hq)];rfl
 simp only [zvx,lU,SS.fE,l0,bf,fP,fZ,l1,DW]
 rfl
theorem zvC [Sym] (ps:List Pr) (hsz:ps.length≤1099511627776) (f:List UInt8) (q:Nat) (v:Value) (st0:SS) (hv:Rd st0 v (ak fB ps) 5 ps.length) (hq:st0.mem.get q=some (.cells [.string (mkS f)] 0)) (hlt:q<st0.next):
  ∀ (k j:Nat) (st:SS),ps.length=k+j→Ext st0 st→∃ e vs st',Un 2 [v,.func (.func 113) #[] #[ptr q 0],.int .i64 ps.length,.int .i64 j] st=some (e,vs,st')∧Ext st0 st'∧
   ((e=0∧vs=[]∧f∉(ps.drop j).map (·.fd))∨(e=1∧f∈(ps.drop j).map (·.fd)∧∃ m:Nat,vs=[.int .i64 m])):=by
 intro k
 induction k with
 | zero=>
   intro j st hk he
   refine ⟨0,[],st,ziw v q _ _ st ?_,he,.inl ⟨rfl,rfl,?_⟩⟩
   ·have:¬ (j:Int)<(ps.length:Int):=by omega
    simp only [YH,bg this,dn]
   ·rw [List.drop_of_length_le (by omega)];simp
 | succ k ih=>
   intro j st hk he
   obtain ⟨p,hp⟩:∃ p,ps[j]?=some p:=⟨_,mW (by omega)⟩
   have hjl:(j:Int)<(ps.length:Int):=by omega
   obtain ⟨x,b1,b2,_⟩:=(hv.ext he).load (j:=(j:Int)) (by omega) hjl (xw Yp ps j p hp) rfl
   obtain ⟨n,hn,c1⟩:=zvB p f q st (he.get hlt hq) (pz hlt he.next)
   have b2':st.eF x.1 x.2 5=some (.agg (fB p).toArray):=b2
   have hd:=drop_cons hp
   have hw:=ru (i:=j) (by omega)
   by_cases hf:p.fd=f
   ·refine ⟨1,[.int .i64 j],st.dw n,ziw v q _ _ st ?_,he.dw (by have:=he.next;omega),.inr ⟨rfl,?_,j,rfl⟩⟩
    ·rw [zdt hf] at c1
     simp only [YH,zdt hjl,cu,b1,bf,b2',c1,mg]
    ·rw [hd];simp [hf]
   ·obtain ⟨e,vs,st',d1,d2,d3⟩:=ih (j+1) (st.dw n) (by omega) (he.dw (by have:=he.next;omega))
    rw [bg hf] at c1
    refine ⟨e,vs,st',ziw v q _ _ st ?_,d2,?_⟩
    ·simp only [YH,zdt hjl,cu,b1,bf,b2',c1,mg,dn,hw]
     exact d1
    ·rw [hd]
     rcases d3 with ⟨e1,e2,e3⟩ | ⟨e1,e2,e3⟩
     ·exact .inl ⟨e1,e2,by simp only [List.map_cons,List.mem_cons,not_or];exact ⟨fun x=>hf x.symm,e3⟩⟩
     ·exact .inr ⟨e1,by simp only [List.map_cons,List.mem_cons];exact .inr e2,e3⟩
theorem zx4 [Sym] (ps:List Pr) (hsz:ps.length≤1099511627776) (f:List UInt8) (q:Nat) (v:Value) (st:SS) (hv:Rd st v (ak fB ps) 5 ps.length) (hq:st.mem.get q=some (.cells [.string (mkS f)] 0)) (hlt:q<st.next):
  ∃ n,st.next≤n∧cc 112 [v,.func (.func 113) #[] #[ptr q 0]] st=some (.bool (decide (f∈ps.map (·.fd))),st.dw n):=by
 obtain ⟨e,vs,st',d1,d2,d3⟩:=zvC ps hsz f q v ((st.ro st.next).ro (st.ro st.next).next) hv hq hlt ps.length 0 ((st.ro st.next).ro (st.ro st.next).next) (by omega) (.refl _)
 have d1':Un 2 [v,.func (.func 113) #[] #[ptr q 0],.int .i64 ps.length,.int .i64 0] ((st.ro st.next).ro (st.ro st.next).next)=some (e,vs,st'):=d1
 have hlen:(lenV v).bind (ay .i64)=some (ps.length:Int):=by rw [hv.len];rfl
 rw [List.drop_zero] at d3
 have hnx:=d2.next
 simp at hnx
 refine ⟨st'.next,hnx,zsK _ _ st ?_⟩
 rcases d3 with ⟨rfl,rfl,e3⟩ | ⟨rfl,e2,m,rfl⟩
 ·have c:cc 133 [v,.func (.func 113) #[] #[ptr q 0]] (st.ro st.next)=some (.int .i64 (-1),(st.ro st.next).dw st'.next):=by
   refine zps _ _ _ ?_
   have hb0:Nat.beq 0 0=true:=rfl
   simp only [zp5,hlen,bf,d1',hb0,cu]
  have h0:¬ (0:Int)≤ -1:=by omega
  rw [bg e3]
  simp only [zov,c,bf,eP,bg h0]
  rfl
 ·have c:cc 133 [v,.func (.func 113) #[] #[ptr q 0]] (st.ro st.next)=some (.int .i64 m,(st.ro st.next).dw st'.next):=by
   refine zps _ _ _ ?_
   have hb0:Nat.beq 1 0=false:=rfl
   simp only [zp5,hlen,bf,d1',hb0,dn,iZ,eP]
  have h0:(0:Int)≤(m:Int):=by omega
  rw [zdt e2]
  simp only [zov,c,bf,eP,zdt h0]
  rfl
end Go.Proofs.YtifploedaacedaaGreatDoorE
namespace Go.Proofs.YtifploedaacedaaGreatDoorE
open Go Go.E Go.Proofs
theorem rJ.fD {S:List Nat} {st st':SS} {b i B:Nat} {v:Value} {us:List (Nat×Tok)} (h:rJ st b v us i) (k:Keep B S st st') (hB:b<B) (hS:∀ j,j∈S→b<j):rJ st' b v us i:=by
 refine ⟨h.blk.fD k hB (fun hm=>by have:=hS b hm;omega),?_,h.vb,h.sz,k.ll h.ll⟩
 obtain ⟨h1,h2⟩:=h.rd
 refine ⟨h1,h2.imp id ?_⟩
 rintro ⟨j,cap,e,⟨z',hm⟩,hj⟩
 have hjb:=h.vb j 0 _ cap e
 exact ⟨j,cap,e,⟨z',(k.keep j (by omega) (fun hx=>by have:=hS j hx;omega)).trans hm⟩,pz hj k.next⟩
def Xi (B b lb:Nat) (w0 w1 w2 w3 pv v:Value) (us:List (Nat×Tok)) (i:Nat) (ps:List Pr) (st:SS) (r:Option (Value×SS)):Except Nat (Pr×Nat)→Prop
 | .ok (p,n)=>∃ st' pv',r=some (.bool true,st')∧Keep B [b,lb] st st'∧rJ st' b v us (i+n)∧At st' lb [w0,w1,w2,w3,pv']∧Own B st' pv' (ak fB (ps++[p])) 5 (ps++[p]).length
 | .error o=>∃ st',r=some (.bool false,st')∧Keep B [b,lb] st st'∧rJ st' b v us (i+o)∧At st' lb [w0,w1,w2,w3,pv]∧Own B st' pv (ak fB ps) 5 ps.length
theorem zx5 [Sym] {st:SS} {b i ln lb B:Nat} {v w0 w1 w2 w3 pv:Value} {us:List (Nat×Tok)} {l:List Tok} {ps:List Pr} (h:rJ st b v us i) (hl:lC us i ln l)
  (ha:At st lb [w0,w1,w2,w3,pv]) (hbl:b<lb) (hlB:lb<B) (hB:B≤st.next) (hps:ps.length≤1099511627776/8) (ho:Own B st pv (ak fB ps) 5 ps.length):
  Xi B b lb w0 w1 w2 w3 pv v us i ps st (cc 95 [ptr b 0,ptr lb 0] st) (pairT (ps.map (·.fd)) l):=by
 obtain ⟨t,r,rfl⟩:=hl.lin.ne
 have hisz:=lC.sz h hl
 have hb:=h.blk.lt
 have hlim:st.lim≤B:=by have:=ha.2.2;omega
 obtain ⟨n1,hn1,c1⟩:=DU h.has hl.head
 obtain ⟨s4,e4,a4,x4,_⟩:=N7 (st:=st.dw n1) (lT h.ll hn1) (r:=[.string ⟨#[]⟩,.int .i64 0,.string ⟨#[]⟩,.int .i64 0,.int .i64 0]) (row:=fB ⟨[],t.col,⟨[],0,0⟩⟩) rfl rfl
 have x04:Ext st s4:=(Ext.pK st hn1).trans x4
 obtain ⟨n2,hn2,c2⟩:=DU (h.ext x04).has hl.head
 obtain ⟨s8,e8,a8,x8,_⟩:=N7 (st:=s4.dw n2) (lT (x04.ll h.ll) hn2) (r:=[.string ⟨#[]⟩]) (row:=[.string (mkS t.tx)]) rfl rfl
 have x08:Ext st s8:=x04.trans ((Ext.pK s4 hn2).trans x8)
 have a48:=(a4.dw hn2).ext x8
 obtain ⟨n3,hn3,c3⟩:=DU (h.ext x08).has hl.head
 have KD:Ext st (s8.dw n3):=x08.trans (.pK s8 hn3)
 have p3:=h.ext KD
 have la:=ha.ext KD
 have l4:(s8.dw n3).ld lb 4=some pv:=la.ld
 have k0:=(FT (ln:=ln) (t:=t)).1
 have k1:=(FT (ln:=ln) (t:=t)).2.1
 have k4:=(FT (ln:=ln) (t:=t)).2.2.2
 have e4':((st.dw n1).new (.cells [.string ⟨#[]⟩,.int .i64 0,.string ⟨#[]⟩,.int .i64 0,.int .i64 0] 0)).st (st.dw n1).next 0 [.string ⟨#[]⟩,.int .i64 t.col,.string ⟨#[]⟩,.int .i64 0,.int .i64 0]=some s4:=e4
 rw [YI]
 by_cases h1:t.kd=1
 case neg=>
  have h1':¬ (t.kd:Int)=1:=by omega
  rw [if_neg (fun x=>h1 x.1)]
  refine ⟨s8.dw n3,UF _ _ st ?_,KD.fD hB,p3,la,ho.ext KD⟩
  simp only [Si,c1,bf,k4,e4',c2,k1,e8,c3,k0,bg h1',nJ,cu]
 have h1':(t.kd:Int)=1:=by omega
 obtain ⟨m,hm,c5⟩:=zx4 ps (by omega) t.tx (s4.dw n2).next pv (s8.dw n3) (ho.ext KD).rd (a8.dw hn3).mem (a8.dw hn3).lt
 have Ag:Ext st ((s8.dw n3).dw m):=KD.trans (.pK _ hm)
 by_cases hk:t.tx∈ps.map (·.fd)
 ·rw [if_neg (fun x=>x.2 hk)]
  rw [zdt hk] at c5
  refine ⟨(s8.dw n3).dw m,UF _ _ st ?_,Ag.fD hB,h.ext Ag,ha.ext Ag,ho.ext Ag⟩
  simp only [Si,c1,bf,k4,e4',c2,k1,e8,c3,k0,zdt h1',lY,dn,DZ,fZ,Nat.zero_add,l4,c5,mg,cu]
 rw [if_pos ⟨h1,hk⟩]
 rw [bg hk] at c5
 have hl1:=hl.tail (by omega)
 obtain ⟨e,u,rfl⟩:=hl1.lin.ne
 have q8:=(a8.dw hn3).dw hm
 have Fg:((s8.dw n3).dw m).ld (s4.dw n2).next 0=some (.string (mkS t.tx)):=q8.ld
 obtain ⟨oZ,e17,a17,m17,_⟩:=((a48.dw hn3).dw hm).pU (k:=0) (vs:=[.string (mkS t.tx)]) (row':=fB ⟨t.tx,t.col,⟨[],0,0⟩⟩) rfl rfl
 have hj1:B≤(st.dw n1).next:=lT hB hn1
 have GU:=(h.ext Ag).oq m17 (by omega)
 have IK:=(ha.ext Ag).mod m17 (by simp;omega)
 have o17:=(ho.ext Ag)
 have NJ:Keep B [b,lb] st oZ:=(Ag.fD hB).gq m17 (lT hB Ag.next) (.inl hj1)
 have o17:Own B oZ pv (ak fB ps) 5 ps.length:=by
  refine (ho.ext Ag).mod m17 (fun j k l' q hv hm'=>?_)
  have hj:j=(st.dw n1).next:=by simpa using hm'
  obtain ⟨_,⟨ev,_⟩ | ⟨i',ev,_,_,_,hi'⟩⟩:=ho
  ·rw [ev] at hv;cases hv
  ·rw [ev] at hv;cases hv
   have:st.next≤(st.dw n1).next:=hn1
   omega
 have l17:oZ.ld b 1=some (.int .i64 i):=GU.blk.ld
 obtain ⟨s24,e24,p24,m24,_⟩:=GU.move (i+1)
 have la24:=IK.mod m24 (by simp;omega)
 have a24:=a17.mod m24 (by simp;omega)
 have II:B≤oZ.next:=lT hB NJ.next
 have K24:=NJ.gq m24 II (.inr (by simp))
 have o24:=o17.lq m24 (by simp;omega)
 have hw:=ru hisz
 obtain ⟨Ap,c25,Bf,p25⟩:=Yn p24 hl1.head [61]
 have Jm:cc 92 [ptr b 0,.string ⟨#[61]⟩] s24=some (.bool (oz e [61]),Ap):=c25
 have Qb:=la24.mod Bf (by simp;omega)
 have a25:=a24.mod Bf (by simp;omega)
 have nx24:B≤s24.next:=lT hB K24.next
 have QX:=K24.gq Bf nx24 (.inr (by simp))
 have o25:=o24.lq Bf (by simp;omega)
 simp only
 by_cases he:oz e [61]=true
 case neg=>
  have he':oz e [61]=false:=Bool.eq_false_iff.2 he
  rw [he'] at Jm
  rw [if_neg he] at p25
  rw [if_neg he]
  refine ⟨Ap,UF _ _ st ?_,QX,p25,Qb,o25⟩
  simp only [Si,c1,bf,k4,e4',c2,k1,e8,c3,k0,zdt h1',lY,dn,DZ,fZ,Nat.zero_add,l4,c5,mg,Fg,fP,e17,l17,eP,hw,e24,Jm,nJ,cu]
 rw [he] at Jm
 rw [if_pos he] at p25
 rw [if_pos he]
 have hl2:=hl1.tail (by have:=EY he;omega)
 have PX:B≤Ap.next:=lT hB QX.next
 have hval:=zr2 p25 hl2
 cases hx:DR u with
 | error o=>
   rw [hx] at hval
   obtain ⟨w,BF,c27,Fb,p27⟩:=hval
   have Qa:=Qb.mod Fb (by simp;omega)
   have a27:=a25.mod Fb (by simp;omega)
   have LQ:=QX.gq Fb PX (.inr (by simp))
   have o27:=o25.lq Fb (by simp;omega)
   obtain ⟨Dv,e30,a30,Ey,_⟩:=a27.eH (k:=2) (n:=3) (lU (au w)) rfl rfl (row':=fB ⟨t.tx,t.col,w⟩) rfl
   have KT:=Qa.mod Ey (by simp;omega)
   have PW:B≤BF.next:=lT hB LQ.next
   have Xn:=LQ.gq Ey PW (.inl hj1)
   have p30:=p27.oq Ey (by omega)
   have o30:Own B Dv pv (ak fB ps) 5 ps.length:=by
    refine o27.mod Ey (fun j k l' q hv hm'=>?_)
    have hj:j=(st.dw n1).next:=by simpa using hm'
    obtain ⟨_,⟨ev,_⟩ | ⟨i',ev,_,_,_,hi'⟩⟩:=ho
    ·rw [ev] at hv;cases hv
    ·rw [ev] at hv;cases hv
     have:st.next≤(st.dw n1).next:=hn1
     omega
   refine ⟨Dv,UF _ _ st ?_,Xn,by have e':i+1+1+o=i+(2+o):=by omega
                                 rw [← e'];exact p30,KT,o30⟩
   simp only [Si,c1,bf,k4,e4',c2,k1,e8,c3,k0,zdt h1',lY,dn,DZ,fZ,Nat.zero_add,l4,c5,mg,Fg,fP,e17,l17,eP,hw,e24,Jm,c27,fM,List.getElem?_toArray,lN,iZ,e30,nJ,cu]
 | ok y=>
   obtain ⟨x,n⟩:=y
   rw [hx] at hval
   obtain ⟨BF,c27,Fb,p27⟩:=hval
   have Qa:=Qb.mod Fb (by simp;omega)
   have a27:=a25.mod Fb (by simp;omega)
   have LQ:=QX.gq Fb PX (.inr (by simp))
   have o27:=o25.lq Fb (by simp;omega)
   obtain ⟨Dv,e30,a30,Ey,_⟩:=a27.eH (k:=2) (n:=3) (lU (au x)) rfl rfl (row':=fB ⟨t.tx,t.col,x⟩) rfl
   have KT:=Qa.mod Ey (by simp;omega)
   have PW:B≤BF.next:=lT hB LQ.next
   have Xn:=LQ.gq Ey PW (.inl hj1)
   have p30:=p27.oq Ey (by omega)
   have o30:Own B Dv pv (ak fB ps) 5 ps.length:=by
    refine o27.mod Ey (fun j k l' q hv hm'=>?_)
    have hj:j=(st.dw n1).next:=by simpa using hm'
    obtain ⟨_,⟨ev,_⟩ | ⟨i',ev,_,_,_,hi'⟩⟩:=ho
    ·rw [ev] at hv;cases hv
    ·rw [ev] at hv;cases hv
     have:st.next≤(st.dw n1).next:=hn1
     omega
   have IQ:Dv.ld lb 4=some pv:=KT.ld
   have Nh:Dv.eF (st.dw n1).next 0 5=some (.agg (fB ⟨t.tx,t.col,x⟩).toArray):=a30.eF rfl
   have hc35:nX (.agg (fB ⟨t.tx,t.col,x⟩).toArray) 5=some (fB ⟨t.tx,t.col,x⟩):=YJ rfl
   have nx30:B≤Dv.next:=lT hB Xn.next
   obtain ⟨pv',Zu,g1,g2,g3⟩:=o30.Fa nx30 (by rw [Xn.lim];exact hlim) (row:=fB ⟨t.tx,t.col,x⟩) rfl (by omega) rfl (bt:=56) (by omega) (by omega)
   have la37:=KT.fD (g3 []) hlB (by simp)
   have p37:=p30.fD (g3 []) (by omega) (by simp)
   have K37:=Xn.then (g3 _)
   obtain ⟨Pn,e40,a40,VO,_⟩:=la37.eH (k:=4) (n:=1) g2.cell.1 rfl (by simp [g2.cell.2]) (row':=[w0,w1,w2,w3,pv']) rfl
   have nx37:B≤Zu.next:=lT hB K37.next
   have K40:=K37.gq VO nx37 (.inr (by simp))
   have p40:=p37.oq VO hbl
   have o40:=g2.lq VO (by simp;omega)
   refine ⟨Pn,pv',UF _ _ st ?_,K40,by have e':i+1+1+n=i+(2+n):=by omega
                                      rw [← e'];exact p40,a40,?_⟩
   ·simp only [Si,c1,bf,k4,e4',c2,k1,e8,c3,k0,zdt h1',lY,dn,DZ,fZ,Nat.zero_add,l4,c5,mg,Fg,fP,e17,l17,eP,hw,e24,Jm,c27,fM,List.getElem?_toArray,lN,iZ,e30,IQ,Nh,hc35,List.append_nil,g1,e40]
   ·rw [FX,FV,List.length_append];exact o40
end Go.Proofs.YtifploedaacedaaGreatDoorE
namespace Go.Proofs.YtifploedaacedaaGreatDoorE
open Go Go.E Go.Proofs
theorem lC.go {us:List (Nat×Tok)} {i ln n:Nat} {l:List Tok} (h:lC us i ln l) (hn:zi (l.drop n)):lC us (i+n) ln (l.drop n):=by
 have hlt:n<l.length:=by
  obtain ⟨t,r,e⟩:=hn.ne
  have:=congrArg List.length e
  simp at this
  omega
 refine ⟨?_,hn,fun t ht=>h.ok t (List.mem_of_mem_drop ht)⟩
 obtain ⟨rest,hr⟩:=h.drop
 refine ⟨rest,?_⟩
 rw [← List.drop_drop,hr,List.drop_append_of_le_length (by simp;omega),List.map_drop]
theorem TS {S:List Nat} {B:Nat} {st st':SS} {pv:Value} {c:List Value} {z n j:Nat} (ho:Own B st pv c z n) (m:Mod [j] st st') (hj:j<B∨st.next≤j):Own B st' pv c z n:=by
 refine ho.mod m (fun k k' l' q hv hm'=>?_)
 have hk:k=j:=by simpa using hm'
 obtain ⟨_,⟨ev,_⟩ | ⟨i',ev,_,_,hbi,hi'⟩⟩:=ho
 ·rw [ev] at hv;cases hv
 ·rw [ev] at hv;cases hv;omega
def zr3 (B b lb j2:Nat) (w0 w1 w2 w3 v:Value) (us:List (Nat×Tok)) (i e:Nat) (ps:List Pr) (st:SS) (r:Option (Nat×List Value×SS)):Except Nat (List Pr)→Prop
 | .ok qs=>∃ st' pv',r=some (0,[ptr j2 0,ptr lb 0],st')∧Keep B [b,lb] st st'∧rJ st' b v us e∧At st' lb [w0,w1,w2,w3,pv']∧Own B st' pv' (ak fB (ps++qs)) 5 (ps++qs).length
 | .error o=>∃ st' row,r=some (1,[ptr j2 0,.bool false],st')∧Keep B [b,lb,j2] st st'∧rJ st' b v us (i+o)∧At st' j2 row∧row.length=5∧row.all one=true
theorem zuh [Sym] {ln lb B b j2:Nat} {v w0 w1 w2 w3:Value} {us:List (Nat×Tok)} (hbj:b<j2) (hjl:j2<lb) (hlB:lb<B) (hw:one w0=true∧one w1=true∧one w2=true∧one w3=true):∀ (k i:Nat) (l:List Tok) (ps:List Pr) (pv:Value) (st:SS),l.length≤k→ps.length+k≤1099511627776/8→rJ st b v us i→lC us i ln l→
  At st lb [w0,w1,w2,w3,pv]→(∃ r2,At st j2 r2∧r2.length=5)→B≤st.next→Own B st pv (ak fB ps) 5 ps.length→
  zr3 B b lb j2 w0 w1 w2 w3 v us i (i+(l.length-1)) ps st (EZ 17 [ptr b 0,ptr j2 0,ptr lb 0] st) (xJ k (ps.map (·.fd)) l):=by
 intro k
 induction k with
 | zero=>
   intro i l ps pv st hk _ h hl
   obtain ⟨t,r,rfl⟩:=hl.lin.ne
   simp at hk
 | succ k ih=>
   intro i l ps pv st hk hps h hl ha hj2 hB ho
   obtain ⟨t,r,rfl⟩:=hl.lin.ne
   obtain ⟨n1,hn1,c1⟩:=DU h.has hl.head
   have k0:=(FT (ln:=ln) (t:=t)).1
   have x1:Ext st (st.dw n1):=.pK st hn1
   unfold xJ
   by_cases h0:t.kd=0
   ·rw [if_pos h0]
    have hr:=hl.lin.last h0
    subst hr
    have h0':(t.kd:Int)=0:=by omega
    refine ⟨st.dw n1,pv,zdx _ _ _ st ?_,x1.fD hB,by simpa using h.ext x1,ha.ext x1,by simpa using ho.ext x1⟩
    simp only [Zk,c1,bf,k0,zdt h0',lY,dn]
   ·rw [if_neg h0]
    have h0':¬ (t.kd:Int)=0:=by omega
    have hp:=zx5 (h.ext x1) hl (ha.ext x1) (by omega) hlB (lT hB hn1) (by omega) (ho.ext x1)
    have hlin:=Yq (seen:=ps.map (·.fd)) hl.lin
    cases hx:pairT (ps.map (·.fd)) (t::r) with
    | error o=>
      rw [hx] at hp
      obtain ⟨s3,c3,K3,p3,a3,o3⟩:=hp
      have NI:Keep B [b,lb] st s3:=(x1.fD hB).then K3
      obtain ⟨r2,a2,l2⟩:=hj2
      have a23:=a2.fD NI (by omega) (by simp;omega)
      obtain ⟨s8,f1,f2,f3,f4,f5⟩:=vT (n:=5) a23 l2 a3 rfl (by simp [hw,o3.cell.2])
      have VF:B≤s3.next:=lT hB NI.next
      refine ⟨s8,[w0,w1,w2,w3,pv],zdx _ _ _ st ?_,(NI.mono (fF _) (fun j hj _=>by simp at hj ⊢;omega)).gq f4 VF (.inr (by simp)),p3.oq f4 hbj,f5,rfl,by simp [hw,o3.cell.2]⟩
      simp only [Zk,c1,bf,k0,bg h0',nJ,cu,c3,mg,fZ,f1,f2]
    | ok y=>
      obtain ⟨p,n⟩:=y
      rw [hx] at hp hlin
      obtain ⟨s3,pv',c3,K3,p3,a3,o3⟩:=hp
      simp only at hlin
      have NI:Keep B [b,lb] st s3:=(x1.fD hB).then K3
      have hnl:n<(t::r).length:=by
       obtain ⟨t',r',e⟩:=hlin.1.ne
       have:=congrArg List.length e
       simp at this ⊢
       omega
      have Az:∃ r2,At s3 j2 r2∧r2.length=5:=by
       obtain ⟨r2,a2,l2⟩:=hj2
       exact ⟨r2,a2.fD NI (by omega) (by simp;omega),l2⟩
      have next:=ih (i+n) ((t::r).drop n) (ps++[p]) pv' s3 (by rw [List.length_drop];omega) (by simp;omega) p3 (hl.go hlin.1) a3 Az (lT hB NI.next) o3
      have hend:i+n+(((t::r).drop n).length-1)=i+((t::r).length-1):=by rw [List.length_drop];omega
      rw [hend,List.map_append] at next
      have step:∀ y,EZ 17 [ptr b 0,ptr j2 0,ptr lb 0] s3=some y→EZ 17 [ptr b 0,ptr j2 0,ptr lb 0] st=some y:=fun y hy=>by
       refine zdx _ _ _ st ?_
       simp only [Zk,c1,bf,k0,bg h0',nJ,cu,c3,mg,lY,dn]
       exact hy
      simp only
      have next':zr3 B b lb j2 w0 w1 w2 w3 v us (i+n) (i+((t::r).length-1)) (ps++[p]) s3 (EZ 17 [ptr b 0,ptr j2 0,ptr lb 0] s3) (xJ k (ps.map (·.fd)++[p.fd]) ((t::r).drop n)):=next
      cases hz:xJ k (ps.map (·.fd)++[p.fd]) ((t::r).drop n) with
      | error o=>
        rw [hz] at next'
        obtain ⟨st',row,d1,d2,d3,d4,d5,d6⟩:=next'
        exact ⟨st',row,step _ d1,(NI.mono (fF _) (fun j hj _=>by simp at hj ⊢;omega)).then d2,by rw [Nat.add_assoc] at d3;exact d3,d4,d5,d6⟩
      | ok qs=>
        rw [hz] at next'
        obtain ⟨st',PG,d1,d2,d3,d4,d5⟩:=next'
        exact ⟨st',PG,step _ d1,NI.then d2,d3,d4,by simpa using d5⟩
def Xq (B b lb j2:Nat) (w0 w1 w2 w4 v:Value) (us:List (Nat×Tok)) (i e:Nat) (vs:List Val) (st:SS) (r:Option (Nat×List Value×SS)):Except Nat (List Val)→Prop
 | .ok qs=>∃ st' DK,r=some (0,[ptr j2 0,ptr lb 0],st')∧Keep B [b,lb] st st'∧rJ st' b v us e∧At st' lb [w0,w1,w2,DK,w4]∧Own B st' DK (ak au (vs++qs)) 3 (vs++qs).length
 | .error o=>∃ st' row,r=some (1,[ptr j2 0,.bool false],st')∧Keep B [b,lb,j2] st st'∧rJ st' b v us (i+o)∧At st' j2 row∧row.length=5∧row.all one=true
theorem zvD [Sym] {ln lb B b j2:Nat} {v w0 w1 w2 w4:Value} {us:List (Nat×Tok)} (hbj:b<j2) (hjl:j2<lb) (hlB:lb<B) (hw:one w0=true∧one w1=true∧one w2=true∧one w4=true):∀ (k i:Nat) (l:List Tok) (vs:List Val) (av:Value) (st:SS),l.length≤k→vs.length+k≤1099511627776/8→rJ st b v us i→lC us i ln l→
  At st lb [w0,w1,w2,av,w4]→(∃ r2,At st j2 r2∧r2.length=5)→B≤st.next→Own B st av (ak au vs) 3 vs.length→
  Xq B b lb j2 w0 w1 w2 w4 v us i (i+(l.length-1)) vs st (EZ 11 [ptr b 0,ptr j2 0,ptr lb 0] st) (BP k l):=by
 intro k
 induction k with
 | zero=>
   intro i l vs av st hk _ h hl
   obtain ⟨t,r,rfl⟩:=hl.lin.ne
   simp at hk
 | succ k ih=>
   intro i l vs av st hk hvs h hl ha hj2 hB ho
   obtain ⟨t,r,rfl⟩:=hl.lin.ne
   obtain ⟨n1,hn1,c1⟩:=DU h.has hl.head
   have k0:=(FT (ln:=ln) (t:=t)).1
   have x1:Ext st (st.dw n1):=.pK st hn1
   have hlim:st.lim≤B:=by have:=ha.2.2;omega
   unfold BP
   by_cases h0:t.kd=0
   ·rw [if_pos h0]
    have hr:=hl.lin.last h0
    subst hr
    have h0':(t.kd:Int)=0:=by omega
    refine ⟨st.dw n1,av,zdw _ _ _ st ?_,x1.fD hB,by simpa using h.ext x1,ha.ext x1,by simpa using ho.ext x1⟩
    simp only [Zl,c1,bf,k0,zdt h0',lY,dn]
   ·rw [if_neg h0]
    have h0':¬ (t.kd:Int)=0:=by omega
    have hp:=zr2 (h.ext x1) hl
    have hlin:=Yr hl.lin
    have nx1:B≤(st.dw n1).next:=lT hB hn1
    cases hx:DR (t::r) with
    | error o=>
      rw [hx] at hp
      obtain ⟨w,s3,c3,m3,p3⟩:=hp
      have K3:Keep B [b,lb] st s3:=(x1.fD hB).gq m3 nx1 (.inr (by simp))
      have VF:B≤s3.next:=lT hB K3.next
      obtain ⟨s7,e7,a7,x7,_⟩:=pX (st:=s3) p3.ll (r:=Z3) (lU (au w)) (n:=3) rfl rfl rfl
      have K7:=K3.Bv x7 VF
      have VE:B≤s7.next:=lT hB K7.next
      obtain ⟨r2,a2,l2⟩:=hj2
      have a27:=a2.fD K7 (by omega) (by simp;omega)
      have KR:At s7 lb [w0,w1,w2,av,w4]:=(((ha.ext x1).mod m3 (by simp;omega))).ext x7
      have o7:=((ho.ext x1).lq m3 (by simp;omega)).ext x7
      obtain ⟨s8,f1,f2,f3,f4,f5⟩:=vT (n:=5) a27 l2 KR rfl (by simp [hw,o7.cell.2])
      refine ⟨s8,[w0,w1,w2,av,w4],zdw _ _ _ st ?_,(K7.mono (fF _) (fun j hj _=>by simp at hj ⊢;omega)).gq f4 VE (.inr (by simp)),(p3.ext x7).oq f4 hbj,f5,rfl,by simp [hw,o7.cell.2]⟩
      simp only [Zl,c1,bf,k0,bg h0',nJ,cu,c3,fM,List.getElem?_toArray,lN,iZ,mg,e7,fZ,f1,f2]
    | ok y=>
      obtain ⟨x,n⟩:=y
      rw [hx] at hp hlin
      obtain ⟨s3,c3,m3,p3⟩:=hp
      simp only at hlin
      have K3:Keep B [b,lb] st s3:=(x1.fD hB).gq m3 nx1 (.inr (by simp))
      have VF:B≤s3.next:=lT hB K3.next
      obtain ⟨s7,e7,a7,x7,_⟩:=pX (st:=s3) p3.ll (r:=Z3) (lU (au x)) (n:=3) rfl rfl rfl
      have K7:=K3.Bv x7 VF
      have VE:B≤s7.next:=lT hB K7.next
      have KR:At s7 lb [w0,w1,w2,av,w4]:=(((ha.ext x1).mod m3 (by simp;omega))).ext x7
      have o7:=((ho.ext x1).lq m3 (by simp;omega)).ext x7
      have A8:s7.ld lb 3=some av:=KR.ld
      have xC:s7.eF s3.next 0 3=some (.agg (au x).toArray):=a7.eF rfl
      have Qw:nX (.agg (au x).toArray) 3=some (au x):=YJ rfl
      obtain ⟨DK,oZ,g1,g2,g3⟩:=o7.Fa VE (by rw [K7.lim];exact hlim) (row:=au x) rfl (by omega) rfl (bt:=32) (by omega) (by omega)
      have IK:=KR.fD (g3 []) hlB (by simp)
      have GU:=(p3.ext x7).fD (g3 []) (by omega) (by simp)
      have NJ:=K7.then (g3 _)
      obtain ⟨GN,e19,Xb,m19,_⟩:=IK.eH (k:=3) (n:=1) g2.cell.1 rfl (by simp [g2.cell.2]) (row':=[w0,w1,w2,DK,w4]) rfl
      have II:B≤oZ.next:=lT hB NJ.next
      have JM:=NJ.gq m19 II (.inr (by simp))
      have p19:=GU.oq m19 (by omega)
      have o19:=g2.lq m19 (by simp;omega)
      have PU:Own B GN DK (ak au (vs++[x])) 3 (vs++[x]).length:=by rw [FX,FV,List.length_append];exact o19
      have hnl:n<(t::r).length:=by
       obtain ⟨t',r',e⟩:=hlin.1.ne
       have:=congrArg List.length e
       simp at this ⊢
       omega
      have Az:∃ r2,At GN j2 r2∧r2.length=5:=by
       obtain ⟨r2,a2,l2⟩:=hj2
       exact ⟨r2,a2.fD JM (by omega) (by simp;omega),l2⟩
      have next:=ih (i+n) ((t::r).drop n) (vs++[x]) DK GN (by rw [List.length_drop];omega) (by simp;omega) p19 (hl.go hlin.1) Xb Az (lT hB JM.next) PU
      have hend:i+n+(((t::r).drop n).length-1)=i+((t::r).length-1):=by rw [List.length_drop];omega
      rw [hend] at next
      have step:∀ y,EZ 11 [ptr b 0,ptr j2 0,ptr lb 0] GN=some y→EZ 11 [ptr b 0,ptr j2 0,ptr lb 0] st=some y:=fun y hy=>by
       refine zdw _ _ _ st ?_
       simp only [Zl,c1,bf,k0,bg h0',nJ,cu,c3,fM,List.getElem?_toArray,lN,iZ,mg,lY,dn,e7,fZ,A8,xC,Qw,List.append_nil,g1,e19]
       exact hy
      simp only
      cases hz:BP k ((t::r).drop n) with
      | error o=>
        rw [hz] at next
        obtain ⟨st',row,d1,d2,d3,d4,d5,d6⟩:=next
        exact ⟨st',row,step _ d1,(JM.mono (fF _) (fun j hj _=>by simp at hj ⊢;omega)).then d2,by rw [Nat.add_assoc] at d3;exact d3,d4,d5,d6⟩
      | ok qs=>
        rw [hz] at next
        obtain ⟨st',PG,d1,d2,d3,d4,d5⟩:=next
        exact ⟨st',PG,step _ d1,JM.then d2,d3,d4,by simpa using d5⟩
noncomputable def RD (cf:fQ) (lf:eX) (p':Value) (j2 lb:Nat) (s:SS):Option (Value×SS):=
 (cf 92 [p',.string ⟨#[46]⟩] s).bind fun a=>
  ((some a.1).bind lF).bind fun b=>
  cond b (
   (cf 93 [p'] a.2).bind fun c=>
   ((fM c.1 0).bind asS).bind fun d=>
   ((fM c.1 1).bind lF).bind fun e=>
   (c.2.st lb 2 [.string d]).bind fun f=>
   cond (!e) (
    (f.eF lb 0 5).bind fun g=>
    (f.eH j2 0 5 g).bind fun h=>
    (h.fH j2 0 5).bind fun i=>
    some (.tuple #[i,.bool false],h)) (
    (lf 11 [p',ptr j2 0,ptr lb 0] f).bind fun j=>
    cond (Nat.beq j.1 0) (
     (j.2.1[0]?).bind fun k=>
     (j.2.1[1]?).bind fun l=>
     (aj l).bind fun m=>
     (j.2.2.eF m.1 m.2 5).bind fun n=>
     (aj k).bind fun o=>
     (j.2.2.eH o.1 o.2 5 n).bind fun p=>
     (aj k).bind fun q=>
     (p.fH q.1 q.2 5).bind fun r=>
     some (.tuple #[r,.bool true],p)) (
     (j.2.1[0]?).bind fun t=>
     ((j.2.1[1]?).bind lF).bind fun u=>
     (aj t).bind fun v=>
     (j.2.2.fH v.1 v.2 5).bind fun w=>
     some (.tuple #[w,.bool u],j.2.2)))) (
   (lf 17 [p',ptr j2 0,ptr lb 0] a.2).bind fun x=>
   cond (Nat.beq x.1 0) (
    (x.2.1[0]?).bind fun y=>
    (x.2.1[1]?).bind fun z=>
    (aj z).bind fun A=>
    (x.2.2.eF A.1 A.2 5).bind fun B=>
    (aj y).bind fun C=>
    (x.2.2.eH C.1 C.2 5 B).bind fun D=>
    (aj y).bind fun E=>
    (D.fH E.1 E.2 5).bind fun F=>
    some (.tuple #[F,.bool true],D)) (
    (x.2.1[0]?).bind fun G=>
    ((x.2.1[1]?).bind lF).bind fun H=>
    (aj G).bind fun I=>
    (x.2.2.fH I.1 I.2 5).bind fun J=>
    some (.tuple #[J,.bool H],x.2.2)))
def XQ (ln:Nat) (x:fU) (av pv:Value):Value:=.agg #[.int .i64 ln,.string (mkS x.lab),.string (mkS x.dir),av,pv]
def G8 (B b:Nat) (v:Value) (us:List (Nat×Tok)) (i e ln:Nat) (st:SS) (r:Option (Value×SS)):Except Nat fU→Prop
 | .ok x=>∃ st' av pv,r=some (.tuple #[XQ ln x av pv,.bool true],st')∧Keep B [b] st st'∧rJ st' b v us e∧Own B st' av (ak au x.args) 3 x.args.length∧Own B st' pv (ak fB x.fC) 5 x.fC.length
 | .error o=>∃ (st':SS) (row:List Value),r=some (.tuple #[.agg row.toArray,.bool false],st')∧Keep B [b] st st'∧rJ st' b v us (i+o)∧row.length=5∧row.all one=true
theorem ztn [Sym] {ln lb b j2 i B:Nat} {v:Value} {us:List (Nat×Tok)} {l:List Tok} {lab:List UInt8} {s:SS} (SX:B≤j2) (hbB:b<B) (hjl:j2<lb) (hls:lb<s.next) (hsz:l.length≤1099511627776/8) (h:rJ s b v us i) (hl:lC us i ln l)
  (ha:At s lb [.int .i64 ln,.string (mkS lab),.string ⟨#[]⟩,.slice none 0 0,.slice none 0 0]) (hj2:∃ r2,At s j2 r2∧r2.length=5):
  G8 B b v us i (i+(l.length-1)) ln s (RD cc EZ (ptr b 0) j2 lb s) (Bl lab l):=by
 obtain ⟨t,r,rfl⟩:=hl.lin.ne
 have hb0:Nat.beq 0 0=true:=rfl
 have hb1:Nat.beq 1 0=false:=rfl
 have hBs:B≤s.next:=by omega
 have hbj:b<j2:=by omega
 obtain ⟨s23,c23,m23,Zx⟩:=Yn h hl.head [46]
 have rF:cc 92 [ptr b 0,.string ⟨#[46]⟩] s=some (.bool (oz t [46]),s23):=c23
 have a23:=ha.mod m23 (by simp;omega)
 have Az:∃ r2,At s23 j2 r2∧r2.length=5:=by obtain ⟨r2,a,l2⟩:=hj2;exact ⟨r2,a.mod m23 (by simp;omega),l2⟩
 have K23:Keep B [b] s s23:=m23.fD hBs
 have nx23:=m23.next
 rw [OA]
 by_cases hs:oz t [46]=true
 ·rw [hs] at rF
  rw [if_pos hs] at Zx
  rw [if_pos hs]
  have hl1:=hl.tail (by have:=EY hs;omega)
  obtain ⟨d,u,rfl⟩:=hl1.lin.ne
  obtain ⟨Ap,c25,Bf,p25⟩:=ztl Zx hl1.head
  have a25:=a23.mod Bf (by simp;omega)
  have Wx:∃ r2,At Ap j2 r2∧r2.length=5:=by obtain ⟨r2,a,l2⟩:=Az;exact ⟨r2,a.mod Bf (by simp;omega),l2⟩
  have QX:=K23.Vf Bf (by omega)
  have PX:=Bf.next
  simp only
  by_cases hd:d.kd=1
  ·rw [if_pos hd,zdt hd] at c25
   rw [if_pos hd] at p25
   rw [if_pos hd]
   have hl2:=hl1.tail (by omega)
   obtain ⟨Iu,e28,a28,GY,n28⟩:=a25.pU (k:=2) (vs:=[.string (mkS d.tx)]) (row':=[.int .i64 ln,.string (mkS lab),.string (mkS d.tx),.slice none 0 0,.slice none 0 0]) rfl rfl
   have I9:∃ r2,At Iu j2 r2∧r2.length=5:=by obtain ⟨r2,a,l2⟩:=Wx;exact ⟨r2,a.mod GY (by simp;omega),l2⟩
   have p28:=p25.oq GY (by omega)
   have QW:=QX.gq GY (by omega) (.inl (by omega))
   have hloop:=zvD (B:=Iu.next) hbj hjl (by omega) ⟨rfl,rfl,rfl,rfl⟩ u.length (i+1+1) u [] (.slice none 0 0) Iu (fF _) (by simp at hsz ⊢;omega) p28 hl2 a28 I9 (fF _) (Own.nil _ _ _)
   cases hx:BP u.length u with
   | error o=>
     rw [hx] at hloop
     obtain ⟨Ac,row,d1,d2,d3,d4,d5,d6⟩:=hloop
     have hr:=d4.fH d5
     refine ⟨Ac,row,?_,(QW.then (d2.mono (by omega) (fun j hj hlt=>by simp at hj ⊢;omega))),(by rw [show i+(2+o)=i+1+1+o by omega];exact d3),d5,d6⟩
     simp only [RD,rF,bf,mg,cu,c25,fM,List.getElem?_toArray,lN,iZ,fP,e28,lY,dn,d1,hb1,fZ,hr]
   | ok vs=>
     rw [hx] at hloop
     obtain ⟨Ac,DK,d1,d2,d3,d4,d5⟩:=hloop
     obtain ⟨r2,a2,l2⟩:=I9
     have a232:=a2.fD d2 (by have:=a28.lt;omega) (by simp;omega)
     obtain ⟨Ir,f1,f2,f3,f4,f5⟩:=vT (n:=5) a232 l2 d4 rfl (by simp only [List.all_cons,List.all_nil,d5.cell.2];rfl)
     have QV:Keep B [b] s Ac:=QW.then (d2.mono (by omega) (fun j hj hlt=>by simp at hj ⊢;omega))
     have PV:=d2.next
     refine ⟨Ir,DK,.slice none 0 0,?_,QV.gq f4 (by omega) (.inl SX),?_,((TS (S:=[]) d5 f4 (.inl (by have:=a28.lt;omega))).low (by omega)),Own.nil _ _ _⟩
     ·simp only [RD,rF,bf,mg,cu,c25,fM,List.getElem?_toArray,lN,iZ,fP,e28,lY,dn,d1,hb0,fZ,f1,f2,f3]
      rfl
     ·have e':i+1+1+(u.length-1)=i+((t::d::u).length-1):=by
       obtain ⟨z1,z2,rfl⟩:=hl2.lin.ne
       simp;omega
      rw [← e'];exact d3.oq f4 hbj
  ·rw [if_neg hd,bg hd] at c25
   rw [if_neg hd] at p25
   rw [if_neg hd]
   obtain ⟨Iu,e28,a28,GY,n28⟩:=a25.pU (k:=2) (vs:=[.string (mkS [])]) (row':=[.int .i64 ln,.string (mkS lab),.string (mkS []),.slice none 0 0,.slice none 0 0]) rfl rfl
   obtain ⟨r2,a2,l2⟩:=Wx
   have a228:=a2.mod GY (by simp;omega)
   obtain ⟨Dv,f1,f2,f3,f4,f5⟩:=vT (n:=5) a228 l2 a28 rfl rfl
   have QW:=QX.gq GY (by omega) (.inl (by omega))
   refine ⟨Dv,[.int .i64 ln,.string (mkS lab),.string (mkS []),.slice none 0 0,.slice none 0 0],?_,QW.gq f4 (by omega) (.inl SX),(p25.oq GY (by omega)).oq f4 hbj,rfl,rfl⟩
   simp only [RD,rF,bf,mg,cu,c25,fM,List.getElem?_toArray,lN,iZ,fP,e28,nJ,f1,f2,f3]
 ·have hs':oz t [46]=false:=Bool.eq_false_iff.2 hs
  rw [hs'] at rF
  rw [if_neg hs] at Zx
  rw [if_neg hs]
  have hloop:=zuh (B:=s23.next) hbj hjl (by omega) ⟨rfl,rfl,rfl,rfl⟩ (t::r).length i (t::r) [] (.slice none 0 0) s23 (fF _) (by simp at hsz ⊢;omega) Zx hl a23 Az (fF _) (Own.nil _ _ _)
  have oH:zr3 s23.next b lb j2 (.int .i64 ln) (.string (mkS lab)) (.string ⟨#[]⟩) (.slice none 0 0) v us i (i+((t::r).length-1)) [] s23 (EZ 17 [ptr b 0,ptr j2 0,ptr lb 0] s23) (xJ (t::r).length [] (t::r)):=hloop
  cases hx:xJ (t::r).length [] (t::r) with
  | error o=>
    rw [hx] at oH
    obtain ⟨Ac,row,d1,d2,d3,d4,d5,d6⟩:=oH
    have hr:=d4.fH d5
    refine ⟨Ac,row,?_,(K23.then (d2.mono (by omega) (fun j hj hlt=>by simp at hj ⊢;omega))),d3,d5,d6⟩
    simp only [RD,rF,bf,mg,dn,d1,hb1,fZ,hr,lN,iZ]
  | ok ps=>
    rw [hx] at oH
    obtain ⟨Ac,pv',d1,d2,d3,d4,d5⟩:=oH
    obtain ⟨r2,a2,l2⟩:=Az
    have a232:=a2.fD d2 (by have:=a23.lt;omega) (by simp;omega)
    obtain ⟨Ir,f1,f2,f3,f4,f5⟩:=vT (n:=5) a232 l2 d4 rfl (by simp only [List.all_cons,List.all_nil,d5.cell.2];rfl)
    have QV:Keep B [b] s Ac:=K23.then (d2.mono (by omega) (fun j hj hlt=>by simp at hj ⊢;omega))
    have PV:=d2.next
    refine ⟨Ir,.slice none 0 0,pv',?_,QV.gq f4 (by omega) (.inl SX),d3.oq f4 hbj,Own.nil _ _ _,((TS (S:=[]) d5 f4 (.inl (by have:=a23.lt;omega))).low (by omega))⟩
    simp only [RD,rF,bf,mg,dn,d1,hb0,cu,fZ,f1,f2,f3,lN,iZ]
    rfl
end Go.Proofs.YtifploedaacedaaGreatDoorE
namespace Go.Proofs.YtifploedaacedaaGreatDoorE
open Go Go.E Go.Proofs
theorem G8.to {B b i e ln:Nat} {v:Value} {us:List (Nat×Tok)} {st s:SS} {r r':Option (Value×SS)} {x:Except Nat fU} (h:G8 B b v us i e ln s r x) (K:Keep B [b] st s) (hr:∀ y,r=some y→r'=some y):G8 B b v us i e ln st r' x:=by
 cases x with
 | ok x=>obtain ⟨st',av,pv,a,k,c⟩:=h;exact ⟨st',av,pv,hr _ a,K.then k,c⟩
 | error o=>obtain ⟨st',row,a,k,c⟩:=h;exact ⟨st',row,hr _ a,K.then k,c⟩
def KN (d:Nat):Except Nat fU→Except Nat fU
 | .error o=>.error (d+o)
 | .ok x=>.ok x
theorem G8.off {B b i d e ln:Nat} {v:Value} {us:List (Nat×Tok)} {s:SS} {r:Option (Value×SS)} {x:Except Nat fU} (h:G8 B b v us (i+d) e ln s r x):G8 B b v us i e ln s r (KN d x):=by
 cases x with
 | ok x=>exact h
 | error o=>obtain ⟨st',row,a,k,c,dd⟩:=h;exact ⟨st',row,a,k,by rw [← Nat.add_assoc];exact c,dd⟩
abbrev L5:List Value:=[.int .i64 0,.string ⟨#[]⟩,.string ⟨#[]⟩,.slice none 0 0,.slice none 0 0]
theorem zm9 (t:Tok):oz t [58]=(decide ((t.kd:Int)=3)&&decide (t.tx=[58])):=by
 unfold oz
 congr 1
 by_cases h:t.kd=3
 ·have:(t.kd:Int)=3:=by omega
  rw [zdt h,zdt this]
 ·have:¬ (t.kd:Int)=3:=by omega
  rw [bg h,bg this]
theorem zwV [Sym] {st:SS} {ln b i:Nat} {v:Value} {us:List (Nat×Tok)} {l:List Tok} (hsz:l.length≤1099511627776/8) (h:rJ st b v us i) (hl:lC us i ln l):
  G8 st.next b v us i (i+(l.length-1)) ln st (cc 68 [ptr b 0] st) (oG l):=by
 obtain ⟨t,r,rfl⟩:=hl.lin.ne
 have hisz:=lC.sz h hl
 have hb:=h.blk.lt
 have a1:At (st.new (.cells L5 0)) st.next L5:=At.new h.ll L5
 have x1:Ext st (st.new (.cells L5 0)):=(Ext.refl st).new _
 obtain ⟨n1,hn1,c1⟩:=DU (h.ext x1).has hl.head
 have hn1':st.next+1≤n1:=hn1
 obtain ⟨s5,e5,a5,x5,_⟩:=N7 (st:=(st.new (.cells L5 0)).dw n1) (lT h.ll (by simp;omega)) (r:=L5) (row:=[.int .i64 ln,.string (mkS []),.string ⟨#[]⟩,.slice none 0 0,.slice none 0 0]) rfl rfl
 have e5':(((st.new (.cells L5 0)).dw n1).new (.cells L5 0)).st ((st.new (.cells L5 0)).dw n1).next 0 [.int .i64 ln,.string ⟨#[]⟩,.string ⟨#[]⟩,.slice none 0 0,.slice none 0 0]=some s5:=e5
 have Ag:Ext st s5:=x1.trans ((Ext.pK _ hn1).trans x5)
 have b5:=(a1.dw hn1).ext x5
 have p5:=h.ext Ag
 have k3:=(FT (ln:=ln) (t:=t)).2.2.1
 have k0:=(FT (ln:=ln) (t:=t)).1
 have k1:=(FT (ln:=ln) (t:=t)).2.1
 obtain ⟨u,hu,hread⟩:∃ u,us[if t.kd=0 then i else i+1]?=some (ln,u)∧((t.kd=1∧oz u [58]=true∧∃ r',r=u::r')∨(¬ (t.kd=1∧oz u [58]=true)∧oG (t::r)=Bl [] (t::r))):=by
  by_cases h0:t.kd=0
  ·have hr:=hl.lin.last h0
   subst hr
   exact ⟨t,by rw [if_pos h0];exact hl.head,.inr ⟨fun x=>by omega,rfl⟩⟩
  ·have hl1:=hl.tail h0
   obtain ⟨u,r',rfl⟩:=hl1.lin.ne
   refine ⟨u,by rw [if_neg h0];exact hl1.head,?_⟩
   by_cases hc:t.kd=1∧oz u [58]=true
   ·exact .inl ⟨hc.1,hc.2,r',rfl⟩
   ·exact .inr ⟨hc,by rw [Ov,if_neg hc]⟩
 obtain ⟨n2,hn2,c2⟩:=zx3 p5.has hl.head hu
 obtain ⟨s8,e8,a8,x8,_⟩:=pX (st:=s5.dw n2) (lT (Ag.ll h.ll) hn2) (r:=Z5) (lU (xG ln u)) (n:=5) rfl rfl rfl
 have x08:Ext st s8:=Ag.trans ((Ext.pK _ hn2).trans x8)
 obtain ⟨n3,hn3,c3⟩:=DU (h.ext x08).has hl.head
 have x58:Ext s5 (s8.dw n3):=((Ext.pK _ hn2).trans x8).trans (.pK _ hn3)
 have x09:Ext st (s8.dw n3):=Ag.trans x58
 have p9:=h.ext x09
 have a9:=a5.ext x58
 have b9:=b5.ext x58
 have q9:=a8.ext (Ext.pK _ hn3)
 have l0:(s8.dw n3).ld (s5.dw n2).next 0=some (.int .i64 u.kd):=q9.ld
 have l1:(s8.dw n3).ld (s5.dw n2).next 1=some (.string (mkS u.tx)):=q9.ld
 have hlb:st.next<((st.new (.cells L5 0)).dw n1).next:=by simp;omega
 rcases hread with ⟨hk,hc,r',rfl⟩ | ⟨hc,hread⟩
 ·
  have hoff:oG (t::u::r')=KN 2 (Bl t.tx r'):=by
   rw [Ov,if_pos ⟨hk,hc⟩]
   cases Bl t.tx r'<;>rfl
  rw [hoff]
  rw [zm9,mX,decide_eq_true_eq,decide_eq_true_eq] at hc
  have hk':(t.kd:Int)=1:=by omega
  have hl2:=(hl.tail (by omega)).tail (by omega)
  obtain ⟨n4,hn4,c4⟩:=DU p9.has hl.head
  have U3:Ext st ((s8.dw n3).dw n4):=x09.trans (.pK _ hn4)
  obtain ⟨s15,e15,QM,m15,_⟩:=(a9.dw hn4).pU (k:=1) (vs:=[.string (mkS t.tx)]) (row':=[.int .i64 ln,.string (mkS t.tx),.string ⟨#[]⟩,.slice none 0 0,.slice none 0 0]) rfl rfl
  have p15:=(h.ext U3).oq m15 (by omega)
  have b15:=(b9.dw hn4).mod m15 (by simp;omega)
  have M15:Mod [b] st s15:=(Mod.nY U3).gq m15 (.inl (by omega))
  have D7:s15.ld b 1=some (.int .i64 i):=p15.blk.ld
  have hw:IntKind.wrap .i64 ((i:Int)+2)=((i+2:Nat):Int):=Tj hisz (k:=2) (by omega)
  obtain ⟨xQ,e22,KL,m22,n22⟩:=p15.move (i+2)
  have a22:=QM.mod m22 (by simp;omega)
  have b22:=b15.mod m22 (by simp;omega)
  have ZR:=M15.then m22
  have ht:=ztn (B:=st.next) (fF _) hb hlb a22.lt (by simp at hsz ⊢;omega) KL hl2 a22 ⟨_,b22,rfl⟩
  have hend:i+2+(r'.length-1)=i+((t::u::r').length-1):=by
   obtain ⟨z1,z2,rfl⟩:=hl2.lin.ne
   simp;omega
  rw [hend] at ht
  refine G8.to (G8.off (d:=2) ht) (ZR.fD (fF _)) fun y hy=>?_
  refine zg2 _ st ?_
  have hq:fA (mkS u.tx) ⟨#[58]⟩=true:=by
   have:fA (mkS u.tx) (mkS [58])=decide (u.tx=[58]):=DW _ _
   rw [zdt hc.2] at this;exact this
  simp only [UU,c1,bf,k3,e5',c2,e8,c3,k0,zdt hk',cu,l0,l1,eP,fP,zdt hc.1,hq,c4,k1,e15,DZ,fZ,Nat.zero_add,D7,hw,e22]
  exact hy
 ·rw [hread]
  have ht:=ztn (B:=st.next) (s:=s8.dw n3) (fF _) hb hlb a9.lt hsz p9 hl a9 ⟨_,b9,rfl⟩
  refine G8.to ht (x09.fD (fF _)) fun y hy=>?_
  refine zg2 _ st ?_
  by_cases hk:t.kd=1
  ·have hk':(t.kd:Int)=1:=by omega
   by_cases h3:(u.kd:Int)=3
   ·have hx:¬ u.tx=[58]:=fun e=>hc ⟨hk,by rw [zm9,zdt h3,zdt e];rfl⟩
    have hq:fA (mkS u.tx) ⟨#[58]⟩=false:=by
     have:fA (mkS u.tx) (mkS [58])=decide (u.tx=[58]):=DW _ _
     rw [bg hx] at this;exact this
    simp only [UU,c1,bf,k3,e5',c2,e8,c3,k0,zdt hk',cu,l0,l1,eP,fP,zdt h3,hq,dn]
    exact hy
   ·simp only [UU,c1,bf,k3,e5',c2,e8,c3,k0,zdt hk',cu,l0,eP,bg h3,dn]
    exact hy
  ·have hk':¬ (t.kd:Int)=1:=by omega
   simp only [UU,c1,bf,k3,e5',c2,e8,c3,k0,bg hk',dn]
   exact hy
theorem zvE {lab:List UInt8} {l:List Tok} {x:fU} (h:Bl lab l=.ok x):x.lab=lab:=by
 cases l with
 | nil=>cases h
 | cons t r=>
   rw [OA] at h
   repeat' (split at h)
   all_goals first
    | (cases h;done)
    | (cases h;rfl)
theorem zwW {k:Nat} {seen:List (List UInt8)} {t:Tok} {r:List Tok} {ps:List Pr} (hk:t.kd≠0) (h:xJ (k+1) seen (t::r)=.ok ps):ps≠[]:=by
 unfold xJ at h
 rw [if_neg hk] at h
 cases hx:pairT seen (t::r) with
 | error o=>rw [hx] at h;cases h
 | ok y=>
   obtain ⟨p,n⟩:=y
   rw [hx] at h
   simp only at h
   cases hz:xJ k (seen++[p.fd]) ((t::r).drop n) with
   | error o=>rw [hz] at h;cases h
   | ok qs=>rw [hz] at h;cases h;simp
theorem zvF {l:List Tok} {x:fU} (hl:zi l) (hok:∀ t∈l,vG t) (h:oG l=.ok x):(x.lab≠[]∨x.dir≠[]∨x.fC≠[])↔1<l.length:=by
 obtain ⟨t,r,rfl⟩:=hl.ne
 cases r with
 | nil=>
   have h0:t.kd=0:=by
    rcases hl with h | h
    ·exact h.1
    ·exact h.2.elim
   have hs:oz t [46]=false:=by simp [oz,h0]
   have h':Bl [] [t]=.ok x:=h
   rw [OA,hs] at h'
   have e:xJ [t].length [] [t]=.ok []:=by
    show xJ 1 [] [t]=_
    unfold xJ
    rw [if_pos h0]
   rw [e] at h'
   cases h'
   simp
 | cons s r=>
   have hk:t.kd≠0:=by
    rcases hl with h | h
    ·exact absurd h.2 (by simp)
    ·exact h.1
   refine ⟨fun _=>by simp,fun _=>?_⟩
   rw [Ov] at h
   split at h
   ·rename_i hc
    cases hx:Bl t.tx r with
    | error o=>rw [hx] at h;cases h
    | ok y=>
      rw [hx] at h;cases h
      left
      rw [zvE hx]
      exact (hok t (List.mem_cons_self ..)).tx hc.1
   ·rw [OA] at h
    split at h
    ·rename_i hs
     have hl1:=hl.tail hk
     simp only at h
     split at h
     ·rename_i hd
      split at h
      ·cases h
      ·cases h
       exact .inr (.inl ((hok s (by simp)).tx hd))
     ·cases h
    ·split at h
     ·cases h
     ·rename_i ps hp
      cases h
      exact .inr (.inr (zwW hk hp))
end Go.Proofs.YtifploedaacedaaGreatDoorE
namespace Go.Proofs.YtifploedaacedaaGreatDoorE
open Go Go.E Go.Proofs
def RdB (st:SS) (lo hi:Nat) (v:Value) (c:List Value) (z n:Nat):Prop:=Rd st v c z n∧∀ j k l q,v=.slice (some ⟨j,k,none⟩) l q→lo<j∧j<hi
theorem Own.Vw {B lo hi:Nat} {st:SS} {v:Value} {c:List Value} {z n:Nat} (h:Own B st v c z n) (hlo:lo<B) (hhi:st.next≤hi):RdB st lo hi v c z n:=by
 refine ⟨h.rd,fun j k l q hv=>?_⟩
 obtain ⟨_,⟨ev,_⟩ | ⟨i',ev,_,_,hbi,hi'⟩⟩:=h
 ·rw [ev] at hv;cases hv
 ·rw [ev] at hv;cases hv;omega
theorem RdB.go {st st':SS} {lo hi hi':Nat} {v:Value} {c:List Value} {z n:Nat} (h:RdB st lo hi v c z n) (hh:hi≤hi') (hn:st.next≤st'.next) (hk:∀ j,j<st.next→lo<j→j<hi→st'.mem.get j=st.mem.get j):RdB st' lo hi' v c z n:=by
 obtain ⟨⟨h1,h2⟩,h3⟩:=h
 refine ⟨⟨h1,h2.imp id ?_⟩,fun j k l q hv=>by have:=h3 j k l q hv;omega⟩
 rintro ⟨i,cap,e,⟨z',hm⟩,hi⟩
 have:=h3 i 0 n cap e
 exact ⟨i,cap,e,⟨z',(hk i hi this.1 this.2).trans hm⟩,pz hi hn⟩
abbrev Item:=fU×Value×Value
def dh (x:Item):List Value:=[.int .i64 x.1.ln,.string (mkS x.1.lab),.string (mkS x.1.dir),x.2.1,x.2.2]
theorem zvG (x:Item):(dh x).length=5:=rfl
def ItB (st:SS) (lo hi:Nat) (x:Item):Prop:=RdB st lo hi x.2.1 (ak au x.1.args) 3 x.1.args.length∧RdB st lo hi x.2.2 (ak fB x.1.fC) 5 x.1.fC.length
structure Coll (st:SS) (lo m B:Nat) (v:Value) (its:List Item):Prop where
 own:Own B st v (ak dh its) 5 its.length
 blk:∀ j k l q,v=.slice (some ⟨j,k,none⟩) l q→m≤j
 it:∀ x∈its,ItB st lo m x
 lo:lo<B
 le:m≤st.next
def Rn (st:SS) (v:Value) (xs:List fU):Prop:=∃ its:List Item,its.map (·.1)=xs∧Rd st v (ak dh its) 5 its.length∧
 ∀ x∈its,Rd st x.2.1 (ak au x.1.args) 3 x.1.args.length∧Rd st x.2.2 (ak fB x.1.fC) 5 x.1.fC.length
theorem Rn.ext {st st':SS} {v:Value} {xs:List fU} (h:Rn st v xs) (x:Ext st st'):Rn st' v xs:=by
 obtain ⟨its,a,b,c⟩:=h
 exact ⟨its,a,b.ext x,fun y hy=>⟨(c y hy).1.ext x,(c y hy).2.ext x⟩⟩
theorem Coll.lines {st:SS} {lo m B:Nat} {v:Value} {its:List Item} (h:Coll st lo m B v its):Rn st v (its.map (·.1)):=⟨its,rfl,h.own.rd,fun x hx=>⟨(h.it x hx).1.1,(h.it x hx).2.1⟩⟩
theorem Coll.keep {st st':SS} {lo m B:Nat} {v:Value} {its:List Item} (h:Coll st lo m B v its) (k:Keep st.next [lo] st st'):Coll st' lo m B v its:=by
 refine ⟨?_,h.blk,fun x hx=>?_,h.lo,lT h.le k.next⟩
 ·obtain ⟨h1,h2⟩:=h.own
  refine ⟨h1,h2.imp id ?_⟩
  rintro ⟨i,e,h0,hm,hb,hi⟩
  exact ⟨i,e,h0,(k.keep i hi (by have:=h.lo;simp;omega)).trans hm,hb,pz hi k.next⟩
 ·obtain ⟨h1,h2⟩:=h.it x hx
  exact ⟨h1.go (fF _) k.next fun j hj h1 h2=>k.keep j hj (by simp;omega),h2.go (fF _) k.next fun j hj h1 h2=>k.keep j hj (by simp;omega)⟩
theorem Coll.ext {st st':SS} {lo m B:Nat} {v:Value} {its:List Item} (h:Coll st lo m B v its) (x:Ext st st'):Coll st' lo m B v its:=h.keep (x.fD (fF _))
theorem Coll.push {st:SS} {lo m B:Nat} {v:Value} {its:List Item} (h:Coll st lo m B v its) (x:Item) (hB:B≤st.next) (hl:st.lim≤B) (hn:its.length≤1099511627776/8)
  (ho1:one x.2.1=true) (ho2:one x.2.2=true) (h1:RdB st lo st.next x.2.1 (ak au x.1.args) 3 x.1.args.length) (h2:RdB st lo st.next x.2.2 (ak fB x.1.fC) 5 x.1.fC.length)
  (hne1:∀ j k l q k' l' q',v=.slice (some ⟨j,k,none⟩) l q→x.2.1≠.slice (some ⟨j,k',none⟩) l' q') (hne2:∀ j k l q k' l' q',v=.slice (some ⟨j,k,none⟩) l q→x.2.2≠.slice (some ⟨j,k',none⟩) l' q'):
  ∃ v' st',(st.new (.cells (dh x) 5)).app 5 88 v (.slice (some ⟨st.next,0,none⟩) 1 1)=some (v',st')∧Coll st' lo st.next B v' (its++[x])∧∀ S,Keep B S st st':=by
 obtain ⟨k,st',g1,gk,g2,g3,g4,g5⟩:=h.own.IG hB hl (zvG x) (by omega) (by simp only [dh,List.all_cons,List.all_nil,ho1,ho2];rfl) (bt:=88) (by omega) (by omega)
 have kept:∀ j,j<st.next→(∀ k l q,v≠.slice (some ⟨j,k,none⟩) l q)→st'.mem.get j=st.mem.get j:=fun j hj hv=>g5 j hj fun q=>hv 0 q q
 refine ⟨_,st',g1,⟨?_,?_,?_,h.lo,g4⟩,fun S=>⟨g4,g3,fun j hj _=>kept j (by omega) fun k l q hv=>?_⟩⟩
 ·rw [FX,FV,List.length_append];exact g2
 ·intro j k' l q hv;cases hv;exact gk
 ·intro y hy
  rcases List.mem_append.1 hy with hy | hy
  ·obtain ⟨i1,i2⟩:=h.it y hy
   exact ⟨i1.go h.le g4 fun j hj _ hjm=>kept j hj fun k l q hv=>by have:=h.blk j k l q hv;omega,i2.go h.le g4 fun j hj _ hjm=>kept j hj fun k l q hv=>by have:=h.blk j k l q hv;omega⟩
  ·have:y=x:=by simpa using hy
   subst this
   refine ⟨?_,?_⟩
   ·obtain ⟨⟨c1,c2⟩,c3⟩:=h1
    refine ⟨⟨c1,c2.imp id ?_⟩,c3⟩
    rintro ⟨i,cap,e,⟨z',hm⟩,hi⟩
    exact ⟨i,cap,e,⟨z',(kept i hi fun k l q hv=>hne1 i k l q 0 _ cap hv e).trans hm⟩,pz hi g4⟩
   ·obtain ⟨⟨c1,c2⟩,c3⟩:=h2
    refine ⟨⟨c1,c2.imp id ?_⟩,c3⟩
    rintro ⟨i,cap,e,⟨z',hm⟩,hi⟩
    exact ⟨i,cap,e,⟨z',(kept i hi fun k l q hv=>hne2 i k l q 0 _ cap hv e).trans hm⟩,pz hi g4⟩
 ·obtain ⟨_,⟨ev,_⟩ | ⟨i',ev,_,_,hbi,hi'⟩⟩:=h.own
  ·rw [ev] at hv;cases hv
  ·rw [ev] at hv;cases hv;omega
theorem zvH (k:Nat) (ts:List Tok) (r:List (List Tok)):flat k (ts::r)=ts.map (fun t=>(k+1,t))++flat (k+1) r:=rfl
theorem zvI {us:List (Nat×Tok)} {i k:Nat} {ts:List Tok} {r:List (List Tok)} (h:us.drop i=flat k (ts::r)):us.drop (i+ts.length)=flat (k+1) r:=by
 rw [← List.drop_drop,h,zvH]
 rw [List.drop_append_of_le_length (by simp),List.drop_of_length_le (by simp),List.nil_append]
def Xy (B lo b0:Nat) (st:SS) (its:List Item) (r:Option (Nat×List Value×SS)):Except (Nat×Nat) (List fU)→Prop
 | .ok xs=>∃ v st' m oP,r=some (0,[ptr b0 0,v],st')∧Keep B [lo] st st'∧oP.map (·.1)=its.map (·.1)++xs∧Coll st' lo m B v oP
 | .error e=>∃ st',r=some (1,[.slice none 0 0,ptr b0 0,.int .i64 4],st')∧Keep B [lo,b0] st st'∧At st' b0 [.int .i64 e.1,.int .i64 e.2]
theorem Xy.to {B lo b0:Nat} {st s:SS} {its oP:List Item} {x:fU} {c:Bool} {r r':Option (Nat×List Value×SS)} {y:Except (Nat×Nat) (List fU)} (h:Xy B lo b0 s oP r y) (K:Keep B [lo] st s) (hr:∀ z,r=some z→r'=some z) (hi:oP.map (·.1)=its.map (·.1)++(if c=true then [x] else [])):
  Xy B lo b0 st its r' (match y with
   | .error e=>.error e
   | .ok xs=>.ok (if c=true then x::xs else xs)):=by
 cases y with
 | error e=>
   obtain ⟨st',a,k,d⟩:=h
   exact ⟨st',hr _ a,(K.mono (fF _) (fun j hj _=>by simp at hj ⊢;omega)).then k,d⟩
 | ok xs=>
   obtain ⟨v,st',m,BX,a,k,d,e⟩:=h
   refine ⟨v,st',m,BX,hr _ a,K.then k,?_,e⟩
   rw [d,hi]
   cases c<;>simp
theorem zui [Sym] {lo b0 B:Nat} {v:Value} {us:List (Nat×Tok)} (hb0:b0<lo) (hloB:lo<B) (hus:us.length≤1099511627776/64):∀ (oV:List (List Tok)) (i k m:Nat) (out:Value) (its:List Item) (st:SS),us.drop i=flat k oV→i≤us.length→(∀ ts∈oV,zi ts∧∀ t∈ts,vG t)→
  rJ st lo v us i→Coll st lo m B out its→(∃ r,At st b0 r∧r.length=2)→B≤st.next→its.length≤i→
  Xy B lo b0 st its (ML 6 [ptr b0 0,v,ptr lo 0,out] st) (Bq k oV):=by
 intro oV
 induction oV with
 | nil=>
   intro i k m out its st hd hi hok h hc ha hB hn
   have hil:i=us.length:=by
    have:us.drop i=[]:=hd
    rw [List.drop_eq_nil_iff] at this;omega
   have hlv:(lenV v).bind (ay .i64)=some (us.length:Int):=by rw [h.rd.len];rfl
   have l1:st.ld lo 1=some (.int .i64 i):=h.blk.ld
   have hlt:¬ (i:Int)<(us.length:Int):=by omega
   refine ⟨out,st,m,its,Y6 _ v _ out st ?_,.refl _,by simp,hc⟩
   simp only [OE,DZ,fZ,bf,Nat.zero_add,l1,eP,hlv,bg hlt,dn]
 | cons ts r ih=>
   intro i k m out its st hd hi hok h hc ha hB hn
   obtain ⟨hlin,htok⟩:=hok ts (List.mem_cons_self ..)
   have hl:lC us i (k+1) ts:=⟨⟨flat (k+1) r,hd⟩,hlin,htok⟩
   have hlen:i+ts.length≤us.length:=by
    have:=congrArg List.length hd
    unfold flat at this
    simp at this
    omega
   have hpos:0<ts.length:=by obtain ⟨t,u,rfl⟩:=hlin.ne;simp
   have hlt:(i:Int)<(us.length:Int):=by omega
   have hlv:(lenV v).bind (ay .i64)=some (us.length:Int):=by rw [h.rd.len];rfl
   have l1:st.ld lo 1=some (.int .i64 i):=h.blk.ld
   have Fh:=zwV (by omega) h hl
   have hlim:st.lim≤B:=by have:=h.blk.2.2;omega
   unfold Bq
   cases hx:oG ts with
   | error o=>
     rw [hx] at Fh
     obtain ⟨s5,row,c5,K5,p5,hrow,hrow1⟩:=Fh
     have hoff:=zqF ts hlin o hx
     obtain ⟨t,ht⟩:∃ t,ts[o]?=some t:=⟨_,mW hoff⟩
     have hu:us[i+o]?=some (k+1,t):=by
      obtain ⟨rest,hr⟩:=hl.drop
      have:=congrArg (·[o]?) hr
      simp only [List.getElem?_drop] at this
      rw [this,List.getElem?_append_left (by simp;omega),List.getElem?_map,ht]
      rfl
     obtain ⟨s9,e9,a9,x9,_⟩:=pX (st:=s5) p5.ll (r:=L5) (lU row) (n:=5) hrow hrow1 rfl
     have p9:=p5.ext x9
     obtain ⟨n1,hn1,c1⟩:=DU p9.has hu
     have x1:Ext s9 (s9.dw n1):=.pK _ hn1
     obtain ⟨n2,hn2,c2⟩:=DU (p9.ext x1).has hu
     have x2:Ext s9 ((s9.dw n1).dw n2):=x1.trans (.pK _ hn2)
     obtain ⟨ra,aa,hra⟩:=ha
     have aa2:=((aa.fD K5 aa.lt (by simp;omega)).ext x9).ext x2
     obtain ⟨s15,e15,QM,m15,_⟩:=aa2.pU (k:=0) (vs:=[.int .i64 ((k+1:Nat):Int),.int .i64 t.col]) (row':=[.int .i64 ((k+1:Nat):Int),.int .i64 t.col]) rfl (by rw [DY (by simp;omega)];simp [hra])
     have k3:=(FT (ln:=k+1) (t:=t)).2.2.1
     have k4:=(FT (ln:=k+1) (t:=t)).2.2.2
     have Jb:Ti ts o=t.col:=by unfold Ti;rw [ht];rfl
     have K5':Keep B [lo,b0] st s5:=K5.mono hB (fun j hj _=>by simp at hj ⊢;omega)
     have nx5:B≤s5.next:=lT hB K5'.next
     have nx9:B≤s9.next:=lT nx5 x9.next
     refine ⟨s15,Y6 _ v _ out st ?_,((K5'.Bv x9 nx5).Bv x2 nx9).gq m15 (lT nx9 x2.next) (.inr (by simp)),by rw [Jb];exact QM⟩
     simp only [OE,DZ,fZ,bf,Nat.zero_add,l1,eP,hlv,zdt hlt,cu,c5,fM,List.getElem?_toArray,lN,iZ,mg,e9,nJ,c1,k3,c2,k4,e15]
   | ok x=>
     rw [hx] at Fh
     obtain ⟨s5,av,pv,c5,K5,p5,o1,o2⟩:=Fh
     have hkept:=zvF hlin htok hx
     obtain ⟨s9,e9,a9,x9,_⟩:=pX (st:=s5) p5.ll (r:=L5) (lU [.int .i64 ((k+1:Nat):Int),.string (mkS x.lab),.string (mkS x.dir),av,pv]) (n:=5) rfl (by simp only [List.all_cons,List.all_nil,o1.cell.2,o2.cell.2];rfl) rfl
     have ZH:(s5.new (.cells L5 0)).eH s5.next 0 5 (XQ (k+1) x av pv)=some s9:=e9
     have p9:=p5.ext x9
     have hend:i+(ts.length-1)+1=i+ts.length:=by omega
     have D7:s9.ld lo 1=some (.int .i64 ((i+(ts.length-1):Nat):Int)):=p9.blk.ld
     have hw:IntKind.wrap .i64 (((i+(ts.length-1):Nat):Int)+1)=((i+ts.length:Nat):Int):=by rw [ru (by omega),hend]
     obtain ⟨xQ,e22,KL,m22,n22⟩:=p9.move (i+ts.length)
     have hlo5:lo<s5.next:=p5.blk.lt
     have a22:=a9.mod m22 (by simp;omega)
     have K9:Keep st.next [lo] st s9:=K5.Bv x9 K5.next
     have K22:Keep st.next [lo] st xQ:=K9.gq m22 (lT K5.next x9.next) (.inr (by simp))
     have hc22:=hc.keep K22
     have VG:B≤xQ.next:=lT hB K22.next
     have WH:∃ r,At xQ b0 r∧r.length=2:=by
      obtain ⟨ra,aa,hra⟩:=ha
      exact ⟨ra,aa.fD K22 aa.lt (by simp;omega),hra⟩
     have hd':=zvI hd
     have hok':∀ ts∈r,zi ts∧∀ t∈ts,vG t:=fun q hq=>hok q (List.mem_cons_of_mem _ hq)
     have Nj:xQ.ld s5.next 1=some (.string (mkS x.lab)):=a22.ld
     have ED:xQ.ld s5.next 2=some (.string (mkS x.dir)):=a22.ld
     have IQ:xQ.ld s5.next 4=some pv:=a22.ld
     have hq1:fA (mkS x.lab) ⟨#[]⟩=decide (x.lab=[]):=Ef _
     have hq2:fA (mkS x.dir) ⟨#[]⟩=decide (x.dir=[]):=Ef _
     have hlp:(lenV pv).bind (ay .i64)=some (x.fC.length:Int):=by rw [o2.len];rfl
     by_cases hkp:1<ts.length
     ·
      have w1:RdB xQ lo xQ.next av (ak au x.args) 3 x.args.length:=by
       refine (Own.Vw o1 (lo:=lo) (hi:=s5.next) h.blk.lt (fF _)).go (by have:=x9.next;omega) (by have:=x9.next;omega) fun j hj h1 _=>?_
       rw [m22.keep j (by have:=x9.next;omega) (by simp;omega),x9.keep j hj]
      have w2:RdB xQ lo xQ.next pv (ak fB x.fC) 5 x.fC.length:=by
       refine (Own.Vw o2 (lo:=lo) (hi:=s5.next) h.blk.lt (fF _)).go (by have:=x9.next;omega) (by have:=x9.next;omega) fun j hj h1 _=>?_
       rw [m22.keep j (by have:=x9.next;omega) (by simp;omega),x9.keep j hj]
      have hnew:∀ w:Value,(∀ j k l q,w=.slice (some ⟨j,k,none⟩) l q→st.next≤j)→∀ j k l q k' l' q',out=.slice (some ⟨j,k,none⟩) l q→w≠.slice (some ⟨j,k',none⟩) l' q':=by
       intro w hw j k l q k' l' q' ho he
       have h1:=hw j k' l' q' he
       obtain ⟨_,⟨ev,_⟩ | ⟨i',ev,_,_,hbi,hi'⟩⟩:=hc.own
       ·rw [ev] at ho;cases ho
       ·rw [ev] at ho;cases ho;omega
      have hown:∀ {w:Value} {c:List Value} {z n:Nat},Own st.next s5 w c z n→∀ j k l q,w=.slice (some ⟨j,k,none⟩) l q→st.next≤j:=by
       intro w c z n ho j k l q hv
       obtain ⟨_,⟨ev,_⟩ | ⟨i',ev,_,_,hbi,hi'⟩⟩:=ho
       ·rw [ev] at hv;cases hv
       ·rw [ev] at hv;cases hv;exact hbi
      obtain ⟨out',BF,g1,g2,g3⟩:=hc22.push ({ x with ln:=k+1 },av,pv) VG (by rw [K22.lim];exact hlim) (by omega) o1.cell.2 o2.cell.2 w1 w2 (hnew av (hown o1)) (hnew pv (hown o2))
      have g1':(xQ.new (.cells ([.int .i64 ((k+1:Nat):Int),.string (mkS x.lab),.string (mkS x.dir),av,pv]++[]) 5)).app 5 88 out (.slice (some ⟨xQ.next,0,none⟩) 1 1)=some (out',BF):=g1
      have LQ:Keep B [lo] st BF:=(K22.mono hB (fun _ hj _=>hj)).then (g3 _)
      have ha27:∃ r,At BF b0 r∧r.length=2:=by
       obtain ⟨ra,aa,hra⟩:=WH
       exact ⟨ra,aa.fD (g3 []) (by omega) (by simp),hra⟩
      have next:=ih (i+ts.length) (k+1) xQ.next out' (its++[({ x with ln:=k+1 },av,pv)]) BF hd' (by omega) hok' (KL.fD (g3 []) hloB (by simp)) g2 ha27 (lT hB LQ.next) (by simp;omega)
      have VZ:xQ.eF s5.next 0 5=some (.agg [.int .i64 ((k+1:Nat):Int),.string (mkS x.lab),.string (mkS x.dir),av,pv].toArray):=a22.eF rfl
      have hc25:nX (.agg [.int .i64 ((k+1:Nat):Int),.string (mkS x.lab),.string (mkS x.dir),av,pv].toArray) 5=some [.int .i64 ((k+1:Nat):Int),.string (mkS x.lab),.string (mkS x.dir),av,pv]:=cells5 _ _ _ _ _
      have step:∀ z,ML 6 [ptr b0 0,v,ptr lo 0,out'] BF=some z→ML 6 [ptr b0 0,v,ptr lo 0,out] st=some z:=fun z hz=>by
       refine Y6 _ v _ out st ?_
       by_cases h1:x.lab=[]
       ·by_cases h2:x.dir=[]
        ·have h3:x.fC≠[]:=by
          rcases hkept.2 hkp with h | h | h
          ·exact absurd h1 h
          ·exact absurd h2 h
          ·exact h
         have h4:(0:Int)<(x.fC.length:Int):=by
          have:=List.length_pos_iff.2 h3
          omega
         simp only [OE,DZ,fZ,bf,Nat.zero_add,l1,eP,hlv,zdt hlt,cu,c5,fM,List.getElem?_toArray,lN,iZ,mg,ZH,lY,dn,D7,hw,e22,Nj,fP,hq1,zdt h1,ED,hq2,zdt h2,IQ,hlp,zdt h4,VZ,hc25,g1']
         exact hz
        ·simp only [OE,DZ,fZ,bf,Nat.zero_add,l1,eP,hlv,zdt hlt,cu,c5,fM,List.getElem?_toArray,lN,iZ,mg,ZH,lY,dn,D7,hw,e22,Nj,fP,hq1,zdt h1,ED,hq2,bg h2,nJ,VZ,hc25,g1']
         exact hz
       ·simp only [OE,DZ,fZ,bf,Nat.zero_add,l1,eP,hlv,zdt hlt,cu,c5,fM,List.getElem?_toArray,lN,iZ,mg,ZH,lY,dn,D7,hw,e22,Nj,fP,hq1,bg h1,nJ,VZ,hc25,g1']
        exact hz
      simp only
      cases hy:Bq (k+1) r with
      | error e=>
        rw [hy] at next
        obtain ⟨st',a,k',d⟩:=next
        exact ⟨st',step _ a,(LQ.mono (fF _) (fun j hj _=>by simp at hj ⊢;omega)).then k',d⟩
      | ok xs=>
        rw [hy] at next
        obtain ⟨v2,st',m',BX,a,k',d,e⟩:=next
        refine ⟨v2,st',m',BX,step _ a,LQ.then k',?_,e⟩
        rw [d];simp [hkp]
     ·have hnone:¬ (x.lab≠[]∨x.dir≠[]∨x.fC≠[]):=fun hh=>hkp (hkept.1 hh)
      have h1:x.lab=[]:=Classical.byContradiction fun hh=>hnone (.inl hh)
      have h2:x.dir=[]:=Classical.byContradiction fun hh=>hnone (.inr (.inl hh))
      have h3:x.fC=[]:=Classical.byContradiction fun hh=>hnone (.inr (.inr hh))
      have h4:¬ (0:Int)<(x.fC.length:Int):=by rw [h3];simp
      have Xo:Keep B [lo] st xQ:=K22.mono hB (fun _ hj _=>hj)
      have next:=ih (i+ts.length) (k+1) m out its xQ hd' (by omega) hok' KL hc22 WH VG (by omega)
      have step:∀ z,ML 6 [ptr b0 0,v,ptr lo 0,out] xQ=some z→ML 6 [ptr b0 0,v,ptr lo 0,out] st=some z:=fun z hz=>by
       refine Y6 _ v _ out st ?_
       simp only [OE,DZ,fZ,bf,Nat.zero_add,l1,eP,hlv,zdt hlt,cu,c5,fM,List.getElem?_toArray,lN,iZ,mg,ZH,lY,dn,D7,hw,e22,Nj,fP,hq1,zdt h1,ED,hq2,zdt h2,IQ,hlp,bg h4]
       exact hz
      simp only
      cases hy:Bq (k+1) r with
      | error e=>
        rw [hy] at next
        obtain ⟨st',a,k',d⟩:=next
        exact ⟨st',step _ a,(Xo.mono (fF _) (fun j hj _=>by simp at hj ⊢;omega)).then k',d⟩
      | ok xs=>
        rw [hy] at next
        obtain ⟨v2,st',m',BX,a,k',d,e⟩:=next
        refine ⟨v2,st',m',BX,step _ a,Xo.then k',?_,e⟩
        rw [d];simp [hkp]
theorem zvJ (ps:List (List UInt8)) (i:Nat) (oV:List (List Tok)) (h:zZ i ps=.ok oV):oV.length=ps.length:=by
 induction ps generalizing i oV with
 | nil=>cases h;rfl
 | cons p r ih=>
   unfold zZ at h
   cases hx:zJ p with
   | error c=>rw [hx] at h;cases h
   | ok ts=>
     rw [hx] at h
     cases hy:zZ (i+1) r with
     | error e=>rw [hy] at h;cases h
     | ok us=>rw [hy] at h;cases h;simp [ih _ _ hy]
def Xh (st:SS) (r:Option (Value×SS)):Except (Nat×Nat) (List fU)→Prop
 | .ok xs=>∃ v st',r=some (.tuple #[v,rH (0,0),.int .i64 0],st')∧Ext st st'∧Rn st' v xs
 | .error e=>∃ st',r=some (.tuple #[.slice none 0 0,rH e,.int .i64 4],st')∧Ext st st'
theorem zwX [Sym] {st:SS} (hg:Gd st) (hl:st.lim≤st.next) (s:ByteArray) (hs:s.size≤65536):Xh st (cc 42 [.string s] st) (Ec (bl s)):=by
 have a1:At (st.new (.cells [.int .i64 0,.int .i64 0] 0)) st.next [.int .i64 0,.int .i64 0]:=At.new hl _
 have x1:Ext st (st.new (.cells [.int .i64 0,.int .i64 0] 0)):=(Ext.refl st).new _
 have hlex:=P7 (hg.ext x1) (x1.ll hl) s (by omega)
 have hlx:NQ (bl s)=match zZ 0 (pieces 10 (bl s)) with
  | .error e=>.error e
  | .ok oV=>.ok (flat 0 oV):=zpp _ _
 unfold Ec
 have hb0:Nat.beq 0 0=true:=rfl
 have hb1:Nat.beq 1 0=false:=rfl
 cases hy:zZ 0 (pieces 10 (bl s)) with
 | error e=>
   rw [hy] at hlx
   rw [hlx] at hlex
   obtain ⟨s2,c2,x2⟩:=hlex
   have c2':cc 67 [.string s] (st.new (.cells [.int .i64 0,.int .i64 0] 0))=some (.tuple #[.slice none 0 0,rH e,.int .i64 4],s2):=c2
   obtain ⟨s7,e7,a7,x7,_⟩:=pX (st:=s2) ((x1.trans x2).ll hl) (r:=[.int .i64 0,.int .i64 0]) (v:=rH e) (row:=[.int .i64 e.1,.int .i64 e.2]) (n:=2) rfl rfl rfl rfl
   have a17:=(a1.ext x2).ext x7
   obtain ⟨s9,f1,f2,f3,f4,f5⟩:=vT (n:=2) a17 rfl a7 rfl rfl
   have h40:decide ((4:Int)=0)=false:=rfl
   refine ⟨s9,zhx s st ?_,((Mod.nY (S:=[st.next]) ((x1.trans x2).trans x7)).then f4).fresh (by simp)⟩
   simp only [YQ,c2',bf,fM,List.getElem?_toArray,lN,iZ,eP,e7,h40,nJ,cu,f1,f2,f3]
   rfl
 | ok oV=>
   rw [hy] at hlx
   have hlen:=zwM _ _ hlx
   rw [tC] at hlen
   have hlen2:(s.size+1)*(s.size+1)≤65537*65537:=Nat.mul_le_mul (by omega) (by omega)
   rw [hlx] at hlex
   obtain ⟨v,s2,c2,x2,o2⟩:=hlex
   have c2':cc 67 [.string s] (st.new (.cells [.int .i64 0,.int .i64 0] 0))=some (.tuple #[v,rH (0,0),.int .i64 0],s2):=c2
   obtain ⟨s7,e7,a7,x7,_⟩:=pX (st:=s2) ((x1.trans x2).ll hl) (r:=[.int .i64 0,.int .i64 0]) (v:=rH (0,0)) (row:=[.int .i64 0,.int .i64 0]) (n:=2) rfl rfl rfl rfl
   have x07:=(x1.trans x2).trans x7
   have Jc:nX v 1=some [v]:=by unfold nX;obtain ⟨_,⟨rfl,_⟩ | ⟨i,rfl,_⟩⟩:=o2<;>rfl
   have hrow:(Value.agg ⟨spl [.slice none 0 0,.int .i64 0] 0 [v]⟩:Value).cells.toList=[v,.int .i64 0]:=by simp [spl,Value.cells]
   have ab:At (s7.new (.cells [v,.int .i64 0] 0)) s7.next [v,.int .i64 0]:=At.new (x07.ll hl) _
   have x12:Ext s7 (s7.new (.cells [v,.int .i64 0] 0)):=(Ext.refl s7).new _
   have hsn:st.next<s7.next:=by have:=x2.next;have:=x7.next;simp at*;omega
   have hp:rJ (s7.new (.cells [v,.int .i64 0] 0)) s7.next v (flat 0 oV) 0:=by
    refine ⟨ab,((o2.rd.ext x7).ext x12),fun j k l q hv=>?_,by omega,(x07.trans x12).ll hl⟩
    obtain ⟨_,⟨ev,_⟩ | ⟨i',ev,_,_,hbi,hi'⟩⟩:=o2
    ·rw [ev] at hv;cases hv
    ·rw [ev] at hv;cases hv
     have:=x7.next
     omega
   have hloop:=zui (lo:=s7.next) (b0:=st.next) (B:=s7.next+1) hsn (by omega) (by omega) oV 0 0 s7.next (.slice none 0 0) [] (s7.new (.cells [v,.int .i64 0] 0)) (by simp) (by omega) (zwU _ _ _ hy) hp
    ⟨Own.nil _ _ _,fun j k l q hv=>(by cases hv),fun x hx=>(by cases hx),by omega,by simp⟩ ⟨_,(((a1.ext x2).ext x7).ext x12),rfl⟩ (by simp) (by simp)
   show Xh st _ (Bq 0 oV)
   cases hz:Bq 0 oV with
   | error e=>
     rw [hz] at hloop
     obtain ⟨s13,d1,d2,d3⟩:=hloop
     have hr:=d3.fH (n:=2) rfl
     have x13:Ext st s13:=((Mod.nY (S:=[s7.next,st.next]) (x07.trans x12)).then (d2.mod (by simp))).fresh (by simp;omega)
     refine ⟨s13,zhx s st ?_,x13⟩
     simp only [YQ,c2',bf,fM,List.getElem?_toArray,lN,iZ,eP,e7,decide_true,lY,dn,Jc,hrow,d1,hb1,fZ,hr]
     rfl
   | ok xs=>
     rw [hz] at hloop
     obtain ⟨w,s13,m,its,d1,d2,d3,d4⟩:=hloop
     have G5:=(((a1.ext x2).ext x7).ext x12).fD d2 (by omega) (by simp;omega)
     obtain ⟨oZ,e17,a17,m17,n17⟩:=G5.pU (k:=0) (vs:=[.int .i64 0,.int .i64 0]) (row':=[.int .i64 0,.int .i64 0]) rfl rfl
     have hr:=a17.fH (n:=2) rfl
     have d4':Coll oZ s7.next m (s7.next+1) w its:=by
      refine ⟨TS (S:=[]) d4.own m17 (.inl (by omega)),d4.blk,fun x hx=>?_,d4.lo,by rw [n17];exact d4.le⟩
      obtain ⟨i1,i2⟩:=d4.it x hx
      exact ⟨i1.go (fF _) m17.next fun j hj h1 h2=>m17.keep j hj (by simp;omega),i2.go (fF _) m17.next fun j hj h1 h2=>m17.keep j hj (by simp;omega)⟩
     have x17:Ext st oZ:=(((Mod.nY (S:=[s7.next,st.next]) (x07.trans x12)).then ((d2.mod (by simp)).mono (by simp))).gq m17 (.inr (by simp))).fresh (by simp;omega)
     refine ⟨w,oZ,zhx s st ?_,x17,?_⟩
     ·simp only [YQ,c2',bf,fM,List.getElem?_toArray,lN,iZ,eP,e7,decide_true,lY,dn,Jc,hrow,d1,hb0,cu,fZ,e17,hr]
      rfl
     ·have:=d4'.lines
      rw [d3] at this
      simpa using this
end Go.Proofs.YtifploedaacedaaGreatDoorE
namespace Go.Proofs.YtifploedaacedaaGreatDoorE
set_option maxRecDepth 20000
open Go Go.E Go.Proofs
noncomputable def zgK (cf:fQ) (lf:eX) (l':Value) (i':Int) (kind':Int) (text':ByteArray) (st:SS):Option (Value×SS):=
 ((lenV l').bind (ay .i64)).bind fun a=>
 cond (decide (i'<a)) (
 (fK l' i' 5).bind fun b=>
 (((st.ro st.next).ld b.1 b.2).bind (ay .i64)).bind fun c=>
 cond (decide (c=kind')) (
 (fK l' i' 5).bind fun d=>
 (((st.ro st.next).ld d.1 (d.2+1)).bind asS).bind fun e=>
 some (.bool (fA e text'),st.dw (st.ro st.next).next)) (
 some (.bool false,st.dw (st.ro st.next).next))) (
 some (.bool false,st.dw (st.ro st.next).next))
noncomputable abbrev zms:eX:=lS Tryz.prog Lk0 Tryz.f81 lQ
theorem zmt:Lk0.func 81=some (81,Tryz.f81):=by kernel_rfl
theorem zmu [Sym] (l':Value) (i':Int) (kind':Int) (text':ByteArray) (st:SS) {r:Value×SS} (h:zgK cc zms l' i' kind' text' st=some r):cc 81 [l',.int .i64 i',.int .i64 kind',.string text'] st=some r:=
 mF (li:=lQ) gu gy zmt rfl (fun _=>rfl) (.trans (by kernel_rfl) h)
noncomputable def MQ (cf:fQ) (lf:eX) (l':Value) (i':Int) (st:SS):Option (Value×SS):=
 let a:SS:=(st.ro st.next).new (.cells [.string ⟨#[]⟩,.int .i64 0,.int .i64 0] 0)
 (fK l' i' 5).bind fun b=>
 ((a.ld b.1 (b.2+4)).bind (ay .i64)).bind fun c=>
 let d:SS:=a.new (.cells [.string ⟨#[]⟩,.int .i64 0,.int .i64 0] 0)
 (d.st a.next 0 [.string ⟨#[]⟩,.int .i64 0,.int .i64 c]).bind fun e=>
 (fK l' i' 5).bind fun f=>
 ((e.ld f.1 f.2).bind (ay .i64)).bind fun g=>
 cond (decide (g=2)) (
 (fK l' i' 5).bind fun h=>
 ((e.ld h.1 (h.2+2)).bind (ay .i64)).bind fun i=>
 (e.st a.next 1 [.int .i64 i]).bind fun j=>
 (j.eF a.next 0 3).bind fun k=>
 (j.eH ((st.ro st.next).next) 0 3 k).bind fun l=>
 (l.fH ((st.ro st.next).next) 0 3).bind fun m=>
 cond (flat3 (.tuple #[m,.int .i64 1])) (some (.tuple #[m,.int .i64 1],st.dw l.next)) none) (
 (fK l' i' 5).bind fun n=>
 ((e.ld n.1 n.2).bind (ay .i64)).bind fun o=>
 cond (!(decide (o=1))) (
 (e.eF a.next 0 3).bind fun p=>
 (e.eH ((st.ro st.next).next) 0 3 p).bind fun q=>
 (q.fH ((st.ro st.next).next) 0 3).bind fun r=>
 cond (flat3 (.tuple #[r,.int .i64 (-1)])) (some (.tuple #[r,.int .i64 (-1)],st.dw q.next)) none) (
 (fK l' i' 5).bind fun s=>
 ((e.ld s.1 (s.2+1)).bind asS).bind fun t=>
 (e.st a.next 0 [.string t]).bind fun u=>
 let v:Int:=IntKind.wrap .i64 (i'+1)
 (cf 81 [l',.int .i64 v,.int .i64 3,.string ⟨#[43]⟩] u).bind fun w=>
 ((some w.1).bind lF).bind fun x=>
 cond (!x) (
 let y:Int:=IntKind.wrap .i64 (i'+1)
 (cf 81 [l',.int .i64 y,.int .i64 3,.string ⟨#[45]⟩] w.2).bind fun z=>
 ((some z.1).bind lF).bind fun A=>
 cond (!A) (
 (z.2.eF a.next 0 3).bind fun B=>
 (z.2.eH ((st.ro st.next).next) 0 3 B).bind fun C=>
 (C.fH ((st.ro st.next).next) 0 3).bind fun D=>
 cond (flat3 (.tuple #[D,.int .i64 1])) (some (.tuple #[D,.int .i64 1],st.dw C.next)) none) (
 let E:Int:=IntKind.wrap .i64 (i'+2)
 (fK l' E 5).bind fun F=>
 ((z.2.ld F.1 F.2).bind (ay .i64)).bind fun G=>
 cond (!(decide (G=2))) (
 (z.2.eF a.next 0 3).bind fun H=>
 (z.2.eH ((st.ro st.next).next) 0 3 H).bind fun I=>
 (I.fH ((st.ro st.next).next) 0 3).bind fun J=>
 cond (flat3 (.tuple #[J,.int .i64 (-3)])) (some (.tuple #[J,.int .i64 (-3)],st.dw I.next)) none) (
 let K:Int:=IntKind.wrap .i64 (i'+2)
 (fK l' K 5).bind fun L=>
 ((z.2.ld L.1 (L.2+2)).bind (ay .i64)).bind fun M=>
 (z.2.st a.next 1 [.int .i64 M]).bind fun N=>
 cond (!x) (
 ((N.ld a.next 1).bind (ay .i64)).bind fun O=>
 let P:Int:=IntKind.wrap .i64 (0-O)
 (N.st a.next 1 [.int .i64 P]).bind fun Q=>
 (Q.eF a.next 0 3).bind fun R=>
 (Q.eH ((st.ro st.next).next) 0 3 R).bind fun S=>
 (S.fH ((st.ro st.next).next) 0 3).bind fun T=>
 cond (flat3 (.tuple #[T,.int .i64 3])) (some (.tuple #[T,.int .i64 3],st.dw S.next)) none) (
 (N.eF a.next 0 3).bind fun U=>
 (N.eH ((st.ro st.next).next) 0 3 U).bind fun V=>
 (V.fH ((st.ro st.next).next) 0 3).bind fun W=>
 cond (flat3 (.tuple #[W,.int .i64 3])) (some (.tuple #[W,.int .i64 3],st.dw V.next)) none)))) (
 let X:Int:=IntKind.wrap .i64 (i'+2)
 (fK l' X 5).bind fun Y=>
 ((w.2.ld Y.1 Y.2).bind (ay .i64)).bind fun Z=>
 cond (!(decide (Z=2))) (
 (w.2.eF a.next 0 3).bind fun aA=>
 (w.2.eH ((st.ro st.next).next) 0 3 aA).bind fun aB=>
 (aB.fH ((st.ro st.next).next) 0 3).bind fun aC=>
 cond (flat3 (.tuple #[aC,.int .i64 (-3)])) (some (.tuple #[aC,.int .i64 (-3)],st.dw aB.next)) none) (
 let aD:Int:=IntKind.wrap .i64 (i'+2)
 (fK l' aD 5).bind fun aE=>
 ((w.2.ld aE.1 (aE.2+2)).bind (ay .i64)).bind fun aF=>
 (w.2.st a.next 1 [.int .i64 aF]).bind fun aG=>
 cond (!x) (
 ((aG.ld a.next 1).bind (ay .i64)).bind fun aH=>
 let aI:Int:=IntKind.wrap .i64 (0-aH)
 (aG.st a.next 1 [.int .i64 aI]).bind fun aJ=>
 (aJ.eF a.next 0 3).bind fun aK=>
 (aJ.eH ((st.ro st.next).next) 0 3 aK).bind fun aL=>
 (aL.fH ((st.ro st.next).next) 0 3).bind fun aM=>
 cond (flat3 (.tuple #[aM,.int .i64 3])) (some (.tuple #[aM,.int .i64 3],st.dw aL.next)) none) (
 (aG.eF a.next 0 3).bind fun aN=>
 (aG.eH ((st.ro st.next).next) 0 3 aN).bind fun aO=>
 (aO.fH ((st.ro st.next).next) 0 3).bind fun aP=>
 cond (flat3 (.tuple #[aP,.int .i64 3])) (some (.tuple #[aP,.int .i64 3],st.dw aO.next)) none)))))
noncomputable abbrev zk5:eX:=lS Tryz.prog Lk0 Tryz.f82 lQ
theorem zk6:Lk0.func 82=some (82,Tryz.f82):=by kernel_rfl
theorem OI [Sym] (l':Value) (i':Int) (st:SS) {r:Value×SS} (h:MQ cc zk5 l' i' st=some r):cc 82 [l',.int .i64 i'] st=some r:=
 mF (li:=lQ) gu gy zk6 rfl (fun _=>rfl) (.trans (by kernel_rfl) h)
def zfX:eu:=⟨[(0,.any),(2,.any),(4,.any),(5,.int .i64),(8,.bool),(90,.any),(91,.int .i64),(92,.int .i64)],[(.exit 4,[(0,.any),(2,.any),(4,.any),(5,.int .i64),(8,.bool)])]⟩
def zfY:eu:=⟨[(0,.any),(2,.any),(4,.any),(5,.int .i64)],[(.exit 2,[(2,.any),(4,.any)]),(.ret,[(2,.any),(3,.int .i64)])]⟩
def zfZ:eu:=⟨[(0,.any),(2,.any),(4,.any),(5,.int .i64)],[(.exit 0,[(2,.any),(4,.any)]),(.ret,[(2,.any),(3,.int .i64)])]⟩
def zg3 (n:Nat):Option eu:=cond (Nat.beq n 11) (some zfZ) (cond (Nat.beq n 18) (some zfY) (cond (Nat.beq n 21) (some zfX) (none)))
noncomputable def Y5 (cf:fQ) (lf:eX) (l':Value) (st:SS):Option (Value×SS):=
 let a:SS:=st.new (.cells [.int .i64 0,.string ⟨#[]⟩,.string ⟨#[]⟩,.slice none 0 0,.slice none 0 0] 0)
 (fK l' 0 5).bind fun b=>
 ((a.ld b.1 (b.2+3)).bind (ay .i64)).bind fun c=>
 let d:SS:=a.new (.cells [.int .i64 0,.string ⟨#[]⟩,.string ⟨#[]⟩,.slice none 0 0,.slice none 0 0] 0)
 (d.st a.next 0 [.int .i64 c,.string ⟨#[]⟩,.string ⟨#[]⟩,.slice none 0 0,.slice none 0 0]).bind fun e=>
 (fK l' 0 5).bind fun f=>
 ((e.ld f.1 f.2).bind (ay .i64)).bind fun g=>
 cond (decide (g=1)) (
 (cf 81 [l',.int .i64 1,.int .i64 3,.string ⟨#[58]⟩] e).bind fun h=>
 ((some h.1).bind lF).bind fun i=>
 cond i (
 (fK l' 0 5).bind fun j=>
 ((h.2.ld j.1 (j.2+1)).bind asS).bind fun k=>
 (h.2.st a.next 1 [.string k]).bind fun l=>
 (cf 81 [l',.int .i64 2,.int .i64 3,.string ⟨#[46]⟩] l).bind fun m=>
 ((some m.1).bind lF).bind fun n=>
 cond n (
 (fK l' 3 5).bind fun o=>
 ((m.2.ld o.1 o.2).bind (ay .i64)).bind fun p=>
 cond (!(decide (p=1))) (
 (m.2.eF a.next 0 5).bind fun q=>
 (m.2.eH st.next 0 5 q).bind fun r=>
 (r.fH st.next 0 5).bind fun s=>
 some (.tuple #[s,.int .i64 3],r)) (
 (fK l' 3 5).bind fun t=>
 ((m.2.ld t.1 (t.2+1)).bind asS).bind fun u=>
 (m.2.st a.next 2 [.string u]).bind fun v=>
 (lf 11 [l',ptr st.next 0,ptr a.next 0,.int .i64 4] v).bind fun w=>
 cond (Nat.beq w.1 0) (
 (w.2.1[0]?).bind fun x=>
 (w.2.1[1]?).bind fun y=>
 (aj y).bind fun z=>
 (w.2.2.eF z.1 z.2 5).bind fun A=>
 (aj x).bind fun B=>
 (w.2.2.eH B.1 B.2 5 A).bind fun C=>
 (aj x).bind fun D=>
 (C.fH D.1 D.2 5).bind fun E=>
 some (.tuple #[E,.int .i64 (-1)],C)) (
 (w.2.1[0]?).bind fun F=>
 ((w.2.1[1]?).bind (ay .i64)).bind fun G=>
 (aj F).bind fun H=>
 (w.2.2.fH H.1 H.2 5).bind fun I=>
 some (.tuple #[I,.int .i64 G],w.2.2)))) (
 (lf 18 [l',ptr st.next 0,ptr a.next 0,.int .i64 2] m.2).bind fun J=>
 cond (Nat.beq J.1 0) (
 (J.2.1[0]?).bind fun K=>
 (J.2.1[1]?).bind fun L=>
 (aj L).bind fun M=>
 (J.2.2.eF M.1 M.2 5).bind fun N=>
 (aj K).bind fun O=>
 (J.2.2.eH O.1 O.2 5 N).bind fun P=>
 (aj K).bind fun Q=>
 (P.fH Q.1 Q.2 5).bind fun R=>
 some (.tuple #[R,.int .i64 (-1)],P)) (
 (J.2.1[0]?).bind fun S=>
 ((J.2.1[1]?).bind (ay .i64)).bind fun T=>
 (aj S).bind fun U=>
 (J.2.2.fH U.1 U.2 5).bind fun V=>
 some (.tuple #[V,.int .i64 T],J.2.2)))) (
 (cf 81 [l',.int .i64 0,.int .i64 3,.string ⟨#[46]⟩] h.2).bind fun W=>
 ((some W.1).bind lF).bind fun X=>
 cond X (
 (fK l' 1 5).bind fun Y=>
 ((W.2.ld Y.1 Y.2).bind (ay .i64)).bind fun Z=>
 cond (!(decide (Z=1))) (
 (W.2.eF a.next 0 5).bind fun aA=>
 (W.2.eH st.next 0 5 aA).bind fun aB=>
 (aB.fH st.next 0 5).bind fun aC=>
 some (.tuple #[aC,.int .i64 1],aB)) (
 (fK l' 1 5).bind fun aD=>
 ((W.2.ld aD.1 (aD.2+1)).bind asS).bind fun aE=>
 (W.2.st a.next 2 [.string aE]).bind fun aF=>
 (lf 11 [l',ptr st.next 0,ptr a.next 0,.int .i64 2] aF).bind fun aG=>
 cond (Nat.beq aG.1 0) (
 (aG.2.1[0]?).bind fun aH=>
 (aG.2.1[1]?).bind fun aI=>
 (aj aI).bind fun aJ=>
 (aG.2.2.eF aJ.1 aJ.2 5).bind fun aK=>
 (aj aH).bind fun aL=>
 (aG.2.2.eH aL.1 aL.2 5 aK).bind fun aM=>
 (aj aH).bind fun aN=>
 (aM.fH aN.1 aN.2 5).bind fun aO=>
 some (.tuple #[aO,.int .i64 (-1)],aM)) (
 (aG.2.1[0]?).bind fun aP=>
 ((aG.2.1[1]?).bind (ay .i64)).bind fun aQ=>
 (aj aP).bind fun aR=>
 (aG.2.2.fH aR.1 aR.2 5).bind fun aS=>
 some (.tuple #[aS,.int .i64 aQ],aG.2.2)))) (
 (lf 18 [l',ptr st.next 0,ptr a.next 0,.int .i64 0] W.2).bind fun aT=>
 cond (Nat.beq aT.1 0) (
 (aT.2.1[0]?).bind fun aU=>
 (aT.2.1[1]?).bind fun aV=>
 (aj aV).bind fun aW=>
 (aT.2.2.eF aW.1 aW.2 5).bind fun aX=>
 (aj aU).bind fun aY=>
 (aT.2.2.eH aY.1 aY.2 5 aX).bind fun aZ=>
 (aj aU).bind fun bA=>
 (aZ.fH bA.1 bA.2 5).bind fun bB=>
 some (.tuple #[bB,.int .i64 (-1)],aZ)) (
 (aT.2.1[0]?).bind fun bC=>
 ((aT.2.1[1]?).bind (ay .i64)).bind fun bD=>
 (aj bC).bind fun bE=>
 (aT.2.2.fH bE.1 bE.2 5).bind fun bF=>
 some (.tuple #[bF,.int .i64 bD],aT.2.2))))) (
 (cf 81 [l',.int .i64 0,.int .i64 3,.string ⟨#[46]⟩] e).bind fun bG=>
 ((some bG.1).bind lF).bind fun bH=>
 cond bH (
 (fK l' 1 5).bind fun bI=>
 ((bG.2.ld bI.1 bI.2).bind (ay .i64)).bind fun bJ=>
 cond (!(decide (bJ=1))) (
 (bG.2.eF a.next 0 5).bind fun bK=>
 (bG.2.eH st.next 0 5 bK).bind fun bL=>
 (bL.fH st.next 0 5).bind fun bM=>
 some (.tuple #[bM,.int .i64 1],bL)) (
 (fK l' 1 5).bind fun bN=>
 ((bG.2.ld bN.1 (bN.2+1)).bind asS).bind fun bO=>
 (bG.2.st a.next 2 [.string bO]).bind fun bP=>
 (lf 11 [l',ptr st.next 0,ptr a.next 0,.int .i64 2] bP).bind fun bQ=>
 cond (Nat.beq bQ.1 0) (
 (bQ.2.1[0]?).bind fun bR=>
 (bQ.2.1[1]?).bind fun bS=>
 (aj bS).bind fun bT=>
 (bQ.2.2.eF bT.1 bT.2 5).bind fun bU=>
 (aj bR).bind fun bV=>
 (bQ.2.2.eH bV.1 bV.2 5 bU).bind fun bW=>
 (aj bR).bind fun bX=>
 (bW.fH bX.1 bX.2 5).bind fun bY=>
 some (.tuple #[bY,.int .i64 (-1)],bW)) (
 (bQ.2.1[0]?).bind fun bZ=>
 ((bQ.2.1[1]?).bind (ay .i64)).bind fun cA=>
 (aj bZ).bind fun cB=>
 (bQ.2.2.fH cB.1 cB.2 5).bind fun cC=>
 some (.tuple #[cC,.int .i64 cA],bQ.2.2)))) (
 (lf 18 [l',ptr st.next 0,ptr a.next 0,.int .i64 0] bG.2).bind fun cD=>
 cond (Nat.beq cD.1 0) (
 (cD.2.1[0]?).bind fun cE=>
 (cD.2.1[1]?).bind fun cF=>
 (aj cF).bind fun cG=>
 (cD.2.2.eF cG.1 cG.2 5).bind fun cH=>
 (aj cE).bind fun cI=>
 (cD.2.2.eH cI.1 cI.2 5 cH).bind fun cJ=>
 (aj cE).bind fun cK=>
 (cJ.fH cK.1 cK.2 5).bind fun cL=>
 some (.tuple #[cL,.int .i64 (-1)],cJ)) (
 (cD.2.1[0]?).bind fun cM=>
 ((cD.2.1[1]?).bind (ay .i64)).bind fun cN=>
 (aj cM).bind fun cO=>
 (cD.2.2.fH cO.1 cO.2 5).bind fun cP=>
 some (.tuple #[cP,.int .i64 cN],cD.2.2))))
noncomputable abbrev zM:eX:=lS Tryz.prog Lk0 Tryz.f52 zg3
theorem zk7:Lk0.func 52=some (52,Tryz.f52):=by kernel_rfl
theorem zex [Sym] (l':Value) (st:SS) {r:Value×SS} (h:Y5 cc zM l' st=some r):cc 52 [l'] st=some r:=
 mF (li:=zg3) gu gy zk7 rfl (fun _=>rfl) (.trans (by kernel_rfl) h)
noncomputable def Zj (cf:fQ) (lf:eX) (l':Value) (t2':Value) (x':Value) (i':Int) (st:SS):Option (Nat×List Value×SS):=
 (fK l' i' 5).bind fun a=>
 ((st.ld a.1 a.2).bind (ay .i64)).bind fun b=>
 cond (!(decide (b=0))) (
 (cf 82 [l',.int .i64 i'] st).bind fun c=>
 (fM c.1 0).bind fun d=>
 ((fM c.1 1).bind (ay .i64)).bind fun e=>
 let f:SS:=c.2.new (.cells [.string ⟨#[]⟩,.int .i64 0,.int .i64 0] 0)
 (f.eH c.2.next 0 3 d).bind fun g=>
 cond (decide (e<0)) (
 (aj x').bind fun h=>
 (g.eF h.1 h.2 5).bind fun i=>
 let j:Int:=IntKind.wrap .i64 (i'-e)
 let k:Int:=IntKind.wrap .i64 (j-1)
 (aj t2').bind fun l=>
 (g.eH l.1 l.2 5 i).bind fun m=>
 some (1,[t2',.int .i64 k],m)) (
 (aj x').bind fun n=>
 (g.ld n.1 (n.2+3)).bind fun o=>
 (g.eF c.2.next 0 3).bind fun p=>
 (nX p 3).bind fun q=>
 let r:SS:=g.new (.cells (q++([])) 3)
 (r.app 3 32 o (.slice (some ⟨g.next,0,none⟩) 1 1)).bind fun s=>
 (aj x').bind fun t=>
 (s.2.eH t.1 (t.2+3) 1 s.1).bind fun u=>
 let v:Int:=IntKind.wrap .i64 (i'+e)
 lf 11 [l',t2',x',.int .i64 v] u)) (
 some (0,[t2',x'],st))
theorem zdy [Sym] (l':Value) (t2':Value) (x':Value) (i':Int) (st:SS) {r:Nat×List Value×SS} (h:Zj cc zM l' t2' x' i' st=some r):zM 11 [l',t2',x',.int .i64 i'] st=some r:=
 oM gu gy (key:=11) (I:=zfZ) rfl (by kernel_rfl) (by kernel_rfl) rfl rfl (.trans (by kernel_rfl) h)
noncomputable def zek (cf:fQ) (lf:eX) (l':Value) (t2':Value) (x':Value) (i':Int) (st:SS):Option (Nat×List Value×SS):=
 (fK l' i' 5).bind fun a=>
 ((st.ld a.1 a.2).bind (ay .i64)).bind fun b=>
 cond (!(decide (b=0))) (
 (aj x').bind fun c=>
 (st.ld c.1 (c.2+4)).bind fun d=>
 ((lenV d).bind (ay .i64)).bind fun e=>
 (lf 21 [l',t2',x',.int .i64 i',.bool false,d,.int .i64 e,.int .i64 0] st).bind fun f=>
 (f.2.1[0]?).bind fun g=>
 (f.2.1[1]?).bind fun h=>
 (f.2.1[2]?).bind fun i=>
 ((f.2.1[3]?).bind (ay .i64)).bind fun j=>
 ((f.2.1[4]?).bind lF).bind fun k=>
 (fK g j 5).bind fun l=>
 ((f.2.2.ld l.1 l.2).bind (ay .i64)).bind fun m=>
 cond (!(decide (m=1))) (
 (aj i).bind fun n=>
 (f.2.2.eF n.1 n.2 5).bind fun o=>
 (aj h).bind fun p=>
 (f.2.2.eH p.1 p.2 5 o).bind fun q=>
 some (1,[h,.int .i64 j],q)) (
 cond k (
 (aj i).bind fun r=>
 (f.2.2.eF r.1 r.2 5).bind fun s=>
 (aj h).bind fun t=>
 (f.2.2.eH t.1 t.2 5 s).bind fun u=>
 some (1,[h,.int .i64 j],u)) (
 let v:Int:=IntKind.wrap .i64 (j+1)
 (cf 81 [g,.int .i64 v,.int .i64 3,.string ⟨#[61]⟩] f.2.2).bind fun w=>
 ((some w.1).bind lF).bind fun x=>
 cond (!x) (
 (aj i).bind fun y=>
 (w.2.eF y.1 y.2 5).bind fun z=>
 let A:Int:=IntKind.wrap .i64 (j+1)
 (aj h).bind fun B=>
 (w.2.eH B.1 B.2 5 z).bind fun C=>
 some (1,[h,.int .i64 A],C)) (
 let D:Int:=IntKind.wrap .i64 (j+2)
 (cf 82 [g,.int .i64 D] w.2).bind fun E=>
 (fM E.1 0).bind fun F=>
 ((fM E.1 1).bind (ay .i64)).bind fun G=>
 let H:SS:=E.2.new (.cells [.string ⟨#[]⟩,.int .i64 0,.int .i64 0] 0)
 (H.eH E.2.next 0 3 F).bind fun I=>
 cond (decide (G<0)) (
 (aj i).bind fun J=>
 (I.eF J.1 J.2 5).bind fun K=>
 let L:Int:=IntKind.wrap .i64 (j+2)
 let M:Int:=IntKind.wrap .i64 (L-G)
 let N:Int:=IntKind.wrap .i64 (M-1)
 (aj h).bind fun O=>
 (I.eH O.1 O.2 5 K).bind fun P=>
 some (1,[h,.int .i64 N],P)) (
 (aj i).bind fun Q=>
 (I.ld Q.1 (Q.2+4)).bind fun R=>
 (fK g j 5).bind fun S=>
 ((I.ld S.1 (S.2+1)).bind asS).bind fun T=>
 (fK g j 5).bind fun U=>
 ((I.ld U.1 (U.2+4)).bind (ay .i64)).bind fun V=>
 (I.eF E.2.next 0 3).bind fun W=>
 (nX W 3).bind fun X=>
 (nX (.agg ⟨spl [.string T,.int .i64 V,.string ⟨#[]⟩,.int .i64 0,.int .i64 0] 2 X⟩) 5).bind fun Y=>
 let Z:SS:=I.new (.cells (Y++([])) 5)
 (Z.app 5 56 R (.slice (some ⟨I.next,0,none⟩) 1 1)).bind fun aA=>
 (aj i).bind fun aB=>
 (aA.2.eH aB.1 (aB.2+4) 1 aA.1).bind fun aC=>
 let aD:Int:=IntKind.wrap .i64 (j+2)
 let aE:Int:=IntKind.wrap .i64 (aD+G)
 lf 18 [g,h,i,.int .i64 aE] aC))))) (
 some (0,[t2',x'],st))
theorem zfp [Sym] (l':Value) (t2':Value) (x':Value) (i':Int) (st:SS) {r:Nat×List Value×SS} (h:zek cc zM l' t2' x' i' st=some r):zM 18 [l',t2',x',.int .i64 i'] st=some r:=
 oM gu gy (key:=18) (I:=zfY) rfl (by kernel_rfl) (by kernel_rfl) rfl rfl (.trans (by kernel_rfl) h)
noncomputable def Zi (cf:fQ) (lf:eX) (l':Value) (t2':Value) (x':Value) (i':Int) (known':Bool) (F7:Value) (F6:Int) (En:Int) (st:SS):Option (Nat×List Value×SS):=
 cond (decide (En<F6)) (
 (fK F7 En 5).bind fun a=>
 (st.eF a.1 a.2 5).bind fun b=>
 let c:SS:=st.new (.cells [.string ⟨#[]⟩,.int .i64 0,.string ⟨#[]⟩,.int .i64 0,.int .i64 0] 0)
 (c.eH st.next 0 5 b).bind fun d=>
 cond known' (
 let e:Int:=IntKind.wrap .i64 (En+1)
 lf 21 [l',t2',x',.int .i64 i',.bool true,F7,.int .i64 F6,.int .i64 e] d) (
 ((d.ld st.next 0).bind asS).bind fun f=>
 (fK l' i' 5).bind fun g=>
 ((d.ld g.1 (g.2+1)).bind asS).bind fun h=>
 let i:Int:=IntKind.wrap .i64 (En+1)
 lf 21 [l',t2',x',.int .i64 i',.bool (fA f h),F7,.int .i64 F6,.int .i64 i] d)) (
 some (0,[l',t2',x',.int .i64 i',.bool known'],st))
theorem zdz [Sym] (l':Value) (t2':Value) (x':Value) (i':Int) (known':Bool) (F7:Value) (F6:Int) (En:Int) (st:SS) {r:Nat×List Value×SS} (h:Zi cc zM l' t2' x' i' known' F7 F6 En st=some r):zM 21 [l',t2',x',.int .i64 i',.bool known',F7,.int .i64 F6,.int .i64 En] st=some r:=
 oM gu gy (key:=21) (I:=zfX) rfl (by kernel_rfl) (by kernel_rfl) rfl rfl (.trans (by kernel_rfl) h)
def zf0:eu:=⟨[(3,.any),(6,.any),(23,.any),(24,.int .i64),(25,.int .i64)],[(.exit 0,[(3,.any),(6,.any)]),(.ret,[(2,.any),(3,.any)])]⟩
def zgp (n:Nat):Option eu:=cond (Nat.beq n 6) (some zf0) (none)
noncomputable def Y1 (cf:fQ) (lf:eX) (text':ByteArray) (st:SS):Option (Value×SS):=
 let a:SS:=st.new (.cells [.int .i64 0,.int .i64 0] 0)
 (cf 49 [.string text'] a).bind fun b=>
 (fM b.1 0).bind fun c=>
 (fM b.1 1).bind fun d=>
 let e:SS:=b.2.new (.cells [.int .i64 0,.int .i64 0] 0)
 (e.eH b.2.next 0 2 d).bind fun f=>
 (sQ (ptr b.2.next 0) 2 0 1).bind fun g=>
 ((f.ld g.1 g.2).bind (ay .i64)).bind fun h=>
 cond (decide (0<h)) (
 (f.eF b.2.next 0 2).bind fun i=>
 (f.eH st.next 0 2 i).bind fun j=>
 (j.fH st.next 0 2).bind fun k=>
 some (.tuple #[.slice none 0 0,k],j)) (
 (cf 50 [.string text',.int .u8 10] f).bind fun l=>
 ((lenV l.1).bind (ay .i64)).bind fun m=>
 (lf 6 [ptr st.next 0,.slice none 0 0,l.1,.int .i64 m,.int .i64 0] l.2).bind fun n=>
 cond (Nat.beq n.1 0) (
 (n.2.1[0]?).bind fun o=>
 (n.2.1[1]?).bind fun p=>
 (aj o).bind fun q=>
 (n.2.2.st q.1 q.2 [.int .i64 0,.int .i64 0]).bind fun r=>
 (aj o).bind fun s=>
 (r.fH s.1 s.2 2).bind fun t=>
 some (.tuple #[p,t],r)) (
 (n.2.1[0]?).bind fun u=>
 (n.2.1[1]?).bind fun v=>
 (aj v).bind fun w=>
 (n.2.2.fH w.1 w.2 2).bind fun x=>
 some (.tuple #[u,x],n.2.2)))
noncomputable abbrev Kz:eX:=lS Tryz.prog Lk0 Tryz.f19 zgp
theorem zkp:Lk0.func 19=some (19,Tryz.f19):=by kernel_rfl
theorem zel [Sym] (text':ByteArray) (st:SS) {r:Value×SS} (h:Y1 cc Kz text' st=some r):cc 19 [.string text'] st=some r:=
 mF (li:=zgp) gu gy zkp rfl (fun _=>rfl) (.trans (by kernel_rfl) h)
noncomputable def UJ (cf:fQ) (lf:eX) (nC:Value) (out':Value) (zT:Value) (zS:Int) (vM:Int) (st:SS):Option (Nat×List Value×SS):=
 cond (decide (vM<zS)) (
 (fK zT vM 1).bind fun a=>
 ((st.ld a.1 a.2).bind asS).bind fun b=>
 let c:Int:=IntKind.wrap .i64 (vM+1)
 (cf 51 [.string b,.int .i64 c] st).bind fun d=>
 (fM d.1 0).bind fun e=>
 ((fM d.1 1).bind (ay .i64)).bind fun f=>
 (cf 52 [e] d.2).bind fun g=>
 (fM g.1 0).bind fun h=>
 ((fM g.1 1).bind (ay .i64)).bind fun i=>
 let j:SS:=g.2.new (.cells [.int .i64 0,.string ⟨#[]⟩,.string ⟨#[]⟩,.slice none 0 0,.slice none 0 0] 0)
 (j.eH g.2.next 0 5 h).bind fun k=>
 cond (decide (0≤i)) (
 let l:Int:=IntKind.wrap .i64 (vM+1)
 (fK e i 5).bind fun m=>
 ((k.ld m.1 (m.2+4)).bind (ay .i64)).bind fun n=>
 (aj nC).bind fun o=>
 (k.st o.1 o.2 [.int .i64 l,.int .i64 n]).bind fun p=>
 some (1,[.slice none 0 0,nC],p)) (
 ((lenV e).bind (ay .i64)).bind fun q=>
 cond (decide (1<q)) (
 (k.eF g.2.next 0 5).bind fun r=>
 (nX r 5).bind fun s=>
 let t:SS:=k.new (.cells (s++([])) 5)
 (t.app 5 88 out' (.slice (some ⟨k.next,0,none⟩) 1 1)).bind fun u=>
 let v:Int:=IntKind.wrap .i64 (vM+1)
 lf 6 [nC,u.1,zT,.int .i64 zS,.int .i64 v] u.2) (
 let w:Int:=IntKind.wrap .i64 (vM+1)
 lf 6 [nC,out',zT,.int .i64 zS,.int .i64 w] k))) (
 some (0,[nC,out'],st))
theorem Zc [Sym] (nC:Value) (out':Value) (zT:Value) (zS:Int) (vM:Int) (st:SS) {r:Nat×List Value×SS} (h:UJ cc Kz nC out' zT zS vM st=some r):Kz 6 [nC,out',zT,.int .i64 zS,.int .i64 vM] st=some r:=
 oM gu gy (key:=6) (I:=zf0) rfl (by kernel_rfl) (by kernel_rfl) rfl rfl (.trans (by kernel_rfl) h)
end Go.Proofs.YtifploedaacedaaGreatDoorE
namespace Go.Proofs.YtifploedaacedaaGreatDoorE
open Go Go.E Go.Proofs
structure RT (st:SS) (v:Value) (us:List (Nat×Tok)) (hi:Nat):Prop where
 rd:Rd st v (oD us) 5 us.length
 vb:∀ j k l q,v=.slice (some ⟨j,k,none⟩) l q→j<hi
 sz:us.length≤1099511627776/8
section
variable {S : List Nat} {st st' : SS} {v : Value} {us : List (Nat × Tok)} {hi B : Nat}
theorem RT.fD (h:RT st v us hi) (k:Keep B S st st') (hB:hi≤B) (hS:∀ j,j∈S→hi≤j):RT st' v us hi:=by
 refine ⟨?_,h.vb,h.sz⟩
 obtain ⟨h1,h2⟩:=h.rd
 refine ⟨h1,h2.imp id ?_⟩
 rintro ⟨j,cap,e,⟨z',hm⟩,hj⟩
 have hjb:=h.vb j 0 _ cap e
 exact ⟨j,cap,e,⟨z',(k.keep j (by omega) (fun hx=>by have:=hS j hx;omega)).trans hm⟩,pz hj k.next⟩
theorem RT.ext (h:RT st v us hi) (x:Ext st st'):RT st' v us hi:=⟨h.rd.ext x,h.vb,h.sz⟩
theorem RT.at' (h:RT st v us hi) {i:Nat} {t:Nat×Tok} (ht:us[i]?=some t):∃ p,fK v (i:Int) 5=some p∧∀ s:SS,RT s v us hi→
  s.ld p.1 p.2=some (.int .i64 t.2.kd)∧s.ld p.1 (p.2+1)=some (.string (mkS t.2.tx))∧s.ld p.1 (p.2+2)=some (.int .i64 t.2.nm)∧s.ld p.1 (p.2+3)=some (.int .i64 t.1)∧s.ld p.1 (p.2+4)=some (.int .i64 t.2.col):=by
 have hlt:(i:Int)<(us.length:Int):=by have:=(List.getElem?_eq_some_iff.1 ht).1;omega
 obtain ⟨p,a1,_,_⟩:=h.rd.load (j:=(i:Int)) (by omega) hlt (Yv us i t ht) rfl
 refine ⟨p,a1,fun s hs=>?_⟩
 obtain ⟨q,b1,_,b3⟩:=hs.rd.load (j:=(i:Int)) (by omega) hlt (Yv us i t ht) rfl
 rw [a1] at b1
 cases b1
 exact ⟨b3 0 (by omega),b3 1 (by omega),b3 2 (by omega),b3 3 (by omega),b3 4 (by omega)⟩
theorem RT.len (h:RT st v us hi):(lenV v).bind (ay .i64)=some (us.length:Int):=by rw [h.rd.len];rfl
end
theorem TA [Sym] {st:SS} {v:Value} {us:List (Nat×Tok)} {hi i:Nat} (h:RT st v us hi) {t:Nat×Tok} (ht:us[i]?=some t) (sg:List UInt8):cc 81 [v,.int .i64 i,.int .i64 3,.string (mkS sg)] st=some (.bool (oz t.2 sg),st):=by
 obtain ⟨p,e,hp⟩:=h.at' ht
 obtain ⟨k0,k1,_⟩:=hp (st.ro st.next) ⟨h.rd,h.vb,h.sz⟩
 have hlt:(i:Int)<(us.length:Int):=by have:=(List.getElem?_eq_some_iff.1 ht).1;omega
 refine zmu v _ _ _ st ?_
 unfold oz
 by_cases hk:t.2.kd=3
 ·have hk':(t.2.kd:Int)=3:=by omega
  rw [zdt hk]
  simp only [zgK,h.len,bf,zdt hlt,cu,e,k0,k1,eP,fP,zdt hk',DW,Bool.true_and]
  rfl
 ·have hk':¬ (t.2.kd:Int)=3:=by omega
  rw [bg hk]
  simp only [zgK,h.len,bf,zdt hlt,cu,e,k0,eP,bg hk',dn,Bool.false_and]
  rfl
theorem lC.Nk {us:List (Nat×Tok)} {i ln:Nat} {l:List Tok} (hl:lC us i ln l):i<us.length:=by
 obtain ⟨t,r,rfl⟩:=hl.lin.ne
 exact (List.getElem?_eq_some_iff.1 hl.head).1
theorem Ou (w:Val) (n:Int):flat3 (.tuple #[.agg (au w).toArray,.int .i64 n])=true:=by rfl
theorem wrapN {n:Int} (h0: -1000000≤n) (h1:n≤2199023255552):IntKind.wrap .i64 n=n:=wrap64 (by omega) (by omega)
def TakR (v:Value) (i:Nat) (st:SS) (r:Option (Value×SS)):Except Nat (Val×Nat)→Prop
 | .ok (x,n)=>∃ m,st.next≤m∧r=some (.tuple #[.agg (au x).toArray,.int .i64 n],st.dw m)
 | .error o=>∃ m w,st.next≤m∧r=some (.tuple #[.agg (au w).toArray,.int .i64 (-((o:Int)+1))],st.dw m)
theorem zto [Sym] {st:SS} {v:Value} {us:List (Nat×Tok)} {hi i ln:Nat} {l:List Tok} (h:RT st v us hi) (hhi:hi≤st.next) (hl:lC us i ln l):TakR v i st (cc 82 [v,.int .i64 i] st) (DR l):=by
 obtain ⟨t,r,rfl⟩:=hl.lin.ne
 have hisz:i≤1099511627776:=by have:=hl.Nk;have:=h.sz;omega
 have h0:RT (st.ro st.next) v us hi:=⟨h.rd,h.vb,h.sz⟩
 have a1:At ((st.ro st.next).new (.cells Z3 0)) st.next Z3:=At.new (st:=st.ro st.next) (fF _) Z3
 have x1:Ext (st.ro st.next) ((st.ro st.next).new (.cells Z3 0)):=(Ext.refl _).new _
 obtain ⟨p,e,hp⟩:=h.at' hl.head
 obtain ⟨s5,e5,a5,x5,n5⟩:=N7 (st:=(st.ro st.next).new (.cells Z3 0)) (by simp) (r:=Z3) (row:=au ⟨[],0,t.col⟩) rfl rfl
 have e5':(((st.ro st.next).new (.cells Z3 0)).new (.cells Z3 0)).st ((st.ro st.next).new (.cells Z3 0)).next 0 [.string ⟨#[]⟩,.int .i64 0,.int .i64 t.col]=some s5:=e5
 have b5:=a1.ext x5
 have h5:=(h0.ext x1).ext x5
 obtain ⟨_,_,_,_,q4⟩:=hp _ (h0.ext x1)
 obtain ⟨k0,k1,k2,_,_⟩:=hp _ h5
 have hn5:s5.next=st.next+2:=by rw [n5];rfl
 have hj:((st.ro st.next).new (.cells Z3 0)).next=st.next+1:=rfl
 have nx:∀ {s:SS},s5.next≤s.next→st.next≤s.next:=fun hs=>by omega
 rw [Uo]
 by_cases h2:t.kd=2
 ·rw [if_pos h2]
  have h2':(t.kd:Int)=2:=by omega
  obtain ⟨s10,e10,a10,m10,n10⟩:=a5.pU (k:=1) (vs:=[.int .i64 t.nm]) (row':=au ⟨[],t.nm,t.col⟩) rfl rfl
  obtain ⟨s12,f1,f2,f3,f4,_⟩:=vT (n:=3) (b5.mod m10 (by simp)) rfl a10 rfl rfl
  refine ⟨s12.next,nx (by have:=f4.next;omega),OI v _ st ?_⟩
  simp only [MQ,SS.fE,e,bf,q4,eP,e5',k0,zdt h2',cu,k2,e10,f1,f2,f3,Ou]
  rfl
 ·rw [if_neg h2]
  have h2':¬ (t.kd:Int)=2:=by omega
  by_cases h1:t.kd=1
  case neg=>
   rw [if_neg h1]
   have h1':¬ (t.kd:Int)=1:=by omega
   obtain ⟨oZ,f1,f2,f3,f4,_⟩:=vT (n:=3) b5 rfl a5 rfl rfl
   have hfl:=Ou ⟨[],0,t.col⟩ (-1)
   refine ⟨oZ.next,⟨[],0,t.col⟩,nx (by have:=f4.next;omega),OI v _ st ?_⟩
   simp only [MQ,SS.fE,e,bf,q4,eP,e5',k0,bg h2',dn,bg h1',nJ,cu,f1,f2,f3,hfl]
   rfl
  rw [if_pos h1]
  have h1':(t.kd:Int)=1:=by omega
  have hl1:=hl.tail (by omega)
  obtain ⟨s,u,rfl⟩:=hl1.lin.ne
  obtain ⟨oQ,e21,a21,m21,n21⟩:=a5.pU (k:=0) (vs:=[.string (mkS t.tx)]) (row':=au ⟨t.tx,0,t.col⟩) rfl rfl
  have WT:=b5.mod m21 (by simp)
  have h21:RT oQ v us hi:=h5.fD (m21.fD (fF _)) (by omega) (by simp;omega)
  have hw1:=ru hisz
  have hw2:IntKind.wrap .i64 ((i:Int)+2)=((i+2:Nat):Int):=Tj hisz (k:=2) (by omega)
  have c1:=TA h21 hl1.head [43]
  have c1':cc 81 [v,.int .i64 ((i+1:Nat):Int),.int .i64 3,.string ⟨#[43]⟩] oQ=some (.bool (oz s [43]),oQ):=c1
  simp only
  by_cases hpl:oz s [43]=true
  ·rw [hpl] at c1'
   rw [if_pos hpl]
   have hl2:=hl1.tail (by have:=EY hpl;omega)
   obtain ⟨w,z,rfl⟩:=hl2.lin.ne
   obtain ⟨p2,g2,hp2⟩:=h.at' hl2.head
   have g2':fK v ((i+2:Nat):Int) 5=some p2:=g2
   obtain ⟨w0,_,w2,_⟩:=hp2 oQ h21
   simp only
   by_cases hw:w.kd=2
   ·rw [if_pos hw]
    have hw':(w.kd:Int)=2:=by omega
    obtain ⟨s59,e59,a59,m59,n59⟩:=a21.pU (k:=1) (vs:=[.int .i64 w.nm]) (row':=au ⟨t.tx,w.nm,t.col⟩) rfl rfl
    obtain ⟨SE,f1,f2,f3,f4,_⟩:=vT (n:=3) (WT.mod m59 (by simp)) rfl a59 rfl rfl
    have hfl:=Ou ⟨t.tx,w.nm,t.col⟩ 3
    refine ⟨SE.next,nx (by have:=f4.next;omega),OI v _ st ?_⟩
    simp only [MQ,SS.fE,e,bf,q4,eP,fP,e5',k0,k1,bg h2',dn,zdt h1',lY,e21,hw1,c1',mg,hw2,g2',w0,zdt hw',w2,e59,f1,f2,f3,hfl,cu]
    rfl
   ·rw [if_neg hw]
    have hw':¬ (w.kd:Int)=2:=by omega
    obtain ⟨Vr,f1,f2,f3,f4,_⟩:=vT (n:=3) WT rfl a21 rfl rfl
    have hfl:=Ou ⟨t.tx,0,t.col⟩ (-3)
    refine ⟨Vr.next,⟨t.tx,0,t.col⟩,nx (by have:=f4.next;omega),OI v _ st ?_⟩
    simp only [MQ,SS.fE,e,bf,q4,eP,fP,e5',k0,k1,bg h2',dn,zdt h1',lY,e21,hw1,c1',mg,hw2,g2',w0,bg hw',nJ,f1,f2,f3,hfl,cu]
    rfl
  ·have hpl':oz s [43]=false:=Bool.eq_false_iff.2 hpl
   rw [hpl'] at c1'
   rw [if_neg hpl]
   have c2:=TA h21 hl1.head [45]
   have c2':cc 81 [v,.int .i64 ((i+1:Nat):Int),.int .i64 3,.string ⟨#[45]⟩] oQ=some (.bool (oz s [45]),oQ):=c2
   by_cases hm:oz s [45]=true
   ·rw [hm] at c2'
    rw [if_pos hm]
    have hl2:=hl1.tail (by have:=EY hm;omega)
    obtain ⟨w,z,rfl⟩:=hl2.lin.ne
    obtain ⟨p2,g2,hp2⟩:=h.at' hl2.head
    have g2':fK v ((i+2:Nat):Int) 5=some p2:=g2
    obtain ⟨w0,_,w2,_⟩:=hp2 oQ h21
    simp only
    by_cases hw:w.kd=2
    ·rw [if_pos hw]
     have hw':(w.kd:Int)=2:=by omega
     obtain ⟨Pn,e40,a40,VO,n40⟩:=a21.pU (k:=1) (vs:=[.int .i64 w.nm]) (row':=au ⟨t.tx,w.nm,t.col⟩) rfl rfl
     have SN:Pn.ld ((st.ro st.next).new (.cells Z3 0)).next 1=some (.int .i64 w.nm):=a40.ld
     obtain ⟨s43,e43,a43,SH,n43⟩:=a40.pU (k:=1) (vs:=[.int .i64 (-w.nm)]) (row':=au ⟨t.tx, -w.nm,t.col⟩) rfl rfl
     obtain ⟨s45,f1,f2,f3,f4,_⟩:=vT (n:=3) ((WT.mod VO (by simp)).mod SH (by simp)) rfl a43 rfl rfl
     have hneg:=ztm hl2.tok.VK hl2.tok.VJ
     have hfl:=Ou ⟨t.tx, -w.nm,t.col⟩ 3
     refine ⟨s45.next,nx (by have:=f4.next;omega),OI v _ st ?_⟩
     simp only [MQ,SS.fE,e,bf,q4,eP,fP,e5',k0,k1,bg h2',dn,zdt h1',lY,e21,hw1,c1',mg,nJ,cu,c2',hw2,g2',w0,zdt hw',w2,e40,SN,hneg,e43,f1,f2,f3,hfl]
     rfl
    ·rw [if_neg hw]
     have hw':¬ (w.kd:Int)=2:=by omega
     obtain ⟨Vr,f1,f2,f3,f4,_⟩:=vT (n:=3) WT rfl a21 rfl rfl
     have hfl:=Ou ⟨t.tx,0,t.col⟩ (-3)
     refine ⟨Vr.next,⟨t.tx,0,t.col⟩,nx (by have:=f4.next;omega),OI v _ st ?_⟩
     simp only [MQ,SS.fE,e,bf,q4,eP,fP,e5',k0,k1,bg h2',dn,zdt h1',lY,e21,hw1,c1',mg,nJ,cu,c2',hw2,g2',w0,bg hw',f1,f2,f3,hfl]
     rfl
   ·have hm':oz s [45]=false:=Bool.eq_false_iff.2 hm
    rw [hm'] at c2'
    rw [if_neg hm]
    obtain ⟨Vr,f1,f2,f3,f4,_⟩:=vT (n:=3) WT rfl a21 rfl rfl
    have hfl:=Ou ⟨t.tx,0,t.col⟩ 1
    refine ⟨Vr.next,nx (by have:=f4.next;omega),OI v _ st ?_⟩
    simp only [MQ,SS.fE,e,bf,q4,eP,fP,e5',k0,k1,bg h2',dn,zdt h1',lY,e21,hw1,c1',mg,nJ,cu,c2',f1,f2,f3,hfl]
    rfl
def QT (B lb j2:Nat) (w0 w1 w2 w4 v:Value) (i:Nat) (vs:List Val) (st:SS) (r:Option (Nat×List Value×SS)):Except Nat (List Val)→Prop
 | .ok qs=>∃ st' DK,r=some (0,[ptr j2 0,ptr lb 0],st')∧Keep B [lb] st st'∧At st' lb [w0,w1,w2,DK,w4]∧Own B st' DK (ak au (vs++qs)) 3 (vs++qs).length
 | .error o=>∃ st' row,r=some (1,[ptr j2 0,.int .i64 ((i+o:Nat):Int)],st')∧Keep B [lb,j2] st st'∧At st' j2 row∧row.length=5∧row.all one=true
theorem zuj [Sym] {ln lb B j2 hi:Nat} {v w0 w1 w2 w4:Value} {us:List (Nat×Tok)} (hhj:hi≤j2) (hjl:j2<lb) (hlB:lb<B) (hw:one w0=true∧one w1=true∧one w2=true∧one w4=true):∀ (k i:Nat) (l:List Tok) (vs:List Val) (av:Value) (st:SS),l.length≤k→vs.length+k≤1099511627776/8→st.lim≤st.next→RT st v us hi→lC us i ln l→
  At st lb [w0,w1,w2,av,w4]→(∃ r2,At st j2 r2∧r2.length=5)→B≤st.next→Own B st av (ak au vs) 3 vs.length→
  QT B lb j2 w0 w1 w2 w4 v i vs st (zM 11 [v,ptr j2 0,ptr lb 0,.int .i64 i] st) (BP k l):=by
 intro k
 induction k with
 | zero=>
   intro i l vs av st hk _ _ h hl
   obtain ⟨t,r,rfl⟩:=hl.lin.ne
   simp at hk
 | succ k ih=>
   intro i l vs av st hk hvs hll h hl ha hj2 hB ho
   obtain ⟨t,r,rfl⟩:=hl.lin.ne
   obtain ⟨p,e,hp⟩:=h.at' hl.head
   obtain ⟨k0,_⟩:=hp st h
   have hlim:st.lim≤B:=by have:=ha.2.2;omega
   have hisz:i≤1099511627776:=by have:=hl.Nk;have:=h.sz;omega
   unfold BP
   by_cases h0:t.kd=0
   ·rw [if_pos h0]
    have hr:=hl.lin.last h0
    subst hr
    have h0':(t.kd:Int)=0:=by omega
    refine ⟨st,av,zdy v _ _ _ st ?_,.refl _,ha,by simpa using ho⟩
    simp only [Zj,e,bf,k0,eP,zdt h0',lY,dn]
   ·rw [if_neg h0]
    have h0':¬ (t.kd:Int)=0:=by omega
    have hp:=zto h (by omega) hl
    have hlin:=Yr hl.lin
    cases hx:DR (t::r) with
    | error o=>
      rw [hx] at hp hlin
      obtain ⟨m,w,hm,c3⟩:=hp
      have x3:Ext st (st.dw m):=.pK st hm
      obtain ⟨s7,e7,a7,x7,_⟩:=pX (st:=st.dw m) (x3.ll hll) (r:=Z3) (lU (au w)) (n:=3) rfl rfl rfl
      have x07:=x3.trans x7
      obtain ⟨r2,a2,l2⟩:=hj2
      have KR:=ha.ext x07
      obtain ⟨s8,f1,f2,f3,f4,f5⟩:=vT (n:=5) (a2.ext x07) l2 KR rfl (by simp [hw,ho.cell.2])
      have hneg: -((o:Int)+1)<0:=by omega
      have hw1:IntKind.wrap .i64 ((i:Int)- -((o:Int)+1))=(i:Int)+o+1:=by
       have:=hl.Nk;have:=h.sz
       simp only at hlin
       have:o<us.length:=by
        obtain ⟨rest,hr⟩:=hl.drop
        have:=congrArg List.length hr
        simp at this hlin
        omega
       rw [wrapN (by omega) (by omega)];omega
      have hw2:IntKind.wrap .i64 ((i:Int)+o+1-1)=((i+o:Nat):Int):=by
       have:=hl.Nk;have:=h.sz
       simp only at hlin
       have:o<us.length:=by
        obtain ⟨rest,hr⟩:=hl.drop
        have:=congrArg List.length hr
        simp at this hlin
        omega
       rw [wrapN (by omega) (by omega)];omega
      refine ⟨s8,[w0,w1,w2,av,w4],zdy v _ _ _ st ?_,(x07.fD hB).gq f4 (lT hB x07.next) (.inr (by simp)),f5,rfl,by simp [hw,ho.cell.2]⟩
      simp only [Zj,e,bf,k0,eP,bg h0',nJ,cu,c3,fM,List.getElem?_toArray,lN,iZ,e7,zdt hneg,fZ,f1,hw1,hw2,f2]
    | ok y=>
      obtain ⟨x,n⟩:=y
      rw [hx] at hp hlin
      obtain ⟨m,hm,c3⟩:=hp
      simp only at hlin
      have x3:Ext st (st.dw m):=.pK st hm
      obtain ⟨s7,e7,a7,x7,_⟩:=pX (st:=st.dw m) (x3.ll hll) (r:=Z3) (lU (au x)) (n:=3) rfl rfl rfl
      have x07:=x3.trans x7
      have VE:B≤s7.next:=lT hB x07.next
      have KR:=ha.ext x07
      have o7:=ho.ext x07
      have A8:s7.ld lb 3=some av:=KR.ld
      have xC:s7.eF (st.dw m).next 0 3=some (.agg (au x).toArray):=a7.eF rfl
      have Qw:nX (.agg (au x).toArray) 3=some (au x):=YJ rfl
      obtain ⟨DK,oZ,g1,g2,g3⟩:=o7.Fa VE (by rw [x07.lim];exact hlim) (row:=au x) rfl (by omega) rfl (bt:=32) (by omega) (by omega)
      have IK:=KR.fD (g3 []) hlB (by simp)
      have h17:=(h.ext x07).fD (g3 []) (by omega) (by simp)
      have NJ:Keep B [lb] st oZ:=(x07.fD hB).then (g3 _)
      obtain ⟨GN,e19,Xb,m19,_⟩:=IK.eH (k:=3) (n:=1) g2.cell.1 rfl (by simp [g2.cell.2]) (row':=[w0,w1,w2,DK,w4]) rfl
      have II:B≤oZ.next:=lT hB NJ.next
      have JM:=NJ.gq m19 II (.inr (by simp))
      have h19:=h17.fD (m19.fD (fF _)) (by omega) (by simp;omega)
      have o19:=g2.lq m19 (by simp;omega)
      have PU:Own B GN DK (ak au (vs++[x])) 3 (vs++[x]).length:=by rw [FX,FV,List.length_append];exact o19
      have hnl:n<(t::r).length:=by
       obtain ⟨t',r',e⟩:=hlin.1.ne
       have:=congrArg List.length e
       simp at this ⊢
       omega
      have Az:∃ r2,At GN j2 r2∧r2.length=5:=by
       obtain ⟨r2,a2,l2⟩:=hj2
       exact ⟨r2,a2.fD JM (by omega) (by simp;omega),l2⟩
      have next:=ih (i+n) ((t::r).drop n) (vs++[x]) DK GN (by rw [List.length_drop];omega) (by simp;omega) (JM.ll hll) h19 (hl.go hlin.1) Xb Az (lT hB JM.next) PU
      have hneg:¬ (n:Int)<0:=by omega
      have hgo:=(hl.go hlin.1).Nk
      have hwn:IntKind.wrap .i64 ((i:Int)+(n:Int))=((i+n:Nat):Int):=Tj hisz (by have:=h.sz;omega)
      have step:∀ y,zM 11 [v,ptr j2 0,ptr lb 0,.int .i64 ((i+n:Nat):Int)] GN=some y→zM 11 [v,ptr j2 0,ptr lb 0,.int .i64 i] st=some y:=fun y hy=>by
       refine zdy v _ _ _ st ?_
       simp only [Zj,e,bf,k0,eP,bg h0',nJ,cu,c3,fM,List.getElem?_toArray,lN,iZ,e7,bg hneg,dn,fZ,A8,xC,Qw,List.append_nil,g1,e19,hwn]
       exact hy
      simp only
      cases hz:BP k ((t::r).drop n) with
      | error o=>
        rw [hz] at next
        obtain ⟨st',row,d1,d2,d4,d5,d6⟩:=next
        rw [Nat.add_assoc] at d1
        exact ⟨st',row,step _ d1,(JM.mono (fF _) (fun j hj _=>by simp at hj ⊢;omega)).then d2,d4,d5,d6⟩
      | ok qs=>
        rw [hz] at next
        obtain ⟨st',PG,d1,d2,d4,d5⟩:=next
        exact ⟨st',PG,step _ d1,JM.then d2,d4,by simpa using d5⟩
theorem zuk [Sym] {us:List (Nat×Tok)} {hi i:Nat} {t:Nat×Tok} (ps:List Pr) (hsz:ps.length≤1099511627776) (v pv t2 x:Value) (st0:SS) (hll:st0.lim≤st0.next) (h:RT st0 v us hi) (ht:us[i]?=some t) (hv:Rd st0 pv (ak fB ps) 5 ps.length):
  ∀ (k j:Nat) (b:Bool) (st:SS),ps.length=k+j→Ext st0 st→∃ st',zM 21 [v,t2,x,.int .i64 i,.bool b,pv,.int .i64 ps.length,.int .i64 j] st=some (0,[v,t2,x,.int .i64 i,.bool (b||decide (t.2.tx∈(ps.drop j).map (·.fd)))],st')∧Ext st0 st':=by
 intro k
 induction k with
 | zero=>
   intro j b st hk he
   have hlt:¬ (j:Int)<(ps.length:Int):=by omega
   refine ⟨st,zdz v t2 x _ _ pv _ _ st ?_,he⟩
   rw [List.drop_of_length_le (by omega)]
   simp only [Zi,bg hlt,dn,List.map_nil,List.not_mem_nil,decide_false,Bool.or_false]
 | succ k ih=>
   intro j b st hk he
   obtain ⟨p,hp⟩:∃ p,ps[j]?=some p:=⟨_,mW (by omega)⟩
   have hjl:(j:Int)<(ps.length:Int):=by omega
   obtain ⟨y,b1,b2,_⟩:=(hv.ext he).load (j:=(j:Int)) (by omega) hjl (xw Yp ps j p hp) rfl
   have b2':st.eF y.1 y.2 5=some (.agg (fB p).toArray):=b2
   obtain ⟨s4,e4,a4,x4,_⟩:=pX (st:=st) (he.ll hll) (r:=[.string ⟨#[]⟩,.int .i64 0,.string ⟨#[]⟩,.int .i64 0,.int .i64 0]) (lU (fB p)) (n:=5) rfl rfl rfl
   have l0:s4.ld st.next 0=some (.string (mkS p.fd)):=a4.ld
   obtain ⟨q,e,hq⟩:=h.at' ht
   obtain ⟨_,k1,_⟩:=hq s4 (h.ext (he.trans x4))
   have hw:=ru (i:=j) (by omega)
   rw [drop_cons hp]
   cases b with
   | true=>
     obtain ⟨st',d1,d2⟩:=ih (j+1) true s4 (by omega) (he.trans x4)
     refine ⟨st',zdz v t2 x _ _ pv _ _ st ?_,d2⟩
     simp only [Bool.true_or] at d1
     simp only [Zi,zdt hjl,cu,b1,bf,b2',e4,hw,Bool.true_or]
     exact d1
   | false=>
     obtain ⟨st',d1,d2⟩:=ih (j+1) (fA (mkS p.fd) (mkS t.2.tx)) s4 (by omega) (he.trans x4)
     refine ⟨st',zdz v t2 x _ _ pv _ _ st ?_,d2⟩
     have hor:(fA (mkS p.fd) (mkS t.2.tx)||decide (t.2.tx∈(ps.drop (j+1)).map (·.fd)))=(false||decide (t.2.tx∈(p::ps.drop (j+1)).map (·.fd))):=by
      rw [DW,Bool.eq_iff_iff]
      simp only [Bool.or_eq_true,decide_eq_true_eq,List.map_cons,List.mem_cons,Bool.false_eq_true,false_or]
      constructor
      ·rintro (h | h)
       ·exact .inl h.symm
       ·exact .inr h
      ·rintro (h | h)
       ·exact .inl h.symm
       ·exact .inr h
     rw [hor] at d1
     simp only [Zi,zdt hjl,cu,b1,bf,b2',e4,dn,l0,fP,e,k1,hw]
     exact d1
noncomputable def JY (cf:fQ) (lf:eX) (a b c:Value) (d:Int) (e:Bool) (s:SS):Option (Nat×List Value×SS):=
 (fK a d 5).bind fun f=>
  ((s.ld f.1 f.2).bind (ay .i64)).bind fun g=>
  cond (!(decide (g=1))) (
   (aj c).bind fun h=>
   (s.eF h.1 h.2 5).bind fun i=>
   (aj b).bind fun j=>
   (s.eH j.1 j.2 5 i).bind fun k=>
   some (1,[b,.int .i64 d],k)) (
   cond e (
    (aj c).bind fun l=>
    (s.eF l.1 l.2 5).bind fun m=>
    (aj b).bind fun n=>
    (s.eH n.1 n.2 5 m).bind fun o=>
    some (1,[b,.int .i64 d],o)) (
    let p:Int:=IntKind.wrap .i64 (d+1)
    (cf 81 [a,.int .i64 p,.int .i64 3,.string ⟨#[61]⟩] s).bind fun q=>
    ((some q.1).bind lF).bind fun r=>
    cond (!r) (
     (aj c).bind fun t=>
     (q.2.eF t.1 t.2 5).bind fun u=>
     let v:Int:=IntKind.wrap .i64 (d+1)
     (aj b).bind fun w=>
     (q.2.eH w.1 w.2 5 u).bind fun x=>
     some (1,[b,.int .i64 v],x)) (
     let y:Int:=IntKind.wrap .i64 (d+2)
     (cf 82 [a,.int .i64 y] q.2).bind fun z=>
     (fM z.1 0).bind fun A=>
     ((fM z.1 1).bind (ay .i64)).bind fun B=>
     let C:SS:=z.2.new (.cells [.string ⟨#[]⟩,.int .i64 0,.int .i64 0] 0)
     (C.eH z.2.next 0 3 A).bind fun D=>
     cond (decide (B<0)) (
      (aj c).bind fun E=>
      (D.eF E.1 E.2 5).bind fun F=>
      let G:Int:=IntKind.wrap .i64 (d+2)
      let H:Int:=IntKind.wrap .i64 (G-B)
      let I:Int:=IntKind.wrap .i64 (H-1)
      (aj b).bind fun J=>
      (D.eH J.1 J.2 5 F).bind fun K=>
      some (1,[b,.int .i64 I],K)) (
      (aj c).bind fun L=>
      (D.ld L.1 (L.2+4)).bind fun M=>
      (fK a d 5).bind fun N=>
      ((D.ld N.1 (N.2+1)).bind asS).bind fun O=>
      (fK a d 5).bind fun P=>
      ((D.ld P.1 (P.2+4)).bind (ay .i64)).bind fun Q=>
      (D.eF z.2.next 0 3).bind fun R=>
      (nX R 3).bind fun S=>
      (nX (.agg ⟨spl [.string O,.int .i64 Q,.string ⟨#[]⟩,.int .i64 0,.int .i64 0] 2 S⟩) 5).bind fun T=>
      let U:SS:=D.new (.cells (T++([])) 5)
      (U.app 5 56 M (.slice (some ⟨D.next,0,none⟩) 1 1)).bind fun V=>
      (aj c).bind fun W=>
      (V.2.eH W.1 (W.2+4) 1 V.1).bind fun X=>
      let Y:Int:=IntKind.wrap .i64 (d+2)
      let Z:Int:=IntKind.wrap .i64 (Y+B)
      lf 18 [a,b,c,.int .i64 Z] X))))
noncomputable def rpK (cf:fQ) (lf:eX) (a:Nat×List Value×SS):Option (Nat×List Value×SS):=
 (a.2.1[0]?).bind fun b=>(a.2.1[1]?).bind fun c=>(a.2.1[2]?).bind fun d=>((a.2.1[3]?).bind (ay .i64)).bind fun e=>((a.2.1[4]?).bind lF).bind fun f=>JY cf lf b c d e f a.2.2
theorem Py (cf:fQ) (lf:eX) (e:Nat) (v7 v8 v9:Value) (n:Int) (b:Bool) (s:SS):rpK cf lf (e,[v7,v8,v9,.int .i64 n,.bool b],s)=JY cf lf v7 v8 v9 n b s:=rfl
theorem zqG (cf:fQ) (lf:eX) (v t2 x:Value) (i:Int) (st:SS):zek cf lf v t2 x i st=(fK v i 5).bind fun p1=>((st.ld p1.1 p1.2).bind (ay .i64)).bind fun n2=>cond (!(decide (n2=0)))
  ((aj x).bind fun p3=>(st.ld p3.1 (p3.2+4)).bind fun v4=>((lenV v4).bind (ay .i64)).bind fun n5=>(lf 21 [v,t2,x,.int .i64 i,.bool false,v4,.int .i64 n5,.int .i64 0] st).bind (rpK cf lf)) (some (0,[t2,x],st)):=rfl
def zp6 (B lb j2:Nat) (w0 w1 w2 w3 v:Value) (i:Nat) (ps:List Pr) (st:SS) (r:Option (Nat×List Value×SS)):Except Nat (List Pr)→Prop
 | .ok qs=>∃ st' pv',r=some (0,[ptr j2 0,ptr lb 0],st')∧Keep B [lb] st st'∧At st' lb [w0,w1,w2,w3,pv']∧Own B st' pv' (ak fB (ps++qs)) 5 (ps++qs).length
 | .error o=>∃ st' row,r=some (1,[ptr j2 0,.int .i64 ((i+o:Nat):Int)],st')∧Keep B [lb,j2] st st'∧At st' j2 row∧row.length=5∧row.all one=true
theorem O6 (a:ByteArray) (c:Int) (w:Val):nX (.agg ⟨spl [.string a,.int .i64 c,.string ⟨#[]⟩,.int .i64 0,.int .i64 0] 2 (au w)⟩) 5=some [.string a,.int .i64 c,.string (mkS w.nm),.int .i64 w.x,.int .i64 w.col]:=rfl
def QS (B lb j2:Nat) (w0 w1 w2 w3 pv v:Value) (us:List (Nat×Tok)) (hi i:Nat) (ps:List Pr) (st s6:SS) (lf:eX) (r:Option (Nat×List Value×SS)):Except Nat (Pr×Nat)→Prop
 | .ok (p,n)=>∃ Gl pv',r=lf 18 [v,ptr j2 0,ptr lb 0,.int .i64 ((i+n:Nat):Int)] Gl∧Keep B [lb] st Gl∧At Gl lb [w0,w1,w2,w3,pv']∧Own B Gl pv' (ak fB (ps++[p])) 5 (ps++[p]).length∧RT Gl v us hi
 | .error o=>∃ s',r=some (1,[ptr j2 0,.int .i64 ((i+o:Nat):Int)],s')∧Keep B [lb,j2] st s'∧At s' j2 [w0,w1,w2,w3,pv]
theorem zvK [Sym] {ln lb B j2 hi i:Nat} {v w0 w1 w2 w3 pv:Value} {us:List (Nat×Tok)} {l:List Tok} {t:Tok} {r:List Tok} (hlr:l=t::r) {ps:List Pr} {st s6:SS} (lf:eX) (hhj:hi≤j2) (hjl:j2<lb) (hlB:lb<B) (hw:one w0=true∧one w1=true∧one w2=true∧one w3=true)
  (hps:ps.length≤1099511627776/8) (hll:st.lim≤st.next) (h:RT st v us hi) (hl:lC us i ln l) (ha:At st lb [w0,w1,w2,w3,pv]) (hj2:∃ r2,At st j2 r2∧r2.length=5) (hB:B≤st.next) (ho:Own B st pv (ak fB ps) 5 ps.length) (x6:Ext st s6):
  QS B lb j2 w0 w1 w2 w3 pv v us hi i ps st s6 lf (JY cc lf v (ptr j2 0) (ptr lb 0) i (decide (t.tx∈ps.map (·.fd))) s6) (pairT (ps.map (·.fd)) l):=by
 subst hlr
 obtain ⟨p,e,hp⟩:=h.at' hl.head
 have hlim:st.lim≤B:=by have:=ha.2.2;omega
 have hisz:i≤1099511627776:=by have:=hl.Nk;have:=h.sz;omega
 have h6:=h.ext x6
 obtain ⟨q0,q1,_,_,q4⟩:=hp s6 h6
 have fail:∀ (s:SS),Ext st s→∃ s',s.eF lb 0 5=some (.agg [w0,w1,w2,w3,pv].toArray)∧s.eH j2 0 5 (.agg [w0,w1,w2,w3,pv].toArray)=some s'∧Keep B [lb,j2] st s'∧At s' j2 [w0,w1,w2,w3,pv]:=by
  intro s x
  obtain ⟨r2,a2,l2⟩:=hj2
  obtain ⟨s',f1,f2,f3,f4,f5⟩:=vT (n:=5) (a2.ext x) l2 (ha.ext x) rfl (by simp [hw,ho.cell.2])
  exact ⟨s',f1,f2,(x.fD hB).gq f4 (lT hB x.next) (.inr (by simp)),f5⟩
 have hlin:=Yq (seen:=ps.map (·.fd)) hl.lin
 have hoff:∀ o,pairT (ps.map (·.fd)) (t::r)=.error o→i+o<us.length:=fun o ho'=>by
  rw [ho'] at hlin
  simp only at hlin
  obtain ⟨rest,hr⟩:=hl.drop
  have hr':=congrArg List.length hr
  rw [List.length_drop,List.length_append,List.length_map] at hr'
  have hlt:=hl.Nk
  omega
 rw [YI] at hlin hoff ⊢
 by_cases h1:t.kd=1
 case neg=>
  rw [if_neg (fun x=>h1 x.1)]
  have h1':¬ (t.kd:Int)=1:=by omega
  obtain ⟨s',f1,f2,f3,f4⟩:=fail s6 x6
  refine ⟨s',?_,f3,f4⟩
  rw [Nat.add_zero]
  simp only [JY,e,bf,eP,fZ,q0,bg h1',nJ,cu,f1,f2]
 have h1':(t.kd:Int)=1:=by omega
 by_cases hk:t.tx∈ps.map (·.fd)
 ·rw [if_neg (fun x=>x.2 hk)]
  obtain ⟨s',f1,f2,f3,f4⟩:=fail s6 x6
  refine ⟨s',?_,f3,f4⟩
  rw [Nat.add_zero,zdt hk]
  simp only [JY,e,bf,eP,fZ,q0,zdt h1',lY,dn,cu,f1,f2]
 rw [if_pos ⟨h1,hk⟩] at hlin hoff ⊢
 rw [bg hk]
 have hl1:=hl.tail (by omega)
 obtain ⟨e',u,rfl⟩:=hl1.lin.ne
 have c23:=TA h6 hl1.head [61]
 have rF:cc 81 [v,.int .i64 ((i+1:Nat):Int),.int .i64 3,.string ⟨#[61]⟩] s6=some (.bool (oz e' [61]),s6):=c23
 have hw1:=ru hisz
 have hw2:IntKind.wrap .i64 ((i:Int)+2)=((i+2:Nat):Int):=Tj hisz (k:=2) (by omega)
 simp only at hlin hoff ⊢
 by_cases he:oz e' [61]=true
 case neg=>
  have he':oz e' [61]=false:=Bool.eq_false_iff.2 he
  rw [he'] at rF
  rw [if_neg he]
  obtain ⟨s',f1,f2,f3,f4⟩:=fail s6 x6
  refine ⟨s',?_,f3,f4⟩
  simp only [JY,e,bf,eP,fZ,q0,zdt h1',lY,dn,hw1,rF,mg,nJ,cu,f1,f2]
 rw [he] at rF
 rw [if_pos he] at hlin hoff ⊢
 have hl2:=hl1.tail (by have:=EY he;omega)
 have hval:=zto h6 (by have:=x6.next;omega) hl2
 cases hx:DR u with
 | error o=>
   rw [hx] at hval hoff
   have hoff':=hoff (2+o) rfl
   obtain ⟨m,w,hm,c31⟩:=hval
   have QG:cc 82 [v,.int .i64 ((i+2:Nat):Int)] s6=some (.tuple #[.agg (au w).toArray,.int .i64 (-((o:Int)+1))],s6.dw m):=c31
   have x31:Ext s6 (s6.dw m):=.pK _ hm
   obtain ⟨MV,e35,a35,SC,_⟩:=pX (st:=s6.dw m) ((x6.trans x31).ll hll) (r:=Z3) (lU (au w)) (n:=3) rfl rfl rfl
   have hneg: -((o:Int)+1)<0:=by omega
   have hw3:IntKind.wrap .i64 (((i+2:Nat):Int)- -((o:Int)+1))=(i:Int)+2+o+1:=by have:=h.sz;rw [wrapN (by omega) (by omega)];omega
   have hw4:IntKind.wrap .i64 ((i:Int)+2+o+1-1)=((i+(2+o):Nat):Int):=by have:=h.sz;rw [wrapN (by omega) (by omega)];omega
   obtain ⟨s',f1,f2,f3,f4⟩:=fail MV ((x6.trans x31).trans SC)
   refine ⟨s',?_,f3,f4⟩
   simp only [JY,e,bf,eP,fZ,q0,zdt h1',lY,dn,hw1,rF,mg,hw2,QG,fM,List.getElem?_toArray,lN,iZ,e35,zdt hneg,cu,f1,hw3,hw4,f2]
 | ok y=>
   obtain ⟨x,n⟩:=y
   rw [hx] at hval hlin
   simp only at hlin
   obtain ⟨m,hm,c31⟩:=hval
   have QG:cc 82 [v,.int .i64 ((i+2:Nat):Int)] s6=some (.tuple #[.agg (au x).toArray,.int .i64 n],s6.dw m):=c31
   have x31:Ext s6 (s6.dw m):=.pK _ hm
   obtain ⟨MV,e35,a35,SC,_⟩:=pX (st:=s6.dw m) ((x6.trans x31).ll hll) (r:=Z3) (lU (au x)) (n:=3) rfl rfl rfl
   have Ei:=(x6.trans x31).trans SC
   have VX:=ha.ext Ei
   have o35:=ho.ext Ei
   have l44:MV.ld lb 4=some pv:=VX.ld
   obtain ⟨_,z1,_,_,z4⟩:=hp MV (h.ext Ei)
   have l49:MV.eF (s6.dw m).next 0 3=some (.agg (au x).toArray):=a35.eF rfl
   have hc50:nX (.agg (au x).toArray) 3=some (au x):=YJ rfl
   have nx35:B≤MV.next:=lT hB Ei.next
   obtain ⟨pv',s53,g1,g2,g3⟩:=o35.Fa nx35 (by rw [Ei.lim];exact hlim) (row:=fB ⟨t.tx,t.col,x⟩) rfl (by omega) rfl (bt:=56) (by omega) (by omega)
   have g1':(MV.new (.cells [.string (mkS t.tx),.int .i64 t.col,.string (mkS x.nm),.int .i64 x.x,.int .i64 x.col] 5)).app 5 56 pv (.slice (some ⟨MV.next,0,none⟩) 1 1)=some (pv',s53):=g1
   have la53:=VX.fD (g3 []) hlB (by simp)
   have h53:=(h.ext Ei).fD (g3 []) (by omega) (by simp)
   have K53:Keep B [lb] st s53:=(Ei.fD hB).then (g3 _)
   obtain ⟨Gl,e55,a55,m55,_⟩:=la53.eH (k:=4) (n:=1) g2.cell.1 rfl (by simp [g2.cell.2]) (row':=[w0,w1,w2,w3,pv']) rfl
   have nx53:B≤s53.next:=lT hB K53.next
   have QU:=K53.gq m55 nx53 (.inr (by simp))
   have h55:=h53.fD (m55.fD (fF _)) (by omega) (by simp;omega)
   have o55:=g2.lq m55 (by simp;omega)
   have o55':Own B Gl pv' (ak fB (ps++[(⟨t.tx,t.col,x⟩:Pr)])) 5 (ps++[(⟨t.tx,t.col,x⟩:Pr)]).length:=by rw [FX,FV,List.length_append];exact o55
   have hgo:=hl.go (n:=2+n) hlin.1
   have hgz:=hgo.Nk
   have hneg:¬ (n:Int)<0:=by omega
   have hw3:IntKind.wrap .i64 (((i+2:Nat):Int)+(n:Int))=((i+(2+n):Nat):Int):=by have:=h.sz;rw [wrapN (by omega) (by omega)];omega
   refine ⟨Gl,pv',?_,QU,a55,o55',h55⟩
   simp only [JY,e,bf,eP,fZ,q0,zdt h1',lY,dn,hw1,rF,mg,hw2,QG,fM,List.getElem?_toArray,lN,iZ,e35,bg hneg,l44,z1,fP,z4,l49,hc50,O6,List.append_nil,g1',e55,hw3]
theorem zsL [Sym] {ln lb B j2 hi:Nat} {v w0 w1 w2 w3:Value} {us:List (Nat×Tok)} (hhj:hi≤j2) (hjl:j2<lb) (hlB:lb<B) (hw:one w0=true∧one w1=true∧one w2=true∧one w3=true):∀ (k i:Nat) (l:List Tok) (ps:List Pr) (pv:Value) (st:SS),l.length≤k→ps.length+k≤1099511627776/8→st.lim≤st.next→RT st v us hi→lC us i ln l→
  At st lb [w0,w1,w2,w3,pv]→(∃ r2,At st j2 r2∧r2.length=5)→B≤st.next→Own B st pv (ak fB ps) 5 ps.length→
  zp6 B lb j2 w0 w1 w2 w3 v i ps st (zM 18 [v,ptr j2 0,ptr lb 0,.int .i64 i] st) (xJ k (ps.map (·.fd)) l):=by
 intro k
 induction k with
 | zero=>
   intro i l ps pv st hk _ _ h hl
   obtain ⟨t,r,rfl⟩:=hl.lin.ne
   simp at hk
 | succ k ih=>
   intro i l ps pv st hk hps hll h hl ha hj2 hB ho
   obtain ⟨t,r,rfl⟩:=hl.lin.ne
   obtain ⟨p,e,hp⟩:=h.at' hl.head
   obtain ⟨k0,_⟩:=hp st h
   unfold xJ
   by_cases h0:t.kd=0
   ·rw [if_pos h0]
    have hr:=hl.lin.last h0
    subst hr
    have h0':(t.kd:Int)=0:=by omega
    refine ⟨st,pv,zfp v _ _ _ st ?_,.refl _,ha,by simpa using ho⟩
    simp only [zqG,e,bf,k0,eP,zdt h0',lY,dn]
   rw [if_neg h0]
   have h0':¬ (t.kd:Int)=0:=by omega
   have l4:st.ld lb 4=some pv:=ha.ld
   have hlp:(lenV pv).bind (ay .i64)=some (ps.length:Int):=by rw [ho.len];rfl
   obtain ⟨s6,c6,x6⟩:=zuk ps (by omega) v pv (ptr j2 0) (ptr lb 0) st hll h hl.head ho.rd ps.length 0 false st (by omega) (.refl _)
   have WR:zM 21 [v,ptr j2 0,ptr lb 0,.int .i64 i,.bool false,pv,.int .i64 ps.length,.int .i64 0] st=some (0,[v,ptr j2 0,ptr lb 0,.int .i64 i,.bool (decide (t.tx∈ps.map (·.fd)))],s6):=c6
   have hst:=zvK rfl zM hhj hjl hlB hw (by omega) hll h hl ha hj2 hB ho x6
   have step:∀ y,JY cc zM v (ptr j2 0) (ptr lb 0) i (decide (t.tx∈ps.map (·.fd))) s6=some y→zM 18 [v,ptr j2 0,ptr lb 0,.int .i64 i] st=some y:=fun y hy=>by
    refine zfp v _ _ _ st ?_
    have E:zek cc zM v (ptr j2 0) (ptr lb 0) i st=(zM 21 [v,ptr j2 0,ptr lb 0,.int .i64 i,.bool false,pv,.int .i64 ps.length,.int .i64 0] st).bind (rpK cc zM):=by
     rw [zqG]
     simp only [e,bf,k0,eP,bg h0',nJ,cu,fZ,Nat.zero_add,l4,hlp]
    rw [E,WR,bf,Py]
    exact hy
   have hlin:=Yq (seen:=ps.map (·.fd)) hl.lin
   cases hx:pairT (ps.map (·.fd)) (t::r) with
   | error o=>
     rw [hx] at hst
     obtain ⟨s',d1,d2,d3⟩:=hst
     exact ⟨s',_,step _ d1,d2,d3,rfl,by simp [hw,ho.cell.2]⟩
   | ok y=>
     obtain ⟨x,n⟩:=y
     rw [hx] at hst hlin
     simp only at hlin
     obtain ⟨Gl,pv',d1,QU,a55,o55,h55⟩:=hst
     have hgo:=hl.go (n:=n) hlin.1
     have hnl:n<(t::r).length:=by
      obtain ⟨t',r',e⟩:=hlin.1.ne
      have:=congrArg List.length e
      simp at this ⊢
      omega
     have Az:∃ r2,At Gl j2 r2∧r2.length=5:=by
      obtain ⟨r2,a2,l2⟩:=hj2
      exact ⟨r2,a2.fD QU (by omega) (by simp;omega),l2⟩
     have next:=ih (i+n) ((t::r).drop n) (ps++[x]) pv' Gl (by rw [List.length_drop];omega) (by simp;omega) (QU.ll hll) h55 hgo a55 Az (lT hB QU.next) o55
     rw [List.map_append] at next
     have next':zp6 B lb j2 w0 w1 w2 w3 v (i+n) (ps++[x]) Gl (zM 18 [v,ptr j2 0,ptr lb 0,.int .i64 ((i+n:Nat):Int)] Gl) (xJ k (ps.map (·.fd)++[x.fd]) ((t::r).drop n)):=next
     simp only
     cases hz:xJ k (ps.map (·.fd)++[x.fd]) ((t::r).drop n) with
     | error o=>
       rw [hz] at next'
       obtain ⟨st',row,b1,b2,b4,b5,b6⟩:=next'
       rw [Nat.add_assoc] at b1
       exact ⟨st',row,step _ (d1.trans b1),(QU.mono (fF _) (fun j hj _=>by simp at hj ⊢;omega)).then b2,b4,b5,b6⟩
     | ok qs=>
       rw [hz] at next'
       obtain ⟨st',PG,b1,b2,b4,b5⟩:=next'
       exact ⟨st',PG,step _ (d1.trans b1),QU.then b2,b4,by simpa using b5⟩
noncomputable def Oj (cf:fQ) (lf:eX) (l':Value) (j2 lb:Nat) (a0 a1 a2:Int) (s:SS):Option (Value×SS):=
 (cf 81 [l',.int .i64 a0,.int .i64 3,.string ⟨#[46]⟩] s).bind fun a=>
  ((some a.1).bind lF).bind fun b=>
  cond b (
   (fK l' a1 5).bind fun c=>
   ((a.2.ld c.1 c.2).bind (ay .i64)).bind fun d=>
   cond (!(decide (d=1))) (
    (a.2.eF lb 0 5).bind fun e=>
    (a.2.eH j2 0 5 e).bind fun f=>
    (f.fH j2 0 5).bind fun g=>
    some (.tuple #[g,.int .i64 a1],f)) (
    (fK l' a1 5).bind fun h=>
    ((a.2.ld h.1 (h.2+1)).bind asS).bind fun i=>
    (a.2.st lb 2 [.string i]).bind fun j=>
    (lf 11 [l',ptr j2 0,ptr lb 0,.int .i64 a2] j).bind fun k=>
    cond (Nat.beq k.1 0) (
     (k.2.1[0]?).bind fun l=>
     (k.2.1[1]?).bind fun m=>
     (aj m).bind fun n=>
     (k.2.2.eF n.1 n.2 5).bind fun o=>
     (aj l).bind fun p=>
     (k.2.2.eH p.1 p.2 5 o).bind fun q=>
     (aj l).bind fun r=>
     (q.fH r.1 r.2 5).bind fun t=>
     some (.tuple #[t,.int .i64 (-1)],q)) (
     (k.2.1[0]?).bind fun u=>
     ((k.2.1[1]?).bind (ay .i64)).bind fun v=>
     (aj u).bind fun w=>
     (k.2.2.fH w.1 w.2 5).bind fun x=>
     some (.tuple #[x,.int .i64 v],k.2.2)))) (
   (lf 18 [l',ptr j2 0,ptr lb 0,.int .i64 a0] a.2).bind fun y=>
   cond (Nat.beq y.1 0) (
    (y.2.1[0]?).bind fun z=>
    (y.2.1[1]?).bind fun A=>
    (aj A).bind fun B=>
    (y.2.2.eF B.1 B.2 5).bind fun C=>
    (aj z).bind fun D=>
    (y.2.2.eH D.1 D.2 5 C).bind fun E=>
    (aj z).bind fun F=>
    (E.fH F.1 F.2 5).bind fun G=>
    some (.tuple #[G,.int .i64 (-1)],E)) (
    (y.2.1[0]?).bind fun H=>
    ((y.2.1[1]?).bind (ay .i64)).bind fun I=>
    (aj H).bind fun J=>
    (y.2.2.fH J.1 J.2 5).bind fun K=>
    some (.tuple #[K,.int .i64 I],y.2.2)))
def G6 (B ln:Nat) (i:Nat) (st:SS) (r:Option (Value×SS)):Except Nat fU→Prop
 | .ok x=>∃ st' av pv,r=some (.tuple #[XQ ln x av pv,.int .i64 (-1)],st')∧Keep B [] st st'∧Own B st' av (ak au x.args) 3 x.args.length∧Own B st' pv (ak fB x.fC) 5 x.fC.length
 | .error o=>∃ (st':SS) (row:List Value),r=some (.tuple #[.agg row.toArray,.int .i64 ((i+o:Nat):Int)],st')∧Keep B [] st st'∧row.length=5∧row.all one=true
theorem zr4 [Sym] {ln lb j2 i B hi:Nat} {v:Value} {us:List (Nat×Tok)} {l:List Tok} {lab:List UInt8} {s:SS} (hhi:hi≤B) (SX:B≤j2) (hjl:j2<lb) (hls:lb<s.next) (hll:s.lim≤s.next) (h:RT s v us hi) (hl:lC us i ln l)
  (ha:At s lb [.int .i64 ln,.string (mkS lab),.string ⟨#[]⟩,.slice none 0 0,.slice none 0 0]) (hj2:∃ r2,At s j2 r2∧r2.length=5):
  G6 B ln i s (Oj cc zM v j2 lb i ((i+1:Nat):Int) ((i+2:Nat):Int) s) (Bl lab l):=by
 obtain ⟨t,r,rfl⟩:=hl.lin.ne
 have hb0:Nat.beq 0 0=true:=rfl
 have hb1:Nat.beq 1 0=false:=rfl
 have hBs:B≤s.next:=by omega
 have hlen:(t::r).length≤us.length:=by
  obtain ⟨rest,hr⟩:=hl.drop
  have:=congrArg List.length hr
  simp at this ⊢
  omega
 have hsz:=h.sz
 have c23:=TA h hl.head [46]
 have rF:cc 81 [v,.int .i64 i,.int .i64 3,.string ⟨#[46]⟩] s=some (.bool (oz t [46]),s):=c23
 rw [OA]
 by_cases hs:oz t [46]=true
 ·rw [hs] at rF
  rw [if_pos hs]
  have hl1:=hl.tail (by have:=EY hs;omega)
  obtain ⟨d,u,rfl⟩:=hl1.lin.ne
  obtain ⟨p,e,hp⟩:=h.at' hl1.head
  obtain ⟨k0,k1,_⟩:=hp s h
  simp only
  by_cases hd:d.kd=1
  ·rw [if_pos hd]
   have hd':(d.kd:Int)=1:=by omega
   have hl2:=hl1.tail (by omega)
   obtain ⟨Iu,e28,a28,GY,n28⟩:=ha.pU (k:=2) (vs:=[.string (mkS d.tx)]) (row':=[.int .i64 ln,.string (mkS lab),.string (mkS d.tx),.slice none 0 0,.slice none 0 0]) rfl rfl
   have I9:∃ r2,At Iu j2 r2∧r2.length=5:=by obtain ⟨r2,a,l2⟩:=hj2;exact ⟨r2,a.mod GY (by simp;omega),l2⟩
   have h28:=h.fD (GY.fD (fF _)) (by omega) (by simp;omega)
   have QW:Keep B [] s Iu:=(GY.fD hBs).mono (fF _) (fun j hj hlt=>by simp at hj;omega)
   have hloop:=zuj (B:=Iu.next) (lb:=lb) (j2:=j2) (ln:=ln) (by omega) hjl (by omega) (w0:=.int .i64 ln) (w1:=.string (mkS lab)) (w2:=.string (mkS d.tx)) (w4:=.slice none 0 0) ⟨rfl,rfl,rfl,rfl⟩ u.length (i+1+1) u [] (.slice none 0 0) Iu (fF _) (by simp at hlen ⊢;omega) (GY.ll hll) h28 hl2 a28 I9 (fF _) (Own.nil _ _ _)
   cases hx:BP u.length u with
   | error o=>
     rw [hx] at hloop
     obtain ⟨Ac,row,d1,d2,d4,d5,d6⟩:=hloop
     have d1':zM 11 [v,ptr j2 0,ptr lb 0,.int .i64 ((i+2:Nat):Int)] Iu=some (1,[ptr j2 0,.int .i64 ((i+1+1+o:Nat):Int)],Ac):=d1
     have hr:=d4.fH d5
     refine ⟨Ac,row,?_,QW.then (d2.mono (by omega) (fun j hj hlt=>by simp at hj;omega)),d5,d6⟩
     have ei:i+1+1+o=i+(2+o):=by omega
     rw [ei] at d1'
     simp only [Oj,rF,bf,mg,cu,e,k0,eP,zdt hd',lY,dn,k1,fP,e28,d1',hb1,lN,iZ,fZ,hr]
   | ok vs=>
     rw [hx] at hloop
     obtain ⟨Ac,DK,d1,d2,d4,d5⟩:=hloop
     have d1':zM 11 [v,ptr j2 0,ptr lb 0,.int .i64 ((i+2:Nat):Int)] Iu=some (0,[ptr j2 0,ptr lb 0],Ac):=d1
     obtain ⟨r2,a2,l2⟩:=I9
     have a232:=a2.fD d2 (by have:=a28.lt;omega) (by simp;omega)
     obtain ⟨Ir,f1,f2,f3,f4,f5⟩:=vT (n:=5) a232 l2 d4 rfl (by simp only [List.all_cons,List.all_nil,d5.cell.2];rfl)
     have QV:Keep B [] s Ac:=QW.then (d2.mono (by omega) (fun j hj hlt=>by simp at hj;omega))
     have PV:=d2.next
     refine ⟨Ir,DK,.slice none 0 0,?_,QV.gq f4 (by omega) (.inl SX),((TS (S:=[]) d5 f4 (.inl (by have:=a28.lt;omega))).low (by omega)),Own.nil _ _ _⟩
     simp only [Oj,rF,bf,mg,cu,e,k0,eP,zdt hd',lY,dn,k1,fP,e28,d1',hb0,lN,iZ,fZ,f1,f2,f3]
     rfl
  ·rw [if_neg hd]
   have hd':¬ (d.kd:Int)=1:=by omega
   obtain ⟨r2,a2,l2⟩:=hj2
   obtain ⟨Dv,f1,f2,f3,f4,f5⟩:=vT (n:=5) a2 l2 ha rfl rfl
   refine ⟨Dv,[.int .i64 ln,.string (mkS lab),.string ⟨#[]⟩,.slice none 0 0,.slice none 0 0],?_,((f4.fD hBs).mono (fF _) (fun j hj hlt=>by simp at hj;omega)),rfl,rfl⟩
   simp only [Oj,rF,bf,mg,cu,e,k0,eP,bg hd',nJ,f1,f2,f3]
 ·have hs':oz t [46]=false:=Bool.eq_false_iff.2 hs
  rw [hs'] at rF
  rw [if_neg hs]
  have hloop:=zsL (B:=s.next) (lb:=lb) (j2:=j2) (ln:=ln) (by omega) hjl (by omega) (w0:=.int .i64 ln) (w1:=.string (mkS lab)) (w2:=.string ⟨#[]⟩) (w3:=.slice none 0 0) ⟨rfl,rfl,rfl,rfl⟩ (t::r).length i (t::r) [] (.slice none 0 0) s (fF _) (by simp at hlen ⊢;omega) hll h hl ha hj2 (fF _) (Own.nil _ _ _)
  have oH:zp6 s.next lb j2 (.int .i64 ln) (.string (mkS lab)) (.string ⟨#[]⟩) (.slice none 0 0) v i [] s (zM 18 [v,ptr j2 0,ptr lb 0,.int .i64 i] s) (xJ (t::r).length [] (t::r)):=hloop
  cases hx:xJ (t::r).length [] (t::r) with
  | error o=>
    rw [hx] at oH
    obtain ⟨Ac,row,d1,d2,d4,d5,d6⟩:=oH
    have hr:=d4.fH d5
    refine ⟨Ac,row,?_,d2.mono (by omega) (fun j hj hlt=>by simp at hj;omega),d5,d6⟩
    simp only [Oj,rF,bf,mg,dn,d1,hb1,lN,iZ,eP,fZ,hr]
  | ok ps=>
    rw [hx] at oH
    obtain ⟨Ac,pv',d1,d2,d4,d5⟩:=oH
    obtain ⟨r2,a2,l2⟩:=hj2
    have a232:=a2.fD d2 (by have:=ha.lt;omega) (by simp;omega)
    obtain ⟨Ir,f1,f2,f3,f4,f5⟩:=vT (n:=5) a232 l2 d4 rfl (by simp only [List.all_cons,List.all_nil,d5.cell.2];rfl)
    have QV:Keep B [] s Ac:=d2.mono (by omega) (fun j hj hlt=>by simp at hj;omega)
    have PV:=d2.next
    refine ⟨Ir,.slice none 0 0,pv',?_,QV.gq f4 (by omega) (.inl SX),Own.nil _ _ _,((TS (S:=[]) d5 f4 (.inl (by have:=ha.lt;omega))).low (by omega))⟩
    simp only [Oj,rF,bf,mg,dn,d1,hb0,cu,lN,iZ,fZ,f1,f2,f3]
    rfl
theorem G6.to {B ln i:Nat} {st s:SS} {r r':Option (Value×SS)} {x:Except Nat fU} (h:G6 B ln i s r x) (K:Keep B [] st s) (hr:∀ y,r=some y→r'=some y):G6 B ln i st r' x:=by
 cases x with
 | ok x=>obtain ⟨st',av,pv,a,k,c⟩:=h;exact ⟨st',av,pv,hr _ a,K.then k,c⟩
 | error o=>obtain ⟨st',row,a,k,c⟩:=h;exact ⟨st',row,hr _ a,K.then k,c⟩
theorem G6.off {B ln d:Nat} {st:SS} {r:Option (Value×SS)} {x:Except Nat fU} (h:G6 B ln d st r x):G6 B ln 0 st r (KN d x):=by
 cases x with
 | ok x=>exact h
 | error o=>obtain ⟨st',row,a,k,c⟩:=h;exact ⟨st',row,by rw [Nat.zero_add];exact a,k,c⟩
theorem zx6 [Sym] {st:SS} {ln hi:Nat} {v:Value} {l:List Tok} (hll:st.lim≤st.next) (hhi:hi≤st.next) (h:RT st v (l.map fun t=>(ln,t)) hi) (hlin:zi l) (hok:∀ t∈l,vG t):G6 st.next ln 0 st (cc 52 [v] st) (oG l):=by
 have hl:lC (l.map fun t=>(ln,t)) 0 ln l:=⟨⟨[],by simp⟩,hlin,hok⟩
 obtain ⟨t,r,rfl⟩:=hlin.ne
 have a1:At (st.new (.cells L5 0)) st.next L5:=At.new hll L5
 have x1:Ext st (st.new (.cells L5 0)):=(Ext.refl st).new _
 obtain ⟨p,e,hp⟩:=h.at' hl.head
 have e':fK v 0 5=some p:=e
 obtain ⟨_,_,_,q3,_⟩:=hp _ (h.ext x1)
 obtain ⟨s5,e5,a5,x5,n5⟩:=N7 (st:=st.new (.cells L5 0)) (x1.ll hll) (r:=L5) (row:=[.int .i64 ln,.string (mkS []),.string ⟨#[]⟩,.slice none 0 0,.slice none 0 0]) rfl rfl
 have e5':((st.new (.cells L5 0)).new (.cells L5 0)).st (st.new (.cells L5 0)).next 0 [.int .i64 ln,.string ⟨#[]⟩,.string ⟨#[]⟩,.slice none 0 0,.slice none 0 0]=some s5:=e5
 have Ag:=x1.trans x5
 have b5:=a1.ext x5
 have h5:=h.ext Ag
 obtain ⟨k0,k1,_⟩:=hp _ h5
 have hlb:st.next<(st.new (.cells L5 0)).next:=by simp
 have K5:Keep st.next [] st s5:=Ag.fD (fF _)
 have plain:oG (t::r)=Bl [] (t::r)→(∀ y,Oj cc zM v st.next (st.new (.cells L5 0)).next 0 1 2 s5=some y→cc 52 [v] st=some y)→G6 st.next ln 0 st (cc 52 [v] st) (oG (t::r)):=by
  intro hr step
  rw [hr]
  have ht:=zr4 (B:=st.next) (s:=s5) hhi (fF _) hlb a5.lt (Ag.ll hll) h5 hl a5 ⟨_,b5,rfl⟩
  exact G6.to ht K5 step
 by_cases hk:t.kd=1
 ·have hk':(t.kd:Int)=1:=by omega
  have hl1:=hl.tail (by omega)
  obtain ⟨u,r',rfl⟩:=hl1.lin.ne
  have c8:=TA h5 hl1.head [58]
  have ZJ:cc 81 [v,.int .i64 1,.int .i64 3,.string ⟨#[58]⟩] s5=some (.bool (oz u [58]),s5):=c8
  by_cases hc:oz u [58]=true
  ·rw [hc] at ZJ
   have hoff:oG (t::u::r')=KN 2 (Bl t.tx r'):=by
    rw [Ov,if_pos ⟨hk,hc⟩]
    cases Bl t.tx r'<;>rfl
   rw [hoff]
   have hl2:=hl1.tail (by have:=EY hc;omega)
   obtain ⟨s12,e12,a12,m12,n12⟩:=a5.pU (k:=1) (vs:=[.string (mkS t.tx)]) (row':=[.int .i64 ln,.string (mkS t.tx),.string ⟨#[]⟩,.slice none 0 0,.slice none 0 0]) rfl rfl
   have b12:=b5.mod m12 (by simp)
   have h12:=h5.fD (m12.fD (fF _)) (by simp at n5;omega) (by simp;omega)
   have K12:=K5.gq m12 Ag.next (.inl (by simp))
   have ht:=zr4 (B:=st.next) (s:=s12) (i:=2) hhi (fF _) hlb a12.lt (K12.ll hll) h12 hl2 a12 ⟨_,b12,rfl⟩
   refine G6.to (G6.off ht) K12 fun y hy=>?_
   refine zex v st ?_
   simp only [Y5,e',bf,q3,eP,e5',k0,zdt hk',cu,ZJ,mg,k1,fP,e12]
   exact hy
  ·have hc':oz u [58]=false:=Bool.eq_false_iff.2 hc
   rw [hc'] at ZJ
   refine plain (by rw [Ov,if_neg (fun x=>hc x.2)]) fun y hy=>?_
   refine zex v st ?_
   simp only [Y5,e',bf,q3,eP,e5',k0,zdt hk',cu,ZJ,mg,dn]
   exact hy
 ·have hk':¬ (t.kd:Int)=1:=by omega
  refine plain ?_ fun y hy=>?_
  ·cases r with
   | nil=>rfl
   | cons u r'=>rw [Ov,if_neg (fun x=>hk x.1)]
  ·refine zex v st ?_
   simp only [Y5,e',bf,q3,eP,e5',k0,bg hk',dn]
   exact hy
end Go.Proofs.YtifploedaacedaaGreatDoorE
namespace Go.Proofs.YtifploedaacedaaGreatDoorE
open Go Go.E Go.Proofs
def ztp (B b0:Nat) (st:SS) (its:List Item) (r:Option (Nat×List Value×SS)):Except (Nat×Nat) (List fU)→Prop
 | .ok xs=>∃ v st' m oP,r=some (0,[ptr b0 0,v],st')∧Keep B [] st st'∧oP.map (·.1)=its.map (·.1)++xs∧Coll st' b0 m B v oP
 | .error e=>∃ st',r=some (1,[.slice none 0 0,ptr b0 0],st')∧Keep B [b0] st st'∧At st' b0 [.int .i64 e.1,.int .i64 e.2]
theorem Keep.xK {B:Nat} {a b:SS} (h:Keep B [] a b) (hB:a.next≤B):Ext a b:=(h.mod hB).xK
theorem zsM [Sym] {b0 B:Nat} {w:Value} (hb0:b0<B) (all:List (List UInt8)) (hall:all.length≤65537) (hsz:∀ p∈all,p.length≤65536):∀ (ps:List (List UInt8)) (i m:Nat) (out:Value) (its:List Item) (oV:List (List Tok)) (st:SS),all.drop i=ps→i≤all.length→zZ i ps=.ok oV→
  RdB st b0 B w (strs all) 1 all.length→st.lim≤st.next→Coll st b0 m B out its→(∃ r,At st b0 r∧r.length=2)→B≤st.next→its.length≤i→
  ztp B b0 st its (Kz 6 [ptr b0 0,out,w,.int .i64 all.length,.int .i64 i] st) (Bq i oV):=by
 intro ps
 induction ps with
 | nil=>
   intro i m out its oV st hd hi hx hw hll hc ha hB hn
   rw [List.drop_eq_nil_iff] at hd
   cases hx
   have hlt:¬ (i:Int)<(all.length:Int):=by omega
   refine ⟨out,st,m,its,Zc _ out w _ _ st ?_,.refl _,by simp,hc⟩
   simp only [UJ,bg hlt,dn]
 | cons p r ih=>
   intro i m out its oV st hd hi hx hw hll hc ha hB hn
   have BK:all[i]?=some p:=by
    have:=congrArg (·[0]?) hd
    simpa using this
   have hlt:i<all.length:=(List.getElem?_eq_some_iff.1 BK).1
   have hpl:=hsz p (xH BK)
   have hr:all.drop (i+1)=r:=by
    have:=drop_cons BK
    rw [hd] at this
    exact (List.cons.inj this).2.symm
   have hlt':(i:Int)<(all.length:Int):=by omega
   unfold zZ at hx
   cases hy:zJ p with
   | error c=>rw [hy] at hx;cases hx
   | ok ts=>
     rw [hy] at hx
     cases hz:zZ (i+1) r with
     | error e=>rw [hz] at hx;cases hx
     | ok KF=>
       rw [hz] at hx
       cases hx
       obtain ⟨hlin,htok⟩:=zou hy
       have hlen:=zm2 p ts hy
       obtain ⟨q,hq1,hq2,hq3⟩:=hw.1.load (j:=(i:Int)) (by omega) hlt' (strs_get _ i p BK) rfl
       have hld:(st.ld q.1 q.2).bind asS=some (mkS p):=by
        have:=hq3 0 (by omega)
        rw [Nat.add_zero] at this
        rw [this];rfl
       have h1:=zrS hll (mkS p) (by simp;omega) ((i+1:Nat):Int)
       rw [vW,hy] at h1
       obtain ⟨v5,s4,c4,x4,o4,_⟩:=h1
       have c4':cc 51 [.string (mkS p),.int .i64 ((i+1:Nat):Int)] st=some (.tuple #[v5,.int .i64 0],s4):=c4
       have hT:RT s4 v5 (ts.map fun t=>(i+1,t)) s4.next:=by
        refine ⟨?_,fun j k l q hv=>?_,by simp;omega⟩
        ·rw [zqD];simpa using o4.rd
        ·obtain ⟨_,⟨ev,_⟩ | ⟨i',ev,_,_,hbi,hi'⟩⟩:=o4
         ·rw [ev] at hv;cases hv
         ·rw [ev] at hv;cases hv;exact hi'
       have h2:=zx6 (x4.ll hll) (fF _) hT hlin htok
       have hw1:IntKind.wrap .i64 ((i:Int)+1)=((i+1:Nat):Int):=ru (by omega)
       have hpos:0<ts.length:=by obtain ⟨t,u,rfl⟩:=hlin.ne;simp
       have hlv:(lenV v5).bind (ay .i64)=some (ts.length:Int):=by rw [o4.rd.len];rfl
       have hlim:st.lim≤B:=by obtain ⟨_,a,_⟩:=ha;have:=a.2.2;omega
       unfold Bq
       cases hu:oG ts with
       | error o=>
         rw [hu] at h2
         obtain ⟨s7,row,c7,K7,hrow,hrow1⟩:=h2
         have x7:Ext s4 s7:=Keep.xK K7 (fF _)
         have c7':cc 52 [v5] s4=some (.tuple #[.agg row.toArray,.int .i64 (o:Nat)],s7):=by rw [Nat.zero_add] at c7;exact c7
         have hoff:=zqF ts hlin o hu
         obtain ⟨t,ht⟩:∃ t,ts[o]?=some t:=⟨_,mW hoff⟩
         obtain ⟨s11,e11,a11,x11,_⟩:=pX (st:=s7) ((x4.trans x7).ll hll) (r:=L5) (lU row) (n:=5) hrow hrow1 rfl
         have x:=(x4.trans x7).trans x11
         obtain ⟨z,g1,g2⟩:=hT.at' (i:=o) (t:=(i+1,t)) (by rw [List.getElem?_map,ht];rfl)
         obtain ⟨_,_,_,_,g5⟩:=g2 s11 (hT.ext (x7.trans x11))
         obtain ⟨ra,aa,hra⟩:=ha
         obtain ⟨s15,e15,QM,m15,_⟩:=(aa.ext x).pU (k:=0) (vs:=[.int .i64 ((i+1:Nat):Int),.int .i64 t.col]) (row':=[.int .i64 ((i+1:Nat):Int),.int .i64 t.col]) rfl (by rw [DY (by simp;omega)];simp [hra])
         have Jb:Ti ts o=t.col:=by unfold Ti;rw [ht];rfl
         have hpos':(0:Int)≤((o:Nat):Int):=by omega
         refine ⟨s15,Zc _ out w _ _ st ?_,(x.fD hB).gq m15 (lT hB x.next) (.inr (by simp)),by rw [Jb];exact QM⟩
         simp only [UJ,zdt hlt',cu,hq1,bf,hld,hw1,c4',fM,List.getElem?_toArray,lN,iZ,eP,c7',e11,zdt hpos',g1,g5,fZ,e15]
       | ok x=>
         rw [hu] at h2
         obtain ⟨s7,av,pv,c7,K7,o1,o2⟩:=h2
         have x7:Ext s4 s7:=Keep.xK K7 (fF _)
         obtain ⟨s11,e11,a11,x11,_⟩:=pX (st:=s7) ((x4.trans x7).ll hll) (r:=L5) (lU [.int .i64 ((i+1:Nat):Int),.string (mkS x.lab),.string (mkS x.dir),av,pv]) (n:=5) rfl (by simp only [List.all_cons,List.all_nil,o1.cell.2,o2.cell.2];rfl) rfl
         have WO:(s7.new (.cells L5 0)).eH s7.next 0 5 (XQ (i+1) x av pv)=some s11:=e11
         have xx:=(x4.trans x7).trans x11
         have Jc:=hc.ext xx
         have VH:B≤s11.next:=lT hB xx.next
         have WI:∃ r,At s11 b0 r∧r.length=2:=by obtain ⟨ra,aa,hra⟩:=ha;exact ⟨ra,aa.ext xx,hra⟩
         have V5:RdB s11 b0 B w (strs all) 1 all.length:=hw.go (fF _) xx.next fun j hj _ _=>xx.keep j hj
         have hneg:¬ (0:Int)≤ -1:=by omega
         have hb4:b0<s4.next:=by have:=x4.next;omega
         by_cases hkp:1<ts.length
         ·have Qr:(1:Int)<(ts.length:Int):=by omega
          have w1:RdB s11 b0 s11.next av (ak au x.args) 3 x.args.length:=(Own.Vw o1 hb4 (fF _)).go x11.next x11.next fun j hj _ _=>x11.keep j hj
          have w2:RdB s11 b0 s11.next pv (ak fB x.fC) 5 x.fC.length:=(Own.Vw o2 hb4 (fF _)).go x11.next x11.next fun j hj _ _=>x11.keep j hj
          have hnew:∀ u:Value,(∀ j k l q,u=.slice (some ⟨j,k,none⟩) l q→st.next≤j)→∀ j k l q k' l' q',out=.slice (some ⟨j,k,none⟩) l q→u≠.slice (some ⟨j,k',none⟩) l' q':=by
           intro u hu' j k l q k' l' q' ho he
           have h1:=hu' j k' l' q' he
           obtain ⟨_,⟨ev,_⟩ | ⟨i',ev,_,_,hbi,hi'⟩⟩:=hc.own
           ·rw [ev] at ho;cases ho
           ·rw [ev] at ho;cases ho;omega
          have hown:∀ {u:Value} {c:List Value} {z n:Nat},Own s4.next s7 u c z n→∀ j k l q,u=.slice (some ⟨j,k,none⟩) l q→st.next≤j:=by
           intro u c z n ho j k l q hv
           have:=x4.next
           obtain ⟨_,⟨ev,_⟩ | ⟨i',ev,_,_,hbi,hi'⟩⟩:=ho
           ·rw [ev] at hv;cases hv
           ·rw [ev] at hv;cases hv;omega
          obtain ⟨out',oQ,g1,g2,g3⟩:=Jc.push ({ x with ln:=i+1 },av,pv) VH (by rw [xx.lim];exact hlim) (by omega) o1.cell.2 o2.cell.2 w1 w2 (hnew av (hown o1)) (hnew pv (hown o2))
          have g1':(s11.new (.cells ([.int .i64 ((i+1:Nat):Int),.string (mkS x.lab),.string (mkS x.dir),av,pv]++[]) 5)).app 5 88 out (.slice (some ⟨s11.next,0,none⟩) 1 1)=some (out',oQ):=g1
          have ZT:Keep B [] st oQ:=(xx.fD hB).then (g3 _)
          have ha21:∃ r,At oQ b0 r∧r.length=2:=by obtain ⟨ra,aa,hra⟩:=WI;exact ⟨ra,aa.fD (g3 []) hb0 (by simp),hra⟩
          have hw21:RdB oQ b0 B w (strs all) 1 all.length:=V5.go (fF _) (g3 []).next fun j _ _ hjB=>(g3 []).keep j hjB (by simp)
          have next:=ih (i+1) s11.next out' (its++[({ x with ln:=i+1 },av,pv)]) KF oQ hr (by omega) hz hw21 (ZT.ll hll) g2 ha21 (lT hB ZT.next) (by simp;omega)
          have D7:s11.eF s7.next 0 5=some (.agg [.int .i64 ((i+1:Nat):Int),.string (mkS x.lab),.string (mkS x.dir),av,pv].toArray):=a11.eF rfl
          have hc19:nX (.agg [.int .i64 ((i+1:Nat):Int),.string (mkS x.lab),.string (mkS x.dir),av,pv].toArray) 5=some [.int .i64 ((i+1:Nat):Int),.string (mkS x.lab),.string (mkS x.dir),av,pv]:=cells5 _ _ _ _ _
          have step:∀ z,Kz 6 [ptr b0 0,out',w,.int .i64 all.length,.int .i64 ((i+1:Nat):Int)] oQ=some z→Kz 6 [ptr b0 0,out,w,.int .i64 all.length,.int .i64 i] st=some z:=fun z hz=>by
           refine Zc _ out w _ _ st ?_
           simp only [UJ,zdt hlt',cu,hq1,bf,hld,hw1,c4',fM,List.getElem?_toArray,lN,iZ,eP,c7,WO,bg hneg,dn,hlv,zdt Qr,D7,hc19,g1']
           exact hz
          simp only
          cases hv:Bq (i+1) KF with
          | error e=>
            rw [hv] at next
            obtain ⟨st',a,k',d⟩:=next
            exact ⟨st',step _ a,(ZT.mono (fF _) (fun j hj _=>by cases hj)).then k',d⟩
          | ok xs=>
            rw [hv] at next
            obtain ⟨v2,st',m',BX,a,k',d,e⟩:=next
            refine ⟨v2,st',m',BX,step _ a,ZT.then k',?_,e⟩
            rw [d];simp [hkp]
         ·have Qr:¬ (1:Int)<(ts.length:Int):=by omega
          have K11:Keep B [] st s11:=xx.fD hB
          have next:=ih (i+1) m out its KF s11 hr (by omega) hz V5 (xx.ll hll) Jc WI VH (by omega)
          have step:∀ z,Kz 6 [ptr b0 0,out,w,.int .i64 all.length,.int .i64 ((i+1:Nat):Int)] s11=some z→Kz 6 [ptr b0 0,out,w,.int .i64 all.length,.int .i64 i] st=some z:=fun z hz=>by
           refine Zc _ out w _ _ st ?_
           simp only [UJ,zdt hlt',cu,hq1,bf,hld,hw1,c4',fM,List.getElem?_toArray,lN,iZ,eP,c7,WO,bg hneg,dn,hlv,bg Qr]
           exact hz
          simp only
          cases hv:Bq (i+1) KF with
          | error e=>
            rw [hv] at next
            obtain ⟨st',a,k',d⟩:=next
            exact ⟨st',step _ a,(K11.mono (fF _) (fun j hj _=>by cases hj)).then k',d⟩
          | ok xs=>
            rw [hv] at next
            obtain ⟨v2,st',m',BX,a,k',d,e⟩:=next
            refine ⟨v2,st',m',BX,step _ a,K11.then k',?_,e⟩
            rw [d];simp [hkp]
def ND (st:SS) (r:Option (Value×SS)):Except (Nat×Nat) (List fU)→Prop
 | .ok xs=>∃ v st',r=some (.tuple #[v,rH (0,0)],st')∧Ext st st'∧Rn st' v xs
 | .error e=>∃ st',r=some (.tuple #[.slice none 0 0,rH e],st')∧Ext st st'
theorem zvL [Sym] {st:SS} (hl:st.lim≤st.next) (s:ByteArray) (hs:s.size≤65536):ND st (cc 19 [.string s] st) (Ec (bl s)):=by
 have a1:At (st.new (.cells [.int .i64 0,.int .i64 0] 0)) st.next [.int .i64 0,.int .i64 0]:=At.new hl _
 have x1:Ext st (st.new (.cells [.int .i64 0,.int .i64 0] 0)):=(Ext.refl st).new _
 have hlex:=zxQ (x1.ll hl) s (by omega)
 have hlx:NQ (bl s)=match zZ 0 (pieces 10 (bl s)) with
  | .error e=>.error e
  | .ok oV=>.ok (flat 0 oV):=zpp _ _
 unfold Ec
 have hb0:Nat.beq 0 0=true:=rfl
 have hb1:Nat.beq 1 0=false:=rfl
 cases hy:zZ 0 (pieces 10 (bl s)) with
 | error e=>
   rw [hy] at hlx
   rw [hlx] at hlex
   obtain ⟨s2,c2,x2⟩:=hlex
   have c2':cc 49 [.string s] (st.new (.cells [.int .i64 0,.int .i64 0] 0))=some (.tuple #[.slice none 0 0,rH e],s2):=c2
   obtain ⟨s7,e7,a7,x7,_⟩:=pX (st:=s2) ((x1.trans x2).ll hl) (r:=[.int .i64 0,.int .i64 0]) (v:=rH e) (row:=[.int .i64 e.1,.int .i64 e.2]) (n:=2) rfl rfl rfl rfl
   have a17:=(a1.ext x2).ext x7
   obtain ⟨s9,f1,f2,f3,f4,f5⟩:=vT (n:=2) a17 rfl a7 rfl rfl
   have hpos:=zvn (pieces 10 (bl s)) 0 e (show CX 0 (pieces 10 (bl s))=.error e from hlx)
   have hpos':(0:Int)<(e.1:Int):=by omega
   have l8:s7.ld s2.next 0=some (.int .i64 e.1):=a7.ld
   refine ⟨s9,zel s st ?_,((Mod.nY (S:=[st.next]) ((x1.trans x2).trans x7)).then f4).fresh (by simp)⟩
   simp only [Y1,c2',bf,fM,List.getElem?_toArray,lN,iZ,e7,zrU,l8,eP,zdt hpos',cu,f1,f2,f3]
   rfl
 | ok oV=>
   rw [hy] at hlx
   rw [hlx] at hlex
   obtain ⟨v,s2,c2,x2,o2⟩:=hlex
   have c2':cc 49 [.string s] (st.new (.cells [.int .i64 0,.int .i64 0] 0))=some (.tuple #[v,rH (0,0)],s2):=c2
   obtain ⟨s7,e7,a7,x7,_⟩:=pX (st:=s2) ((x1.trans x2).ll hl) (r:=[.int .i64 0,.int .i64 0]) (v:=rH (0,0)) (row:=[.int .i64 0,.int .i64 0]) (n:=2) rfl rfl rfl rfl
   have x07:=(x1.trans x2).trans x7
   have l8:s7.ld s2.next 0=some (.int .i64 0):=a7.ld
   obtain ⟨w,s12,c12,x12,o12⟩:=Rf s 10 (by omega) s7 (x07.ll hl)
   have WS:cc 50 [.string s,.int .u8 10] s7=some (w,s12):=c12
   have Nr:(lenV w).bind (ay .i64)=some ((pieces 10 (bl s)).length:Int):=by rw [o12.rd.len];rfl
   have DC:=pieces_len 10 (bl s)
   rw [tC] at DC
   have hpm:=Ur 10 (bl s)
   rw [tC] at hpm
   have a12:=((a1.ext x2).ext x7).ext x12
   have hn7:st.next<s7.next:=by have:=x2.next;have:=x7.next;simp at*;omega
   have hloop:=zsM (b0:=st.next) (B:=s12.next) (w:=w) (by have:=x12.next;omega) (pieces 10 (bl s)) (by omega) (fun p hp=>by have:=hpm p hp;omega) (pieces 10 (bl s)) 0 s12.next (.slice none 0 0) [] oV s12 (by simp) (by omega) hy
    (Own.Vw o12 hn7 (fF _)) ((x07.trans x12).ll hl) ⟨Own.nil _ _ _,fun j k l q hv=>(by cases hv),fun x hx=>(by cases hx),by have:=x12.next;omega,fF _⟩ ⟨_,a12,rfl⟩ (fF _) (by simp)
   have oH:ztp s12.next st.next s12 [] (Kz 6 [ptr st.next 0,.slice none 0 0,w,.int .i64 (pieces 10 (bl s)).length,.int .i64 0] s12) (Bq 0 oV):=hloop
   have h00:¬ (0:Int)<0:=by omega
   show ND st _ (Bq 0 oV)
   cases hz:Bq 0 oV with
   | error e=>
     rw [hz] at oH
     obtain ⟨s13,d1,d2,d3⟩:=oH
     have hr:=d3.fH (n:=2) rfl
     have x13:Ext st s13:=((Mod.nY (S:=[st.next]) (x07.trans x12)).then (d2.mod (fF _))).fresh (by simp)
     refine ⟨s13,zel s st ?_,x13⟩
     simp only [Y1,c2',bf,fM,List.getElem?_toArray,lN,iZ,e7,zrU,l8,eP,bg h00,dn,WS,Nr,d1,hb1,fZ,hr]
     rfl
   | ok xs=>
     rw [hz] at oH
     obtain ⟨u,s13,m,its,d1,d2,d3,d4⟩:=oH
     have G5:=a12.fD d2 a12.lt (by simp)
     obtain ⟨oZ,e17,a17,m17,n17⟩:=G5.pU (k:=0) (vs:=[.int .i64 0,.int .i64 0]) (row':=[.int .i64 0,.int .i64 0]) rfl rfl
     have hr:=a17.fH (n:=2) rfl
     have d4':=d4.keep (m17.fD (fF _))
     have x17:Ext st oZ:=((Mod.nY (S:=[st.next]) (x07.trans x12)).then ((d2.mod (fF _)).mono (by simp)) |>.then m17).fresh (by simp)
     refine ⟨u,oZ,zel s st ?_,x17,?_⟩
     ·simp only [Y1,c2',bf,fM,List.getElem?_toArray,lN,iZ,e7,zrU,l8,eP,bg h00,dn,WS,Nr,d1,hb0,cu,fZ,e17,hr]
      rfl
     ·have:=d4'.lines
      rw [d3] at this
      simpa using this
end Go.Proofs.YtifploedaacedaaGreatDoorE
