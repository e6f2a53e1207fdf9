/- Parts of the proof of UasmMakes, packed by a program: an evaluator over the given code, functions as plain texts, their laws. -/
import Derived.Test.YtifploedaacedaaGreatDoorPNC
set_option linter.unusedVariables false
set_option linter.unusedSimpArgs false
namespace Go.Proofs.YtifploedaacedaaGreatDoorE
set_option maxRecDepth 20000
open Go Go.E Go.Proofs
def zfn:LoopI:=⟨[(0,.str),(9,.any),(10,.int .i64),(12,.int .i64)],[(.exit 6,[(0,.str),(9,.any),(10,.int .i64),(12,.int .i64)])]⟩
def zfo:LoopI:=⟨[(0,.str),(9,.any),(10,.int .i64),(11,.int .i64),(12,.int .i64)],[(.exit 4,[(0,.str),(9,.any),(10,.int .i64),(11,.int .i64)])]⟩
def zfp:LoopI:=⟨[(0,.str),(9,.any),(10,.int .i64),(12,.int .i64)],[(.exit 2,[(0,.str),(9,.any),(10,.int .i64),(12,.int .i64)])]⟩
def zfX:LoopI:=⟨[(0,.str),(3,.int .i64),(4,.int .i64),(5,.int .u8),(6,.int .i64)],[(.exit 0,[(0,.str),(3,.int .i64),(5,.int .u8)])]⟩
def zf8 (n:Nat):Option LoopI:=cond (Nat.beq n 5) (some zfX) (cond (Nat.beq n 18) (some zfp) (cond (Nat.beq n 21) (some zfo) (cond (Nat.beq n 27) (some zfn) (none))))
noncomputable def strings_Fields (cf:zan) (lf:zac) (s':ByteArray) (st:SS):Option (Value×SS):=
 (lf 5 [.string s',.int .i64 0,.int .i64 1,.int .u8 0,.int .i64 0] st).bind fun a=>
 ((a.2.1[0]?).bind asS).bind fun b=>
 ((a.2.1[1]?).bind (asI .i64)).bind fun c=>
 ((a.2.1[2]?).bind (asI .u8)).bind fun d=>
 cond (decide (128≤d)) (
 (cf 167 [.string b,.func (.func 168) #[] #[]] a.2.2).bind fun e=>
 some (e.1,e.2)) (
 (zeF c c 16).bind fun _=>
 let f:SS:=a.2.2.new (.cells (zet [.string ⟨#[]⟩] c) 1)
 (lf 18 [.string b,.slice (some ⟨a.2.2.next,0,none⟩) ((c:Int).toNat) ((c:Int).toNat),.int .i64 0,.int .i64 0] f).bind fun g=>
 ((g.2.1[0]?).bind asS).bind fun h=>
 (g.2.1[1]?).bind fun i=>
 ((g.2.1[2]?).bind (asI .i64)).bind fun j=>
 ((g.2.1[3]?).bind (asI .i64)).bind fun k=>
 (lf 21 [.string h,i,.int .i64 j,.int .i64 k,.int .i64 k] g.2.2).bind fun l=>
 ((l.2.1[0]?).bind asS).bind fun m=>
 (l.2.1[1]?).bind fun n=>
 ((l.2.1[2]?).bind (asI .i64)).bind fun o=>
 ((l.2.1[3]?).bind (asI .i64)).bind fun p=>
 cond (decide (p<(m.size:Int))) (
 (zcK m p (m.size:Int)).bind fun q=>
 (zaw n o 1).bind fun r=>
 (l.2.2.st r.1 r.2 [.string q]).bind fun s=>
 some (n,s)) (
 some (n,l.2.2)))
noncomputable abbrev zaB:zac:=lS Tryz.prog Lk0 Tryz.f149 zf8
theorem zkd:Lk0.func 149=some (149,Tryz.f149):=by kernel_rfl
theorem zke [Sym] (s':ByteArray) (st:SS) {r:Value×SS} (h:strings_Fields cc zaB s' st=some r):cc 149 [.string s'] st=some r:=
 zaf (li:=zf8) zai zar zkd rfl (fun _=>rfl) (.trans (by kernel_rfl) h)
noncomputable def zel (cf:zan) (lf:zac) (s':ByteArray) (n':Int) (wasSpace':Int) (setBits':Int) (i':Int) (st:SS):Option (Nat×List Value×SS):=
 cond (decide (i'<(s'.size:Int))) (
 ((zf2 s' i').bind (asI .u8)).bind fun a=>
 let b:Int:=orI .u8 setBits' a
 (zbr (ptr 2 0) 256 a 1).bind fun c=>
 ((st.ld c.1 c.2).bind (asI .u8)).bind fun d=>
 let e:Int:=IntKind.wrap .i64 d
 let f:Int:=xorI .i64 (-1) e
 let g:Int:=andI .i64 wasSpace' f
 let h:Int:=IntKind.wrap .i64 (n'+g)
 let i:Int:=IntKind.wrap .i64 (i'+1)
 lf 5 [.string s',.int .i64 h,.int .i64 e,.int .u8 b,.int .i64 i] st) (
 some (0,[.string s',.int .i64 n',.int .u8 setBits'],st))
theorem zfh [Sym] (s':ByteArray) (n':Int) (wasSpace':Int) (setBits':Int) (i':Int) (st:SS) {r:Nat×List Value×SS} (h:zel cc zaB s' n' wasSpace' setBits' i' st=some r):zaB 5 [.string s',.int .i64 n',.int .i64 wasSpace',.int .u8 setBits',.int .i64 i'] st=some r:=
 zaA zai zar (key:=5) (I:=zfX) rfl (by kernel_rfl) (by kernel_rfl) rfl rfl (.trans (by kernel_rfl) h)
noncomputable def zdY (cf:zan) (lf:zac) (s':ByteArray) (a':Value) (na':Int) (i':Int) (st:SS):Option (Nat×List Value×SS):=
 cond (decide (i'<(s'.size:Int))) (
 ((zf2 s' i').bind (asI .u8)).bind fun a=>
 (zbr (ptr 2 0) 256 a 1).bind fun b=>
 ((st.ld b.1 b.2).bind (asI .u8)).bind fun c=>
 cond (!(decide (c=0))) (
 let d:Int:=IntKind.wrap .i64 (i'+1)
 lf 18 [.string s',a',.int .i64 na',.int .i64 d] st) (
 some (0,[.string s',a',.int .i64 na',.int .i64 i'],st))) (
 some (0,[.string s',a',.int .i64 na',.int .i64 i'],st))
theorem zh5 [Sym] (s':ByteArray) (a':Value) (na':Int) (i':Int) (st:SS) {r:Nat×List Value×SS} (h:zdY cc zaB s' a' na' i' st=some r):zaB 18 [.string s',a',.int .i64 na',.int .i64 i'] st=some r:=
 zaA zai zar (key:=18) (I:=zfp) rfl (by kernel_rfl) (by kernel_rfl) rfl rfl (.trans (by kernel_rfl) h)
noncomputable def zcR (cf:zan) (lf:zac) (s':ByteArray) (a':Value) (na':Int) (fieldStart':Int) (i':Int) (st:SS):Option (Nat×List Value×SS):=
 cond (decide (i'<(s'.size:Int))) (
 ((zf2 s' i').bind (asI .u8)).bind fun a=>
 (zbr (ptr 2 0) 256 a 1).bind fun b=>
 ((st.ld b.1 b.2).bind (asI .u8)).bind fun c=>
 cond (decide (c=0)) (
 let d:Int:=IntKind.wrap .i64 (i'+1)
 lf 21 [.string s',a',.int .i64 na',.int .i64 fieldStart',.int .i64 d] st) (
 (zcK s' fieldStart' i').bind fun e=>
 (zaw a' na' 1).bind fun f=>
 (st.st f.1 f.2 [.string e]).bind fun g=>
 let h:Int:=IntKind.wrap .i64 (na'+1)
 let i:Int:=IntKind.wrap .i64 (i'+1)
 (lf 27 [.string s',a',.int .i64 h,.int .i64 i] g).bind fun j=>
 ((j.2.1[0]?).bind asS).bind fun k=>
 (j.2.1[1]?).bind fun l=>
 ((j.2.1[2]?).bind (asI .i64)).bind fun m=>
 ((j.2.1[3]?).bind (asI .i64)).bind fun n=>
 lf 21 [.string k,l,.int .i64 m,.int .i64 n,.int .i64 n] j.2.2)) (
 some (0,[.string s',a',.int .i64 na',.int .i64 fieldStart'],st))
theorem zc6 [Sym] (s':ByteArray) (a':Value) (na':Int) (fieldStart':Int) (i':Int) (st:SS) {r:Nat×List Value×SS} (h:zcR cc zaB s' a' na' fieldStart' i' st=some r):zaB 21 [.string s',a',.int .i64 na',.int .i64 fieldStart',.int .i64 i'] st=some r:=
 zaA zai zar (key:=21) (I:=zfo) rfl (by kernel_rfl) (by kernel_rfl) rfl rfl (.trans (by kernel_rfl) h)
noncomputable def zdZ (cf:zan) (lf:zac) (s':ByteArray) (a':Value) (na':Int) (i':Int) (st:SS):Option (Nat×List Value×SS):=
 cond (decide (i'<(s'.size:Int))) (
 ((zf2 s' i').bind (asI .u8)).bind fun a=>
 (zbr (ptr 2 0) 256 a 1).bind fun b=>
 ((st.ld b.1 b.2).bind (asI .u8)).bind fun c=>
 cond (!(decide (c=0))) (
 let d:Int:=IntKind.wrap .i64 (i'+1)
 lf 27 [.string s',a',.int .i64 na',.int .i64 d] st) (
 some (0,[.string s',a',.int .i64 na',.int .i64 i'],st))) (
 some (0,[.string s',a',.int .i64 na',.int .i64 i'],st))
theorem zh6 [Sym] (s':ByteArray) (a':Value) (na':Int) (i':Int) (st:SS) {r:Nat×List Value×SS} (h:zdZ cc zaB s' a' na' i' st=some r):zaB 27 [.string s',a',.int .i64 na',.int .i64 i'] st=some r:=
 zaA zai zar (key:=27) (I:=zfn) rfl (by kernel_rfl) (by kernel_rfl) rfl rfl (.trans (by kernel_rfl) h)
noncomputable def zoI (cf:zan) (lf:zac) (s':ByteArray) (st:SS):Option (Value×SS):=
 (cf 149 [.string s'] st).bind fun a=>
 some (a.1,a.2)
noncomputable abbrev zpm:zac:=lS Tryz.prog Lk0 Tryz.f136 zaC
theorem zpn:Lk0.func 136=some (136,Tryz.f136):=by kernel_rfl
theorem zpo [Sym] (s':ByteArray) (st:SS) {r:Value×SS} (h:zoI cc zpm s' st=some r):cc 136 [.string s'] st=some r:=
 zaf (li:=zaC) zai zar zpn rfl (fun _=>rfl) (.trans (by kernel_rfl) h)
noncomputable def zbA (cf:zan) (lf:zac) (field':ByteArray) (st:SS):Option (Value×SS):=
 cond (eqT field' ⟨#[97,108,117]⟩) (
 (cf 136 [.string ⟨#[110,111,110,101,32,109,111,118,32,110,111,116,32,110,101,103,32,105,110,99,32,100,101,99,32,97,100,100,32,115,117,98,32,97,100,100,99,32,115,117,98,99,32,109,117,108,32,100,105,118,32,111,114,32,98,105,99,32,120,111,114,32,97,110,100,32,99,109,112,32,116,101,115,116,32,99,108,101,97,114,32,115,120,98,32,115,120,119,32,122,120,98,32,122,120,119,32,115,104,108,32,115,104,114,32,97,115,104,32,114,111,116,32,111,112,32,115,120,111,32,101,120,116,32,105,110,115,32,99,118,116]⟩] st).bind fun a=>
 some (a.1,a.2)) (
 cond (eqT field' ⟨#[97]⟩) (
 cond (eqT field' ⟨#[97]⟩) (
 (cf 136 [.string ⟨#[114,48,32,114,49,32,114,50,32,114,51,32,114,52,32,114,53,32,114,54,32,114,55,32,114,56,32,114,57,32,114,49,48,32,114,49,49,32,114,49,50,32,114,49,51,32,114,49,52,32,114,49,53,32,116,48,32,116,49,32,116,50,32,116,51,32,116,52,32,116,53,32,116,54,32,116,55,32,118,48,32,118,49,32,118,50,32,118,51,32,118,52,32,118,53,32,97,48,32,97,49,32,97,50,32,97,51,32,97,52,32,97,53,32,109,100,32,118,97,32,112,115,108,32,114,110,32,114,120,32,108,105,116,32,122,101,114,111,32,118,101,99,32,112,48,32,112,49,32,115,116,97,114,116,32,115,99,98,98,32,107,115,112,32,117,115,112,32,100,105,115,112,32,111,115,105,122,101,32,105,108,101,110,32,108,101,118,101,108,32,118,99,32,97,99,32,97,108,32,107,108,32,99,110,116,32,110,112]⟩] st).bind fun b=>
 some (b.1,b.2)) (
 cond (eqT field' ⟨#[115,105,122,101]⟩) (
 (cf 136 [.string ⟨#[98,121,116,101,32,119,111,114,100,32,108,111,110,103,32,111,119,110]⟩] st).bind fun c=>
 some (c.1,c.2)) (
 cond (eqT field' ⟨#[99,99]⟩) (
 (cf 136 [.string ⟨#[107,101,101,112,32,115,101,116,32,115,101,116,107]⟩] st).bind fun d=>
 some (d.1,d.2)) (
 cond (eqT field' ⟨#[109,101,109]⟩) (
 (cf 136 [.string ⟨#[110,111,110,101,32,114,100,32,119,114,32,112,114,111,98,101,32,98,108,100,32,98,115,116,32,98,112,117,116,32,98,103,101,116,32,98,99,108,114,32,105,102,32,114,100,112,32,107,115,116,32,114,111,119,32,117,110,114,111,119,32,114,111,119,97,32,102,108,117,115,104]⟩] st).bind fun e=>
 some (e.1,e.2)) (
 cond (eqT field' ⟨#[115,101,113]⟩) (
 (cf 136 [.string ⟨#[110,101,120,116,32,106,109,112,32,99,106,32,99,97,108,108,32,114,101,116,32,115,112,101,99,32,109,111,100,101,32,101,110,100]⟩] st).bind fun f=>
 some (f.1,f.2)) (
 cond (eqT field' ⟨#[99,111,110,100]⟩) (
 (cf 136 [.string ⟨#[97,108,119,97,121,115,32,122,32,110,122,32,110,101,103,32,112,111,115,32,99,32,110,99,32,117,115,101,114,32,107,101,114,110,101,108,32,102,112,100,32,110,111,102,112,100,32,116,97,107,101,110,32,109,97,116,99,104,32,107,49,32,107,50,32,107,51,32,108,97,115,116,114,101,103,32,102,32,114,101,97,100,115,32,105,110,100,101,120,32,100,105,118,32,108,101,115,115,97,108,117,32,97,108,117,49,32,115,116,114,105,110,103,32,110,111,105,110,100,101,120,32,110,111,114,101,97,100,115,32,111,118,101,114]⟩] st).bind fun g=>
 some (g.1,g.2)) (
 cond (eqT field' ⟨#[109,105,115,99]⟩) (
 (cf 136 [.string ⟨#[110,111,110,101,32,115,116,101,112,32,117,110,100,111,32,115,101,116,102,112,100,32,99,108,114,102,112,100,32,114,97,105,115,101,32,108,97,116,99,104,107,32,108,97,116,99,104,120,32,109,116,112,114,32,109,102,112,114,32,101,110,116,101,114,32,112,117,116,112,115,108,32,104,97,108,116,32,98,97,99,107,32,100,101,99,111,100,101,32,115,101,108,32,115,101,108,107,32,111,119,110,108,97,115,116,32,112,105,99,107,32,112,105,99,107,116,111,112,32,112,97,114,97,109,115,32,99,111,117,110,116]⟩] st).bind fun h=>
 some (h.1,h.2)) (
 some (.slice none 0 0,st))))))))) (
 cond (eqT field' ⟨#[98]⟩) (
 cond (eqT field' ⟨#[98]⟩) (
 (cf 136 [.string ⟨#[114,48,32,114,49,32,114,50,32,114,51,32,114,52,32,114,53,32,114,54,32,114,55,32,114,56,32,114,57,32,114,49,48,32,114,49,49,32,114,49,50,32,114,49,51,32,114,49,52,32,114,49,53,32,116,48,32,116,49,32,116,50,32,116,51,32,116,52,32,116,53,32,116,54,32,116,55,32,118,48,32,118,49,32,118,50,32,118,51,32,118,52,32,118,53,32,97,48,32,97,49,32,97,50,32,97,51,32,97,52,32,97,53,32,109,100,32,118,97,32,112,115,108,32,114,110,32,114,120,32,108,105,116,32,122,101,114,111,32,118,101,99,32,112,48,32,112,49,32,115,116,97,114,116,32,115,99,98,98,32,107,115,112,32,117,115,112,32,100,105,115,112,32,111,115,105,122,101,32,105,108,101,110,32,108,101,118,101,108,32,118,99,32,97,99,32,97,108,32,107,108,32,99,110,116,32,110,112]⟩] st).bind fun i=>
 some (i.1,i.2)) (
 cond (eqT field' ⟨#[115,105,122,101]⟩) (
 (cf 136 [.string ⟨#[98,121,116,101,32,119,111,114,100,32,108,111,110,103,32,111,119,110]⟩] st).bind fun j=>
 some (j.1,j.2)) (
 cond (eqT field' ⟨#[99,99]⟩) (
 (cf 136 [.string ⟨#[107,101,101,112,32,115,101,116,32,115,101,116,107]⟩] st).bind fun k=>
 some (k.1,k.2)) (
 cond (eqT field' ⟨#[109,101,109]⟩) (
 (cf 136 [.string ⟨#[110,111,110,101,32,114,100,32,119,114,32,112,114,111,98,101,32,98,108,100,32,98,115,116,32,98,112,117,116,32,98,103,101,116,32,98,99,108,114,32,105,102,32,114,100,112,32,107,115,116,32,114,111,119,32,117,110,114,111,119,32,114,111,119,97,32,102,108,117,115,104]⟩] st).bind fun l=>
 some (l.1,l.2)) (
 cond (eqT field' ⟨#[115,101,113]⟩) (
 (cf 136 [.string ⟨#[110,101,120,116,32,106,109,112,32,99,106,32,99,97,108,108,32,114,101,116,32,115,112,101,99,32,109,111,100,101,32,101,110,100]⟩] st).bind fun m=>
 some (m.1,m.2)) (
 cond (eqT field' ⟨#[99,111,110,100]⟩) (
 (cf 136 [.string ⟨#[97,108,119,97,121,115,32,122,32,110,122,32,110,101,103,32,112,111,115,32,99,32,110,99,32,117,115,101,114,32,107,101,114,110,101,108,32,102,112,100,32,110,111,102,112,100,32,116,97,107,101,110,32,109,97,116,99,104,32,107,49,32,107,50,32,107,51,32,108,97,115,116,114,101,103,32,102,32,114,101,97,100,115,32,105,110,100,101,120,32,100,105,118,32,108,101,115,115,97,108,117,32,97,108,117,49,32,115,116,114,105,110,103,32,110,111,105,110,100,101,120,32,110,111,114,101,97,100,115,32,111,118,101,114]⟩] st).bind fun n=>
 some (n.1,n.2)) (
 cond (eqT field' ⟨#[109,105,115,99]⟩) (
 (cf 136 [.string ⟨#[110,111,110,101,32,115,116,101,112,32,117,110,100,111,32,115,101,116,102,112,100,32,99,108,114,102,112,100,32,114,97,105,115,101,32,108,97,116,99,104,107,32,108,97,116,99,104,120,32,109,116,112,114,32,109,102,112,114,32,101,110,116,101,114,32,112,117,116,112,115,108,32,104,97,108,116,32,98,97,99,107,32,100,101,99,111,100,101,32,115,101,108,32,115,101,108,107,32,111,119,110,108,97,115,116,32,112,105,99,107,32,112,105,99,107,116,111,112,32,112,97,114,97,109,115,32,99,111,117,110,116]⟩] st).bind fun o=>
 some (o.1,o.2)) (
 some (.slice none 0 0,st))))))))) (
 cond (eqT field' ⟨#[100]⟩) (
 (cf 136 [.string ⟨#[114,48,32,114,49,32,114,50,32,114,51,32,114,52,32,114,53,32,114,54,32,114,55,32,114,56,32,114,57,32,114,49,48,32,114,49,49,32,114,49,50,32,114,49,51,32,114,49,52,32,114,49,53,32,116,48,32,116,49,32,116,50,32,116,51,32,116,52,32,116,53,32,116,54,32,116,55,32,118,48,32,118,49,32,118,50,32,118,51,32,118,52,32,118,53,32,97,48,32,97,49,32,97,50,32,97,51,32,97,52,32,97,53,32,109,100,32,118,97,32,112,115,108,32,114,110,32,114,120,32,108,105,116,32,122,101,114,111,32,118,101,99,32,112,48,32,112,49,32,115,116,97,114,116,32,115,99,98,98,32,107,115,112,32,117,115,112,32,100,105,115,112,32,111,115,105,122,101,32,105,108,101,110,32,108,101,118,101,108,32,118,99,32,97,99,32,97,108,32,107,108,32,99,110,116,32,110,112]⟩] st).bind fun p=>
 some (p.1,p.2)) (
 cond (eqT field' ⟨#[115,105,122,101]⟩) (
 (cf 136 [.string ⟨#[98,121,116,101,32,119,111,114,100,32,108,111,110,103,32,111,119,110]⟩] st).bind fun q=>
 some (q.1,q.2)) (
 cond (eqT field' ⟨#[99,99]⟩) (
 (cf 136 [.string ⟨#[107,101,101,112,32,115,101,116,32,115,101,116,107]⟩] st).bind fun r=>
 some (r.1,r.2)) (
 cond (eqT field' ⟨#[109,101,109]⟩) (
 (cf 136 [.string ⟨#[110,111,110,101,32,114,100,32,119,114,32,112,114,111,98,101,32,98,108,100,32,98,115,116,32,98,112,117,116,32,98,103,101,116,32,98,99,108,114,32,105,102,32,114,100,112,32,107,115,116,32,114,111,119,32,117,110,114,111,119,32,114,111,119,97,32,102,108,117,115,104]⟩] st).bind fun s=>
 some (s.1,s.2)) (
 cond (eqT field' ⟨#[115,101,113]⟩) (
 (cf 136 [.string ⟨#[110,101,120,116,32,106,109,112,32,99,106,32,99,97,108,108,32,114,101,116,32,115,112,101,99,32,109,111,100,101,32,101,110,100]⟩] st).bind fun t=>
 some (t.1,t.2)) (
 cond (eqT field' ⟨#[99,111,110,100]⟩) (
 (cf 136 [.string ⟨#[97,108,119,97,121,115,32,122,32,110,122,32,110,101,103,32,112,111,115,32,99,32,110,99,32,117,115,101,114,32,107,101,114,110,101,108,32,102,112,100,32,110,111,102,112,100,32,116,97,107,101,110,32,109,97,116,99,104,32,107,49,32,107,50,32,107,51,32,108,97,115,116,114,101,103,32,102,32,114,101,97,100,115,32,105,110,100,101,120,32,100,105,118,32,108,101,115,115,97,108,117,32,97,108,117,49,32,115,116,114,105,110,103,32,110,111,105,110,100,101,120,32,110,111,114,101,97,100,115,32,111,118,101,114]⟩] st).bind fun u=>
 some (u.1,u.2)) (
 cond (eqT field' ⟨#[109,105,115,99]⟩) (
 (cf 136 [.string ⟨#[110,111,110,101,32,115,116,101,112,32,117,110,100,111,32,115,101,116,102,112,100,32,99,108,114,102,112,100,32,114,97,105,115,101,32,108,97,116,99,104,107,32,108,97,116,99,104,120,32,109,116,112,114,32,109,102,112,114,32,101,110,116,101,114,32,112,117,116,112,115,108,32,104,97,108,116,32,98,97,99,107,32,100,101,99,111,100,101,32,115,101,108,32,115,101,108,107,32,111,119,110,108,97,115,116,32,112,105,99,107,32,112,105,99,107,116,111,112,32,112,97,114,97,109,115,32,99,111,117,110,116]⟩] st).bind fun v=>
 some (v.1,v.2)) (
 some (.slice none 0 0,st)))))))))))
noncomputable abbrev znL:zac:=lS Tryz.prog Lk0 Tryz.f117 zaC
theorem znM:Lk0.func 117=some (117,Tryz.f117):=by kernel_rfl
theorem za7 [Sym] (field':ByteArray) (st:SS) {r:Value×SS} (h:zbA cc znL field' st=some r):cc 117 [.string field'] st=some r:=
 zaf (li:=zaC) zai zar znM rfl (fun _=>rfl) (.trans (by kernel_rfl) h)
noncomputable def zcS (cf:zan) (lf:zac) (w':Value) (at0':Int) (st:SS):Option (Value×SS):=
 let a:SS:=st.new (.cells (w':Value).cells.toList 0)
 ((a.ld st.next 8).bind (asI .i64)).bind fun b=>
 cond (decide (b=0)) (
 let c:Int:=IntKind.wrap .i64 (at0'+1)
 let d:SS:=a.new (.cells ([.int .i64 c,.int .i64 1]) 2)
 some (.slice (some ⟨a.next,0,none⟩) 1 1,d)) (
 cond (decide (b=1)) (
 ((a.ld st.next 10).bind (asI .i64)).bind fun e=>
 let f:SS:=a.new (.cells ([.int .i64 e,.int .i64 1]) 2)
 some (.slice (some ⟨a.next,0,none⟩) 1 1,f)) (
 cond (decide (b=2)) (
 cond (decide (b=2)) (
 let g:Int:=IntKind.wrap .i64 (at0'+1)
 ((a.ld st.next 10).bind (asI .i64)).bind fun h=>
 let i:SS:=a.new (.cells ([.int .i64 g,.int .i64 1,.int .i64 h,.int .i64 1]) 2)
 some (.slice (some ⟨a.next,0,none⟩) 2 2,i)) (
 cond (decide (b=5)) (
 ((a.ld st.next 10).bind (asI .i64)).bind fun j=>
 let k:SS:=a.new (.cells ([.int .i64 j,.int .i64 64]) 2)
 some (.slice (some ⟨a.next,0,none⟩) 1 1,k)) (
 cond (decide (b=6)) (
 ((a.ld st.next 10).bind (asI .i64)).bind fun l=>
 let m:SS:=a.new (.cells ([.int .i64 l,.int .i64 16]) 2)
 some (.slice (some ⟨a.next,0,none⟩) 1 1,m)) (
 some (.slice none 0 0,a))))) (
 cond (decide (b=3)) (
 let n:Int:=IntKind.wrap .i64 (at0'+1)
 ((a.ld st.next 10).bind (asI .i64)).bind fun o=>
 let p:SS:=a.new (.cells ([.int .i64 n,.int .i64 1,.int .i64 o,.int .i64 1]) 2)
 some (.slice (some ⟨a.next,0,none⟩) 2 2,p)) (
 cond (decide (b=5)) (
 ((a.ld st.next 10).bind (asI .i64)).bind fun q=>
 let r:SS:=a.new (.cells ([.int .i64 q,.int .i64 64]) 2)
 some (.slice (some ⟨a.next,0,none⟩) 1 1,r)) (
 cond (decide (b=6)) (
 ((a.ld st.next 10).bind (asI .i64)).bind fun s=>
 let t:SS:=a.new (.cells ([.int .i64 s,.int .i64 16]) 2)
 some (.slice (some ⟨a.next,0,none⟩) 1 1,t)) (
 some (.slice none 0 0,a)))))))
noncomputable abbrev znN:zac:=lS Tryz.prog Lk0 Tryz.f62 zaC
theorem znO:Lk0.func 62=some (62,Tryz.f62):=by kernel_rfl
theorem zcj [Sym] (w':Value) (at0':Int) (st:SS) {r:Value×SS} (h:zcS cc znN w' at0' st=some r):cc 62 [w',.int .i64 at0'] st=some r:=
 zaf (li:=zaC) zai zar znO rfl (fun _=>rfl) (.trans (by kernel_rfl) h)
end Go.Proofs.YtifploedaacedaaGreatDoorE
namespace Go.Proofs.YtifploedaacedaaGreatDoorE
open Go Go.E Go.Proofs
def Simple (l:List UInt8):Bool:=l.all (fun b=>decide (b.toNat<128)&&(!Lib.isSp b||decide (b=32))&&(Lib.isSp b||decide (b≠32)))&&(pieces 32 l).all (fun p=>!p.isEmpty)
theorem Simple.byte {l:List UInt8} (h:Simple l=true) {b:UInt8} (hb:b∈l):b.toNat<128∧Lib.isSp b=decide (b=32):=by
 unfold Simple at h
 rw [zae] at h
 have:=List.all_eq_true.1 h.1 b hb
 simp only [zae,decide_eq_true_eq,Bool.or_eq_true,Bool.not_eq_true'] at this
 refine ⟨this.1.1,?_⟩
 rcases this.1.2 with h1 | h1
 ·rw [h1]
  rcases this.2 with h2 | h2
  ·rw [h1] at h2;cases h2
  ·rw [zdf h2]
 ·rw [zdt h1]
  rcases this.2 with h2 | h2
  ·exact h2
  ·exact absurd h1 h2
theorem Simple.piece {l:List UInt8} (h:Simple l=true) {p:List UInt8} (hp:p∈pieces 32 l):p≠[]:=by
 unfold Simple at h
 rw [zae] at h
 have:=List.all_eq_true.1 h.2 p hp
 intro e
 subst e
 cases this
def ziS:Bool→List UInt8→Nat
 | _,[]=>0
 | ws,b::r=>(if ws=true∧b≠32 then 1 else 0)+ziS (decide (b=32)) r
theorem zpp (l:List UInt8) (h:∀ p∈(pieces 32 l).tail,p≠[]):ziS false l+1=(pieces 32 l).length∧((pieces 32 l).head?≠some []→ziS true l=(pieces 32 l).length):=by
 induction l with
 | nil=>exact ⟨rfl,fun h=>absurd rfl h⟩
 | cons b r ih=>
   rw [zfc] at h ⊢
   by_cases hb:b=32
   ·subst hb
    rw [if_pos rfl] at h ⊢
    have h2:∀ p∈pieces 32 r,p≠[]:=h
    have hne:=zdV 32 r
    have ih':=ih fun p hp=>h2 p (List.mem_of_mem_tail hp)
    have hh:(pieces 32 r).head?≠some []:=by
     cases hp:pieces 32 r with
     | nil=>exact absurd hp hne
     | cons x y=>rw [hp] at h2;intro e;simp at e;exact h2 x (by simp) e
    refine ⟨?_,fun hc=>absurd rfl hc⟩
    show (if _ then _ else _)+ziS (decide ((32:UInt8)=32)) r+1=_
    rw [zdt rfl,ih'.2 hh]
    simp
   ·rw [if_neg hb] at h ⊢
    cases hp:pieces 32 r with
    | nil=>exact absurd hp (zdV 32 r)
    | cons x y=>
      rw [hp] at h ih
      have ih':=ih h
      have e:decide (b=32)=false:=zdf hb
      refine ⟨?_,fun _=>?_⟩
      ·show (if _ then _ else _)+ziS (decide (b=32)) r+1=_
       rw [e]
       simp at ih' ⊢
       omega
      ·show (if _ then _ else _)+ziS (decide (b=32)) r=_
       rw [e,if_pos ⟨rfl,hb⟩]
       simp at ih' ⊢
       omega
theorem ziT {i k len z n:Nat} (h:n<len):zbr (ptr i k) len (n:Int) z=some (i,k+n*z):=by
 have h1:(0:Int)≤(n:Int):=by omega
 have h2:(n:Int)<(len:Int):=by omega
 unfold ptr zbr
 simp only [zdt h1,zdt h2,Bool.and_self,zct,Int.toNat_natCast]
theorem ziU {st:SS} (hg:Gd st) {b:UInt8}:st.ld 2 (0+b.toNat*1)=some (.int .u8 (if Lib.isSp b=true then 1 else 0)):=by
 rw [SS.ld_table hg.gS]
 have hb:=b.toNat_lt
 have e:0+b.toNat*1=b.toNat:=by omega
 unfold asciiC Lib.asciiSpaceTab
 rw [e,List.getElem?_map,List.getElem?_map,List.getElem?_range hb]
 simp
theorem zt7 {a b:Nat} (ha:a<128) (hb:b<128):∃ c:Nat,orI .u8 (a:Int) (b:Int)=(c:Int)∧c<128:=by
 refine ⟨a||| b,?_,Nat.or_lt_two_pow (n:=7) ha hb⟩
 have h:a||| b<128:=Nat.or_lt_two_pow (n:=7) ha hb
 unfold orI
 have e:((BitVec.ofInt 8 (a:Int)||| BitVec.ofInt 8 (b:Int)).toNat:Nat)=a||| b:=by
  rw [BitVec.toNat_or,BitVec.toNat_ofInt,BitVec.toNat_ofInt]
  congr 1<;>omega
 show IntKind.wrap .u8 (((BitVec.ofInt 8 (a:Int)||| BitVec.ofInt 8 (b:Int)).toNat:Nat):Int)=_
 rw [e,zgR (by omega) (by omega)]
theorem zsY (w x:Bool):andI .i64 (if w=true then 1 else 0) (xorI .i64 (-1) (if x=true then 1 else 0))=if w=true∧x=false then 1 else 0:=by
 cases w<;>cases x<;>decide
theorem zpq [Sym] (s:ByteArray) (hs:s.size≤4294967296) (hsim:Simple (bl s)=true) (st:SS) (hg:Gd st):∀ (k i n sb:Nat) (ws:Bool),s.size=k+i→sb<128→n≤i→
  ∃ sb',sb'<128∧zaB 5 [.string s,.int .i64 n,.int .i64 (if ws=true then 1 else 0),.int .u8 sb,.int .i64 i] st=some (0,[.string s,.int .i64 ((n+ziS ws ((bl s).drop i):Nat):Int),.int .u8 ((sb':Nat):Int)],st):=by
 intro k
 induction k with
 | zero=>
   intro i n sb ws hk hsb hn
   have hlt:¬ (i:Int)<(s.size:Int):=by omega
   refine ⟨sb,hsb,zfh s _ _ _ _ st ?_⟩
   rw [List.drop_of_length_le (by rw [zaK];omega)]
   simp only [zel,zdf hlt,zcf]
   rfl
 | succ k ih=>
   intro i n sb ws hk hsb hn
   obtain ⟨b,hb⟩:∃ b,(bl s)[i]?=some b:=⟨_,zge (by rw [zaK];omega)⟩
   have hlt:(i:Int)<(s.size:Int):=by omega
   obtain ⟨b128,bsp⟩:=Simple.byte hsim (zmg hb)
   obtain ⟨c,hc1,hc2⟩:=zt7 hsb b128
   have he:zbr (ptr 2 0) 256 (b.toNat:Int) 1=some (2,0+b.toNat*1):=ziT (by have:=b.toNat_lt;omega)
   have hl:=ziU hg (b:=b)
   rw [bsp] at hl
   have hw:IntKind.wrap .i64 (if decide (b=32)=true then (1:Int) else 0)=(if decide (b=32)=true then 1 else 0):=by cases decide (b=32)<;>decide
   have hn1:IntKind.wrap .i64 ((n:Int)+(if ws=true∧decide (b=32)=false then 1 else 0))=((n+(if ws=true∧b≠32 then 1 else 0):Nat):Int):=by
    have e:(ws=true∧decide (b=32)=false)↔(ws=true∧b≠32):=by simp
    by_cases h:ws=true∧b≠32
    ·rw [if_pos (e.2 h),if_pos h,wrap64 (by omega) (by omega)];omega
    ·rw [if_neg (fun x=>h (e.1 x)),if_neg h,wrap64 (by omega) (by omega)];omega
   obtain ⟨sb',h1,h2⟩:=ih (i+1) (n+(if ws=true∧b≠32 then 1 else 0)) c (decide (b=32)) (by omega) hc2 (by split<;>omega)
   refine ⟨sb',h1,zfh s _ _ _ _ st ?_⟩
   have hd:=drop_cons hb
   have hcnt:n+ziS ws ((bl s).drop i)=n+(if ws=true∧b≠32 then 1 else 0)+ziS (decide (b=32)) ((bl s).drop (i+1)):=by
    rw [hd]
    show n+((if ws=true∧b≠32 then 1 else 0)+_)=_
    omega
   rw [hcnt]
   simp only [zel,zdt hlt,zct,zhX hb,zob,hc1,he,hl,zaa,zsY,hw,hn1,zba (show i≤1099511627776 by omega)]
   exact h2
theorem zt8 [Sym] (s:ByteArray) (hs:s.size≤4294967296) (hsim:Simple (bl s)=true) (st:SS) (hg:Gd st) (a:Value) (na:Int) (i:Nat) (h:∀ b,(bl s)[i]?=some b→b≠32):
  zaB 18 [.string s,a,.int .i64 na,.int .i64 i] st=some (0,[.string s,a,.int .i64 na,.int .i64 i],st):=by
 refine zh5 s a _ _ st ?_
 by_cases hlt:(i:Int)<(s.size:Int)
 ·obtain ⟨b,hb⟩:∃ b,(bl s)[i]?=some b:=⟨_,zge (by rw [zaK];omega)⟩
  obtain ⟨b128,bsp⟩:=Simple.byte hsim (zmg hb)
  have he:zbr (ptr 2 0) 256 (b.toNat:Int) 1=some (2,0+b.toNat*1):=ziT (by have:=b.toNat_lt;omega)
  have hl:=ziU hg (b:=b)
  rw [bsp,zdf (h b hb),if_neg (by decide)] at hl
  simp only [zdY,zdt hlt,zct,zhX hb,zob,he,hl,zaa,decide_true,znt,zcf]
 ·simp only [zdY,zdf hlt,zcf]
theorem zt9 [Sym] (s:ByteArray) (hs:s.size≤4294967296) (hsim:Simple (bl s)=true) (st:SS) (hg:Gd st) (a:Value) (na:Int) (i:Nat) (h:∀ b,(bl s)[i]?=some b→b≠32):
  zaB 27 [.string s,a,.int .i64 na,.int .i64 i] st=some (0,[.string s,a,.int .i64 na,.int .i64 i],st):=by
 refine zh6 s a _ _ st ?_
 by_cases hlt:(i:Int)<(s.size:Int)
 ·obtain ⟨b,hb⟩:∃ b,(bl s)[i]?=some b:=⟨_,zge (by rw [zaK];omega)⟩
  obtain ⟨b128,bsp⟩:=Simple.byte hsim (zmg hb)
  have he:zbr (ptr 2 0) 256 (b.toNat:Int) 1=some (2,0+b.toNat*1):=ziT (by have:=b.toNat_lt;omega)
  have hl:=ziU hg (b:=b)
  rw [bsp,zdf (h b hb),if_neg (by decide)] at hl
  simp only [zdZ,zdt hlt,zct,zhX hb,zob,he,hl,zaa,decide_true,znt,zcf]
 ·simp only [zdZ,zdf hlt,zcf]
theorem zqA [Sym] (s:ByteArray) (hs:s.size≤4294967296) (hsim:Simple (bl s)=true) (N j:Nat) (hN:N=(pieces 32 (bl s)).length) (st0:SS) (hg:Gd st0) (hj0:st0.next≤j):∀ (k i f:Nat) (done:List (List UInt8)) (st:SS),s.size=k+i→f≤i→
  done++zfA (((bl s).drop f).take (i-f)) (pieces 32 ((bl s).drop i))=pieces 32 (bl s)→Ext st0 st→j<st.next→st.lim≤j→st.mem.get j=some (.cells (strs done++List.replicate (N-done.length) (Value.string ⟨#[]⟩)) 1)→
  ∃ f' done' st',zaB 21 [.string s,.slice (some ⟨j,0,none⟩) N N,.int .i64 done.length,.int .i64 f,.int .i64 i] st=some (0,[.string s,.slice (some ⟨j,0,none⟩) N N,.int .i64 ((done'.length:Nat):Int),.int .i64 ((f':Nat):Int)],st')∧
   Ext st0 st'∧st'.next=st.next∧st'.lim=st.lim∧done'++[(bl s).drop f']=pieces 32 (bl s)∧f'≤s.size∧st'.mem.get j=some (.cells (strs done'++List.replicate (N-done'.length) (Value.string ⟨#[]⟩)) 1):=by
 have hplen:=pieces_len 32 (bl s)
 rw [zaK] at hplen
 intro k
 induction k with
 | zero=>
   intro i f done st hk hf hp he hj hlim hm
   have hlt:¬ (i:Int)<(s.size:Int):=by omega
   refine ⟨f,done,st,zc6 s _ _ _ _ st ?_,he,rfl,rfl,?_,by omega,hm⟩
   ·simp only [zcR,zdf hlt,zcf]
   ·rw [← hp,List.drop_of_length_le (i:=i) (by rw [zaK];omega)]
    show done++[_]=done++[_++[]]
    rw [List.append_nil,List.take_of_length_le (by rw [List.length_drop,zaK];omega)]
 | succ k ih=>
   intro i f done st hk hf hp he hj hlim hm
   obtain ⟨b,hb⟩:∃ b,(bl s)[i]?=some b:=⟨_,zge (by rw [zaK];omega)⟩
   have hlt:(i:Int)<(s.size:Int):=by omega
   obtain ⟨b128,bsp⟩:=Simple.byte hsim (zmg hb)
   have hea:zbr (ptr 2 0) 256 (b.toNat:Int) 1=some (2,0+b.toNat*1):=ziT (by have:=b.toNat_lt;omega)
   have hl:=ziU (hg.ext he) (b:=b)
   rw [bsp] at hl
   have hd:=drop_cons hb
   have hw:=zba (show i≤1099511627776 by omega)
   by_cases h32:b=32
   ·rw [zdt h32,if_pos rfl] at hl
    rw [hd,zfc,if_pos h32] at hp
    have hp':done++((((bl s).drop f).take (i-f))++[])::pieces 32 ((bl s).drop (i+1))=pieces 32 (bl s):=hp
    rw [List.append_nil] at hp'
    have hdl:done.length<N:=by
     have:=congrArg List.length hp'
     simp at this
     omega
    have hsub:zcK s (f:Int) (i:Int)=some (mkS (((bl s).drop f).take (i-f))):=by
     have:=ziK (s:=s) (col:=f) (n:=i-f) (by omega)
     rw [show f+(i-f)=i by omega] at this
     exact this
    have hel:zaw (.slice (some ⟨j,0,none⟩) N N) (done.length:Int) 1=some (j,0+done.length*1):=by
     unfold zaw
     have h1:(0:Int)≤(done.length:Int):=by omega
     have h2:(done.length:Int)<(N:Int):=by omega
     simp only [zdt h1,zdt h2,Bool.and_self,zct,Int.toNat_natCast]
    have hst:st.st j (0+done.length*1) [.string (mkS (((bl s).drop f).take (i-f)))]=some (st.set j (some (.cells (strs (done++[((bl s).drop f).take (i-f)])++List.replicate (N-(done.length+1)) (Value.string ⟨#[]⟩)) 1))):=by
     refine SS.st_cells hm hlim rfl ?_
     obtain ⟨q,hq⟩:∃ q,N-done.length=q+1:=⟨N-done.length-1,by omega⟩
     have hq2:N-(done.length+1)=q:=by omega
     rw [hq,hq2,zbs (by simp [strs])]
     have:=zkZ done q (((bl s).drop f).take (i-f))
     rw [show 0+done.length*1=done.length by omega]
     exact congrArg some this
    have hx:Ext st0 (st.set j (some (.cells (strs (done++[((bl s).drop f).take (i-f)])++List.replicate (N-(done.length+1)) (Value.string ⟨#[]⟩)) 1))):=he.set hj0 _
    have hnext:∀ b',(bl s)[i+1]?=some b'→b'≠32:=by
     intro b' hb' e
     have hd':=drop_cons hb'
     rw [hd',e,zfc,if_pos rfl] at hp'
     exact Simple.piece hsim (p:=[]) (by rw [← hp'];simp) rfl
    have hsk:=zt9 s hs hsim _ (hg.ext hx) (.slice (some ⟨j,0,none⟩) N N) ((done.length+1:Nat):Int) (i+1) hnext
    obtain ⟨f',done',st',d1,d2,d3,d4,d5,d6,d7⟩:=ih (i+1) (i+1) (done++[((bl s).drop f).take (i-f)]) (st.set j (some (.cells (strs (done++[((bl s).drop f).take (i-f)])++List.replicate (N-(done.length+1)) (Value.string ⟨#[]⟩)) 1))) (by omega) (zlr _) (by
      rw [Nat.sub_self,List.take_zero,zky (zdV _ _),List.append_assoc];exact hp') hx hj hlim (by simp)
    have hdw:=zba (show done.length≤1099511627776 by omega)
    have h10:¬ (1:Int)=0:=by omega
    refine ⟨f',done',st',zc6 s _ _ _ _ st ?_,d2,d3,d4,d5,d6,d7⟩
    simp only [zcR,zdt hlt,zct,zhX hb,zob,hea,hl,zaa,zdf h10,zcf,hsub,hel,hst,hdw,hw]
    rw [hsk,zob]
    simp only [zgs,zgz,zob,zab,zaa]
    simpa using d1
   ·rw [zdf h32,if_neg (by decide)] at hl
    have hcur:((bl s).drop f).take (i+1-f)=((bl s).drop f).take (i-f)++[b]:=by
     rw [show i+1-f=(i-f)+1 by omega]
     refine zph ?_
     rw [List.getElem?_drop,show f+(i-f)=i by omega];exact hb
    obtain ⟨f',done',st',d1,d2,d3,d4,d5,d6,d7⟩:=ih (i+1) f done st (by omega) (by omega) (by
      rw [hcur,← zou _ _ _ _ h32,← hd];exact hp) he hj hlim hm
    refine ⟨f',done',st',zc6 s _ _ _ _ st ?_,d2,d3,d4,d5,d6,d7⟩
    simp only [zcR,zdt hlt,zct,zhX hb,zob,hea,hl,zaa,decide_true,hw]
    exact d1
theorem zrU [Sym] (s:ByteArray) (hs:s.size≤4294967296) (hsim:Simple (bl s)=true) (st:SS) (hg:Gd st) (hll:st.lim≤st.next):
  ∃ v st',cc 149 [.string s] st=some (v,st')∧Ext st st'∧Own st.next st' v (strs (pieces 32 (bl s))) 1 (pieces 32 (bl s)).length:=by
 have hplen:=pieces_len 32 (bl s)
 rw [zaK] at hplen
 have hall:∀ p∈pieces 32 (bl s),p≠[]:=fun p hp=>Simple.piece hsim hp
 have hne:=zdV 32 (bl s)
 have hhd:(pieces 32 (bl s)).head?≠some []:=by
  cases hp:pieces 32 (bl s) with
  | nil=>exact absurd hp hne
  | cons x y=>rw [hp] at hall;intro e;simp at e;exact hall x (by simp) e
 obtain ⟨sb,hsb,c1⟩:=zpq s hs hsim st hg s.size 0 0 0 true (by omega) (by omega) (by omega)
 have hcnt:=(zpp (bl s) (fun p hp=>hall p (List.mem_of_mem_tail hp))).2 hhd
 rw [List.drop_zero,Nat.zero_add,hcnt] at c1
 have c1':zaB 5 [.string s,.int .i64 0,.int .i64 1,.int .u8 0,.int .i64 0] st=some (0,[.string s,.int .i64 ((pieces 32 (bl s)).length:Int),.int .u8 (sb:Int)],st):=c1
 have h128:¬ (128:Int)≤(sb:Int):=by omega
 have hmk:zeF ((pieces 32 (bl s)).length:Int) ((pieces 32 (bl s)).length:Int) 16=some ():=zkY (by omega) (by omega) (by omega)
 have hz:zet [Value.string ⟨#[]⟩] ((pieces 32 (bl s)).length:Int)=List.replicate (pieces 32 (bl s)).length (Value.string ⟨#[]⟩):=ziI _ _
 have x1:Ext st (st.new (.cells (List.replicate (pieces 32 (bl s)).length (Value.string ⟨#[]⟩)) 1)):=(Ext.refl st).new _
 have hfirst:∀ b,(bl s)[0]?=some b→b≠32:=by
  intro b hb e
  have hd:=drop_cons hb
  rw [List.drop_zero] at hd
  rw [hd,e,zfc,if_pos rfl] at hhd
  exact hhd rfl
 have hsk:=zt8 s hs hsim _ (hg.ext x1) (.slice (some ⟨st.next,0,none⟩) (pieces 32 (bl s)).length (pieces 32 (bl s)).length) 0 0 hfirst
 obtain ⟨f',done',st',d1,d2,d3,d4,d5,d6,d7⟩:=zqA s hs hsim (pieces 32 (bl s)).length st.next rfl st hg (zlr _) s.size 0 0 [] (st.new (.cells (List.replicate (pieces 32 (bl s)).length (Value.string ⟨#[]⟩)) 1)) (by omega) (by omega) (by
   rw [List.drop_zero];show zfA (List.take (0-0) (bl s)) _=_;rw [Nat.sub_self,List.take_zero,zky hne]) x1 (by simp) hll (by simp [strs])
 have d1':zaB 21 [.string s,.slice (some ⟨st.next,0,none⟩) (pieces 32 (bl s)).length (pieces 32 (bl s)).length,.int .i64 0,.int .i64 0,.int .i64 0] (st.new (.cells (List.replicate (pieces 32 (bl s)).length (Value.string ⟨#[]⟩)) 1))=some (0,[.string s,.slice (some ⟨st.next,0,none⟩) (pieces 32 (bl s)).length (pieces 32 (bl s)).length,.int .i64 ((done'.length:Nat):Int),.int .i64 ((f':Nat):Int)],st'):=d1
 have hlen:(pieces 32 (bl s)).length=done'.length+1:=by rw [← d5];simp
 have hlast:(bl s).drop f'≠[]:=hall _ (by rw [← d5];simp)
 have hf':f'<s.size:=by
  have:((bl s).drop f').length≠0:=fun e=>hlast (List.length_eq_zero_iff.1 e)
  rw [List.length_drop,zaK] at this
  omega
 have hlt:(f':Int)<(s.size:Int):=by omega
 have hsub:zcK s (f':Int) (s.size:Int)=some (mkS ((bl s).drop f')):=znk (by omega)
 have hel:zaw (.slice (some ⟨st.next,0,none⟩) (pieces 32 (bl s)).length (pieces 32 (bl s)).length) (done'.length:Int) 1=some (st.next,0+done'.length*1):=by
  unfold zaw
  have h1:(0:Int)≤(done'.length:Int):=by omega
  have h2:(done'.length:Int)<((pieces 32 (bl s)).length:Int):=by omega
  simp only [zdt h1,zdt h2,Bool.and_self,zct,Int.toNat_natCast]
 have hst:st'.st st.next (0+done'.length*1) [.string (mkS ((bl s).drop f'))]=some (st'.set st.next (some (.cells (strs (pieces 32 (bl s))) 1))):=by
  refine SS.st_cells d7 (by rw [d4];exact hll) rfl ?_
  have hq:(pieces 32 (bl s)).length-done'.length=0+1:=by omega
  rw [hq,zbs (by simp [strs])]
  have:=zkZ done' 0 ((bl s).drop f')
  rw [show 0+done'.length*1=done'.length by omega]
  exact congrArg some (this.trans (by rw [d5];simp))
 refine ⟨.slice (some ⟨st.next,0,none⟩) (pieces 32 (bl s)).length (pieces 32 (bl s)).length,st'.set st.next (some (.cells (strs (pieces 32 (bl s))) 1)),zke s st ?_,d2.set (zlr _) _,by simp,.inr ⟨st.next,rfl,by omega,by simp,zlr _,by simp [d3]⟩⟩
 simp only [strings_Fields]
 rw [c1',zob]
 simp only [zgs,zgz,zob,zab,zaa,zdf h128,zcf,hmk,hz,Int.toNat_natCast]
 have hsk':zaB 18 [.string s,.slice (some ⟨st.next,0,none⟩) (pieces 32 (bl s)).length (pieces 32 (bl s)).length,.int .i64 0,.int .i64 0] (st.new (.cells (List.replicate (pieces 32 (bl s)).length (Value.string ⟨#[]⟩)) 1))=some (0,[.string s,.slice (some ⟨st.next,0,none⟩) (pieces 32 (bl s)).length (pieces 32 (bl s)).length,.int .i64 0,.int .i64 0],st.new (.cells (List.replicate (pieces 32 (bl s)).length (Value.string ⟨#[]⟩)) 1)):=hsk
 rw [hsk',zob]
 simp only [zgs,zgz,zob,zab,zaa]
 have d1'':zaB 21 [.string s,.slice (some ⟨st.next,0,none⟩) (pieces 32 (bl s)).length (pieces 32 (bl s)).length,.int .i64 0,.int .i64 0,.int .i64 0] (st.new (.cells (List.replicate (pieces 32 (bl s)).length (Value.string ⟨#[]⟩)) 1))=_:=d1'
 rw [d1'',zob]
 simp only [zgs,zgz,zob,zab,zaa,zdt hlt,zct,hsub,hel,hst]
theorem row_ok [Sym] (s:ByteArray) (hs:s.size≤4294967296) (hsim:Simple (bl s)=true) (st:SS) (hg:Gd st) (hll:st.lim≤st.next):
  ∃ v st',cc 136 [.string s] st=some (v,st')∧Ext st st'∧Own st.next st' v (strs (pieces 32 (bl s))) 1 (pieces 32 (bl s)).length:=by
 obtain ⟨v,st',c,x,o⟩:=zrU s hs hsim st hg hll
 refine ⟨v,st',zpo s st ?_,x,o⟩
 simp only [zoI,c,zob]
end Go.Proofs.YtifploedaacedaaGreatDoorE
namespace Go.Proofs.YtifploedaacedaaGreatDoorE
set_option maxRecDepth 20000
open Go Go.E Go.Proofs
def zfi:LoopI:=⟨[(1,.str),(7,.any),(8,.int .i64),(9,.int .i64)],[(.exit 0,[]),(.ret,[(4,.int .i64)])]⟩
def zfq (n:Nat):Option LoopI:=cond (Nat.beq n 2) (some zfi) (none)
noncomputable def zgX (cf:zan) (lf:zac) (l':Value) (s':ByteArray) (st:SS):Option (Value×SS):=
 ((lenV l').bind (asI .i64)).bind fun a=>
 (lf 2 [.string s',l',.int .i64 a,.int .i64 0] (st.ro st.next)).bind fun b=>
 cond (Nat.beq b.1 0) (
 some (.int .i64 (-1),st.adv b.2.2.next)) (
 ((b.2.1[0]?).bind (asI .i64)).bind fun c=>
 some (.int .i64 c,st.adv b.2.2.next))
noncomputable abbrev zbY:zac:=lS Tryz.prog Lk0 Tryz.f47 zfq
theorem zi9:Lk0.func 47=some (47,Tryz.f47):=by kernel_rfl
theorem zja [Sym] (l':Value) (s':ByteArray) (st:SS) {r:Value×SS} (h:zgX cc zbY l' s' st=some r):cc 47 [l',.string s'] st=some r:=
 zaf (li:=zfq) zai zar zi9 rfl (fun _=>rfl) (.trans (by kernel_rfl) h)
noncomputable def zcH (cf:zan) (lf:zac) (s':ByteArray) (t7':Value) (t8':Int) (t9':Int) (st:SS):Option (Nat×List Value×SS):=
 cond (decide (t9'<t8')) (
 (zaw t7' t9' 1).bind fun a=>
 ((st.ld a.1 a.2).bind asS).bind fun b=>
 cond (eqT b s') (
 some (1,[.int .i64 t9'],st)) (
 let c:Int:=IntKind.wrap .i64 (t9'+1)
 lf 2 [.string s',t7',.int .i64 t8',.int .i64 c] st)) (
 some (0,[],st))
theorem zey [Sym] (s':ByteArray) (t7':Value) (t8':Int) (t9':Int) (st:SS) {r:Nat×List Value×SS} (h:zcH cc zbY s' t7' t8' t9' st=some r):zbY 2 [.string s',t7',.int .i64 t8',.int .i64 t9'] st=some r:=
 zaA zai zar (key:=2) (I:=zfi) rfl (by kernel_rfl) (by kernel_rfl) rfl rfl (.trans (by kernel_rfl) h)
end Go.Proofs.YtifploedaacedaaGreatDoorE
namespace Go.Proofs.YtifploedaacedaaGreatDoorE
open Go Go.E Go.Proofs
def c_alu:List UInt8:=[110,111,110,101,32,109,111,118,32,110,111,116,32,110,101,103,32,105,110,99,32,100,101,99,32,97,100,100,32,115,117,98,32,97,100,100,99,32,115,117,98,99,32,109,117,108,32,100,105,118,32,111,114,32,98,105,99,32,120,111,114,32,97,110,100,32,99,109,112,32,116,101,115,116,32,99,108,101,97,114,32,115,120,98,32,115,120,119,32,122,120,98,32,122,120,119,32,115,104,108,32,115,104,114,32,97,115,104,32,114,111,116,32,111,112,32,115,120,111,32,101,120,116,32,105,110,115,32,99,118,116]
def zj8:List UInt8:=[114,48,32,114,49,32,114,50,32,114,51,32,114,52,32,114,53,32,114,54,32,114,55,32,114,56,32,114,57,32,114,49,48,32,114,49,49,32,114,49,50,32,114,49,51,32,114,49,52,32,114,49,53,32,116,48,32,116,49,32,116,50,32,116,51,32,116,52,32,116,53,32,116,54,32,116,55,32,118,48,32,118,49,32,118,50,32,118,51,32,118,52,32,118,53,32,97,48,32,97,49,32,97,50,32,97,51,32,97,52,32,97,53,32,109,100,32,118,97,32,112,115,108,32,114,110,32,114,120,32,108,105,116,32,122,101,114,111,32,118,101,99,32,112,48,32,112,49,32,115,116,97,114,116,32,115,99,98,98,32,107,115,112,32,117,115,112,32,100,105,115,112,32,111,115,105,122,101,32,105,108,101,110,32,108,101,118,101,108,32,118,99,32,97,99,32,97,108,32,107,108,32,99,110,116,32,110,112]
def zrV:List UInt8:=[98,121,116,101,32,119,111,114,100,32,108,111,110,103,32,111,119,110]
def c_cc:List UInt8:=[107,101,101,112,32,115,101,116,32,115,101,116,107]
def c_mem:List UInt8:=[110,111,110,101,32,114,100,32,119,114,32,112,114,111,98,101,32,98,108,100,32,98,115,116,32,98,112,117,116,32,98,103,101,116,32,98,99,108,114,32,105,102,32,114,100,112,32,107,115,116,32,114,111,119,32,117,110,114,111,119,32,114,111,119,97,32,102,108,117,115,104]
def c_seq:List UInt8:=[110,101,120,116,32,106,109,112,32,99,106,32,99,97,108,108,32,114,101,116,32,115,112,101,99,32,109,111,100,101,32,101,110,100]
def zrW:List UInt8:=[97,108,119,97,121,115,32,122,32,110,122,32,110,101,103,32,112,111,115,32,99,32,110,99,32,117,115,101,114,32,107,101,114,110,101,108,32,102,112,100,32,110,111,102,112,100,32,116,97,107,101,110,32,109,97,116,99,104,32,107,49,32,107,50,32,107,51,32,108,97,115,116,114,101,103,32,102,32,114,101,97,100,115,32,105,110,100,101,120,32,100,105,118,32,108,101,115,115,97,108,117,32,97,108,117,49,32,115,116,114,105,110,103,32,110,111,105,110,100,101,120,32,110,111,114,101,97,100,115,32,111,118,101,114]
def zrX:List UInt8:=[110,111,110,101,32,115,116,101,112,32,117,110,100,111,32,115,101,116,102,112,100,32,99,108,114,102,112,100,32,114,97,105,115,101,32,108,97,116,99,104,107,32,108,97,116,99,104,120,32,109,116,112,114,32,109,102,112,114,32,101,110,116,101,114,32,112,117,116,112,115,108,32,104,97,108,116,32,98,97,99,107,32,100,101,99,111,100,101,32,115,101,108,32,115,101,108,107,32,111,119,110,108,97,115,116,32,112,105,99,107,32,112,105,99,107,116,111,112,32,112,97,114,97,109,115,32,99,111,117,110,116]
def namesT (f:List UInt8):List (List UInt8):=
 if f=[97,108,117] then pieces 32 c_alu else
 if f=[97] then pieces 32 zj8 else
 if f=[98] then pieces 32 zj8 else
 if f=[100] then pieces 32 zj8 else
 if f=[115,105,122,101] then pieces 32 zrV else
 if f=[99,99] then pieces 32 c_cc else
 if f=[109,101,109] then pieces 32 c_mem else
 if f=[115,101,113] then pieces 32 c_seq else
 if f=[99,111,110,100] then pieces 32 zrW else
 if f=[109,105,115,99] then pieces 32 zrX else
 []
theorem zsZ [Sym] (f:ByteArray) (st:SS) (hg:Gd st) (hll:st.lim≤st.next):
  ∃ v st',cc 117 [.string f] st=some (v,st')∧Ext st st'∧Own st.next st' v (strs (namesT (bl f))) 1 (namesT (bl f)).length:=by
 have R:∀ s:ByteArray,s.size≤4294967296→Simple (bl s)=true→∃ v st',((cc 136 [.string s] st).bind fun r=>some (r.1,r.2))=some (v,st')∧Ext st st'∧Own st.next st' v (strs (pieces 32 (bl s))) 1 (pieces 32 (bl s)).length:=fun s h1 h2=>by
  obtain ⟨v,st',c,x,o⟩:=row_ok s h1 h2 st hg hll
  exact ⟨v,st',by rw [c];rfl,x,o⟩
 by_cases h_alu:bl f=[97,108,117]
 ·have e:namesT (bl f)=pieces 32 c_alu:=by rw [h_alu];rfl
  obtain ⟨v,st',c,x,o⟩:=R ⟨#[110,111,110,101,32,109,111,118,32,110,111,116,32,110,101,103,32,105,110,99,32,100,101,99,32,97,100,100,32,115,117,98,32,97,100,100,99,32,115,117,98,99,32,109,117,108,32,100,105,118,32,111,114,32,98,105,99,32,120,111,114,32,97,110,100,32,99,109,112,32,116,101,115,116,32,99,108,101,97,114,32,115,120,98,32,115,120,119,32,122,120,98,32,122,120,119,32,115,104,108,32,115,104,114,32,97,115,104,32,114,111,116,32,111,112,32,115,120,111,32,101,120,116,32,105,110,115,32,99,118,116]⟩ (by decide+kernel) (by decide+kernel)
  have q_alu:eqT f ⟨#[97,108,117]⟩=true:=zdt h_alu
  refine ⟨v,st',za7 f st ?_,x,by rw [e];exact o⟩
  simp only [zbA,q_alu,zct,zcf]
  exact c
 have n_alu:eqT f ⟨#[97,108,117]⟩=false:=zdf h_alu
 by_cases h_a:bl f=[97]
 ·have e:namesT (bl f)=pieces 32 zj8:=by rw [h_a];rfl
  obtain ⟨v,st',c,x,o⟩:=R ⟨#[114,48,32,114,49,32,114,50,32,114,51,32,114,52,32,114,53,32,114,54,32,114,55,32,114,56,32,114,57,32,114,49,48,32,114,49,49,32,114,49,50,32,114,49,51,32,114,49,52,32,114,49,53,32,116,48,32,116,49,32,116,50,32,116,51,32,116,52,32,116,53,32,116,54,32,116,55,32,118,48,32,118,49,32,118,50,32,118,51,32,118,52,32,118,53,32,97,48,32,97,49,32,97,50,32,97,51,32,97,52,32,97,53,32,109,100,32,118,97,32,112,115,108,32,114,110,32,114,120,32,108,105,116,32,122,101,114,111,32,118,101,99,32,112,48,32,112,49,32,115,116,97,114,116,32,115,99,98,98,32,107,115,112,32,117,115,112,32,100,105,115,112,32,111,115,105,122,101,32,105,108,101,110,32,108,101,118,101,108,32,118,99,32,97,99,32,97,108,32,107,108,32,99,110,116,32,110,112]⟩ (by decide+kernel) (by decide+kernel)
  have q_a:eqT f ⟨#[97]⟩=true:=zdt h_a
  refine ⟨v,st',za7 f st ?_,x,by rw [e];exact o⟩
  simp only [zbA,n_alu,q_a,zct,zcf]
  exact c
 have n_a:eqT f ⟨#[97]⟩=false:=zdf h_a
 by_cases h_b:bl f=[98]
 ·have e:namesT (bl f)=pieces 32 zj8:=by rw [h_b];rfl
  obtain ⟨v,st',c,x,o⟩:=R ⟨#[114,48,32,114,49,32,114,50,32,114,51,32,114,52,32,114,53,32,114,54,32,114,55,32,114,56,32,114,57,32,114,49,48,32,114,49,49,32,114,49,50,32,114,49,51,32,114,49,52,32,114,49,53,32,116,48,32,116,49,32,116,50,32,116,51,32,116,52,32,116,53,32,116,54,32,116,55,32,118,48,32,118,49,32,118,50,32,118,51,32,118,52,32,118,53,32,97,48,32,97,49,32,97,50,32,97,51,32,97,52,32,97,53,32,109,100,32,118,97,32,112,115,108,32,114,110,32,114,120,32,108,105,116,32,122,101,114,111,32,118,101,99,32,112,48,32,112,49,32,115,116,97,114,116,32,115,99,98,98,32,107,115,112,32,117,115,112,32,100,105,115,112,32,111,115,105,122,101,32,105,108,101,110,32,108,101,118,101,108,32,118,99,32,97,99,32,97,108,32,107,108,32,99,110,116,32,110,112]⟩ (by decide+kernel) (by decide+kernel)
  have q_b:eqT f ⟨#[98]⟩=true:=zdt h_b
  refine ⟨v,st',za7 f st ?_,x,by rw [e];exact o⟩
  simp only [zbA,n_alu,n_a,q_b,zct,zcf]
  exact c
 have n_b:eqT f ⟨#[98]⟩=false:=zdf h_b
 by_cases h_d:bl f=[100]
 ·have e:namesT (bl f)=pieces 32 zj8:=by rw [h_d];rfl
  obtain ⟨v,st',c,x,o⟩:=R ⟨#[114,48,32,114,49,32,114,50,32,114,51,32,114,52,32,114,53,32,114,54,32,114,55,32,114,56,32,114,57,32,114,49,48,32,114,49,49,32,114,49,50,32,114,49,51,32,114,49,52,32,114,49,53,32,116,48,32,116,49,32,116,50,32,116,51,32,116,52,32,116,53,32,116,54,32,116,55,32,118,48,32,118,49,32,118,50,32,118,51,32,118,52,32,118,53,32,97,48,32,97,49,32,97,50,32,97,51,32,97,52,32,97,53,32,109,100,32,118,97,32,112,115,108,32,114,110,32,114,120,32,108,105,116,32,122,101,114,111,32,118,101,99,32,112,48,32,112,49,32,115,116,97,114,116,32,115,99,98,98,32,107,115,112,32,117,115,112,32,100,105,115,112,32,111,115,105,122,101,32,105,108,101,110,32,108,101,118,101,108,32,118,99,32,97,99,32,97,108,32,107,108,32,99,110,116,32,110,112]⟩ (by decide+kernel) (by decide+kernel)
  have q_d:eqT f ⟨#[100]⟩=true:=zdt h_d
  refine ⟨v,st',za7 f st ?_,x,by rw [e];exact o⟩
  simp only [zbA,n_alu,n_a,n_b,q_d,zct,zcf]
  exact c
 have n_d:eqT f ⟨#[100]⟩=false:=zdf h_d
 by_cases h_size:bl f=[115,105,122,101]
 ·have e:namesT (bl f)=pieces 32 zrV:=by rw [h_size];rfl
  obtain ⟨v,st',c,x,o⟩:=R ⟨#[98,121,116,101,32,119,111,114,100,32,108,111,110,103,32,111,119,110]⟩ (by decide+kernel) (by decide+kernel)
  have q_size:eqT f ⟨#[115,105,122,101]⟩=true:=zdt h_size
  refine ⟨v,st',za7 f st ?_,x,by rw [e];exact o⟩
  simp only [zbA,n_alu,n_a,n_b,n_d,q_size,zct,zcf]
  exact c
 have n_size:eqT f ⟨#[115,105,122,101]⟩=false:=zdf h_size
 by_cases h_cc:bl f=[99,99]
 ·have e:namesT (bl f)=pieces 32 c_cc:=by rw [h_cc];rfl
  obtain ⟨v,st',c,x,o⟩:=R ⟨#[107,101,101,112,32,115,101,116,32,115,101,116,107]⟩ (by decide+kernel) (by decide+kernel)
  have q_cc:eqT f ⟨#[99,99]⟩=true:=zdt h_cc
  refine ⟨v,st',za7 f st ?_,x,by rw [e];exact o⟩
  simp only [zbA,n_alu,n_a,n_b,n_d,n_size,q_cc,zct,zcf]
  exact c
 have n_cc:eqT f ⟨#[99,99]⟩=false:=zdf h_cc
 by_cases h_mem:bl f=[109,101,109]
 ·have e:namesT (bl f)=pieces 32 c_mem:=by rw [h_mem];rfl
  obtain ⟨v,st',c,x,o⟩:=R ⟨#[110,111,110,101,32,114,100,32,119,114,32,112,114,111,98,101,32,98,108,100,32,98,115,116,32,98,112,117,116,32,98,103,101,116,32,98,99,108,114,32,105,102,32,114,100,112,32,107,115,116,32,114,111,119,32,117,110,114,111,119,32,114,111,119,97,32,102,108,117,115,104]⟩ (by decide+kernel) (by decide+kernel)
  have q_mem:eqT f ⟨#[109,101,109]⟩=true:=zdt h_mem
  refine ⟨v,st',za7 f st ?_,x,by rw [e];exact o⟩
  simp only [zbA,n_alu,n_a,n_b,n_d,n_size,n_cc,q_mem,zct,zcf]
  exact c
 have n_mem:eqT f ⟨#[109,101,109]⟩=false:=zdf h_mem
 by_cases h_seq:bl f=[115,101,113]
 ·have e:namesT (bl f)=pieces 32 c_seq:=by rw [h_seq];rfl
  obtain ⟨v,st',c,x,o⟩:=R ⟨#[110,101,120,116,32,106,109,112,32,99,106,32,99,97,108,108,32,114,101,116,32,115,112,101,99,32,109,111,100,101,32,101,110,100]⟩ (by decide+kernel) (by decide+kernel)
  have q_seq:eqT f ⟨#[115,101,113]⟩=true:=zdt h_seq
  refine ⟨v,st',za7 f st ?_,x,by rw [e];exact o⟩
  simp only [zbA,n_alu,n_a,n_b,n_d,n_size,n_cc,n_mem,q_seq,zct,zcf]
  exact c
 have zn0:eqT f ⟨#[115,101,113]⟩=false:=zdf h_seq
 by_cases h_cond:bl f=[99,111,110,100]
 ·have e:namesT (bl f)=pieces 32 zrW:=by rw [h_cond];rfl
  obtain ⟨v,st',c,x,o⟩:=R ⟨#[97,108,119,97,121,115,32,122,32,110,122,32,110,101,103,32,112,111,115,32,99,32,110,99,32,117,115,101,114,32,107,101,114,110,101,108,32,102,112,100,32,110,111,102,112,100,32,116,97,107,101,110,32,109,97,116,99,104,32,107,49,32,107,50,32,107,51,32,108,97,115,116,114,101,103,32,102,32,114,101,97,100,115,32,105,110,100,101,120,32,100,105,118,32,108,101,115,115,97,108,117,32,97,108,117,49,32,115,116,114,105,110,103,32,110,111,105,110,100,101,120,32,110,111,114,101,97,100,115,32,111,118,101,114]⟩ (by decide+kernel) (by decide+kernel)
  have q_cond:eqT f ⟨#[99,111,110,100]⟩=true:=zdt h_cond
  refine ⟨v,st',za7 f st ?_,x,by rw [e];exact o⟩
  simp only [zbA,n_alu,n_a,n_b,n_d,n_size,n_cc,n_mem,zn0,q_cond,zct,zcf]
  exact c
 have n_cond:eqT f ⟨#[99,111,110,100]⟩=false:=zdf h_cond
 by_cases h_misc:bl f=[109,105,115,99]
 ·have e:namesT (bl f)=pieces 32 zrX:=by rw [h_misc];rfl
  obtain ⟨v,st',c,x,o⟩:=R ⟨#[110,111,110,101,32,115,116,101,112,32,117,110,100,111,32,115,101,116,102,112,100,32,99,108,114,102,112,100,32,114,97,105,115,101,32,108,97,116,99,104,107,32,108,97,116,99,104,120,32,109,116,112,114,32,109,102,112,114,32,101,110,116,101,114,32,112,117,116,112,115,108,32,104,97,108,116,32,98,97,99,107,32,100,101,99,111,100,101,32,115,101,108,32,115,101,108,107,32,111,119,110,108,97,115,116,32,112,105,99,107,32,112,105,99,107,116,111,112,32,112,97,114,97,109,115,32,99,111,117,110,116]⟩ (by decide+kernel) (by decide+kernel)
  have q_misc:eqT f ⟨#[109,105,115,99]⟩=true:=zdt h_misc
  refine ⟨v,st',za7 f st ?_,x,by rw [e];exact o⟩
  simp only [zbA,n_alu,n_a,n_b,n_d,n_size,n_cc,n_mem,zn0,n_cond,q_misc,zct,zcf]
  exact c
 have n_misc:eqT f ⟨#[109,105,115,99]⟩=false:=zdf h_misc
 have e:namesT (bl f)=[]:=by simp only [namesT,if_neg h_alu,if_neg h_a,if_neg h_b,if_neg h_d,if_neg h_size,if_neg h_cc,if_neg h_mem,if_neg h_seq,if_neg h_cond,if_neg h_misc]
 refine ⟨.slice none 0 0,st,za7 f st ?_,.refl _,by rw [e];exact Own.nil _ _ _⟩
 simp only [zbA,n_alu,n_a,n_b,n_d,n_size,n_cc,n_mem,zn0,n_cond,n_misc,zct,zcf]
theorem zua [Sym] (l:List (List UInt8)) (hl:l.length≤1099511627776) (s:ByteArray) (v:Value) (st:SS) (hv:Rd st v (strs l) 1 l.length):∀ (r:List (List UInt8)) (i:Nat),l.drop i=r→i≤l.length→
  zbY 2 [.string s,v,.int .i64 l.length,.int .i64 i] st=some (match r.findIdx? (fun x=>decide (x=bl s)) with | none=>(0,[],st) | some k=>(1,[.int .i64 ((i+k:Nat):Int)],st)):=by
 intro r
 induction r with
 | nil=>
   intro i hd hi
   have hlen:=congrArg List.length hd
   rw [List.length_drop] at hlen
   have h:¬ (i:Int)<(l.length:Int):=by simp at hlen;omega
   refine zey _ _ _ _ st ?_
   simp only [zcH,zdf h,zcf,List.findIdx?_nil]
 | cons p r ih=>
   intro i hd hi
   have hlen:=congrArg List.length hd
   rw [List.length_drop,List.length_cons] at hlen
   have h:(i:Int)<(l.length:Int):=by omega
   have hgp:l[i]?=some p:=by
    have:=List.getElem?_drop (xs:=l) (i:=i) (j:=0)
    rw [hd] at this
    simpa using this.symm
   have hd':l.drop (i+1)=r:=by rw [← List.drop_drop,hd];rfl
   obtain ⟨q,b1,_,b3⟩:=hv.load (j:=(i:Int)) (by omega) h (strs_get _ i p hgp) rfl
   have b3':st.ld q.1 q.2=some (.string (mkS p)):=by simpa using b3 0 (by omega)
   refine zey _ _ _ _ st ?_
   have hw:IntKind.wrap .i64 ((i:Int)+1)=((i+1:Nat):Int):=by rw [wrap64 (by omega) (by omega)];omega
   by_cases hp:p=bl s
   ·have he:eqT (mkS p) s=true:=by rw [zeN,zbO];exact zdt hp
    simp only [zcH,zdt h,zct,b1,b3',zob,zab,he,List.findIdx?_cons,zdt hp,if_true]
    rfl
   ·have he:eqT (mkS p) s=false:=by rw [zeN,zbO];exact zdf hp
    have:=ih (i+1) hd' (by omega)
    simp only [zcH,zdt h,zct,b1,b3',zob,zab,he,zcf,hw,List.findIdx?_cons,zdf hp]
    rw [this]
    cases r.findIdx? (fun x=>decide (x=bl s)) with
    | none=>rfl
    | some k=>simp;omega
def inT (l:List (List UInt8)) (s:List UInt8):Int:=match l.findIdx? (fun x=>decide (x=s)) with | none=> -1 | some k=>(k:Int)
theorem in_ok [Sym] (l:List (List UInt8)) (hl:l.length≤1099511627776) (s:ByteArray) (v:Value) (st:SS) (hv:Rd st v (strs l) 1 l.length):∃ n,st.next≤n∧cc 47 [v,.string s] st=some (.int .i64 (inT l (bl s)),st.adv n):=by
 have h:=zua l hl s v (st.ro st.next) hv l 0 rfl (Nat.zero_le _)
 have h':zbY 2 [.string s,v,.int .i64 l.length,.int .i64 0] (st.ro st.next)=_:=h
 refine ⟨st.next,zlr _,zja v s st ?_⟩
 simp only [zgX,hv.len,zob,zaa]
 rw [h',zob]
 unfold inT
 cases l.findIdx? (fun x=>decide (x=bl s)) with
 | none=>rfl
 | some k=>simp
end Go.Proofs.YtifploedaacedaaGreatDoorE
namespace Go.Proofs.YtifploedaacedaaGreatDoorE
open Go Go.E Go.Proofs
abbrev Wd:=List Int
def wRow (w:Wd):List Value:=w.map (.int .i64)
def wV (w:Wd):Value:=.agg (wRow w).toArray
theorem zeO (w:Wd) (i:Nat):(wRow w)[i]?=(w[i]?).map (.int .i64):=by unfold wRow;rw [List.getElem?_map]
theorem zaW (w:Wd):(wRow w).length=w.length:=by simp [wRow]
theorem zfE (w:Wd):(wRow w).all one=true:=by simp [wRow,one]
def zfj (p:Int×Int):List Value:=[.int .i64 p.1,.int .i64 p.2]
def zcT (s tw a:Int):List (Int×Int):=
 if s=0 then [(a+1,1)] else if s=1 then [(tw,1)] else if s=2∨s=3 then [(a+1,1),(tw,1)] else if s=5 then [(tw,64)] else if s=6 then [(tw,16)] else []
theorem zs3 [Sym] (w:Wd) (a s tw:Int) (h8:w[8]?=some s) (h10:w[10]?=some tw) (h0:0≤a) (h1:a≤1099511627776) (st:SS) (hll:st.lim≤st.next):
  ∃ v st',cc 62 [wV w,.int .i64 a] st=some (v,st')∧Ext st st'∧Own st.next st' v (rowsF zfj (zcT s tw a)) 2 (zcT s tw a).length:=by
 have hw:IntKind.wrap .i64 (a+1)=a+1:=wrap64 (by omega) (by omega)
 have x1:Ext st (st.new (.cells (wRow w) 0)):=(Ext.refl st).new _
 have hm:(st.new (.cells (wRow w) 0)).mem.get st.next=some (.cells (wRow w) 0):=SS.new_get
 have l8:(st.new (.cells (wRow w) 0)).ld st.next 8=some (.int .i64 s):=by rw [SS.ld_cells hm,zeO,h8];rfl
 have l10:(st.new (.cells (wRow w) 0)).ld st.next 10=some (.int .i64 tw):=by rw [SS.ld_cells hm,zeO,h10];rfl
 have hc:(wV w).cells.toList=wRow w:=zaF _
 have mk:∀ (l:List (Int×Int)),l≠[]→∃ v st',some (Value.slice (some ⟨(st.new (.cells (wRow w) 0)).next,0,none⟩) l.length l.length,(st.new (.cells (wRow w) 0)).new (.cells (rowsF zfj l) 2))=some (v,st')∧Ext st st'∧Own st.next st' v (rowsF zfj l) 2 l.length:=fun l hl=>by
  have hne:l.length≠0:=fun e=>hl (List.length_eq_zero_iff.1 e)
  exact ⟨_,_,rfl,x1.new _,⟨zhh (f:=zfj) (z:=2) (fun _=>rfl) l,.inr ⟨_,rfl,by omega,SS.new_get,by simp,by simp⟩⟩⟩
 have nil:∃ v st',some (Value.slice none 0 0,(st.new (.cells (wRow w) 0)))=some (v,st')∧Ext st st'∧Own st.next st' v (rowsF zfj []) 2 0:=⟨_,_,rfl,x1,Own.nil _ _ _⟩
 unfold zcT
 by_cases s0:s=0
 ·rw [if_pos s0]
  obtain ⟨v,st',c,r⟩:=mk [(a+1,1)] (by simp)
  refine ⟨v,st',zcj _ _ st ?_,r⟩
  simp only [zcS,hc,l8,l10,zob,zaa,zdt s0,zct,hw]
  exact c
 rw [if_neg s0]
 by_cases s1:s=1
 ·rw [if_pos s1]
  obtain ⟨v,st',c,r⟩:=mk [(tw,1)] (by simp)
  refine ⟨v,st',zcj _ _ st ?_,r⟩
  simp only [zcS,hc,l8,l10,zob,zaa,zdf s0,zdt s1,zct,zcf,hw]
  exact c
 rw [if_neg s1]
 by_cases s2:s=2
 ·rw [if_pos (.inl s2)]
  obtain ⟨v,st',c,r⟩:=mk [(a+1,1),(tw,1)] (by simp)
  refine ⟨v,st',zcj _ _ st ?_,r⟩
  simp only [zcS,hc,l8,l10,zob,zaa,zdf s0,zdf s1,zdt s2,zct,zcf,hw]
  exact c
 by_cases s3:s=3
 ·rw [if_pos (.inr s3)]
  obtain ⟨v,st',c,r⟩:=mk [(a+1,1),(tw,1)] (by simp)
  refine ⟨v,st',zcj _ _ st ?_,r⟩
  simp only [zcS,hc,l8,l10,zob,zaa,zdf s0,zdf s1,zdf s2,zdt s3,zct,zcf,hw]
  exact c
 rw [if_neg (fun h=>h.elim s2 s3)]
 by_cases s5:s=5
 ·rw [if_pos s5]
  obtain ⟨v,st',c,r⟩:=mk [(tw,64)] (by simp)
  refine ⟨v,st',zcj _ _ st ?_,r⟩
  simp only [zcS,hc,l8,l10,zob,zaa,zdf s0,zdf s1,zdf s2,zdf s3,zdt s5,zct,zcf,hw]
  exact c
 rw [if_neg s5]
 by_cases s6:s=6
 ·rw [if_pos s6]
  obtain ⟨v,st',c,r⟩:=mk [(tw,16)] (by simp)
  refine ⟨v,st',zcj _ _ st ?_,r⟩
  simp only [zcS,hc,l8,l10,zob,zaa,zdf s0,zdf s1,zdf s2,zdf s3,zdf s5,zdt s6,zct,zcf,hw]
  exact c
 rw [if_neg s6]
 obtain ⟨v,st',c,r⟩:=nil
 refine ⟨v,st',zcj _ _ st ?_,r⟩
 simp only [zcS,hc,l8,l10,zob,zaa,zdf s0,zdf s1,zdf s2,zdf s3,zdf s5,zdf s6,zct,zcf,hw]
 exact c
end Go.Proofs.YtifploedaacedaaGreatDoorE
namespace Go.Proofs.YtifploedaacedaaGreatDoorE
set_option maxRecDepth 20000
open Go Go.E Go.Proofs
noncomputable def ziV (cf:zan) (lf:zac) (name':ByteArray) (st:SS):Option (Value×SS):=
 (cf 115 [.string name'] (st.ro st.next)).bind fun a=>
 ((some a.1).bind (asI .i64)).bind fun b=>
 cond (decide (0≤b)) (
 (zbr (ptr 0 0) 12 b 2).bind fun c=>
 ((a.2.ld c.1 (c.2+1)).bind (asI .i64)).bind fun d=>
 some (.int .i64 d,st.adv a.2.next)) (
 some (.int .i64 0,st.adv a.2.next))
noncomputable abbrev znP:zac:=lS Tryz.prog Lk0 Tryz.f98 zaC
theorem znQ:Lk0.func 98=some (98,Tryz.f98):=by kernel_rfl
theorem znR [Sym] (name':ByteArray) (st:SS) {r:Value×SS} (h:ziV cc znP name' st=some r):cc 98 [.string name'] st=some r:=
 zaf (li:=zaC) zai zar znQ rfl (fun _=>rfl) (.trans (by kernel_rfl) h)
noncomputable def zkG (cf:zan) (lf:zac) (name':ByteArray) (st:SS):Option (Value×SS):=
 let a:SS:=(st.ro st.next).new (.cells [.string name'] 0)
 (zlC 0 0 12 2 0 12).bind fun b=>
 (cf 134 [b,.func (.func 135) #[] #[ptr ((st.ro st.next).next) 0]] a).bind fun c=>
 ((some c.1).bind (asI .i64)).bind fun d=>
 some (.int .i64 d,st.adv c.2.next)
noncomputable abbrev zmP:zac:=lS Tryz.prog Lk0 Tryz.f115 zaC
theorem zmQ:Lk0.func 115=some (115,Tryz.f115):=by kernel_rfl
theorem zmR [Sym] (name':ByteArray) (st:SS) {r:Value×SS} (h:zkG cc zmP name' st=some r):cc 115 [.string name'] st=some r:=
 zaf (li:=zaC) zai zar zmQ rfl (fun _=>rfl) (.trans (by kernel_rfl) h)
def zjM:LoopI:=⟨[(0,.any),(1,.any),(7,.int .i64),(8,.int .i64)],[(.exit 0,[]),(.ret,[(4,.int .i64)])]⟩
def zkH (n:Nat):Option LoopI:=cond (Nat.beq n 2) (some zjM) (none)
noncomputable def zk4 (cf:zan) (lf:zac) (s':Value) (q':Nat) (st:SS):Option (Value×SS):=
 ((lenV s').bind (asI .i64)).bind fun a=>
 (lf 2 [s',.func (.func 135) #[] #[ptr q' 0],.int .i64 a,.int .i64 0] (st.ro st.next)).bind fun b=>
 cond (Nat.beq b.1 0) (
 some (.int .i64 (-1),st.adv b.2.2.next)) (
 ((b.2.1[0]?).bind (asI .i64)).bind fun c=>
 some (.int .i64 c,st.adv b.2.2.next))
noncomputable abbrev zdI:zac:=lS Tryz.prog Lk0 Tryz.f134 zkH
theorem zpr:Lk0.func 134=some (134,Tryz.f134):=by kernel_rfl
theorem zkI [Sym] (s':Value) (q':Nat) (st:SS) {r:Value×SS} (h:zk4 cc zdI s' q' st=some r):cc 134 [s',.func (.func 135) #[] #[ptr q' 0]] st=some r:=
 zaf (li:=zkH) zai zar zpr rfl (fun _=>rfl) (.trans (by kernel_rfl) h)
noncomputable def zhy (cf:zan) (lf:zac) (s':Value) (q':Nat) (t7':Int) (t8':Int) (st:SS):Option (Nat×List Value×SS):=
 cond (decide (t8'<t7')) (
 (zaw s' t8' 2).bind fun a=>
 (st.ldN a.1 a.2 2).bind fun b=>
 (cf 135 [b,ptr q' 0] st).bind fun c=>
 ((some c.1).bind asB).bind fun d=>
 cond d (
 some (1,[.int .i64 t8'],c.2)) (
 let e:Int:=IntKind.wrap .i64 (t8'+1)
 lf 2 [s',.func (.func 135) #[] #[ptr q' 0],.int .i64 t7',.int .i64 e] c.2)) (
 some (0,[],st))
theorem zfF [Sym] (s':Value) (q':Nat) (t7':Int) (t8':Int) (st:SS) {r:Nat×List Value×SS} (h:zhy cc zdI s' q' t7' t8' st=some r):zdI 2 [s',.func (.func 135) #[] #[ptr q' 0],.int .i64 t7',.int .i64 t8'] st=some r:=
 zaA zai zar (key:=2) (I:=zjM) rfl (by kernel_rfl) (by kernel_rfl) rfl rfl (.trans (by kernel_rfl) h)
noncomputable def zpP (cf:zan) (lf:zac) (f':Value) (x1':Value) (st:SS):Option (Value×SS):=
 let a:SS:=(st.ro st.next).new (.cells (f':Value).cells.toList 0)
 ((a.ld ((st.ro st.next).next) 0).bind asS).bind fun b=>
 (addr? x1').bind fun c=>
 ((a.ld c.1 c.2).bind asS).bind fun d=>
 some (.bool (eqT b d),st.adv a.next)
noncomputable abbrev zqB:zac:=lS Tryz.prog Lk0 Tryz.f135 zaC
theorem zqC:Lk0.func 135=some (135,Tryz.f135):=by kernel_rfl
theorem zqD [Sym] (f':Value) (x1':Value) (st:SS) {r:Value×SS} (h:zpP cc zqB f' x1' st=some r):cc 135 [f',x1'] st=some r:=
 zaf (li:=zaC) zai zar zqC rfl (fun _=>rfl) (.trans (by kernel_rfl) h)
noncomputable def zhj (cf:zan) (lf:zac) (w':Value) (name':ByteArray) (x':Int) (st:SS):Option (Value×SS):=
 let a:SS:=(st.ro st.next).new (.cells (w':Value).cells.toList 0)
 let b:SS:=a.new (.cells [.int .i64 0,.int .i64 0,.int .i64 0,.int .i64 0,.int .i64 0,.int .i64 0,.int .i64 0,.int .i64 0,.int .i64 0,.int .i64 0,.int .i64 0,.int .i64 0] 0)
 (cf 115 [.string name'] b).bind fun c=>
 ((some c.1).bind (asI .i64)).bind fun d=>
 cond (decide (d<0)) (
 (c.2.ldN ((st.ro st.next).next) 0 12).bind fun e=>
 (c.2.stV a.next 0 12 e).bind fun f=>
 (f.rdN a.next 0 12).bind fun g=>
 cond (flat3 (.tuple #[g,.int .i64 5])) (some (.tuple #[g,.int .i64 5],st.adv f.next)) none) (
 (zbr (ptr 0 0) 12 d 2).bind fun h=>
 ((c.2.ld h.1 (h.2+1)).bind (asI .i64)).bind fun i=>
 (cf 118 [.int .i64 x',.int .i64 i] c.2).bind fun j=>
 ((some j.1).bind asB).bind fun k=>
 cond (!k) (
 (j.2.ldN ((st.ro st.next).next) 0 12).bind fun l=>
 (j.2.stV a.next 0 12 l).bind fun m=>
 (m.rdN a.next 0 12).bind fun n=>
 cond (flat3 (.tuple #[n,.int .i64 1])) (some (.tuple #[n,.int .i64 1],st.adv m.next)) none) (
 (cf 53 [ptr ((st.ro st.next).next) 0] j.2).bind fun o=>
 (zaw o.1 d 1).bind fun p=>
 (o.2.ld p.1 p.2).bind fun q=>
 (zau q).bind fun r=>
 (addr? r).bind fun s=>
 (o.2.st s.1 s.2 [.int .i64 x']).bind fun t=>
 (t.ldN ((st.ro st.next).next) 0 12).bind fun u=>
 (t.stV a.next 0 12 u).bind fun v=>
 (v.rdN a.next 0 12).bind fun w=>
 cond (flat3 (.tuple #[w,.int .i64 0])) (some (.tuple #[w,.int .i64 0],st.adv v.next)) none))
noncomputable abbrev zoJ:zac:=lS Tryz.prog Lk0 Tryz.f100 zaC
theorem zoK:Lk0.func 100=some (100,Tryz.f100):=by kernel_rfl
theorem zgY [Sym] (w':Value) (name':ByteArray) (x':Int) (st:SS) {r:Value×SS} (h:zhj cc zoJ w' name' x' st=some r):cc 100 [w',.string name',.int .i64 x'] st=some r:=
 zaf (li:=zaC) zai zar zoK rfl (fun _=>rfl) (.trans (by kernel_rfl) h)
noncomputable def ziW (cf:zan) (lf:zac) (x':Int) (bits':Int) (st:SS):Option (Value×SS):=
 cond (decide (0≤x')) (
 ((aI .shr .i64 x' bits').bind (asI .i64)).bind fun a=>
 some (.bool (decide (a=0)),st.adv (st.ro st.next).next)) (
 some (.bool false,st.adv (st.ro st.next).next))
noncomputable abbrev znS:zac:=lS Tryz.prog Lk0 Tryz.f118 zaC
theorem znT:Lk0.func 118=some (118,Tryz.f118):=by kernel_rfl
theorem znU [Sym] (x':Int) (bits':Int) (st:SS) {r:Value×SS} (h:ziW cc znS x' bits' st=some r):cc 118 [.int .i64 x',.int .i64 bits'] st=some r:=
 zaf (li:=zaC) zai zar znT rfl (fun _=>rfl) (.trans (by kernel_rfl) h)
def zh7:LoopI:=⟨[(5,.any),(6,.int .i64),(7,.int .i64)],[(.exit 0,[]),(.ret,[(2,.bool)])]⟩
def zi3 (n:Nat):Option LoopI:=cond (Nat.beq n 2) (some zh7) (none)
noncomputable def ziX (cf:zan) (lf:zac) (w':Value) (st:SS):Option (Value×SS):=
 let a:SS:=(st.ro st.next).new (.cells (w':Value).cells.toList 0)
 (cf 53 [ptr ((st.ro st.next).next) 0] a).bind fun b=>
 ((lenV b.1).bind (asI .i64)).bind fun c=>
 (lf 2 [b.1,.int .i64 c,.int .i64 0] b.2).bind fun d=>
 cond (Nat.beq d.1 0) (
 some (.bool true,st.adv d.2.2.next)) (
 ((d.2.1[0]?).bind asB).bind fun e=>
 some (.bool e,st.adv d.2.2.next))
noncomputable abbrev zdA:zac:=lS Tryz.prog Lk0 Tryz.f101 zi3
theorem znV:Lk0.func 101=some (101,Tryz.f101):=by kernel_rfl
theorem znW [Sym] (w':Value) (st:SS) {r:Value×SS} (h:ziX cc zdA w' st=some r):cc 101 [w'] st=some r:=
 zaf (li:=zi3) zai zar znV rfl (fun _=>rfl) (.trans (by kernel_rfl) h)
noncomputable def zf4 (cf:zan) (lf:zac) (t5':Value) (t6':Int) (t7':Int) (st:SS):Option (Nat×List Value×SS):=
 cond (decide (t7'<t6')) (
 (zaw t5' t7' 1).bind fun a=>
 (st.ld a.1 a.2).bind fun b=>
 (zau b).bind fun c=>
 (addr? c).bind fun d=>
 ((st.ld d.1 d.2).bind (asI .i64)).bind fun e=>
 (zbr (ptr 0 0) 12 t7' 2).bind fun f=>
 ((st.ld f.1 (f.2+1)).bind (asI .i64)).bind fun g=>
 (cf 118 [.int .i64 e,.int .i64 g] st).bind fun h=>
 ((some h.1).bind asB).bind fun i=>
 cond (!i) (
 some (1,[.bool false],h.2)) (
 let j:Int:=IntKind.wrap .i64 (t7'+1)
 lf 2 [t5',.int .i64 t6',.int .i64 j] h.2)) (
 some (0,[],st))
theorem zeP [Sym] (t5':Value) (t6':Int) (t7':Int) (st:SS) {r:Nat×List Value×SS} (h:zf4 cc zdA t5' t6' t7' st=some r):zdA 2 [t5',.int .i64 t6',.int .i64 t7'] st=some r:=
 zaA zai zar (key:=2) (I:=zh7) rfl (by kernel_rfl) (by kernel_rfl) rfl rfl (.trans (by kernel_rfl) h)
def zh8:LoopI:=⟨[(4,.int .u64),(5,.int .i64),(11,.any),(12,.int .i64),(13,.int .i64)],[(.exit 0,[(4,.int .u64)])]⟩
def zi4 (n:Nat):Option LoopI:=cond (Nat.beq n 5) (some zh8) (none)
noncomputable def ziY (cf:zan) (lf:zac) (w':Value) (st:SS):Option (Value×SS):=
 let a:SS:=(st.ro st.next).new (.cells (w':Value).cells.toList 0)
 (a.ldN ((st.ro st.next).next) 0 12).bind fun b=>
 (cf 101 [b] a).bind fun c=>
 ((some c.1).bind asB).bind fun d=>
 cond (!d) (
 some (.tuple #[.int .u64 0,.int .i64 1],st.adv c.2.next)) (
 (cf 53 [ptr ((st.ro st.next).next) 0] c.2).bind fun e=>
 ((lenV e.1).bind (asI .i64)).bind fun f=>
 (lf 5 [.int .u64 0,.int .i64 0,e.1,.int .i64 f,.int .i64 0] e.2).bind fun g=>
 ((g.2.1[0]?).bind (asI .u64)).bind fun h=>
 some (.tuple #[.int .u64 h,.int .i64 0],st.adv g.2.2.next))
noncomputable abbrev zdB:zac:=lS Tryz.prog Lk0 Tryz.f73 zi4
theorem znX:Lk0.func 73=some (73,Tryz.f73):=by kernel_rfl
theorem zi5 [Sym] (w':Value) (st:SS) {r:Value×SS} (h:ziY cc zdB w' st=some r):cc 73 [w'] st=some r:=
 zaf (li:=zi4) zai zar znX rfl (fun _=>rfl) (.trans (by kernel_rfl) h)
noncomputable def zi6 (cf:zan) (lf:zac) (x':Int) (at0':Int) (t11':Value) (t12':Int) (t13':Int) (st:SS):Option (Nat×List Value×SS):=
 cond (decide (t13'<t12')) (
 (zaw t11' t13' 1).bind fun a=>
 (st.ld a.1 a.2).bind fun b=>
 (zau b).bind fun c=>
 (addr? c).bind fun d=>
 ((st.ld d.1 d.2).bind (asI .i64)).bind fun e=>
 let f:Int:=IntKind.wrap .u64 e
 ((aI .shl .u64 f at0').bind (asI .u64)).bind fun g=>
 let h:Int:=orI .u64 x' g
 (zbr (ptr 0 0) 12 t13' 2).bind fun i=>
 ((st.ld i.1 (i.2+1)).bind (asI .i64)).bind fun j=>
 let k:Int:=IntKind.wrap .i64 (at0'+j)
 let l:Int:=IntKind.wrap .i64 (t13'+1)
 lf 5 [.int .u64 h,.int .i64 k,t11',.int .i64 t12',.int .i64 l] st) (
 some (0,[.int .u64 x'],st))
theorem zgZ [Sym] (x':Int) (at0':Int) (t11':Value) (t12':Int) (t13':Int) (st:SS) {r:Nat×List Value×SS} (h:zi6 cc zdB x' at0' t11' t12' t13' st=some r):zdB 5 [.int .u64 x',.int .i64 at0',t11',.int .i64 t12',.int .i64 t13'] st=some r:=
 zaA zai zar (key:=5) (I:=zh8) rfl (by kernel_rfl) (by kernel_rfl) rfl rfl (.trans (by kernel_rfl) h)
noncomputable def zjN (cf:zan) (lf:zac) (w':Value) (st:SS):Option (Value×SS):=
 (zau w').bind fun a=>
 (addr? a).bind fun b=>
 (zau w').bind fun c=>
 (addr? c).bind fun d=>
 (zau w').bind fun e=>
 (addr? e).bind fun f=>
 (zau w').bind fun g=>
 (addr? g).bind fun h=>
 (zau w').bind fun i=>
 (addr? i).bind fun j=>
 (zau w').bind fun k=>
 (addr? k).bind fun l=>
 (zau w').bind fun m=>
 (addr? m).bind fun n=>
 (zau w').bind fun o=>
 (addr? o).bind fun p=>
 (zau w').bind fun q=>
 (addr? q).bind fun r=>
 (zau w').bind fun s=>
 (addr? s).bind fun t=>
 (zau w').bind fun u=>
 (addr? u).bind fun v=>
 (zau w').bind fun w=>
 (addr? w).bind fun x=>
 let y:SS:=st.new (.cells ([ptr b.1 b.2,ptr d.1 (d.2+1),ptr f.1 (f.2+2),ptr h.1 (h.2+3),ptr j.1 (j.2+4),ptr l.1 (l.2+5),ptr n.1 (n.2+6),ptr p.1 (p.2+7),ptr r.1 (r.2+8),ptr t.1 (t.2+9),ptr v.1 (v.2+10),ptr x.1 (x.2+11)]) 1)
 some (.slice (some ⟨st.next,0,none⟩) 12 12,y)
noncomputable abbrev zl0:zac:=lS Tryz.prog Lk0 Tryz.f53 zaC
theorem zl1:Lk0.func 53=some (53,Tryz.f53):=by kernel_rfl
theorem zl2 [Sym] (w':Value) (st:SS) {r:Value×SS} (h:zjN cc zl0 w' st=some r):cc 53 [w'] st=some r:=
 zaf (li:=zaC) zai zar zl1 rfl (fun _=>rfl) (.trans (by kernel_rfl) h)
end Go.Proofs.YtifploedaacedaaGreatDoorE
namespace Go.Proofs.YtifploedaacedaaGreatDoorE
open Go Go.E Go.Proofs
def zez (x:List UInt8×Nat):List Value:=[.string (mkS x.1),.int .i64 x.2]
theorem zjO:fieldsC=rowsF zez zbx:=rfl
def zhk (f:List UInt8) (x:List UInt8×Nat):Bool:=decide (x.1=f)
def zeG (f:List UInt8):Option Nat:=zbx.findIdx? (zhk f)
def ixI:Option Nat→Int
 | none=> -1
 | some k=>(k:Int)
theorem zue {i:Nat} {x:List UInt8×Nat} (h:zbx[i]?=some x):cut fieldsC (0+i*2) 2=some (zez x):=by
 rw [Nat.zero_add,zjO]
 exact zor (zbt (f:=zez) (z:=2) (fun _=>rfl) zbx i x h) rfl
theorem zs4 {i:Nat} {x:List UInt8×Nat} (h:zbx[i]?=some x):fieldsC[0+i*2+1]?=some (.int .i64 x.2):=by
 have:=zbt (f:=zez) (z:=2) (fun _=>rfl) zbx i x h
 rw [← zjO] at this
 have h1:=congrArg (·[1]?) this
 simp only [List.getElem?_take_of_lt (show 1<2 by omega),List.getElem?_drop] at h1
 rw [Nat.zero_add]
 exact h1
theorem zqE [Sym] (x:List UInt8×Nat) (f:List UInt8) (q:Nat) (st:SS) (hq:st.mem.get q=some (.cells [.string (mkS f)] 0)) (hlt:q<st.next):∃ n,st.next≤n∧cc 135 [.agg (zez x).toArray,ptr q 0] st=some (.bool (zhk f x),st.adv n):=by
 refine ⟨st.next+1,by omega,zqD _ _ st ?_⟩
 have l0:((st.ro st.next).new (.cells (zez x) 0)).ld st.next 0=some (.string (mkS x.1)):=by
  have hm:((st.ro st.next).new (.cells (zez x) 0)).mem.get st.next=some (.cells (zez x) 0):=SS.new_get (st:=st.ro st.next)
  rw [SS.ld_cells hm];rfl
 have l1:((st.ro st.next).new (.cells (zez x) 0)).ld q 0=some (.string (mkS f)):=by
  rw [SS.ld_cells (c:=[.string (mkS f)]) (z:=0) (by rw [SS.new_old (by simp;omega)];exact hq)];rfl
 have he:eqT (mkS x.1) (mkS f)=zhk f x:=by rw [zeN,zbO,zbO];rfl
 simp only [zpP,zaF,SS.ro_next,l0,zob,zab,zad,l1,he]
 rfl
theorem zs5 [Sym] (f:List UInt8) (q:Nat) (st0:SS) (hg:Gd st0) (hq:st0.mem.get q=some (.cells [.string (mkS f)] 0)) (hlt:q<st0.next):
  ∀ (k j:Nat) (st:SS),12=k+j→Ext st0 st→∃ e vs st',zdI 2 [.slice (some ⟨0,0,none⟩) 12 12,.func (.func 135) #[] #[ptr q 0],.int .i64 12,.int .i64 j] st=some (e,vs,st')∧Ext st0 st'∧
   ((e=0∧vs=[]∧(zbx.drop j).findIdx? (zhk f)=none)∨(∃ m:Nat,e=1∧(zbx.drop j).findIdx? (zhk f)=some m∧vs=[.int .i64 ((j+m:Nat):Int)])):=by
 intro k
 induction k with
 | zero=>
   intro j st hk he
   have:j=12:=by omega
   subst this
   exact ⟨0,[],st,zfF _ q _ _ st rfl,he,.inl ⟨rfl,rfl,rfl⟩⟩
 | succ k ih=>
   intro j st hk he
   obtain ⟨x,hx⟩:∃ x,zbx[j]?=some x:=⟨_,zge (by show j<12;omega)⟩
   have hjl:(j:Int)<12:=by omega
   have hel:zaw (.slice (some ⟨0,0,none⟩) 12 12) (j:Int) 2=some (0,0+j*2):=by
    unfold zaw
    have h1:(0:Int)≤(j:Int):=by omega
    have h2:(j:Int)<((12:Nat):Int):=by omega
    simp only [zdt h1,zdt h2,Bool.and_self,zct,Int.toNat_natCast]
   have hld:st.ldN 0 (0+j*2) 2=some (.agg (zez x).toArray):=by rw [SS.ldN_table (hg.ext he).gF,zue hx];rfl
   obtain ⟨n,hn,c1⟩:=zqE x f q st (he.get hlt hq) (zll hlt he.next)
   have hd:=drop_cons hx
   have hw:=zba (i:=j) (by omega)
   by_cases hf:zhk f x=true
   ·refine ⟨1,[.int .i64 j],st.adv n,zfF _ q _ _ st ?_,he.adv (by have:=he.next;omega),.inr ⟨0,rfl,?_,rfl⟩⟩
    ·rw [hf] at c1
     simp only [zhy,zdt hjl,zct,hel,zob,hld,c1,zal]
    ·rw [hd,List.findIdx?_cons,hf];rfl
   ·have hf':zhk f x=false:=by simpa using hf
    obtain ⟨e,vs,st',d1,d2,d3⟩:=ih (j+1) (st.adv n) (by omega) (he.adv (by have:=he.next;omega))
    rw [hf'] at c1
    refine ⟨e,vs,st',zfF _ q _ _ st ?_,d2,?_⟩
    ·simp only [zhy,zdt hjl,zct,hel,zob,hld,c1,zal,zcf,hw]
     exact d1
    ·rw [hd,List.findIdx?_cons,hf']
     rcases d3 with ⟨e1,e2,e3⟩ | ⟨m,e1,e2,e3⟩
     ·exact .inl ⟨e1,e2,by rw [e3];rfl⟩
     ·exact .inr ⟨m+1,e1,by rw [e2];rfl,by rw [e3,show j+1+m=j+(m+1) by omega]⟩
theorem zoL [Sym] (f:List UInt8) (st:SS) (hg:Gd st):∃ n,st.next≤n∧cc 115 [.string (mkS f)] st=some (.int .i64 (ixI (zeG f)),st.adv n):=by
 have g1:Gd ((st.ro st.next).new (.cells [.string (mkS f)] 0)):=(hg.ro (n:=st.next)).ext ((Ext.refl _).new _)
 have hm:((st.ro st.next).new (.cells [.string (mkS f)] 0)).mem.get st.next=some (.cells [.string (mkS f)] 0):=SS.new_get (st:=st.ro st.next)
 have g2:=g1.ro (n:=((st.ro st.next).new (.cells [.string (mkS f)] 0)).next)
 obtain ⟨e,vs,st',d1,d2,d3⟩:=zs5 f st.next _ g2 hm (by simp) 12 0 _ (by omega) (.refl _)
 have d1':zdI 2 [.slice (some ⟨0,0,none⟩) 12 12,.func (.func 135) #[] #[ptr st.next 0],.int .i64 12,.int .i64 0] (((st.ro st.next).new (.cells [.string (mkS f)] 0)).ro ((st.ro st.next).new (.cells [.string (mkS f)] 0)).next)=_:=d1
 have hnx:=d2.next
 simp at hnx
 have hsl:zlC 0 0 12 2 0 12=some (.slice (some ⟨0,0,none⟩) 12 12):=rfl
 have hlen:(lenV (.slice (some ⟨0,0,none⟩) 12 12)).bind (asI .i64)=some 12:=rfl
 have c:∀ z,(∃ e vs,zdI 2 [.slice (some ⟨0,0,none⟩) 12 12,.func (.func 135) #[] #[ptr st.next 0],.int .i64 12,.int .i64 0] (((st.ro st.next).new (.cells [.string (mkS f)] 0)).ro ((st.ro st.next).new (.cells [.string (mkS f)] 0)).next)=some (e,vs,st')∧((e=0∧z= -1)∨(e=1∧vs=[.int .i64 z])))→
   cc 134 [.slice (some ⟨0,0,none⟩) 12 12,.func (.func 135) #[] #[ptr st.next 0]] ((st.ro st.next).new (.cells [.string (mkS f)] 0))=some (.int .i64 z,((st.ro st.next).new (.cells [.string (mkS f)] 0)).adv st'.next):=by
  rintro z ⟨e,vs,h,⟨rfl,rfl⟩ | ⟨rfl,rfl⟩⟩
  ·refine zkI _ _ _ ?_
   have hb0:Nat.beq 0 0=true:=rfl
   simp only [zk4,hlen,zob,h,hb0,zct]
  ·refine zkI _ _ _ ?_
   have hb0:Nat.beq 1 0=false:=rfl
   simp only [zk4,hlen,zob,h,hb0,zcf,zgz,zaa]
 have c':=c (ixI (zeG f)) ⟨e,vs,d1',by
  rw [List.drop_zero] at d3
  rcases d3 with ⟨e1,e2,e3⟩ | ⟨m,e1,e2,e3⟩
  ·exact .inl ⟨e1,by unfold zeG;rw [e3];rfl⟩
  ·exact .inr ⟨e1,by unfold zeG;rw [e2,e3,Nat.zero_add];rfl⟩⟩
 refine ⟨st'.next,by omega,zmR _ st ?_⟩
 simp only [zkG,hsl,zob,SS.ro_next,c',zaa]
 rfl
theorem zk5 {f:List UInt8} {k:Nat} (h:zeG f=some k):∃ x,zbx[k]?=some x∧x.1=f∧k<12:=by
 unfold zeG at h
 obtain ⟨hlt,hp,_⟩:=List.findIdx?_eq_some_iff_getElem.1 h
 exact ⟨_,zge hlt,by simpa [zhk] using hp,hlt⟩
def zav (k:Nat):Nat:=((zbx[k]?).map (·.2)).getD 0
def zgu (f:List UInt8):Nat:=match zeG f with | none=>0 | some k=>zav k
theorem znZ {k:Nat} (h:k<12):zbr (ptr 0 0) 12 (k:Int) 2=some (0,0+k*2):=by
 have h1:(0:Int)≤(k:Int):=by omega
 have h2:(k:Int)<((12:Nat):Int):=by omega
 unfold ptr zbr
 simp only [zdt h1,zdt h2,Bool.and_self,zct,Int.toNat_natCast]
theorem zl3 {st:SS} (hg:Gd st) {k:Nat} (h:k<12):st.ld 0 (0+k*2+1)=some (.int .i64 (zav k)):=by
 obtain ⟨x,hx⟩:∃ x,zbx[k]?=some x:=⟨_,zge (by show k<12;omega)⟩
 rw [SS.ld_table hg.gF,zs4 hx]
 unfold zav
 rw [hx];rfl
theorem zuf [Sym] (f:List UInt8) (st:SS) (hg:Gd st):∃ n,st.next≤n∧cc 98 [.string (mkS f)] st=some (.int .i64 (zgu f),st.adv n):=by
 obtain ⟨n,hn,c⟩:=zoL f (st.ro st.next) hg.ro
 refine ⟨n,hn,znR _ st ?_⟩
 unfold zgu
 cases hk:zeG f with
 | none=>
   rw [hk] at c
   have h0:¬ (0:Int)≤ixI none:=by decide
   simp only [ziV,c,zob,zaa,zdf h0,zcf]
   rfl
 | some k=>
   rw [hk] at c
   obtain ⟨x,_,_,hlt⟩:=zk5 hk
   have h0:(0:Int)≤ixI (some k):=Int.natCast_nonneg k
   have e1:zbr (ptr 0 0) 12 (ixI (some k)) 2=some (0,0+k*2):=znZ hlt
   have e2:((st.ro st.next).adv n).ld 0 (0+k*2+1)=some (.int .i64 (zav k)):=zl3 (hg.ro.ext ((Ext.refl _).adv hn)) hlt
   simp only [ziV,c,zob,zaa,zdt h0,zct,e1,e2]
   rfl
end Go.Proofs.YtifploedaacedaaGreatDoorE
namespace Go.Proofs.YtifploedaacedaaGreatDoorE
open Go Go.E Go.Proofs
def plRow (b:Nat):List Value:=(List.range 12).map fun i=>ptr b i
theorem zno (b:Nat) {k:Nat} (h:k<12):(plRow b)[k]?=some (ptr b k):=by
 unfold plRow
 rw [List.getElem?_map,List.getElem?_range h];rfl
theorem zjP [Sym] (b:Nat) (st:SS):cc 53 [ptr b 0] st=some (.slice (some ⟨st.next,0,none⟩) 12 12,st.new (.cells (plRow b) 1)):=by
 refine zl2 _ st ?_
 have h1:zau (ptr b 0)=some (ptr b 0):=rfl
 simp only [zjN,h1,zob,zad]
 rfl
def fitsT (x:Int) (n:Nat):Bool:=decide (0≤x∧x<2^n)
theorem zpQ [Sym] (x:Int) (n:Nat) (hn:n≤62) (st:SS):cc 118 [.int .i64 x,.int .i64 n] st=some (.bool (fitsT x n),st.adv st.next):=by
 refine znU _ _ st ?_
 by_cases h:0≤x
 ·have hb:¬ ((n:Int)<0):=by omega
  have h1:(aI .shr .i64 x (n:Int)).bind (asI .i64)=some (x/2^n):=by
   have e:min ((n:Int)).toNat (IntKind.bits .i64)=n:=by
    show min ((n:Int)).toNat 64=n
    rw [Int.toNat_natCast];omega
   have e2:shrI .i64 x (n:Int)=x/2^n:=by
    unfold shrI
    rw [e]
    exact Int.fdiv_eq_ediv_of_nonneg x (Int.pow_nonneg (by omega))
   simp only [aI,zdf hb,zcf,zob,zaa,e2]
  have e3:decide (x/2^n=0)=fitsT x n:=by
   unfold fitsT
   have hp:(0:Int)<2^n:=Int.pow_pos (by omega)
   by_cases hx:x<2^n
   ·rw [zdt (Int.ediv_eq_zero_of_lt h hx),zdt ⟨h,hx⟩]
   ·rw [zdf (fun hc=>hx ?_),zdf (fun hc=>hx hc.2)]
    have:=Int.lt_ediv_add_one_mul_self x hp
    rw [hc] at this
    omega
  simp only [ziW,zdt h,zct,h1,zob,e3]
  rfl
 ·have e3:fitsT x n=false:=zdf (fun hc=>h hc.1)
  simp only [ziW,zdf h,zcf,e3]
  rfl
theorem zhl (k:Nat):zav k≤11:=by
 by_cases h:k<12
 ·have:∀ k,k<12→zav k≤11:=by decide+kernel
  exact this k h
 ·unfold zav
  rw [List.getElem?_eq_none (by show 12≤k;omega)]
  decide
def zbM (w:Wd) (f:List UInt8) (x:Int):Wd×Int:=match zeG f with
 | none=>(w,5)
 | some k=>if fitsT x (zav k)=true then (w.set k x,0) else (w,1)
theorem zc0 (w:Wd) (f:List UInt8) (x:Int):(zbM w f x).1.length=w.length:=by
 unfold zbM
 repeat' split
 all_goals simp
theorem zl4 (w:Wd) (z:Int):flat3 (.tuple #[wV w,.int .i64 z])=true:=by
 have:zat (wV w)=true:=by
  show ((wRow w).toArray.toList.all zaX)=true
  simp [wRow,zaX]
 show ([wV w,.int .i64 z].all zat)=true
 simp only [List.all_cons,this,Bool.true_and,List.all_nil,Bool.and_true]
 rfl
theorem zoM (w:Wd) (k:Nat) (x:Int):wRow (w.set k x)=(wRow w).set k (.int .i64 x):=by simp [wRow,List.map_set]
theorem zl5 {row:List Value} {k:Nat} (h:k<row.length) (v:Value):zcx row k [v]=some (row.set k v):=by
 rw [zbs (by simp;omega)]
 congr 1
 rw [List.set_eq_take_append_cons_drop,if_pos h]
 simp
abbrev Z12:List Value:=[.int .i64 0,.int .i64 0,.int .i64 0,.int .i64 0,.int .i64 0,.int .i64 0,.int .i64 0,.int .i64 0,.int .i64 0,.int .i64 0,.int .i64 0,.int .i64 0]
theorem set_ok [Sym] (w:Wd) (hw:w.length=12) (f:List UInt8) (x:Int) (st:SS) (hg:Gd st):∃ n,st.next≤n∧cc 100 [wV w,.string (mkS f),.int .i64 x] st=some (.tuple #[wV (zbM w f x).1,.int .i64 (zbM w f x).2],st.adv n):=by
 have hc:(wV w).cells.toList=wRow w:=zaF _
 have hl:(wRow w).length=12:=by rw [zaW,hw]
 have a0:At ((st.ro st.next).new (.cells (wRow w) 0)) st.next (wRow w):=At.new (st:=st.ro st.next) (zlr _) _
 have x1:Ext (st.ro st.next) ((st.ro st.next).new (.cells (wRow w) 0)):=(Ext.refl _).new _
 have a1:At (((st.ro st.next).new (.cells (wRow w) 0)).new (.cells Z12 0)) (st.next+1) Z12:=At.new (st:=(st.ro st.next).new (.cells (wRow w) 0)) (by simp) _
 have x2:Ext ((st.ro st.next).new (.cells (wRow w) 0)) (((st.ro st.next).new (.cells (wRow w) 0)).new (.cells Z12 0)):=(Ext.refl _).new _
 have g2:Gd (((st.ro st.next).new (.cells (wRow w) 0)).new (.cells Z12 0)):=(hg.ro (n:=st.next)).ext (x1.trans x2)
 have hn2:(((st.ro st.next).new (.cells (wRow w) 0)).new (.cells Z12 0)).next=st.next+2:=rfl
 obtain ⟨n3,hn3,c3⟩:=zoL f _ g2
 have x3:Ext (((st.ro st.next).new (.cells (wRow w) 0)).new (.cells Z12 0)) ((((st.ro st.next).new (.cells (wRow w) 0)).new (.cells Z12 0)).adv n3):=(Ext.refl _).adv hn3
 have a0':=(a0.ext x2).ext x3
 have a1':=a1.ext x3
 cases hk:zeG f with
 | none=>
   rw [hk] at c3
   have hs:zbM w f x=(w,5):=by unfold zbM;rw [hk]
   rw [hs]
   obtain ⟨s',f1,f2,f3,f4,_⟩:=zcm (n:=12) a1' rfl a0' hl (zfE w)
   have h0:ixI none<0:=by decide
   refine ⟨s'.next,by have:=f4.next;simp at this;omega,zgY _ _ _ st ?_⟩
   have hz:=zl4 w 5
   unfold wV at hz
   simp only [zhj,hc,SS.ro_next,SS.new_next,c3,zob,zaa,zdt h0,zct,f1,f2,f3,hz]
   rfl
 | some k=>
   rw [hk] at c3
   obtain ⟨fx,_,_,hlt⟩:=zk5 hk
   have h0:¬ ixI (some k)<0:=by
    show ¬ (k:Int)<0
    omega
   have e1:zbr (ptr 0 0) 12 (ixI (some k)) 2=some (0,0+k*2):=znZ hlt
   have e2:=zl3 (g2.ext x3) hlt
   have c4:=zpQ x (zav k) (by have:=zhl k;omega) ((((st.ro st.next).new (.cells (wRow w) 0)).new (.cells Z12 0)).adv n3)
   have x4:Ext ((((st.ro st.next).new (.cells (wRow w) 0)).new (.cells Z12 0)).adv n3) (((((st.ro st.next).new (.cells (wRow w) 0)).new (.cells Z12 0)).adv n3).adv ((((st.ro st.next).new (.cells (wRow w) 0)).new (.cells Z12 0)).adv n3).next):=(Ext.refl _).adv (zlr _)
   have a0'':=a0'.ext x4
   have a1'':=a1'.ext x4
   by_cases hf:fitsT x (zav k)=true
   ·rw [hf] at c4
    have hs:zbM w f x=(w.set k x,0):=by unfold zbM;rw [hk];exact if_pos hf
    rw [hs]
    have c5:=zjP st.next (((((st.ro st.next).new (.cells (wRow w) 0)).new (.cells Z12 0)).adv n3).adv ((((st.ro st.next).new (.cells (wRow w) 0)).new (.cells Z12 0)).adv n3).next)
    generalize hs4:(((((st.ro st.next).new (.cells (wRow w) 0)).new (.cells Z12 0)).adv n3).adv ((((st.ro st.next).new (.cells (wRow w) 0)).new (.cells Z12 0)).adv n3).next)=s4 at*
    have x5:Ext s4 (s4.new (.cells (plRow st.next) 1)):=(Ext.refl _).new _
    have a0v:=a0''.ext x5
    have a1v:=a1''.ext x5
    have hel:zaw (.slice (some ⟨s4.next,0,none⟩) 12 12) (ixI (some k)) 1=some (s4.next,0+k*1):=by
     show zaw (.slice (some ⟨s4.next,0,none⟩) 12 12) (k:Int) 1=_
     unfold zaw
     have h1:(0:Int)≤(k:Int):=by omega
     have h2:(k:Int)<((12:Nat):Int):=by omega
     simp only [zdt h1,zdt h2,Bool.and_self,zct,Int.toNat_natCast]
    have hld:(s4.new (.cells (plRow st.next) 1)).ld s4.next (0+k*1)=some (ptr st.next k):=by
     rw [SS.ld_cells SS.new_get,show 0+k*1=k by omega,zno _ hlt]
    obtain ⟨s6,e6,a6,m6,_⟩:=a0v.sto (k:=k) (vs:=[.int .i64 x]) (row':=wRow (w.set k x)) rfl (by rw [zoM];exact zl5 (by rw [hl];exact hlt) _)
    have a1w:=a1v.mod m6 (by simp)
    obtain ⟨s',f1,f2,f3,f4,_⟩:=zcm (n:=12) a1w rfl a6 (by rw [zaW,List.length_set,hw]) (zfE _)
    have hnl:zau (ptr st.next k)=some (ptr st.next k):=rfl
    have hz:=zl4 (w.set k x) 0
    unfold wV at hz
    have hq:∀ q:Nat,s4.next≥st.next:=fun _=>by rw [← hs4];simp;omega
    refine ⟨s'.next,by have:=f4.next;have:=m6.next;have:=x5.next;have:=hq 0;omega,zgY _ _ _ st ?_⟩
    have e1':zbr (ptr 0 0) 12 (ixI (some k)) 2=some (0,0+k*2):=e1
    simp only [zhj,hc,SS.ro_next,SS.new_next,c3,zob,zaa,zdf h0,zcf,e1',e2,c4,zal,znt,c5,hel,hld,hnl,zad,e6,f1,f2,f3,hz,zct]
    rfl
   ·have hf':fitsT x (zav k)=false:=by simpa using hf
    rw [hf'] at c4
    have hs:zbM w f x=(w,1):=by unfold zbM;rw [hk];exact if_neg hf
    rw [hs]
    obtain ⟨s',f1,f2,f3,f4,_⟩:=zcm (n:=12) a1'' rfl a0'' hl (zfE w)
    have hz:=zl4 w 1
    unfold wV at hz
    refine ⟨s'.next,by have:=f4.next;simp at this;omega,zgY _ _ _ st ?_⟩
    simp only [zhj,hc,SS.ro_next,SS.new_next,c3,zob,zaa,zdf h0,zcf,e1,e2,c4,zal,znf,f1,f2,f3,hz,zct]
    rfl
end Go.Proofs.YtifploedaacedaaGreatDoorE
namespace Go.Proofs.YtifploedaacedaaGreatDoorE
open Go Go.E Go.Proofs
def zbv (w:Wd):Bool:=(List.range 12).all fun k=>fitsT (w.getD k 0) (zav k)
structure Pls (st:SS) (b j:Nat) (w:Wd):Prop where
 pl:st.mem.get j=some (.cells (plRow b) 1)
 lt:j<st.next
 at0:At st b (wRow w)
section
variable {st st' : SS} {b j : Nat} {w : Wd}
theorem Pls.ext (h:Pls st b j w) (e:Ext st st'):Pls st' b j w:=⟨e.get h.lt h.pl,zll h.lt e.next,h.at0.ext e⟩
theorem plS {k:Nat} (h:k<12):zaw (.slice (some ⟨j,0,none⟩) 12 12) (k:Int) 1=some (j,0+k*1):=by
 unfold zaw
 have h1:(0:Int)≤(k:Int):=by omega
 have h2:(k:Int)<((12:Nat):Int):=by omega
 simp only [zdt h1,zdt h2,Bool.and_self,zct,Int.toNat_natCast]
theorem Pls.ptr (h:Pls st b j w) {k:Nat} (hk:k<12):st.ld j (0+k*1)=some (Go.E.ptr b k):=by
 rw [SS.ld_cells h.pl,show 0+k*1=k by omega,zno _ hk]
theorem Pls.part (h:Pls st b j w) (hw:w.length=12) {k:Nat} (hk:k<12):st.ld b k=some (.int .i64 (w.getD k 0)):=by
 rw [h.at0.ld,zeO,List.getD_eq_getElem?_getD]
 rw [zge (by omega)]
 rfl
end
theorem zrY [Sym] (w:Wd) (hw:w.length=12) (b j:Nat) (st0:SS) (hg:Gd st0) (hp:Pls st0 b j w):∀ (m k:Nat) (st:SS),12=m+k→Ext st0 st→
  ∃ st',Ext st0 st'∧zdA 2 [.slice (some ⟨j,0,none⟩) 12 12,.int .i64 12,.int .i64 k] st=some (if ((List.range' k m).all fun k=>fitsT (w.getD k 0) (zav k))=true then (0,[],st') else (1,[.bool false],st')):=by
 intro m
 induction m with
 | zero=>
   intro k st hk he
   have:k=12:=by omega
   subst this
   exact ⟨st,he,zeP _ _ _ st rfl⟩
 | succ m ih=>
   intro k st hk he
   have hkl:k<12:=by omega
   have h1:(k:Int)<12:=by omega
   have hnl:zau (ptr b k)=some (ptr b k):=rfl
   have c:=zpQ (w.getD k 0) (zav k) (by have:=zhl k;omega) st
   have hw1:=zba (i:=k) (by omega)
   have e1:=(hp.ext he).ptr hkl
   have e2:=(hp.ext he).part hw hkl
   have e3:=zl3 (hg.ext he) hkl
   have e4:=znZ hkl
   rw [List.range'_succ,List.all_cons]
   cases hf:fitsT (w.getD k 0) (zav k) with
   | true=>
     obtain ⟨st',x',l⟩:=ih (k+1) (st.adv st.next) (by omega) (he.adv (zlr _))
     rw [hf] at c
     refine ⟨st',x',zeP _ _ _ st ?_⟩
     simp only [zf4,zdt h1,zct,plS hkl,zob,e1,hnl,zad,e2,zaa,e4,e3,c,zal,znt,zcf,hw1,Bool.true_and]
     exact l
   | false=>
     rw [hf] at c
     refine ⟨st.adv st.next,he.adv (zlr _),zeP _ _ _ st ?_⟩
     simp only [zf4,zdt h1,zct,plS hkl,zob,e1,hnl,zad,e2,zaa,e4,e3,c,zal,znf,Bool.false_and]
     rfl
theorem zug [Sym] (w:Wd) (hw:w.length=12) (st:SS) (hg:Gd st):∃ n,st.next≤n∧cc 101 [wV w] st=some (.bool (zbv w),st.adv n):=by
 have hc:(wV w).cells.toList=wRow w:=zaF _
 have a0:At ((st.ro st.next).new (.cells (wRow w) 0)) st.next (wRow w):=At.new (st:=st.ro st.next) (zlr _) _
 have x1:Ext (st.ro st.next) ((st.ro st.next).new (.cells (wRow w) 0)):=(Ext.refl _).new _
 have c2:=zjP st.next ((st.ro st.next).new (.cells (wRow w) 0))
 have x2:Ext ((st.ro st.next).new (.cells (wRow w) 0)) (((st.ro st.next).new (.cells (wRow w) 0)).new (.cells (plRow st.next) 1)):=(Ext.refl _).new _
 have hp:Pls (((st.ro st.next).new (.cells (wRow w) 0)).new (.cells (plRow st.next) 1)) st.next (st.next+1) w:=⟨SS.new_get (st:=(st.ro st.next).new (.cells (wRow w) 0)),by simp,a0.ext x2⟩
 obtain ⟨s',x',l⟩:=zrY w hw st.next (st.next+1) _ ((hg.ro (n:=st.next)).ext (x1.trans x2)) hp 12 0 _ (by omega) (.refl _)
 have hnx:=x'.next
 simp at hnx
 have hlen:(lenV (.slice (some ⟨st.next+1,0,none⟩) 12 12)).bind (asI .i64)=some 12:=rfl
 have l':zdA 2 [.slice (some ⟨st.next+1,0,none⟩) 12 12,.int .i64 12,.int .i64 0] (((st.ro st.next).new (.cells (wRow w) 0)).new (.cells (plRow st.next) 1))=some (if zbv w=true then (0,[],s') else (1,[.bool false],s')):=by
  have hg':zbv w=(List.range' 0 12).all fun k=>fitsT (w.getD k 0) (zav k):=by unfold zbv;rw [List.range_eq_range']
  rw [hg']
  exact l
 refine ⟨s'.next,by omega,znW _ st ?_⟩
 have b0:Nat.beq 0 0=true:=rfl
 have b1:Nat.beq 1 0=false:=rfl
 cases hgd:zbv w with
 | true=>
   rw [hgd,if_pos rfl] at l'
   simp only [ziX,hc,SS.ro_next,c2,zob,SS.new_next,hlen,l',b0,zct]
 | false=>
   rw [hgd,if_neg (by decide)] at l'
   simp only [ziX,hc,SS.ro_next,c2,zob,SS.new_next,hlen,l',b1,zcf,zgz,zal]
def zcg:List Nat:=zbx.map (·.2)
def zeb:List Nat→List Int→Int
 | n::ns,p::ps=>p+2^n*zeb ns ps
 | _,_=>0
def zdv (w:Wd):Int:=zeb zcg w
theorem orU64 {a c s:Nat} (ha:a<2^s) (hc:a+c*2^s<2^64):orI .u64 (a:Int) ((c*2^s:Nat):Int)=((a+c*2^s:Nat):Int):=by
 have h1:a||| c*2^s=a+c*2^s:=by
  have:=Nat.two_pow_add_eq_or_of_lt ha c
  rw [Nat.or_comm,Nat.mul_comm,← this,Nat.add_comm]
 unfold orI
 have e:((BitVec.ofInt 64 (a:Int)||| BitVec.ofInt 64 ((c*2^s:Nat):Int)).toNat:Nat)=a+c*2^s:=by
  rw [BitVec.toNat_or,BitVec.ofInt_natCast,BitVec.ofInt_natCast,BitVec.toNat_ofNat,BitVec.toNat_ofNat,Nat.mod_eq_of_lt (by omega),Nat.mod_eq_of_lt (by omega),h1]
 show IntKind.wrap .u64 (((BitVec.ofInt 64 (a:Int)||| BitVec.ofInt 64 ((c*2^s:Nat):Int)).toNat:Nat):Int)=_
 rw [e]
 exact zc5 (by omega) (by omega)
theorem shl64 {c s:Nat} (hs:s<64) (hc:c*2^s<2^64):(aI .shl .u64 (c:Int) (s:Int)).bind (asI .u64)=some ((c*2^s:Nat):Int):=by
 have hb:¬ ((s:Int)<0):=by omega
 have e:min ((s:Int)).toNat (IntKind.bits .u64)=s:=by
  show min ((s:Int)).toNat 64=s
  rw [Int.toNat_natCast];omega
 have e2:zjq .u64 (c:Int) (s:Int)=((c*2^s:Nat):Int):=by
  unfold zjq
  rw [e]
  have:(c:Int)*2^s=((c*2^s:Nat):Int):=by simp
  rw [this]
  exact zc5 (by omega) (by omega)
 simp only [aI,zdf hb,zcf,zob,zaa,e2]
def zcc (k:Nat):Nat:=(zcg.take k).sum
theorem zrZ {k:Nat} (h:k<12):zcc (k+1)=zcc k+zav k:=by
 have:∀ k,k<12→zcc (k+1)=zcc k+zav k:=by decide+kernel
 exact this k h
theorem zuh {k:Nat} (h:k<12):zcc k+zav k≤64∧0<zav k:=by
 have:∀ k,k<12→zcc k+zav k≤64∧0<zav k:=by decide+kernel
 exact this k h
theorem zl6 {k:Nat} (h:k<12):zcg.drop k=zav k::zcg.drop (k+1):=by
 have:∀ k,k<12→zcg.drop k=zav k::zcg.drop (k+1):=by decide+kernel
 exact this k h
theorem getD_drop {w:Wd} {k:Nat} (h:k<w.length):w.drop k=w.getD k 0::w.drop (k+1):=by
 rw [List.drop_eq_getElem_cons h,List.getD_eq_getElem?_getD,zge h]
 rfl
theorem zeQ {w:Wd} (h:zbv w=true) {k:Nat} (hk:k<12):∃ p:Nat,w.getD k 0=(p:Int)∧p<2^zav k:=by
 have:=List.all_eq_true.1 h k (List.mem_range.2 hk)
 unfold fitsT at this
 obtain ⟨h1,h2⟩:=of_decide_eq_true this
 obtain ⟨p,hp⟩:=Int.eq_ofNat_of_zero_le h1
 refine ⟨p,hp,?_⟩
 rw [hp] at h2
 have:((p:Int))<((2^zav k:Nat):Int):=by simpa using h2
 omega
theorem zr0 [Sym] (w:Wd) (hw:w.length=12) (hgd:zbv w=true) (b j:Nat) (st0:SS) (hg:Gd st0) (hp:Pls st0 b j w):∀ (m k x:Nat),12=m+k→x<2^zcc k→
  zdB 5 [.int .u64 x,.int .i64 (zcc k),.slice (some ⟨j,0,none⟩) 12 12,.int .i64 12,.int .i64 k] st0=some (0,[.int .u64 ((x:Int)+2^zcc k*zeb (zcg.drop k) (w.drop k))],st0):=by
 intro m
 induction m with
 | zero=>
   intro k x hk hx
   have:k=12:=by omega
   subst this
   refine zgZ _ _ _ _ _ st0 ?_
   have e:zeb (zcg.drop 12) (w.drop 12)=0:=rfl
   rw [e,Int.mul_zero,Int.add_zero]
   rfl
 | succ m ih=>
   intro k x hk hx
   have hkl:k<12:=by omega
   have h1:(k:Int)<12:=by omega
   have hnl:zau (ptr b k)=some (ptr b k):=rfl
   obtain ⟨p,hp1,hp2⟩:=zeQ hgd hkl
   have hs:=zuh hkl
   have hss:=zrZ hkl
   have hw1:=zba (i:=k) (by omega)
   have e1:=hp.ptr hkl
   have e2:=hp.part hw hkl
   rw [hp1] at e2
   have e3:=zl3 hg hkl
   have e4:=znZ hkl
   have hpow:2^zav k≤2^11:=Nat.pow_le_pow_right (by omega) (zhl k)
   have hw2:IntKind.wrap .u64 (p:Int)=(p:Int):=zc5 (by omega) (by omega)
   have hpm:p*2^zcc k+2^zcc k≤2^(zcc k+zav k):=by
    rw [Nat.pow_add,Nat.mul_comm (2^zcc k)]
    have:(p+1)*2^zcc k≤2^zav k*2^zcc k:=Nat.mul_le_mul_right _ hp2
    rw [Nat.add_mul] at this
    omega
   have h64:2^(zcc k+zav k)≤2^64:=Nat.pow_le_pow_right (by omega) hs.1
   have e5:=shl64 (c:=p) (s:=zcc k) (by omega) (by omega)
   have e6:=orU64 (a:=x) (c:=p) (s:=zcc k) hx (by omega)
   have hw3:IntKind.wrap .i64 ((zcc k:Int)+(zav k:Int))=((zcc (k+1):Nat):Int):=by rw [wrap64 (by omega) (by omega),hss];omega
   have:=ih (k+1) (x+p*2^zcc k) (by omega) (by rw [hss];omega)
   have e7:(((x+p*2^zcc k:Nat):Int)+2^zcc (k+1)*zeb (zcg.drop (k+1)) (w.drop (k+1)))=(x:Int)+2^zcc k*zeb (zcg.drop k) (w.drop k):=by
    rw [zl6 hkl,getD_drop (w:=w) (k:=k) (by omega),hp1]
    show _=(x:Int)+2^zcc k*((p:Int)+2^zav k*zeb (zcg.drop (k+1)) (w.drop (k+1)))
    rw [hss,Int.pow_add,Int.mul_add,Int.mul_assoc]
    simp only [Int.natCast_add,Int.natCast_mul,Int.natCast_pow]
    rw [Int.mul_comm (p:Int)]
    simp [Int.add_assoc]
   rw [e7] at this
   refine zgZ _ _ _ _ _ st0 ?_
   simp only [zi6,zdt h1,zct,plS hkl,zob,e1,hnl,zad,e2,zaa,hw2,e5,e6,e4,e3,hw3,hw1]
   exact this
theorem zui [Sym] (w:Wd) (hw:w.length=12) (st:SS) (hg:Gd st):∃ n,st.next≤n∧cc 73 [wV w] st=some (if zbv w=true then .tuple #[.int .u64 (zdv w),.int .i64 0] else .tuple #[.int .u64 0,.int .i64 1],st.adv n):=by
 have hc:(wV w).cells.toList=wRow w:=zaF _
 have a0:At ((st.ro st.next).new (.cells (wRow w) 0)) st.next (wRow w):=At.new (st:=st.ro st.next) (zlr _) _
 have x1:Ext (st.ro st.next) ((st.ro st.next).new (.cells (wRow w) 0)):=(Ext.refl _).new _
 have l0:((st.ro st.next).new (.cells (wRow w) 0)).ldN st.next 0 12=some (wV w):=a0.ldN (by rw [zaW,hw])
 obtain ⟨n3,hn3,c3⟩:=zug w hw _ ((hg.ro (n:=st.next)).ext x1)
 have x3:Ext ((st.ro st.next).new (.cells (wRow w) 0)) (((st.ro st.next).new (.cells (wRow w) 0)).adv n3):=(Ext.refl _).adv hn3
 simp at hn3
 have b0:Nat.beq 0 0=true:=rfl
 cases hgd:zbv w with
 | false=>
   rw [hgd] at c3
   refine ⟨n3,by omega,zi5 _ st ?_⟩
   simp only [ziY,hc,SS.ro_next,l0,c3,zob,zal,znf,zct]
   rfl
 | true=>
   rw [hgd] at c3
   have c5:=zjP st.next (((st.ro st.next).new (.cells (wRow w) 0)).adv n3)
   have x5:Ext (((st.ro st.next).new (.cells (wRow w) 0)).adv n3) ((((st.ro st.next).new (.cells (wRow w) 0)).adv n3).new (.cells (plRow st.next) 1)):=(Ext.refl _).new _
   have hp:Pls ((((st.ro st.next).new (.cells (wRow w) 0)).adv n3).new (.cells (plRow st.next) 1)) st.next n3 w:=⟨SS.new_get (st:=((st.ro st.next).new (.cells (wRow w) 0)).adv n3),by simp,(a0.ext x3).ext x5⟩
   have l:=zr0 w hw hgd st.next n3 _ ((hg.ro (n:=st.next)).ext (x1.trans (x3.trans x5))) hp 12 0 0 (by omega) (by decide)
   have e:((0:Nat):Int)+2^zcc 0*zeb (zcg.drop 0) (w.drop 0)=zdv w:=by
    rw [List.drop_zero,List.drop_zero]
    show (0:Int)+2^0*zdv w=zdv w
    omega
   rw [e] at l
   have l':zdB 5 [.int .u64 0,.int .i64 0,.slice (some ⟨n3,0,none⟩) 12 12,.int .i64 12,.int .i64 0] ((((st.ro st.next).new (.cells (wRow w) 0)).adv n3).new (.cells (plRow st.next) 1))=_:=l
   have hlen:(lenV (.slice (some ⟨n3,0,none⟩) 12 12)).bind (asI .i64)=some 12:=rfl
   refine ⟨n3+1,by omega,zi5 _ st ?_⟩
   have hnx:(((st.ro st.next).new (.cells (wRow w) 0)).adv n3).next=n3:=rfl
   simp only [ziY,hc,SS.ro_next,l0,c3,zob,zal,znt,zcf,c5,hnx,hlen,l',zgz,zaa]
   rfl
end Go.Proofs.YtifploedaacedaaGreatDoorE
namespace Go.Proofs.YtifploedaacedaaGreatDoorE
set_option maxRecDepth 20000
open Go Go.E Go.Proofs
noncomputable def zjb (cf:zan) (lf:zac) (st:SS):Option (Value×SS):=
 let st1:SS:=st.new (.cells ([.string ⟨#[97,108,117]⟩,.string ⟨#[97]⟩,.string ⟨#[98]⟩,.string ⟨#[100]⟩,.string ⟨#[108,105,116]⟩,.string ⟨#[115,105,122,101]⟩,.string ⟨#[99,99]⟩,.string ⟨#[109,101,109]⟩,.string ⟨#[115,101,113]⟩,.string ⟨#[99,111,110,100]⟩,.string ⟨#[116,111]⟩,.string ⟨#[109,105,115,99]⟩]) 1)
 some (.slice (some ⟨st.next,0,none⟩) 12 12,st1)
noncomputable abbrev zhz:zac:=lS Tryz.prog Lk0 Tryz.f24 zaC
theorem zhA:Lk0.func 24=some (24,Tryz.f24):=by kernel_rfl
theorem zhB [Sym] (st:SS) {r:Value×SS} (h:zjb cc zhz st=some r):cc 24 [] st=some r:=
 zaf (li:=zaC) zai zar zhA rfl (fun _=>rfl) (.trans (by kernel_rfl) h)
noncomputable def zjQ (cf:zan) (lf:zac) (st:SS):Option (Value×SS):=
 let st1:SS:=st.new (.cells ([.int .i64 32,.int .i64 64,.int .i64 64,.int .i64 64,.int .i64 256,.int .i64 4,.int .i64 4,.int .i64 16,.int .i64 8,.int .i64 32,.int .i64 2048,.int .i64 64]) 1)
 some (.slice (some ⟨st.next,0,none⟩) 12 12,st1)
noncomputable abbrev zh9:zac:=lS Tryz.prog Lk0 Tryz.f48 zaC
theorem zia:Lk0.func 48=some (48,Tryz.f48):=by kernel_rfl
theorem zib [Sym] (st:SS) {r:Value×SS} (h:zjQ cc zh9 st=some r):cc 48 [] st=some r:=
 zaf (li:=zaC) zai zar zia rfl (fun _=>rfl) (.trans (by kernel_rfl) h)
noncomputable def zfr (cf:zan) (lf:zac) (w':Value) (st:SS):Option (Value×SS):=
 let a:SS:=st.new (.cells (w':Value).cells.toList 0)
 ((a.ld st.next 0).bind (asI .i64)).bind fun b=>
 ((a.ld st.next 1).bind (asI .i64)).bind fun c=>
 ((a.ld st.next 2).bind (asI .i64)).bind fun d=>
 ((a.ld st.next 3).bind (asI .i64)).bind fun e=>
 ((a.ld st.next 4).bind (asI .i64)).bind fun f=>
 ((a.ld st.next 5).bind (asI .i64)).bind fun g=>
 ((a.ld st.next 6).bind (asI .i64)).bind fun h=>
 ((a.ld st.next 7).bind (asI .i64)).bind fun i=>
 ((a.ld st.next 8).bind (asI .i64)).bind fun j=>
 ((a.ld st.next 9).bind (asI .i64)).bind fun k=>
 ((a.ld st.next 10).bind (asI .i64)).bind fun l=>
 ((a.ld st.next 11).bind (asI .i64)).bind fun m=>
 let n:SS:=a.new (.cells ([.int .i64 b,.int .i64 c,.int .i64 d,.int .i64 e,.int .i64 f,.int .i64 g,.int .i64 h,.int .i64 i,.int .i64 j,.int .i64 k,.int .i64 l,.int .i64 m]) 1)
 some (.slice (some ⟨a.next,0,none⟩) 12 12,n)
noncomputable abbrev zhC:zac:=lS Tryz.prog Lk0 Tryz.f23 zaC
theorem zhD:Lk0.func 23=some (23,Tryz.f23):=by kernel_rfl
theorem zhE [Sym] (w':Value) (st:SS) {r:Value×SS} (h:zfr cc zhC w' st=some r):cc 23 [w'] st=some r:=
 zaf (li:=zaC) zai zar zhD rfl (fun _=>rfl) (.trans (by kernel_rfl) h)
def zeA:LoopI:=⟨[(6,.any),(7,.int .i64),(8,.int .i64)],[(.exit 0,[]),(.ret,[(2,.bool)])]⟩
def ze2 (n:Nat):Option LoopI:=cond (Nat.beq n 2) (some zeA) (none)
noncomputable def zfY (cf:zan) (lf:zac) (w':Value) (st:SS):Option (Value×SS):=
 let a:SS:=(st.ro st.next).new (.cells (w':Value).cells.toList 0)
 (a.ldN ((st.ro st.next).next) 0 12).bind fun b=>
 (cf 23 [b] a).bind fun c=>
 ((lenV c.1).bind (asI .i64)).bind fun d=>
 (lf 2 [c.1,.int .i64 d,.int .i64 0] c.2).bind fun e=>
 cond (Nat.beq e.1 0) (
 some (.bool true,st.adv e.2.2.next)) (
 ((e.2.1[0]?).bind asB).bind fun f=>
 some (.bool f,st.adv e.2.2.next))
noncomputable abbrev zbG:zac:=lS Tryz.prog Lk0 Tryz.f22 ze2
theorem zic:Lk0.func 22=some (22,Tryz.f22):=by kernel_rfl
theorem zid [Sym] (w':Value) (st:SS) {r:Value×SS} (h:zfY cc zbG w' st=some r):cc 22 [w'] st=some r:=
 zaf (li:=ze2) zai zar zic rfl (fun _=>rfl) (.trans (by kernel_rfl) h)
noncomputable def zbH (cf:zan) (lf:zac) (t6':Value) (t7':Int) (t8':Int) (st:SS):Option (Nat×List Value×SS):=
 cond (decide (t8'<t7')) (
 (zaw t6' t8' 1).bind fun a=>
 ((st.ld a.1 a.2).bind (asI .i64)).bind fun b=>
 cond (decide (b<0)) (
 some (1,[.bool false],st)) (
 (cf 48 [] st).bind fun c=>
 (zaw c.1 t8' 1).bind fun d=>
 ((c.2.ld d.1 d.2).bind (asI .i64)).bind fun e=>
 cond (decide (e≤b)) (
 some (1,[.bool false],c.2)) (
 let f:Int:=IntKind.wrap .i64 (t8'+1)
 lf 2 [t6',.int .i64 t7',.int .i64 f] c.2))) (
 some (0,[],st))
theorem zbS [Sym] (t6':Value) (t7':Int) (t8':Int) (st:SS) {r:Nat×List Value×SS} (h:zbH cc zbG t6' t7' t8' st=some r):zbG 2 [t6',.int .i64 t7',.int .i64 t8'] st=some r:=
 zaA zai zar (key:=2) (I:=zeA) rfl (by kernel_rfl) (by kernel_rfl) rfl rfl (.trans (by kernel_rfl) h)
def zeB:LoopI:=⟨[(3,.int .u64),(4,.any),(5,.int .i64)],[(.exit 0,[(3,.int .u64)])]⟩
def ze3 (n:Nat):Option LoopI:=cond (Nat.beq n 4) (some zeB) (none)
noncomputable def zfZ (cf:zan) (lf:zac) (w':Value) (st:SS):Option (Value×SS):=
 let a:SS:=(st.ro st.next).new (.cells (w':Value).cells.toList 0)
 (a.ldN ((st.ro st.next).next) 0 12).bind fun b=>
 (cf 23 [b] a).bind fun c=>
 (lf 4 [.int .u64 0,c.1,.int .i64 11] c.2).bind fun d=>
 ((d.2.1[0]?).bind (asI .u64)).bind fun e=>
 some (.int .u64 e,st.adv d.2.2.next)
noncomputable abbrev zbI:zac:=lS Tryz.prog Lk0 Tryz.f18 ze3
theorem zie:Lk0.func 18=some (18,Tryz.f18):=by kernel_rfl
theorem zif [Sym] (w':Value) (st:SS) {r:Value×SS} (h:zfZ cc zbI w' st=some r):cc 18 [w'] st=some r:=
 zaf (li:=ze3) zai zar zie rfl (fun _=>rfl) (.trans (by kernel_rfl) h)
noncomputable def zc7 (cf:zan) (lf:zac) (x':Int) (p':Value) (i':Int) (st:SS):Option (Nat×List Value×SS):=
 cond (decide (0≤i')) (
 (cf 48 [] (st.ro st.next)).bind fun a=>
 (zaw a.1 i' 1).bind fun b=>
 (((a.2.ro st.lim).ld b.1 b.2).bind (asI .i64)).bind fun c=>
 let d:Int:=IntKind.wrap .u64 c
 let e:Int:=IntKind.wrap .u64 (x'*d)
 (zaw p' i' 1).bind fun f=>
 (((a.2.ro st.lim).ld f.1 f.2).bind (asI .i64)).bind fun g=>
 let h:Int:=IntKind.wrap .u64 g
 let i:Int:=IntKind.wrap .u64 (e+h)
 let j:Int:=IntKind.wrap .i64 (i'-1)
 lf 4 [.int .u64 i,p',.int .i64 j] (a.2.ro st.lim)) (
 some (0,[.int .u64 x'],st))
theorem zd0 [Sym] (x':Int) (p':Value) (i':Int) (st:SS) {r:Nat×List Value×SS} (h:zc7 cc zbI x' p' i' st=some r):zbI 4 [.int .u64 x',p',.int .i64 i'] st=some r:=
 zaA zai zar (key:=4) (I:=zeB) rfl (by kernel_rfl) (by kernel_rfl) rfl rfl (.trans (by kernel_rfl) h)
end Go.Proofs.YtifploedaacedaaGreatDoorE
namespace Go.Proofs.YtifploedaacedaaGreatDoorE
open Go Go.E Go.Proofs
theorem len12 {α:Type} {w:List α} (h:w.length=12):∃ a b c d e f g i j k l m,w=[a,b,c,d,e,f,g,i,j,k,l,m]:=by
 match w,h with
 | [a,b,c,d,e,f,g,i,j,k,l,m],_=>exact ⟨a,b,c,d,e,f,g,i,j,k,l,m,rfl⟩
def zaH:List (List UInt8):=zbx.map (·.1)
def zeH:List Int:=zcg.map fun n=>2^n
theorem zk6 [Sym] (w:Wd) (hw:w.length=12) (st:SS):cc 23 [wV w] st=some (.slice (some ⟨st.next+1,0,none⟩) 12 12,(st.new (.cells (wRow w) 0)).new (.cells (wRow w) 1)):=by
 have hc:(wV w).cells.toList=wRow w:=zaF _
 have hm:(st.new (.cells (wRow w) 0)).mem.get st.next=some (.cells (wRow w) 0):=SS.new_get
 have l:∀ k x,(wRow w)[k]?=some x→(st.new (.cells (wRow w) 0)).ld st.next k=some x:=fun k x h=>by rw [SS.ld_cells hm,h]
 obtain ⟨a,b,c,d,e,f,g,i,j,k,m,n,rfl⟩:=len12 hw
 refine zhE _ st ?_
 simp only [zfr,hc,l 0 _ rfl,l 1 _ rfl,l 2 _ rfl,l 3 _ rfl,l 4 _ rfl,l 5 _ rfl,l 6 _ rfl,l 7 _ rfl,l 8 _ rfl,l 9 _ rfl,l 10 _ rfl,l 11 _ rfl,zob,zaa]
 rfl
theorem zpR [Sym] (st:SS):cc 48 [] st=some (.slice (some ⟨st.next,0,none⟩) 12 12,st.new (.cells (wRow zeH) 1)):=by
 refine zib st ?_
 have:wRow zeH=[.int .i64 32,.int .i64 64,.int .i64 64,.int .i64 64,.int .i64 256,.int .i64 4,.int .i64 4,.int .i64 16,.int .i64 8,.int .i64 32,.int .i64 2048,.int .i64 64]:=by rfl
 rw [this]
 rfl
theorem zqF [Sym] (st:SS):cc 24 [] st=some (.slice (some ⟨st.next,0,none⟩) 12 12,st.new (.cells (strs zaH) 1)):=zhB st rfl
theorem zoN {k:Nat} (h:k<12):(wRow zeH)[k]?=some (.int .i64 ((2^zav k:Nat):Int)):=by
 rw [zeO]
 unfold zeH zcg zav
 rw [List.getElem?_map,List.getElem?_map]
 obtain ⟨x,hx⟩:∃ x,zbx[k]?=some x:=⟨_,zge (by show k<12;omega)⟩
 rw [hx]
 simp
end Go.Proofs.YtifploedaacedaaGreatDoorE
namespace Go.Proofs.YtifploedaacedaaGreatDoorE
open Go Go.E Go.Proofs
theorem zs6 (x:Int) (n:Nat):fitsT x n=(decide (0≤x)&&decide (x<((2^n:Nat):Int))):=by
 unfold fitsT
 have:(((2^n:Nat):Int))=2^n:=by simp
 rw [this,Bool.decide_and]
end Go.Proofs.YtifploedaacedaaGreatDoorE
namespace Go.Proofs.YtifploedaacedaaGreatDoorE
open Go Go.E Go.Proofs
structure RT (st:SS) (v:Value) (us:List (Nat×Tok)) (hi:Nat):Prop where
 rd:Rd st v (rowsL us) 5 us.length
 vb:∀ j k l q,v=.slice (some ⟨j,k,none⟩) l q→j<hi
 sz:us.length≤1099511627776/8
section
variable {S : List Nat} {st st' : SS} {v : Value} {us : List (Nat × Tok)} {hi B : Nat}
theorem RT.keepB (h:RT st v us hi) (k:Keep B S st st') (hB:hi≤B) (hS:∀ j,j∈S→hi≤j):RT st' v us hi:=by
 refine ⟨?_,h.vb,h.sz⟩
 obtain ⟨h1,h2⟩:=h.rd
 refine ⟨h1,h2.imp id ?_⟩
 rintro ⟨j,cap,e,⟨z',hm⟩,hj⟩
 have hjb:=h.vb j 0 _ cap e
 exact ⟨j,cap,e,⟨z',(k.keep j (by omega) (fun hx=>by have:=hS j hx;omega)).trans hm⟩,zll hj k.next⟩
theorem RT.ext (h:RT st v us hi) (x:Ext st st'):RT st' v us hi:=⟨h.rd.ext x,h.vb,h.sz⟩
theorem RT.at' (h:RT st v us hi) {i:Nat} {t:Nat×Tok} (ht:us[i]?=some t):∃ p,zaw v (i:Int) 5=some p∧∀ s:SS,RT s v us hi→
  s.ld p.1 p.2=some (.int .i64 t.2.kd)∧s.ld p.1 (p.2+1)=some (.string (mkS t.2.tx))∧s.ld p.1 (p.2+2)=some (.int .i64 t.2.nm)∧s.ld p.1 (p.2+3)=some (.int .i64 t.1)∧s.ld p.1 (p.2+4)=some (.int .i64 t.2.col):=by
 have hlt:(i:Int)<(us.length:Int):=by have:=(List.getElem?_eq_some_iff.1 ht).1;omega
 obtain ⟨p,a1,_,_⟩:=h.rd.load (j:=(i:Int)) (by omega) hlt (zhg us i t ht) rfl
 refine ⟨p,a1,fun s hs=>?_⟩
 obtain ⟨q,b1,_,b3⟩:=hs.rd.load (j:=(i:Int)) (by omega) hlt (zhg us i t ht) rfl
 rw [a1] at b1
 cases b1
 exact ⟨b3 0 (by omega),b3 1 (by omega),b3 2 (by omega),b3 3 (by omega),b3 4 (by omega)⟩
theorem RT.len (h:RT st v us hi):(lenV v).bind (asI .i64)=some (us.length:Int):=by rw [h.rd.len];rfl
end
def RdR (B ln:Nat) (i:Nat) (st:SS) (r:Option (Value×SS)):Except Nat PLine→Prop
 | .ok x=>∃ st' av pv,r=some (.tuple #[zmM ln x av pv,.int .i64 (-1)],st')∧Keep B [] st st'∧Own B st' av (rowsF valRow x.args) 3 x.args.length∧Own B st' pv (rowsF prRow x.prs) 5 x.prs.length
 | .error o=>∃ (st':SS) (row:List Value),r=some (.tuple #[.agg row.toArray,.int .i64 ((i+o:Nat):Int)],st')∧Keep B [] st st'∧row.length=5∧row.all one=true
theorem RdR.to {B ln i:Nat} {st s:SS} {r r':Option (Value×SS)} {x:Except Nat PLine} (h:RdR B ln i s r x) (K:Keep B [] st s) (hr:∀ y,r=some y→r'=some y):RdR B ln i st r' x:=by
 cases x with
 | ok x=>obtain ⟨st',av,pv,a,k,c⟩:=h;exact ⟨st',av,pv,hr _ a,K.then k,c⟩
 | error o=>obtain ⟨st',row,a,k,c⟩:=h;exact ⟨st',row,hr _ a,K.then k,c⟩
theorem RdR.off {B ln d:Nat} {st:SS} {r:Option (Value×SS)} {x:Except Nat PLine} (h:RdR B ln d st r x):RdR B ln 0 st r (offE d x):=by
 cases x with
 | ok x=>exact h
 | error o=>obtain ⟨st',row,a,k,c⟩:=h;exact ⟨st',row,by rw [Nat.zero_add];exact a,k,c⟩
end Go.Proofs.YtifploedaacedaaGreatDoorE
namespace Go.Proofs.YtifploedaacedaaGreatDoorE
open Go Go.E Go.Proofs
theorem Keep.toExt {B:Nat} {a b:SS} (h:Keep B [] a b) (hB:a.next≤B):Ext a b:=(h.mod hB).toExt
end Go.Proofs.YtifploedaacedaaGreatDoorE
namespace Go.Proofs.YtifploedaacedaaGreatDoorE
set_option maxRecDepth 20000
open Go Go.E Go.Proofs
noncomputable def zcI (cf:zan) (lf:zac) (b':Value) (name':ByteArray) (x':Int) (st:SS):Option (Value×SS):=
 (zau b').bind fun a=>
 (addr? a).bind fun b=>
 (st.ld b.1 (b.2+1)).bind fun c=>
 (st.mapF c name').bind fun d=>
 ze9 d (
 cond (eqT name' ⟨#[]⟩) (
 some (.bool false,st)) (
 (zau b').bind fun e=>
 (addr? e).bind fun f=>
 (st.ld f.1 (f.2+1)).bind fun g=>
 (st.mapP g name' (.int .i64 x')).bind fun h=>
 some (.bool true,h))) (fun i=>
 ((zaq (.tuple #[i,.bool true]) 0).bind (asI .i64)).bind fun j=>
 some (.bool false,st))
noncomputable abbrev zhF:zac:=lS Tryz.prog Lk0 Tryz.f70 zaC
theorem zhG:Lk0.func 70=some (70,Tryz.f70):=by kernel_rfl
theorem zc1 [Sym] (b':Value) (name':ByteArray) (x':Int) (st:SS) {r:Value×SS} (h:zcI cc zhF b' name' x' st=some r):cc 70 [b',.string name',.int .i64 x'] st=some r:=
 zaf (li:=zaC) zai zar zhG rfl (fun _=>rfl) (.trans (by kernel_rfl) h)
noncomputable def zah (cf:zan) (lf:zac) (b':Value) (l':Value) (st:SS):Option (Value×SS):=
 let a:SS:=st.new (.cells (l':Value).cells.toList 0)
 (a.ld st.next 3).bind fun b=>
 ((lenV b).bind (asI .i64)).bind fun c=>
 cond (decide (c=0)) (
 some (.bool false,a)) (
 (a.ld st.next 3).bind fun d=>
 (zaw d 0 3).bind fun e=>
 (a.ldN e.1 e.2 3).bind fun f=>
 let g:SS:=a.new (.cells [.string ⟨#[]⟩,.int .i64 0,.int .i64 0] 0)
 (g.stV a.next 0 3 f).bind fun h=>
 ((h.ld a.next 0).bind asS).bind fun i=>
 ((h.ld st.next 2).bind asS).bind fun j=>
 cond (eqT j ⟨#[111,114,103]⟩) (
 cond (!(eqT i ⟨#[]⟩)) (
 some (.bool false,h)) (
 (h.ld st.next 3).bind fun k=>
 ((lenV k).bind (asI .i64)).bind fun l=>
 cond (decide (1<l)) (
 some (.bool false,h)) (
 ((h.ld a.next 1).bind (asI .i64)).bind fun m=>
 (zau b').bind fun n=>
 (addr? n).bind fun o=>
 ((h.ld o.1 o.2).bind (asI .i64)).bind fun p=>
 cond (decide (m<p)) (
 some (.bool false,h)) (
 ((h.ld a.next 1).bind (asI .i64)).bind fun q=>
 cond (decide (2048<q)) (
 some (.bool false,h)) (
 ((h.ld a.next 1).bind (asI .i64)).bind fun r=>
 (zau b').bind fun s=>
 (addr? s).bind fun t=>
 (h.st t.1 t.2 [.int .i64 r]).bind fun u=>
 some (.bool true,u)))))) (
 cond (eqT j ⟨#[97,108,105,103,110]⟩) (
 cond (!(eqT i ⟨#[]⟩)) (
 some (.bool false,h)) (
 (h.ld st.next 3).bind fun v=>
 ((lenV v).bind (asI .i64)).bind fun w=>
 cond (decide (1<w)) (
 some (.bool false,h)) (
 ((h.ld a.next 1).bind (asI .i64)).bind fun x=>
 cond (decide (x<1)) (
 some (.bool false,h)) (
 ((h.ld a.next 1).bind (asI .i64)).bind fun y=>
 cond (decide (2048<y)) (
 some (.bool false,h)) (
 (zau b').bind fun z=>
 (addr? z).bind fun A=>
 ((h.ld A.1 A.2).bind (asI .i64)).bind fun B=>
 ((h.ld a.next 1).bind (asI .i64)).bind fun C=>
 let D:Int:=IntKind.wrap .i64 (B+C)
 let E:Int:=IntKind.wrap .i64 (D-1)
 ((h.ld a.next 1).bind (asI .i64)).bind fun F=>
 ((aI .quo .i64 E F).bind (asI .i64)).bind fun G=>
 ((h.ld a.next 1).bind (asI .i64)).bind fun H=>
 let I:Int:=IntKind.wrap .i64 (G*H)
 (zau b').bind fun J=>
 (addr? J).bind fun K=>
 (h.st K.1 K.2 [.int .i64 I]).bind fun L=>
 (zau b').bind fun M=>
 (addr? M).bind fun N=>
 ((L.ld N.1 N.2).bind (asI .i64)).bind fun O=>
 some (.bool (decide (O≤2048)),L)))))) (
 cond (eqT j ⟨#[115,101,116]⟩) (
 (h.ld st.next 3).bind fun P=>
 ((lenV P).bind (asI .i64)).bind fun Q=>
 cond (decide (Q=2)) (
 cond (!(eqT i ⟨#[]⟩)) (
 ((h.ld a.next 1).bind (asI .i64)).bind fun R=>
 cond (decide (R=0)) (
 (h.ld st.next 3).bind fun S=>
 (zaw S 1 3).bind fun T=>
 ((h.ld T.1 T.2).bind asS).bind fun U=>
 cond (eqT U ⟨#[]⟩) (
 ((h.ld a.next 0).bind asS).bind fun V=>
 (h.ld st.next 3).bind fun W=>
 (zaw W 1 3).bind fun X=>
 ((h.ld X.1 (X.2+1)).bind (asI .i64)).bind fun Y=>
 (cf 70 [b',.string V,.int .i64 Y] h).bind fun Z=>
 ((some Z.1).bind asB).bind fun aA=>
 some (.bool aA,Z.2)) (
 some (.bool false,h))) (
 some (.bool false,h))) (
 some (.bool false,h))) (
 some (.bool false,h))) (
 cond (eqT j ⟨#[101,110,116,114,121]⟩) (
 cond (eqT i ⟨#[]⟩) (
 some (.bool false,h)) (
 (h.ld st.next 3).bind fun aB=>
 ((lenV aB).bind (asI .i64)).bind fun aC=>
 cond (decide (1<aC)) (
 some (.bool false,h)) (
 ((h.ld a.next 1).bind (asI .i64)).bind fun aD=>
 cond (!(decide (aD=0))) (
 some (.bool false,h)) (
 (zau b').bind fun aE=>
 (addr? aE).bind fun aF=>
 (h.ld aF.1 (aF.2+4)).bind fun aG=>
 (cf 96 [aG,.func (.func 97) #[] #[ptr a.next 0]] h).bind fun aH=>
 ((some aH.1).bind asB).bind fun aJ=>
 cond aJ (
 some (.bool false,aH.2)) (
 (zau b').bind fun aK=>
 (addr? aK).bind fun aL=>
 (aH.2.ld aL.1 (aL.2+4)).bind fun aM=>
 (aH.2.ldN a.next 0 3).bind fun aN=>
 (zaS aN 3).bind fun aO=>
 let aP:SS:=aH.2.new (.cells (aO++([])) 3)
 (aP.app 3 32 aM (.slice (some ⟨aH.2.next,0,none⟩) 1 1)).bind fun aQ=>
 (zau b').bind fun aR=>
 (addr? aR).bind fun aS=>
 (aQ.2.stV aS.1 (aS.2+4) 1 aQ.1).bind fun aT=>
 (zau b').bind fun aU=>
 (addr? aU).bind fun aV=>
 (aT.ld aV.1 (aV.2+3)).bind fun aW=>
 ((aT.ld st.next 0).bind (asI .i64)).bind fun aX=>
 ((aT.ld a.next 2).bind (asI .i64)).bind fun aY=>
 let aZ:SS:=aT.new (.cells ([.int .i64 aX,.int .i64 aY]) 2)
 (aZ.app 2 16 aW (.slice (some ⟨aT.next,0,none⟩) 1 1)).bind fun bA=>
 (zau b').bind fun bB=>
 (addr? bB).bind fun bC=>
 (bA.2.stV bC.1 (bC.2+3) 1 bA.1).bind fun bD=>
 some (.bool true,bD)))))) (
 some (.bool false,h))))))
noncomputable abbrev zdQ:zac:=lS Tryz.prog Lk0 Tryz.f71 zaC
theorem zgv:Lk0.func 71=some (71,Tryz.f71):=by kernel_rfl
theorem zaP [Sym] (b':Value) (l':Value) (st:SS) {r:Value×SS} (h:zah cc zdQ b' l' st=some r):cc 71 [b',l'] st=some r:=
 zaf (li:=zaC) zai zar zgv rfl (fun _=>rfl) (.trans (by kernel_rfl) h)
noncomputable def zbJ (cf:zan) (lf:zac) (b':Value) (l':Value) (st:SS):Option (Value×SS):=
 let a:SS:=st.new (.cells (l':Value).cells.toList 0)
 ((a.ld st.next 1).bind asS).bind fun b=>
 cond (!(eqT b ⟨#[]⟩)) (
 ((a.ld st.next 1).bind asS).bind fun c=>
 (zau b').bind fun d=>
 (addr? d).bind fun e=>
 ((a.ld e.1 e.2).bind (asI .i64)).bind fun f=>
 (cf 70 [b',.string c,.int .i64 f] a).bind fun g=>
 ((some g.1).bind asB).bind fun h=>
 cond (!h) (
 some (.bool false,g.2)) (
 ((g.2.ld st.next 2).bind asS).bind fun i=>
 cond (!(eqT i ⟨#[]⟩)) (
 (g.2.ldN st.next 0 5).bind fun j=>
 (cf 71 [b',j] g.2).bind fun k=>
 ((some k.1).bind asB).bind fun l=>
 some (.bool l,k.2)) (
 (g.2.ld st.next 4).bind fun m=>
 ((lenV m).bind (asI .i64)).bind fun n=>
 cond (decide (n=0)) (
 some (.bool true,g.2)) (
 (zau b').bind fun o=>
 (addr? o).bind fun p=>
 (g.2.ld p.1 (p.2+2)).bind fun q=>
 (zau b').bind fun r=>
 (addr? r).bind fun s=>
 ((g.2.ld s.1 s.2).bind (asI .i64)).bind fun t=>
 (g.2.ldN st.next 0 5).bind fun u=>
 (zaS u 5).bind fun v=>
 (zaS (.agg ⟨spl [.int .i64 t,.int .i64 0,.string ⟨#[]⟩,.string ⟨#[]⟩,.slice none 0 0,.slice none 0 0] 1 v⟩) 6).bind fun w=>
 let x:SS:=g.2.new (.cells (w++([])) 6)
 (x.app 6 96 q (.slice (some ⟨g.2.next,0,none⟩) 1 1)).bind fun y=>
 (zau b').bind fun z=>
 (addr? z).bind fun A=>
 (y.2.stV A.1 (A.2+2) 1 y.1).bind fun B=>
 (zau b').bind fun C=>
 (addr? C).bind fun D=>
 ((B.ld D.1 D.2).bind (asI .i64)).bind fun E=>
 let F:Int:=IntKind.wrap .i64 (E+1)
 (zau b').bind fun G=>
 (addr? G).bind fun H=>
 (B.st H.1 H.2 [.int .i64 F]).bind fun I=>
 (zau b').bind fun J=>
 (addr? J).bind fun K=>
 ((I.ld K.1 K.2).bind (asI .i64)).bind fun L=>
 some (.bool (decide (L≤2048)),I))))) (
 ((a.ld st.next 2).bind asS).bind fun M=>
 cond (!(eqT M ⟨#[]⟩)) (
 (a.ldN st.next 0 5).bind fun N=>
 (cf 71 [b',N] a).bind fun O=>
 ((some O.1).bind asB).bind fun P=>
 some (.bool P,O.2)) (
 (a.ld st.next 4).bind fun Q=>
 ((lenV Q).bind (asI .i64)).bind fun R=>
 cond (decide (R=0)) (
 some (.bool true,a)) (
 (zau b').bind fun S=>
 (addr? S).bind fun T=>
 (a.ld T.1 (T.2+2)).bind fun U=>
 (zau b').bind fun V=>
 (addr? V).bind fun W=>
 ((a.ld W.1 W.2).bind (asI .i64)).bind fun X=>
 (a.ldN st.next 0 5).bind fun Y=>
 (zaS Y 5).bind fun Z=>
 (zaS (.agg ⟨spl [.int .i64 X,.int .i64 0,.string ⟨#[]⟩,.string ⟨#[]⟩,.slice none 0 0,.slice none 0 0] 1 Z⟩) 6).bind fun aA=>
 let aB:SS:=a.new (.cells (aA++([])) 6)
 (aB.app 6 96 U (.slice (some ⟨a.next,0,none⟩) 1 1)).bind fun aC=>
 (zau b').bind fun aD=>
 (addr? aD).bind fun aE=>
 (aC.2.stV aE.1 (aE.2+2) 1 aC.1).bind fun aF=>
 (zau b').bind fun aG=>
 (addr? aG).bind fun aH=>
 ((aF.ld aH.1 aH.2).bind (asI .i64)).bind fun aI=>
 let aJ:Int:=IntKind.wrap .i64 (aI+1)
 (zau b').bind fun aK=>
 (addr? aK).bind fun aL=>
 (aF.st aL.1 aL.2 [.int .i64 aJ]).bind fun aM=>
 (zau b').bind fun aN=>
 (addr? aN).bind fun aO=>
 ((aM.ld aO.1 aO.2).bind (asI .i64)).bind fun aP=>
 some (.bool (decide (aP≤2048)),aM))))
noncomputable abbrev zc8:zac:=lS Tryz.prog Lk0 Tryz.f43 zaC
theorem zih:Lk0.func 43=some (43,Tryz.f43):=by kernel_rfl
theorem zbK [Sym] (b':Value) (l':Value) (st:SS) {r:Value×SS} (h:zbJ cc zc8 b' l' st=some r):cc 43 [b',l'] st=some r:=
 zaf (li:=zaC) zai zar zih rfl (fun _=>rfl) (.trans (by kernel_rfl) h)
noncomputable def zbZ (cf:zan) (lf:zac) (b':Value) (field':ByteArray) (v':Value) (st:SS):Option (Value×SS):=
 let a:SS:=(st.ro st.next).new (.cells (v':Value).cells.toList 0)
 ((a.ld ((st.ro st.next).next) 0).bind asS).bind fun b=>
 cond (eqT b ⟨#[]⟩) (
 ((a.ld ((st.ro st.next).next) 1).bind (asI .i64)).bind fun c=>
 some (.tuple #[.int .i64 c,.bool true],st.adv a.next)) (
 (cf 117 [.string field'] (a.ro a.next)).bind fun d=>
 (((d.2.ro a.lim).ld ((st.ro st.next).next) 0).bind asS).bind fun e=>
 (cf 116 [d.1,.string e] (d.2.ro a.lim)).bind fun f=>
 ((some f.1).bind (asI .i64)).bind fun g=>
 cond (decide (0≤g)) (
 ((f.2.ld ((st.ro st.next).next) 1).bind (asI .i64)).bind fun h=>
 let i:Int:=IntKind.wrap .i64 (g+h)
 some (.tuple #[.int .i64 i,.bool true],st.adv f.2.next)) (
 (zau b').bind fun j=>
 (addr? j).bind fun k=>
 (f.2.ld k.1 (k.2+1)).bind fun l=>
 ((f.2.ld ((st.ro st.next).next) 0).bind asS).bind fun m=>
 (f.2.mapF l m).bind fun n=>
 ze9 n (
 ((f.2.ld ((st.ro st.next).next) 1).bind (asI .i64)).bind fun o=>
 let p:Int:=IntKind.wrap .i64 (0+o)
 some (.tuple #[.int .i64 p,.bool false],st.adv f.2.next)) (fun q=>
 ((zaq (.tuple #[q,.bool true]) 0).bind (asI .i64)).bind fun r=>
 ((f.2.ld ((st.ro st.next).next) 1).bind (asI .i64)).bind fun s=>
 let t:Int:=IntKind.wrap .i64 (r+s)
 some (.tuple #[.int .i64 t,.bool true],st.adv f.2.next))))
noncomputable abbrev zhH:zac:=lS Tryz.prog Lk0 Tryz.f99 zaC
theorem zhI:Lk0.func 99=some (99,Tryz.f99):=by kernel_rfl
theorem zb7 [Sym] (b':Value) (field':ByteArray) (v':Value) (st:SS) {r:Value×SS} (h:zbZ cc zhH b' field' v' st=some r):cc 99 [b',.string field',v'] st=some r:=
 zaf (li:=zaC) zai zar zhI rfl (fun _=>rfl) (.trans (by kernel_rfl) h)
def zeh:LoopI:=⟨[(0,.any),(4,.any),(6,.any),(13,.any),(14,.int .i64),(15,.int .i64)],[(.exit 0,[(4,.any),(6,.any)]),(.ret,[(4,.any),(5,.int .i64)])]⟩
def zeC (n:Nat):Option LoopI:=cond (Nat.beq n 3) (some zeh) (none)
noncomputable def zdL (cf:zan) (lf:zac) (b':Value) (l':Value) (st:SS):Option (Value×SS):=
 let a:SS:=(st.ro st.next).new (.cells (l':Value).cells.toList 0)
 let b:SS:=a.new (.cells [.int .i64 0,.int .i64 0,.int .i64 0,.int .i64 0,.int .i64 0,.int .i64 0,.int .i64 0,.int .i64 0,.int .i64 0,.int .i64 0,.int .i64 0,.int .i64 0] 0)
 let c:SS:=b.new (.cells [.int .i64 0,.int .i64 0,.int .i64 0,.int .i64 0,.int .i64 0,.int .i64 0,.int .i64 0,.int .i64 0,.int .i64 0,.int .i64 0,.int .i64 0,.int .i64 0] 0)
 (c.ld ((st.ro st.next).next) 4).bind fun d=>
 ((lenV d).bind (asI .i64)).bind fun e=>
 (lf 3 [b',ptr a.next 0,ptr b.next 0,d,.int .i64 e,.int .i64 0] c).bind fun f=>
 cond (Nat.beq f.1 0) (
 (f.2.1[0]?).bind fun g=>
 (f.2.1[1]?).bind fun h=>
 (addr? h).bind fun i=>
 (f.2.2.ldN i.1 i.2 12).bind fun j=>
 (addr? g).bind fun k=>
 (f.2.2.stV k.1 k.2 12 j).bind fun l=>
 (addr? g).bind fun m=>
 (l.rdN m.1 m.2 12).bind fun n=>
 cond (flat3 (.tuple #[n,.int .i64 0])) (some (.tuple #[n,.int .i64 0],st.adv l.next)) none) (
 (f.2.1[0]?).bind fun o=>
 ((f.2.1[1]?).bind (asI .i64)).bind fun p=>
 (addr? o).bind fun q=>
 (f.2.2.rdN q.1 q.2 12).bind fun r=>
 cond (flat3 (.tuple #[r,.int .i64 p])) (some (.tuple #[r,.int .i64 p],st.adv f.2.2.next)) none)
noncomputable abbrev zaM:zac:=lS Tryz.prog Lk0 Tryz.f72 zeC
theorem zhJ:Lk0.func 72=some (72,Tryz.f72):=by kernel_rfl
theorem zeD [Sym] (b':Value) (l':Value) (st:SS) {r:Value×SS} (h:zdL cc zaM b' l' st=some r):cc 72 [b',l'] st=some r:=
 zaf (li:=zeC) zai zar zhJ rfl (fun _=>rfl) (.trans (by kernel_rfl) h)
noncomputable def za8 (cf:zan) (lf:zac) (b':Value) (t4':Value) (w':Value) (t13':Value) (t14':Int) (t15':Int) (st:SS):Option (Nat×List Value×SS):=
 cond (decide (t15'<t14')) (
 (zaw t13' t15' 5).bind fun a=>
 (st.ldN a.1 a.2 5).bind fun b=>
 let c:SS:=st.new (.cells [.string ⟨#[]⟩,.int .i64 0,.string ⟨#[]⟩,.int .i64 0,.int .i64 0] 0)
 (c.stV st.next 0 5 b).bind fun d=>
 ((d.ld st.next 0).bind asS).bind fun e=>
 (cf 98 [.string e] d).bind fun f=>
 ((some f.1).bind (asI .i64)).bind fun g=>
 cond (decide (g=0)) (
 (addr? w').bind fun h=>
 (f.2.ldN h.1 h.2 12).bind fun i=>
 ((f.2.ld st.next 1).bind (asI .i64)).bind fun j=>
 cond (zbz (ptr st.next 1) t4') (
 (addr? t4').bind fun k=>
 (f.2.stV k.1 k.2 12 i).bind fun l=>
 some (1,[t4',.int .i64 j],l)) (
 none)) (
 ((f.2.ld st.next 0).bind asS).bind fun m=>
 (f.2.ldN st.next 2 3).bind fun n=>
 (cf 99 [b',.string m,n] f.2).bind fun o=>
 ((zaq o.1 0).bind (asI .i64)).bind fun p=>
 ((zaq o.1 1).bind asB).bind fun q=>
 (addr? w').bind fun r=>
 (o.2.ldN r.1 r.2 12).bind fun s=>
 ((o.2.ld st.next 0).bind asS).bind fun t=>
 (cf 100 [s,.string t,.int .i64 p] o.2).bind fun u=>
 (zaq u.1 0).bind fun v=>
 ((zaq u.1 1).bind (asI .i64)).bind fun w=>
 (addr? w').bind fun x=>
 (u.2.stV x.1 x.2 12 v).bind fun y=>
 cond (!q) (
 (addr? w').bind fun z=>
 (y.ldN z.1 z.2 12).bind fun A=>
 ((y.ld st.next 4).bind (asI .i64)).bind fun B=>
 cond (zbz (ptr st.next 4) t4') (
 (addr? t4').bind fun C=>
 (y.stV C.1 C.2 12 A).bind fun D=>
 some (1,[t4',.int .i64 B],D)) (
 none)) (
 cond (!(decide (w=0))) (
 (addr? w').bind fun E=>
 (y.ldN E.1 E.2 12).bind fun F=>
 ((y.ld st.next 4).bind (asI .i64)).bind fun G=>
 cond (zbz (ptr st.next 4) t4') (
 (addr? t4').bind fun H=>
 (y.stV H.1 H.2 12 F).bind fun I=>
 some (1,[t4',.int .i64 G],I)) (
 none)) (
 let J:Int:=IntKind.wrap .i64 (t15'+1)
 lf 3 [b',t4',w',t13',.int .i64 t14',.int .i64 J] y)))) (
 some (0,[t4',w'],st))
theorem zbb [Sym] (b':Value) (t4':Value) (w':Value) (t13':Value) (t14':Int) (t15':Int) (st:SS) {r:Nat×List Value×SS} (h:za8 cc zaM b' t4' w' t13' t14' t15' st=some r):zaM 3 [b',t4',w',t13',.int .i64 t14',.int .i64 t15'] st=some r:=
 zaA zai zar (key:=3) (I:=zeh) rfl (by kernel_rfl) (by kernel_rfl) rfl rfl (.trans (by kernel_rfl) h)
def zl7:LoopI:=⟨[(0,.any),(1,.str),(7,.int .i64),(8,.int .i64)],[(.exit 0,[]),(.ret,[(4,.int .i64)])]⟩
def znp (n:Nat):Option LoopI:=cond (Nat.beq n 2) (some zl7) (none)
noncomputable def zr1 (cf:zan) (lf:zac) (s':Value) (v':ByteArray) (st:SS):Option (Value×SS):=
 ((lenV s').bind (asI .i64)).bind fun a=>
 (lf 2 [s',.string v',.int .i64 a,.int .i64 0] (st.ro st.next)).bind fun b=>
 cond (Nat.beq b.1 0) (
 some (.int .i64 (-1),st.adv b.2.2.next)) (
 ((b.2.1[0]?).bind (asI .i64)).bind fun c=>
 some (.int .i64 c,st.adv b.2.2.next))
noncomputable abbrev zf0:zac:=lS Tryz.prog Lk0 Tryz.f116 znp
theorem zr2:Lk0.func 116=some (116,Tryz.f116):=by kernel_rfl
theorem zr3 [Sym] (s':Value) (v':ByteArray) (st:SS) {r:Value×SS} (h:zr1 cc zf0 s' v' st=some r):cc 116 [s',.string v'] st=some r:=
 zaf (li:=znp) zai zar zr2 rfl (fun _=>rfl) (.trans (by kernel_rfl) h)
noncomputable def zhm (cf:zan) (lf:zac) (s':Value) (v':ByteArray) (t7':Int) (t8':Int) (st:SS):Option (Nat×List Value×SS):=
 cond (decide (t8'<t7')) (
 (zaw s' t8' 1).bind fun a=>
 ((st.ld a.1 a.2).bind asS).bind fun b=>
 cond (eqT v' b) (
 some (1,[.int .i64 t8'],st)) (
 let c:Int:=IntKind.wrap .i64 (t8'+1)
 lf 2 [s',.string v',.int .i64 t7',.int .i64 c] st)) (
 some (0,[],st))
theorem zjR [Sym] (s':Value) (v':ByteArray) (t7':Int) (t8':Int) (st:SS) {r:Nat×List Value×SS} (h:zhm cc zf0 s' v' t7' t8' st=some r):zf0 2 [s',.string v',.int .i64 t7',.int .i64 t8'] st=some r:=
 zaA zai zar (key:=2) (I:=zl7) rfl (by kernel_rfl) (by kernel_rfl) rfl rfl (.trans (by kernel_rfl) h)
noncomputable def zmS (cf:zan) (lf:zac) (s':Value) (q':Nat) (st:SS):Option (Value×SS):=
 (cf 114 [s',.func (.func 97) #[] #[ptr q' 0]] (st.ro st.next)).bind fun a=>
 ((some a.1).bind (asI .i64)).bind fun b=>
 some (.bool (decide (0≤b)),st.adv a.2.next)
noncomputable abbrev zqG:zac:=lS Tryz.prog Lk0 Tryz.f96 zaC
theorem zqH:Lk0.func 96=some (96,Tryz.f96):=by kernel_rfl
theorem zqI [Sym] (s':Value) (q':Nat) (st:SS) {r:Value×SS} (h:zmS cc zqG s' q' st=some r):cc 96 [s',.func (.func 97) #[] #[ptr q' 0]] st=some r:=
 zaf (li:=zaC) zai zar zqH rfl (fun _=>rfl) (.trans (by kernel_rfl) h)
def zl8:LoopI:=⟨[(0,.any),(1,.any),(7,.int .i64),(8,.int .i64)],[(.exit 0,[]),(.ret,[(4,.int .i64)])]⟩
def znq (n:Nat):Option LoopI:=cond (Nat.beq n 2) (some zl8) (none)
noncomputable def zoO (cf:zan) (lf:zac) (s':Value) (q':Nat) (st:SS):Option (Value×SS):=
 ((lenV s').bind (asI .i64)).bind fun a=>
 (lf 2 [s',.func (.func 97) #[] #[ptr q' 0],.int .i64 a,.int .i64 0] (st.ro st.next)).bind fun b=>
 cond (Nat.beq b.1 0) (
 some (.int .i64 (-1),st.adv b.2.2.next)) (
 ((b.2.1[0]?).bind (asI .i64)).bind fun c=>
 some (.int .i64 c,st.adv b.2.2.next))
noncomputable abbrev zf1:zac:=lS Tryz.prog Lk0 Tryz.f114 znq
theorem zr4:Lk0.func 114=some (114,Tryz.f114):=by kernel_rfl
theorem znr [Sym] (s':Value) (q':Nat) (st:SS) {r:Value×SS} (h:zoO cc zf1 s' q' st=some r):cc 114 [s',.func (.func 97) #[] #[ptr q' 0]] st=some r:=
 zaf (li:=znq) zai zar zr4 rfl (fun _=>rfl) (.trans (by kernel_rfl) h)
noncomputable def zhn (cf:zan) (lf:zac) (s':Value) (q':Nat) (t7':Int) (t8':Int) (st:SS):Option (Nat×List Value×SS):=
 cond (decide (t8'<t7')) (
 (zaw s' t8' 3).bind fun a=>
 (st.ldN a.1 a.2 3).bind fun b=>
 (cf 97 [b,ptr q' 0] st).bind fun c=>
 ((some c.1).bind asB).bind fun d=>
 cond d (
 some (1,[.int .i64 t8'],c.2)) (
 let e:Int:=IntKind.wrap .i64 (t8'+1)
 lf 2 [s',.func (.func 97) #[] #[ptr q' 0],.int .i64 t7',.int .i64 e] c.2)) (
 some (0,[],st))
theorem zg0 [Sym] (s':Value) (q':Nat) (t7':Int) (t8':Int) (st:SS) {r:Nat×List Value×SS} (h:zhn cc zf1 s' q' t7' t8' st=some r):zf1 2 [s',.func (.func 97) #[] #[ptr q' 0],.int .i64 t7',.int .i64 t8'] st=some r:=
 zaA zai zar (key:=2) (I:=zl8) rfl (by kernel_rfl) (by kernel_rfl) rfl rfl (.trans (by kernel_rfl) h)
noncomputable def valEq (cf:zan) (lf:zac) (v':Value) (x1':Value) (st:SS):Option (Value×SS):=
 let a:SS:=(st.ro st.next).new (.cells (v':Value).cells.toList 0)
 ((a.ld ((st.ro st.next).next) 0).bind asS).bind fun b=>
 (addr? x1').bind fun c=>
 ((a.ld c.1 c.2).bind asS).bind fun d=>
 some (.bool (eqT b d),st.adv a.next)
noncomputable abbrev zs7:zac:=lS Tryz.prog Lk0 Tryz.f97 zaC
theorem zs8:Lk0.func 97=some (97,Tryz.f97):=by kernel_rfl
theorem zs9 [Sym] (v':Value) (x1':Value) (st:SS) {r:Value×SS} (h:valEq cc zs7 v' x1' st=some r):cc 97 [v',x1'] st=some r:=
 zaf (li:=zaC) zai zar zs8 rfl (fun _=>rfl) (.trans (by kernel_rfl) h)
end Go.Proofs.YtifploedaacedaaGreatDoorE
namespace Go.Proofs.YtifploedaacedaaGreatDoorE
open Go Go.E Go.Proofs
abbrev Nms:=List (List UInt8×Int)
def zbT (l:Nms) (n:List UInt8):Option Int:=(l.find? fun x=>decide (n=x.1)).map (·.2)
structure Lay where
 pl:Nat
 nms:Nms
 wds:List (Nat×PLine)
 ents:List (Val×Nat×Nat)
def Lay.define (l:Lay) (n:List UInt8) (x:Int):Option Lay:=if (zbT l.nms n).isSome=true∨n=[] then none else some { l with nms:=l.nms++[(n,x)] }
def zcA (l:Lay) (x:PLine):Option Lay:=match x.args with
 | []=>none
 | v::r=>
   if x.dir=[111,114,103] then (if v.nm=[]∧r=[]∧(l.pl:Int)≤v.x∧v.x≤2048 then some { l with pl:=v.x.toNat } else none)
   else if x.dir=[97,108,105,103,110] then (if v.nm=[]∧r=[]∧1≤v.x∧v.x≤2048∧(l.pl+v.x.toNat-1)/v.x.toNat*v.x.toNat≤2048 then some { l with pl:=(l.pl+v.x.toNat-1)/v.x.toNat*v.x.toNat } else none)
   else if x.dir=[115,101,116] then (match r with
    | [y]=>if v.nm≠[]∧v.x=0∧y.nm=[] then l.define v.nm y.x else none
    | _=>none)
   else if x.dir=[101,110,116,114,121] then (if v.nm≠[]∧r=[]∧v.x=0∧(l.ents.any fun e=>decide (e.1.nm=v.nm))=false then some { l with ents:=l.ents++[(v,x.ln,v.col)] } else none)
   else none
def zgw (l:Lay) (x:PLine):Option Lay:=
 (if x.lab=[] then some l else l.define x.lab l.pl).bind fun l=>
 if x.dir≠[] then zcA l x
 else if x.prs=[] then some l
 else if l.pl+1≤2048 then some { l with pl:=l.pl+1,wds:=l.wds++[(l.pl,x)] } else none
def zf5 (l:Nms) (f:List UInt8) (v:Val):Option Int:=
 if v.nm=[] then some v.x else
 if 0≤inT (namesT f) v.nm then some (inT (namesT f) v.nm+v.x) else (zbT l v.nm).map (·+v.x)
def za3 (l:Nms) (w:Wd):List Pr→Wd×Nat
 | []=>(w,0)
 | p::r=>if zgu p.fd=0 then (w,p.col) else match zf5 l p.fd p.v with
   | none=>(w,p.v.col)
   | some x=>if (zbM w p.fd x).2=0 then za3 l (zbM w p.fd x).1 r else (w,p.v.col)
def nmM (l:Nms):List (ByteArray×Value):=l.map fun x=>(mkS x.1,.int .i64 x.2)
theorem zk7 (l:Nms) (k:List UInt8):zdO (mkS k) (nmM l)=(zbT l k).map (.int .i64):=by
 induction l with
 | nil=>rfl
 | cons x r ih=>
   show cond (eqT (mkS k) (mkS x.1)) _ (zdO (mkS k) (nmM r))=_
   unfold zbT
   rw [ze1,List.find?_cons]
   by_cases h:k=x.1
   ·rw [zdt h];rfl
   ·rw [zdf h]
    exact ih
theorem zuj (l:Nms) (k:List UInt8) (x:Int) (h:zbT l k=none):zeI (mkS k) (.int .i64 x) (nmM l)=nmM (l++[(k,x)]):=by
 induction l with
 | nil=>rfl
 | cons y r ih=>
   unfold zbT at h
   rw [List.find?_cons] at h
   show cond (eqT (mkS k) (mkS y.1)) _ _=_
   rw [ze1]
   by_cases hk:k=y.1
   ·rw [zdt hk] at h;cases h
   ·rw [zdf hk] at h ⊢
    show (mkS y.1,Value.int .i64 y.2)::zeI (mkS k) (.int .i64 x) (nmM r)=_
    rw [ih h];rfl
theorem define_ok [Sym] (b i:Nat) (p vw ve vv:Value) (l:Nms) (n:List UInt8) (x:Int) (st:SS) (hb:At st b [p,.map (some i),vw,ve,vv]) (hi:st.mem.get i=some (.map (nmM l))) (hlt:i<st.next) (hlim:st.lim≤i):
  (if (zbT l n).isSome=true∨n=[] then cc 70 [ptr b 0,.string (mkS n),.int .i64 x] st=some (.bool false,st)
   else ∃ st',cc 70 [ptr b 0,.string (mkS n),.int .i64 x] st=some (.bool true,st')∧Mod [i] st st'∧st'.next=st.next∧st'.mem.get i=some (.map (nmM (l++[(n,x)])))):=by
 have h1:zau (ptr b 0)=some (ptr b 0):=rfl
 have l1:st.ld b (0+1)=some (.map (some i)):=hb.ld
 have m1:st.mapF (.map (some i)) (mkS n)=some ((zbT l n).map (.int .i64)):=by
  unfold SS.mapF
  simp only [hi,zob,zk7]
 cases hf:zbT l n with
 | some y=>
   rw [hf] at m1
   rw [if_pos (.inl rfl)]
   refine zc1 _ _ _ st ?_
   simp only [zcI,h1,zob,zad,l1,m1,Option.map_some,ze9]
   rfl
 | none=>
   rw [hf] at m1
   by_cases hn:n=[]
   ·subst hn
    rw [if_pos (.inr rfl)]
    have he:eqT (mkS []) ⟨#[]⟩=true:=rfl
    refine zc1 _ _ _ st ?_
    simp only [zcI,h1,zob,zad,l1,m1,Option.map_none,ze9,he,zct]
   ·rw [if_neg (by rintro (h | h);cases h;exact hn h)]
    have he:eqT (mkS n) ⟨#[]⟩=false:=by rw [zd9];exact zdf hn
    have m2:st.mapP (.map (some i)) (mkS n) (.int .i64 x)=some (st.set i (some (.map (nmM (l++[(n,x)]))))):=by
     unfold SS.mapP
     have:Nat.ble st.lim i=true:=by rwa [Nat.ble_eq]
     simp only [this,zct,hi,zob,zuj l n x hf]
    refine ⟨st.set i (some (.map (nmM (l++[(n,x)])))),zc1 _ _ _ st ?_,⟨zlr _,rfl,fun j hj hS=>SS.set_old (by simpa using hS)⟩,rfl,by simp⟩
    simp only [zcI,h1,zob,zad,l1,m1,Option.map_none,ze9,he,zcf,m2]
end Go.Proofs.YtifploedaacedaaGreatDoorE
namespace Go.Proofs.YtifploedaacedaaGreatDoorE
open Go Go.E Go.Proofs
theorem zr5 [Sym] (l:List (List UInt8)) (hl:l.length≤1099511627776) (s:ByteArray) (v:Value) (st:SS) (hv:Rd st v (strs l) 1 l.length):∀ (r:List (List UInt8)) (i:Nat),l.drop i=r→i≤l.length→
  zf0 2 [v,.string s,.int .i64 l.length,.int .i64 i] st=some (match r.findIdx? (fun x=>decide (x=bl s)) with | none=>(0,[],st) | some k=>(1,[.int .i64 ((i+k:Nat):Int)],st)):=by
 intro r
 induction r with
 | nil=>
   intro i hd hi
   have hlen:=congrArg List.length hd
   rw [List.length_drop] at hlen
   have h:¬ (i:Int)<(l.length:Int):=by simp at hlen;omega
   refine zjR _ _ _ _ st ?_
   simp only [zhm,zdf h,zcf,List.findIdx?_nil]
 | cons p r ih=>
   intro i hd hi
   have hlen:=congrArg List.length hd
   rw [List.length_drop,List.length_cons] at hlen
   have h:(i:Int)<(l.length:Int):=by omega
   have hgp:l[i]?=some p:=by
    have:=List.getElem?_drop (xs:=l) (i:=i) (j:=0)
    rw [hd] at this
    simpa using this.symm
   have hd':l.drop (i+1)=r:=by rw [← List.drop_drop,hd];rfl
   obtain ⟨q,b1,_,b3⟩:=hv.load (j:=(i:Int)) (by omega) h (strs_get _ i p hgp) rfl
   have b3':st.ld q.1 q.2=some (.string (mkS p)):=by simpa using b3 0 (by omega)
   refine zjR _ _ _ _ st ?_
   have hw:=zba (i:=i) (by omega)
   by_cases hp:p=bl s
   ·have he:eqT s (mkS p)=true:=by rw [zeN,zbO];exact zdt hp.symm
    simp only [zhm,zdt h,zct,b1,b3',zob,zab,he,List.findIdx?_cons,zdt hp,if_true]
    rfl
   ·have he:eqT s (mkS p)=false:=by rw [zeN,zbO];exact zdf (fun h=>hp h.symm)
    have:=ih (i+1) hd' (by omega)
    simp only [zhm,zdt h,zct,b1,b3',zob,zab,he,zcf,hw,List.findIdx?_cons,zdf hp]
    rw [this]
    cases r.findIdx? (fun x=>decide (x=bl s)) with
    | none=>rfl
    | some k=>simp;omega
theorem zuk [Sym] (l:List (List UInt8)) (hl:l.length≤1099511627776) (s:ByteArray) (v:Value) (st:SS) (hv:Rd st v (strs l) 1 l.length):cc 116 [v,.string s] st=some (.int .i64 (inT l (bl s)),st.adv st.next):=by
 have h:=zr5 l hl s v (st.ro st.next) hv l 0 rfl (Nat.zero_le _)
 have h':zf0 2 [v,.string s,.int .i64 l.length,.int .i64 0] (st.ro st.next)=_:=h
 refine zr3 v s st ?_
 simp only [zr1,hv.len,zob,zaa]
 rw [h',zob]
 unfold inT
 cases l.findIdx? (fun x=>decide (x=bl s)) with
 | none=>rfl
 | some k=>simp
theorem zl9 (f:List UInt8):(namesT f).length≤64:=by
 unfold namesT
 repeat' split
 all_goals decide+kernel
theorem inT_le (l:List (List UInt8)) (s:List UInt8): -1≤inT l s∧inT l s≤l.length:=by
 unfold inT
 cases h:l.findIdx? (fun x=>decide (x=s)) with
 | none=>simp
 | some k=>
   have:=(List.findIdx?_eq_some_iff_getElem.1 h).1
   simp only
   omega
def NmsOk (l:Nms):Prop:=∀ x∈l, -4294967296≤x.2∧x.2≤4294967296
theorem zr6 {l:Nms} {n:List UInt8} {x:Int} (h:zbT l n=some x):∃ y∈l,y.2=x:=by
 unfold zbT at h
 simp only [zmi] at h
 obtain ⟨y,hy,rfl⟩:=h
 exact ⟨y,List.mem_of_find?_eq_some hy,rfl⟩
def numR:Option Int→Int→Value
 | some x,_=>.tuple #[.int .i64 x,.bool true]
 | none,y=>.tuple #[.int .i64 y,.bool false]
theorem zqJ [Sym] (b i:Nat) (p vw ve vv:Value) (l:Nms) (hl:NmsOk l) (f:List UInt8) (v:Val) (h0: -4294967296≤v.x) (h1:v.x≤4294967296) (st:SS) (hg:Gd st) (hb:st.mem.get b=some (.cells [p,.map (some i),vw,ve,vv] 0)) (hbl:b<st.next) (hi:st.mem.get i=some (.map (nmM l))) (hlt:i<st.next):
  ∃ n,st.next≤n∧cc 99 [ptr b 0,.string (mkS f),.agg (valRow v).toArray] st=some (numR (zf5 l f v) v.x,st.adv n):=by
 have x1:Ext (st.ro st.next) ((st.ro st.next).new (.cells (valRow v) 0)):=(Ext.refl _).new _
 have hm:((st.ro st.next).new (.cells (valRow v) 0)).mem.get st.next=some (.cells (valRow v) 0):=SS.new_get (st:=st.ro st.next)
 have l0:((st.ro st.next).new (.cells (valRow v) 0)).ld st.next 0=some (.string (mkS v.nm)):=by rw [SS.ld_cells hm];rfl
 have l1:((st.ro st.next).new (.cells (valRow v) 0)).ld st.next 1=some (.int .i64 v.x):=by rw [SS.ld_cells hm];rfl
 have hn:eqT (mkS v.nm) ⟨#[]⟩=decide (v.nm=[]):=zd9 _
 by_cases hnm:v.nm=[]
 ·have hs:zf5 l f v=some v.x:=by unfold zf5;rw [if_pos hnm]
  rw [hs]
  rw [zdt hnm] at hn
  refine ⟨st.next+1,by omega,zb7 _ _ _ st ?_⟩
  simp only [zbZ,zaF,SS.ro_next,l0,l1,zob,zab,hn,zct,zaa]
  rfl
 ·rw [zdf hnm] at hn
  have g1:Gd ((st.ro st.next).new (.cells (valRow v) 0)):=(hg.ro (n:=st.next)).ext x1
  generalize hs1:(st.ro st.next).new (.cells (valRow v) 0)=s1 at*
  have hn1:s1.next=st.next+1:=by rw [← hs1];rfl
  obtain ⟨v4,s4,c4,x4,o4⟩:=zsZ (mkS f) (s1.ro s1.next) g1.ro (zlr _)
  have x4':Ext s1 (s4.ro s1.lim):=⟨x4.next,rfl,fun j hj=>x4.keep j hj⟩
  have r4:Rd (s4.ro s1.lim) v4 (strs (namesT f)) 1 (namesT f).length:=o4.rd
  have l5:(s4.ro s1.lim).ld st.next 0=some (.string (mkS v.nm)):=by rw [SS.ld_cells (x4'.get (by omega) hm)];rfl
  have c6:=zuk (namesT f) (by have:=zl9 f;omega) (mkS v.nm) v4 (s4.ro s1.lim) r4
  have x6:Ext (s4.ro s1.lim) ((s4.ro s1.lim).adv (s4.ro s1.lim).next):=(Ext.refl _).adv (zlr _)
  have hin:=inT_le (namesT f) v.nm
  have hnl:=zl9 f
  have hs5:∀ k:Nat,k<s1.next→((s4.ro s1.lim).adv (s4.ro s1.lim).next).mem.get k=s1.mem.get k:=fun k hk=>(x4'.trans x6).keep k hk
  generalize hs6:(s4.ro s1.lim).adv (s4.ro s1.lim).next=s6 at*
  have hnx:st.next≤s6.next:=by rw [← hs6];have:=x4.next;simp at this ⊢;omega
  have hm6:s6.mem.get st.next=some (.cells (valRow v) 0):=(hs5 st.next (by omega)).trans hm
  have l60:s6.ld st.next 0=some (.string (mkS v.nm)):=by rw [SS.ld_cells hm6];rfl
  have l61:s6.ld st.next 1=some (.int .i64 v.x):=by rw [SS.ld_cells hm6];rfl
  by_cases hk:0≤inT (namesT f) v.nm
  ·have hs:zf5 l f v=some (inT (namesT f) v.nm+v.x):=by unfold zf5;rw [if_neg hnm,if_pos hk]
   rw [hs]
   have hw:IntKind.wrap .i64 (inT (namesT f) v.nm+v.x)=inT (namesT f) v.nm+v.x:=wrap64 (by omega) (by omega)
   refine ⟨s6.next,hnx,zb7 _ _ _ st ?_⟩
   simp only [zbZ,zaF,SS.ro_next,hs1,l0,zob,zab,hn,zcf,c4,l5,c6,zbO,zaa,zdt hk,zct,l61,hw]
   rfl
  ·have hs:zf5 l f v=(zbT l v.nm).map (·+v.x):=by unfold zf5;rw [if_neg hnm,if_neg hk]
   rw [hs]
   have hold:∀ k:Nat,k<st.next→s6.mem.get k=st.mem.get k:=fun k hk=>by
    rw [hs5 k (by omega),← hs1,SS.new_old (by show k≠st.next;omega)];rfl
   have hnl:zau (ptr b 0)=some (ptr b 0):=rfl
   have l7:s6.ld b (0+1)=some (.map (some i)):=by rw [SS.ld_cells ((hold b hbl).trans hb)];rfl
   have m7:s6.mapF (.map (some i)) (mkS v.nm)=some ((zbT l v.nm).map (.int .i64)):=by
    unfold SS.mapF
    simp only [(hold i hlt).trans hi,zob,zk7]
   cases hf:zbT l v.nm with
   | none=>
     rw [hf] at m7
     have hw:IntKind.wrap .i64 (0+v.x)=v.x:=by rw [Int.zero_add];exact wrap64 (by omega) (by omega)
     refine ⟨s6.next,hnx,zb7 _ _ _ st ?_⟩
     simp only [zbZ,zaF,SS.ro_next,hs1,l0,zob,zab,hn,zcf,c4,l5,c6,zbO,zaa,zdf hk,hnl,zad,l7,l60,l61,m7,Option.map_none,ze9,hw]
     rfl
   | some y=>
     rw [hf] at m7
     obtain ⟨z,hz,hzy⟩:=zr6 hf
     have hb':=hl z hz
     rw [hzy] at hb'
     have hw:IntKind.wrap .i64 (y+v.x)=y+v.x:=wrap64 (by omega) (by omega)
     have ht:(zaq (.tuple #[.int .i64 y,.bool true]) 0).bind (asI .i64)=some y:=rfl
     refine ⟨s6.next,hnx,zb7 _ _ _ st ?_⟩
     simp only [zbZ,zaF,SS.ro_next,hs1,l0,zob,zab,hn,zcf,c4,l5,c6,zbO,zaa,zdf hk,hnl,zad,l7,l60,l61,m7,Option.map_some,ze9,ht,hw]
     rfl
end Go.Proofs.YtifploedaacedaaGreatDoorE
namespace Go.Proofs.YtifploedaacedaaGreatDoorE
open Go Go.E Go.Proofs
theorem zcB {i j k k':Nat} (h:i≠j):zbz (ptr i k) (ptr j k')=true:=by
 show (!Nat.beq i j)=true
 rw [zax,zdf h];rfl
theorem zay {a b c:SS} {i:Nat} (h:Ext a b) (m:Mod [i] b c) (hi:a.next≤i):Ext a c:=((Mod.ofExt (S:=[i]) h).then m).fresh fun j hj=>by
 have:j=i:=by simpa using hj
 omega
theorem At.setW {st:SS} {b:Nat} {row:List Value} (h:At st b row) (hr:row.length=12) (w:Wd) (hw:w.length=12):∃ st',st.stV b 0 12 (wV w)=some st'∧At st' b (wRow w)∧Mod [b] st st':=by
 obtain ⟨s',e,a,m,_⟩:=h.stV (k:=0) (n:=12) (v:=wV w) (zaF _) (by rw [zaW,hw]) (zfE w) (row':=wRow w) (by rw [zbs (by rw [zaW,hw,hr];exact zlr 12)];simp [zaW,hw,hr])
 exact ⟨s',e,a,m⟩
def zqK (prs:List Pr):Prop:=prs.length≤1099511627776∧∀ p∈prs,0<p.col∧0<p.v.col∧ -4294967296≤p.v.x∧p.v.x≤4294967296
theorem zk8 (l:Nms):∀ (prs:List Pr) (w:Wd),(za3 l w prs).1.length=w.length
 | [],w=>rfl
 | p::r,w=>by
   unfold za3
   split
   ·rfl
   ·split
    ·rfl
    ·split
     ·rw [zk8 l r,zc0]
     ·rfl
theorem zta [Sym] (l:Nms) (hl:NmsOk l) (prs:List Pr) (hprs:zqK prs) (b i t4 wb:Nat) (p vw ve vv v:Value) (st0:SS) (hg:Gd st0) (hb:st0.mem.get b=some (.cells [p,.map (some i),vw,ve,vv] 0)) (hbl:b<st0.next) (hi:st0.mem.get i=some (.map (nmM l))) (hlt:i<st0.next)
  (hv:Rd st0 v (rowsF prRow prs) 5 prs.length) (hne:t4≠wb) (h4:st0.next≤t4) (hw0:st0.next≤wb):∀ (k j:Nat) (w:Wd) (st:SS),prs.length=k+j→w.length=12→Ext st0 st→st.lim≤st0.next→At st wb (wRow w)→At st t4 Z12→
  ∃ st',Ext st0 st'∧((za3 l w (prs.drop j)).2=0∧zaM 3 [ptr b 0,ptr t4 0,ptr wb 0,v,.int .i64 prs.length,.int .i64 j] st=some (0,[ptr t4 0,ptr wb 0],st')∧At st' wb (wRow (za3 l w (prs.drop j)).1)∧At st' t4 Z12∨
   0<(za3 l w (prs.drop j)).2∧zaM 3 [ptr b 0,ptr t4 0,ptr wb 0,v,.int .i64 prs.length,.int .i64 j] st=some (1,[ptr t4 0,.int .i64 (za3 l w (prs.drop j)).2],st')∧∃ u:Wd,u.length=12∧At st' t4 (wRow u)):=by
 intro k
 induction k with
 | zero=>
   intro j w st hk hw he hlm aw a4
   have h:¬ (j:Int)<(prs.length:Int):=by omega
   rw [List.drop_of_length_le (by omega)]
   refine ⟨st,he,.inl ⟨rfl,zbb _ _ _ _ _ _ st ?_,aw,a4⟩⟩
   simp only [za8,zdf h,zcf]
 | succ k ih=>
   intro j w st hk hw he hlm aw a4
   have h:(j:Int)<(prs.length:Int):=by omega
   obtain ⟨q,hq⟩:∃ q,prs[j]?=some q:=⟨_,zge (by omega)⟩
   obtain ⟨x,b1,b2,_⟩:=(hv.ext he).load (j:=(j:Int)) (by omega) h (zbt znn prs j q hq) rfl
   have b2':st.ldN x.1 x.2 5=some (.agg (prRow q).toArray):=b2
   obtain ⟨q1,q2,q3,q4⟩:=hprs.2 q (zmg hq)
   have hlmn:st.lim≤st.next:=zlt hlm he.next
   obtain ⟨s4,e4,a5,x4,n4⟩:=zbk (st:=st) hlmn (r:=prRow ⟨[],0,⟨[],0,0⟩⟩) (row:=prRow q) (v:=.agg (prRow q).toArray) (zaF _) rfl rfl rfl
   have e4':(st.new (.cells [.string ⟨#[]⟩,.int .i64 0,.string ⟨#[]⟩,.int .i64 0,.int .i64 0] 0)).stV st.next 0 5 (.agg (prRow q).toArray)=some s4:=e4
   have he4:Ext st0 s4:=he.trans x4
   obtain ⟨n6,hn6,c6⟩:=zuf q.fd s4 (hg.ext he4)
   have x6:Ext s4 (s4.adv n6):=(Ext.refl _).adv hn6
   have he6:=he4.trans x6
   have a56:=a5.ext x6
   have aw6:=(aw.ext x4).ext x6
   have a46:=(a4.ext x4).ext x6
   have l0:s4.ld st.next 0=some (.string (mkS q.fd)):=a5.ld
   have hd:=drop_cons hq
   have hE:za3 l w (prs.drop j)=if zgu q.fd=0 then (w,q.col) else match zf5 l q.fd q.v with
    | none=>(w,q.v.col)
    | some x=>if (zbM w q.fd x).2=0 then za3 l (zbM w q.fd x).1 (prs.drop (j+1)) else (w,q.v.col):=by rw [hd];rfl
   have hpne:st.next≠t4:=by have:=a4.lt;omega
   by_cases hbt:zgu q.fd=0
   ·rw [if_pos hbt] at hE
    rw [hE]
    have hz:((zgu q.fd:Nat):Int)=0:=by omega
    obtain ⟨s12,e12,a12,m12⟩:=At.setW a46 rfl w hw
    have l9:=aw6.ldN (n:=12) (by rw [zaW,hw])
    have l9':(s4.adv n6).ldN wb 0 12=some (wV w):=l9
    have l10:(s4.adv n6).ld st.next 1=some (.int .i64 q.col):=a56.ld
    refine ⟨s12,zay he6 m12 h4,.inr ⟨q1,zbb _ _ _ _ _ _ st ?_,w,hw,a12⟩⟩
    simp only [za8,zdt h,zct,b1,b2',e4',l0,c6,zob,zab,zaa,zdt hz,zad,l9',l10,zcB hpne,e12]
   ·rw [if_neg hbt] at hE
    have hz:¬ ((zgu q.fd:Nat):Int)=0:=by omega
    have l13:(s4.adv n6).ld st.next 0=some (.string (mkS q.fd)):=a56.ld
    have l14:(s4.adv n6).ldN st.next 2 3=some (.agg (valRow q.v).toArray):=a56.ldC rfl
    obtain ⟨n15,hn15,c15⟩:=zqJ b i p vw ve vv l hl q.fd q.v q3 q4 (s4.adv n6) (hg.ext he6) (he6.get hbl hb) (zll hbl he6.next) (he6.get hlt hi) (zll hlt he6.next)
    have x15:Ext (s4.adv n6) ((s4.adv n6).adv n15):=(Ext.refl _).adv hn15
    have he15:=he6.trans x15
    have a515:=a56.ext x15
    have aw15:=aw6.ext x15
    have a415:=a46.ext x15
    have l19:((s4.adv n6).adv n15).ldN wb 0 12=some (wV w):=aw15.ldN (by rw [zaW,hw])
    have l20:((s4.adv n6).adv n15).ld st.next 0=some (.string (mkS q.fd)):=a515.ld
    have step:∀ (y:Int),∃ n21 s25,((s4.adv n6).adv n15).next≤n21∧cc 100 [wV w,.string (mkS q.fd),.int .i64 y] ((s4.adv n6).adv n15)=some (.tuple #[wV (zbM w q.fd y).1,.int .i64 (zbM w q.fd y).2],((s4.adv n6).adv n15).adv n21)∧
      (((s4.adv n6).adv n15).adv n21).stV wb 0 12 (wV (zbM w q.fd y).1)=some s25∧Ext st0 s25∧At s25 wb (wRow (zbM w q.fd y).1)∧At s25 t4 Z12∧s25.ld st.next 4=some (.int .i64 q.v.col)∧s25.lim≤st0.next:=by
     intro y
     obtain ⟨n21,hn21,c21⟩:=set_ok w hw q.fd y ((s4.adv n6).adv n15) (hg.ext he15)
     have x21:Ext ((s4.adv n6).adv n15) (((s4.adv n6).adv n15).adv n21):=(Ext.refl _).adv hn21
     obtain ⟨s25,e25,a25,m25⟩:=At.setW (aw15.ext x21) (by rw [zaW,hw]) (zbM w q.fd y).1 (by rw [zc0,hw])
     have hpw:st.next≠wb:=by have:=aw.lt;omega
     have a55:=(a515.ext x21).mod m25 (by simpa using hpw)
     have hx25:Ext st0 s25:=zay (he15.trans x21) m25 hw0
     exact ⟨n21,s25,hn21,c21,e25,hx25,a25,(a415.ext x21).mod m25 (by simpa using hne),a55.ld,by rw [hx25.lim,← he.lim];exact hlm⟩
    have ht0:∀ (a:Value) (z:Int),zaq (.tuple #[a,.int .i64 z]) 0=some a:=fun _ _=>rfl
    have ht1:∀ (a:Value) (z:Int),(zaq (.tuple #[a,.int .i64 z]) 1).bind (asI .i64)=some z:=fun _ _=>rfl
    have hn0:∀ (y:Int) (c:Bool),(zaq (.tuple #[.int .i64 y,.bool c]) 0).bind (asI .i64)=some y:=fun _ _=>rfl
    have hn1:∀ (y:Int) (c:Bool),(zaq (.tuple #[.int .i64 y,.bool c]) 1).bind asB=some c:=fun _ _=>rfl
    cases hnum:zf5 l q.fd q.v with
    | none=>
      rw [hnum] at hE c15
      rw [hE]
      obtain ⟨n21,s25,hn21,c21,e25,hx25,aw25,a425,l28,hlm25⟩:=step q.v.x
      obtain ⟨s30,e30,a30,m30⟩:=At.setW a425 rfl (zbM w q.fd q.v.x).1 (by rw [zc0,hw])
      have l27:s25.ldN wb 0 12=some (wV (zbM w q.fd q.v.x).1):=aw25.ldN (by rw [zaW,zc0,hw])
      refine ⟨s30,zay hx25 m30 h4,.inr ⟨q2,zbb _ _ _ _ _ _ st ?_,_,by rw [zc0,hw],a30⟩⟩
      have c15':cc 99 [ptr b 0,.string (mkS q.fd),.agg (valRow q.v).toArray] (s4.adv n6)=some (.tuple #[.int .i64 q.v.x,.bool false],(s4.adv n6).adv n15):=c15
      simp only [za8,zdt h,zct,b1,b2',e4',l0,c6,zob,zab,zaa,zdf hz,zcf,l13,l14,c15',hn0,hn1,zad,l19,l20,c21,ht0,ht1,e25,znf,l27,l28,zcB hpne,e30]
    | some y=>
      rw [hnum] at hE c15
      simp only at hE
      obtain ⟨n21,s25,hn21,c21,e25,hx25,aw25,a425,l28,hlm25⟩:=step y
      have c15':cc 99 [ptr b 0,.string (mkS q.fd),.agg (valRow q.v).toArray] (s4.adv n6)=some (.tuple #[.int .i64 y,.bool true],(s4.adv n6).adv n15):=c15
      have hw1:=zba (i:=j) (by have:=hprs.1;omega)
      by_cases hs:(zbM w q.fd y).2=0
      ·rw [if_pos hs] at hE
       rw [hE]
       obtain ⟨s',f1,f2⟩:=ih (j+1) (zbM w q.fd y).1 s25 (by omega) (by rw [zc0,hw]) hx25 hlm25 aw25 a425
       have go:∀ r,zaM 3 [ptr b 0,ptr t4 0,ptr wb 0,v,.int .i64 prs.length,.int .i64 ((j+1:Nat):Int)] s25=some r→zaM 3 [ptr b 0,ptr t4 0,ptr wb 0,v,.int .i64 prs.length,.int .i64 j] st=some r:=fun r hr=>by
        refine zbb _ _ _ _ _ _ st ?_
        simp only [za8,zdt h,zct,b1,b2',e4',l0,c6,zob,zab,zaa,zdf hz,zcf,l13,l14,c15',hn0,hn1,zad,l19,l20,c21,ht0,ht1,e25,znt,zdt hs,hw1]
        exact hr
       refine ⟨s',f1,?_⟩
       rcases f2 with ⟨g1,g2,g3,g4⟩ | ⟨g1,g2,g3⟩
       ·exact .inl ⟨g1,go _ g2,g3,g4⟩
       ·exact .inr ⟨g1,go _ g2,g3⟩
      ·rw [if_neg hs] at hE
       rw [hE]
       obtain ⟨s30,e30,a30,m30⟩:=At.setW a425 rfl (zbM w q.fd y).1 (by rw [zc0,hw])
       have l27:s25.ldN wb 0 12=some (wV (zbM w q.fd y).1):=aw25.ldN (by rw [zaW,zc0,hw])
       refine ⟨s30,zay hx25 m30 h4,.inr ⟨q2,zbb _ _ _ _ _ _ st ?_,_,by rw [zc0,hw],a30⟩⟩
       simp only [za8,zdt h,zct,b1,b2',e4',l0,c6,zob,zab,zaa,zdf hz,zcf,l13,l14,c15',hn0,hn1,zad,l19,l20,c21,ht0,ht1,e25,znt,zdf hs,znf,l27,l28,zcB hpne,e30]
def zaJ:Wd:=List.replicate 12 0
theorem zr7 [Sym] (l:Nms) (hl:NmsOk l) (x:Item) (hprs:zqK x.1.prs) (b i:Nat) (p vw ve vv:Value) (st:SS) (hg:Gd st) (hb:st.mem.get b=some (.cells [p,.map (some i),vw,ve,vv] 0)) (hbl:b<st.next) (hi:st.mem.get i=some (.map (nmM l))) (hlt:i<st.next)
  (hv:Rd st x.2.2 (rowsF prRow x.1.prs) 5 x.1.prs.length):
  ∃ n u,st.next≤n∧u.length=12∧((za3 l zaJ x.1.prs).2=0→u=(za3 l zaJ x.1.prs).1)∧cc 72 [ptr b 0,.agg (lnRow x).toArray] st=some (.tuple #[wV u,.int .i64 (za3 l zaJ x.1.prs).2],st.adv n):=by
 have x1:Ext (st.ro st.next) ((st.ro st.next).new (.cells (lnRow x) 0)):=(Ext.refl _).new _
 have a2:At (((st.ro st.next).new (.cells (lnRow x) 0)).new (.cells Z12 0)) (st.next+1) Z12:=At.new (st:=(st.ro st.next).new (.cells (lnRow x) 0)) (by simp) _
 have x2:Ext ((st.ro st.next).new (.cells (lnRow x) 0)) (((st.ro st.next).new (.cells (lnRow x) 0)).new (.cells Z12 0)):=(Ext.refl _).new _
 have a3:At ((((st.ro st.next).new (.cells (lnRow x) 0)).new (.cells Z12 0)).new (.cells Z12 0)) (st.next+2) Z12:=At.new (st:=((st.ro st.next).new (.cells (lnRow x) 0)).new (.cells Z12 0)) (by simp;omega) _
 have x3:Ext (((st.ro st.next).new (.cells (lnRow x) 0)).new (.cells Z12 0)) ((((st.ro st.next).new (.cells (lnRow x) 0)).new (.cells Z12 0)).new (.cells Z12 0)):=(Ext.refl _).new _
 have he:=x1.trans (x2.trans x3)
 have l4:((((st.ro st.next).new (.cells (lnRow x) 0)).new (.cells Z12 0)).new (.cells Z12 0)).ld st.next 4=some x.2.2:=by
  have hm:((((st.ro st.next).new (.cells (lnRow x) 0)).new (.cells Z12 0)).new (.cells Z12 0)).mem.get st.next=some (.cells (lnRow x) 0):=(x2.trans x3).get (by simp) (SS.new_get (st:=st.ro st.next))
  rw [SS.ld_cells hm];rfl
 have hv':Rd (st.ro st.next) x.2.2 (rowsF prRow x.1.prs) 5 x.1.prs.length:=hv
 obtain ⟨s',f1,f2⟩:=zta l hl x.1.prs hprs b i (st.next+1) (st.next+2) p vw ve vv x.2.2 (st.ro st.next) hg.ro hb hbl hi hlt hv' (by omega) (by simp) (by simp) x.1.prs.length 0 zaJ _ (by omega) rfl he (by simp) a3 (a2.ext x3)
 rw [List.drop_zero] at f2
 have hlen:(lenV x.2.2).bind (asI .i64)=some (x.1.prs.length:Int):=by rw [hv.len];rfl
 have b0:Nat.beq 0 0=true:=rfl
 have b1:Nat.beq 1 0=false:=rfl
 have hn1:((st.ro st.next).new (.cells (lnRow x) 0)).next=st.next+1:=rfl
 have hn2:(((st.ro st.next).new (.cells (lnRow x) 0)).new (.cells Z12 0)).next=st.next+2:=rfl
 have hnx:=f1.next
 simp only [SS.ro_next] at hnx
 have hel:=zk8 l x.1.prs zaJ
 rcases f2 with ⟨g1,g2,g3,g4⟩ | ⟨g1,g2,u,g3,g4⟩
 ·have g2':zaM 3 [ptr b 0,ptr (st.next+1) 0,ptr (st.next+2) 0,x.2.2,.int .i64 x.1.prs.length,.int .i64 0] ((((st.ro st.next).new (.cells (lnRow x) 0)).new (.cells Z12 0)).new (.cells Z12 0))=_:=g2
  obtain ⟨s12,e12,a12,m12⟩:=At.setW g4 rfl (za3 l zaJ x.1.prs).1 (by rw [hel];rfl)
  have l10:s'.ldN (st.next+2) 0 12=some (wV (za3 l zaJ x.1.prs).1):=g3.ldN (by rw [zaW,hel];rfl)
  have l14:s12.rdN (st.next+1) 0 12=some (wV (za3 l zaJ x.1.prs).1):=a12.rdN (by rw [zaW,hel];rfl)
  have hz:=zl4 (za3 l zaJ x.1.prs).1 0
  refine ⟨s12.next,_,by have:=m12.next;omega,by rw [hel];rfl,fun _=>rfl,zeD _ _ st ?_⟩
  rw [g1]
  simp only [zdL,zaF,SS.ro_next,hn1,hn2,l4,zob,hlen,g2',b0,zct,zgs,zgz,zad,l10,e12,l14,hz]
  rfl
 ·have g2':zaM 3 [ptr b 0,ptr (st.next+1) 0,ptr (st.next+2) 0,x.2.2,.int .i64 x.1.prs.length,.int .i64 0] ((((st.ro st.next).new (.cells (lnRow x) 0)).new (.cells Z12 0)).new (.cells Z12 0))=_:=g2
  have l18:s'.rdN (st.next+1) 0 12=some (wV u):=g4.rdN (by rw [zaW,g3])
  have hz:=zl4 u (za3 l zaJ x.1.prs).2
  refine ⟨s'.next,u,hnx,g3,fun h=>by omega,zeD _ _ st ?_⟩
  simp only [zdL,zaF,SS.ro_next,hn1,hn2,l4,zob,hlen,g2',b1,zcf,zgs,zgz,zad,zaa,l18,hz,zct]
end Go.Proofs.YtifploedaacedaaGreatDoorE
namespace Go.Proofs.YtifploedaacedaaGreatDoorE
open Go Go.E Go.Proofs
theorem ztb [Sym] (p:Val) (f:Val) (q:Nat) (st:SS) (hq:st.mem.get q=some (.cells (valRow f) 0)) (hlt:q<st.next):∃ n,st.next≤n∧cc 97 [.agg (valRow p).toArray,ptr q 0] st=some (.bool (decide (p.nm=f.nm)),st.adv n):=by
 refine ⟨st.next+1,by omega,zs9 _ _ st ?_⟩
 have l0:((st.ro st.next).new (.cells (valRow p) 0)).ld st.next 0=some (.string (mkS p.nm)):=by
  have hm:((st.ro st.next).new (.cells (valRow p) 0)).mem.get st.next=some (.cells (valRow p) 0):=SS.new_get (st:=st.ro st.next)
  rw [SS.ld_cells hm];rfl
 have l1:((st.ro st.next).new (.cells (valRow p) 0)).ld q 0=some (.string (mkS f.nm)):=by
  rw [SS.ld_cells (c:=valRow f) (z:=0) (by rw [SS.new_old (by simp;omega)];exact hq)];rfl
 simp only [valEq,zaF,SS.ro_next,l0,zob,zab,zad,l1,ze1]
 rfl
theorem zqL [Sym] (ps:List Val) (hsz:ps.length≤1099511627776) (f:Val) (q:Nat) (v:Value) (st0:SS) (hv:Rd st0 v (rowsF valRow ps) 3 ps.length) (hq:st0.mem.get q=some (.cells (valRow f) 0)) (hlt:q<st0.next):
  ∀ (k j:Nat) (st:SS),ps.length=k+j→Ext st0 st→∃ e vs st',zf1 2 [v,.func (.func 97) #[] #[ptr q 0],.int .i64 ps.length,.int .i64 j] st=some (e,vs,st')∧Ext st0 st'∧
   ((e=0∧vs=[]∧((ps.drop j).any fun x=>decide (x.nm=f.nm))=false)∨(e=1∧((ps.drop j).any fun x=>decide (x.nm=f.nm))=true∧∃ m:Nat,vs=[.int .i64 m])):=by
 intro k
 induction k with
 | zero=>
   intro j st hk he
   refine ⟨0,[],st,zg0 v q _ _ st ?_,he,.inl ⟨rfl,rfl,?_⟩⟩
   ·have:¬ (j:Int)<(ps.length:Int):=by omega
    simp only [zhn,zdf this,zcf]
   ·rw [List.drop_of_length_le (by omega)];rfl
 | succ k ih=>
   intro j st hk he
   obtain ⟨p,hp⟩:∃ p,ps[j]?=some p:=⟨_,zge (by omega)⟩
   have hjl:(j:Int)<(ps.length:Int):=by omega
   obtain ⟨x,b1,b2,_⟩:=(hv.ext he).load (j:=(j:Int)) (by omega) hjl (zbt zqv ps j p hp) rfl
   obtain ⟨n,hn,c1⟩:=ztb p f q st (he.get hlt hq) (zll hlt he.next)
   have b2':st.ldN x.1 x.2 3=some (.agg (valRow p).toArray):=b2
   have hd:=drop_cons hp
   have hw:=zba (i:=j) (by omega)
   by_cases hf:p.nm=f.nm
   ·refine ⟨1,[.int .i64 j],st.adv n,zg0 v q _ _ st ?_,he.adv (by have:=he.next;omega),.inr ⟨rfl,?_,j,rfl⟩⟩
    ·rw [zdt hf] at c1
     simp only [zhn,zdt hjl,zct,b1,zob,b2',c1,zal]
    ·rw [hd,List.any_cons,zdt hf];rfl
   ·obtain ⟨e,vs,st',d1,d2,d3⟩:=ih (j+1) (st.adv n) (by omega) (he.adv (by have:=he.next;omega))
    rw [zdf hf] at c1
    refine ⟨e,vs,st',zg0 v q _ _ st ?_,d2,?_⟩
    ·simp only [zhn,zdt hjl,zct,b1,zob,b2',c1,zal,zcf,hw]
     exact d1
    ·rw [hd,List.any_cons,zdf hf,Bool.false_or]
     exact d3
theorem ztc [Sym] (ps:List Val) (hsz:ps.length≤1099511627776) (f:Val) (q:Nat) (v:Value) (st:SS) (hv:Rd st v (rowsF valRow ps) 3 ps.length) (hq:st.mem.get q=some (.cells (valRow f) 0)) (hlt:q<st.next):
  ∃ n,st.next≤n∧cc 96 [v,.func (.func 97) #[] #[ptr q 0]] st=some (.bool (ps.any fun x=>decide (x.nm=f.nm)),st.adv n):=by
 obtain ⟨e,vs,st',d1,d2,d3⟩:=zqL ps hsz f q v ((st.ro st.next).ro (st.ro st.next).next) hv hq hlt ps.length 0 ((st.ro st.next).ro (st.ro st.next).next) (by omega) (.refl _)
 have d1':zf1 2 [v,.func (.func 97) #[] #[ptr q 0],.int .i64 ps.length,.int .i64 0] ((st.ro st.next).ro (st.ro st.next).next)=some (e,vs,st'):=d1
 have hlen:(lenV v).bind (asI .i64)=some (ps.length:Int):=by rw [hv.len];rfl
 rw [List.drop_zero] at d3
 have hnx:=d2.next
 simp at hnx
 refine ⟨st'.next,hnx,zqI _ _ st ?_⟩
 rcases d3 with ⟨rfl,rfl,e3⟩ | ⟨rfl,e2,m,rfl⟩
 ·have c:cc 114 [v,.func (.func 97) #[] #[ptr q 0]] (st.ro st.next)=some (.int .i64 (-1),(st.ro st.next).adv st'.next):=by
   refine znr _ _ _ ?_
   have hb0:Nat.beq 0 0=true:=rfl
   simp only [zoO,hlen,zob,d1',hb0,zct]
  have h0:¬ (0:Int)≤ -1:=by omega
  rw [e3]
  simp only [zmS,c,zob,zaa,zdf h0]
  rfl
 ·have c:cc 114 [v,.func (.func 97) #[] #[ptr q 0]] (st.ro st.next)=some (.int .i64 m,(st.ro st.next).adv st'.next):=by
   refine znr _ _ _ ?_
   have hb0:Nat.beq 1 0=false:=rfl
   simp only [zoO,hlen,zob,d1',hb0,zcf,zgz,zaa]
  have h0:(0:Int)≤(m:Int):=by omega
  rw [e2]
  simp only [zmS,c,zob,zaa,zdt h0]
  rfl
end Go.Proofs.YtifploedaacedaaGreatDoorE
namespace Go.Proofs.YtifploedaacedaaGreatDoorE
open Go Go.E Go.Proofs
def blkOf:Value→Option Nat
 | .slice (some ⟨j,_,none⟩) _ _=>some j
 | _=>none
abbrev WItem:=Nat×Item
def wdRow (x:WItem):List Value:=.int .i64 x.1::lnRow x.2
def entRow (x:Val×Nat×Nat):List Value:=[.int .i64 x.2.1,.int .i64 x.2.2]
def bldRow (pl i:Nat) (vw ve vv:Value):List Value:=[.int .i64 pl,.map (some i),vw,ve,vv]
structure Bld (st0 st:SS) (B b i:Nat) (vw ve vv:Value) (l:Lay) (its:List WItem):Prop where
 ext:Ext st0 st
 ll:st0.lim≤st0.next
 row:At st b (bldRow l.pl i vw ve vv)
 mp:st.mem.get i=some (.map (nmM l.nms))
 b0:st0.next≤b
 i0:st0.next≤i
 bB:b<B
 iB:i<B
 ne:b≠i
 BN:B≤st.next
 ow:Own B st vw (rowsF wdRow its) 6 its.length
 oe:Own B st ve (rowsF entRow l.ents) 2 l.ents.length
 ov:Own B st vv (rowsF valRow (l.ents.map (·.1))) 3 l.ents.length
 d1:∀ j,blkOf vw=some j→blkOf ve≠some j∧blkOf vv≠some j
 d2:∀ j,blkOf ve=some j→blkOf vv≠some j
 wds:its.map (fun x=>(x.1,x.2.1))=l.wds
 itr:∀ x∈its,Rd st0 x.2.2.1 (rowsF valRow x.2.1.args) 3 x.2.1.args.length∧Rd st0 x.2.2.2 (rowsF prRow x.2.1.prs) 5 x.2.1.prs.length
structure Frm (b i:Nat) (vw:Value) (st st':SS):Prop where
 next:st.next≤st'.next
 lim:st'.lim=st.lim
 keep:∀ j,j<st.next→j≠b→j≠i→blkOf vw≠some j→st'.mem.get j=st.mem.get j
theorem Frm.trans {b i:Nat} {vw:Value} {x y z:SS} (h:Frm b i vw x y) (k:Frm b i vw y z):Frm b i vw x z:=⟨zlt h.next k.next,k.lim.trans h.lim,fun j a1 a2 a3 a4=>(k.keep j (zll a1 h.next) a2 a3 a4).trans (h.keep j a1 a2 a3 a4)⟩
theorem Frm.mod {b i:Nat} {vw:Value} {S:List Nat} {x y:SS} (m:Mod S x y) (hS:∀ j,j∈S→j=b∨j=i):Frm b i vw x y:=⟨m.next,m.lim,fun j a1 a2 a3 _=>m.keep j a1 fun e=>(hS j e).elim a2 a3⟩
theorem Frm.ext {b i:Nat} {vw:Value} {x y:SS} (m:Ext x y):Frm b i vw x y:=⟨m.next,m.lim,fun j a1 _ _ _=>m.keep j a1⟩
section
variable {st0 st st' : SS} {B b i : Nat} {vw ve vv : Value} {l : Lay} {its : List WItem}
theorem Bld.then (h:Bld st0 st B b i vw ve vv l its) (x:Ext st st'):Bld st0 st' B b i vw ve vv l its:=
 { h with ext:=h.ext.trans x,row:=h.row.ext x,mp:=x.get (by have:=h.iB;have:=h.BN;omega) h.mp,BN:=zlt h.BN x.next,ow:=h.ow.ext x,oe:=h.oe.ext x,ov:=h.ov.ext x }
theorem Bld.placeM (h:Bld st0 st B b i vw ve vv l its) (p:Nat):∃ st',st.st b 0 [.int .i64 p]=some st'∧Bld st0 st' B b i vw ve vv { l with pl:=p } its∧Mod [b] st st':=by
 obtain ⟨s',e,a,m,_⟩:=h.row.sto (k:=0) (vs:=[.int .i64 p]) (row':=bldRow p i vw ve vv) rfl rfl
 have hx:Ext st0 s':=zay h.ext m h.b0
 refine ⟨s',e,{ h with ext:=hx,row:=a,mp:=m.get (by have:=h.iB;have:=h.BN;omega) (by simpa using Ne.symm h.ne) h.mp,BN:=zlt h.BN m.next,ow:=h.ow.modLt m ?_,oe:=h.oe.modLt m ?_,ov:=h.ov.modLt m ?_ },m⟩
 all_goals
  intro j hj
  have:j=b:=by simpa using hj
  have:=h.bB
  omega
theorem Bld.place (h:Bld st0 st B b i vw ve vv l its) (p:Nat):∃ st',st.st b 0 [.int .i64 p]=some st'∧Bld st0 st' B b i vw ve vv { l with pl:=p } its:=let ⟨s,e,k,_⟩:=h.placeM p;⟨s,e,k⟩
theorem Bld.define [Sym] (h:Bld st0 st B b i vw ve vv l its) (n:List UInt8) (x:Int):
  match l.define n x with
  | none=>cc 70 [ptr b 0,.string (mkS n),.int .i64 x] st=some (.bool false,st)
  | some l'=>∃ st',cc 70 [ptr b 0,.string (mkS n),.int .i64 x] st=some (.bool true,st')∧Mod [i] st st'∧Bld st0 st' B b i vw ve vv l' its:=by
 have hi:i<st.next:=by have:=h.iB;have:=h.BN;omega
 have hlim:st.lim≤i:=by rw [h.ext.lim];have:=h.ll;have:=h.i0;omega
 have hd:=define_ok b i (.int .i64 l.pl) vw ve vv l.nms n x st h.row h.mp hi hlim
 unfold Lay.define
 by_cases hc:(zbT l.nms n).isSome=true∨n=[]
 ·rw [if_pos hc] at hd ⊢
  exact hd
 ·rw [if_neg hc] at hd ⊢
  obtain ⟨s',c,m,hn,hm⟩:=hd
  have hx:Ext st0 s':=zay h.ext m h.i0
  refine ⟨s',c,m,{ h with ext:=hx,row:=h.row.mod m (by simpa using h.ne),mp:=hm,BN:=by rw [hn];exact h.BN,ow:=h.ow.modLt m ?_,oe:=h.oe.modLt m ?_,ov:=h.ov.modLt m ?_ }⟩
  all_goals
   intro j hj
   have:j=i:=by simpa using hj
   have:=h.iB
   omega
end
end Go.Proofs.YtifploedaacedaaGreatDoorE
namespace Go.Proofs.YtifploedaacedaaGreatDoorE
open Go Go.E Go.Proofs
theorem zg1 {B:Nat} {st:SS} {v:Value} {c row:List Value} {z n bt:Nat} (h:Own B st v c z n) (hb:B≤st.next) (hl:st.lim≤B) (hr:row.length=z) (hz:0<z) (h1:row.all one=true) (hs:(n+2)*bt≤2^44) (hn:n+1≤2^44):
  ∃ k s',(st.new (.cells row z)).app z bt v (.slice (some ⟨st.next,0,none⟩) 1 1)=some (.slice (some ⟨k,0,none⟩) (n+1) (n+1),s')∧st.next≤k∧Own B s' (.slice (some ⟨k,0,none⟩) (n+1) (n+1)) (c++row) z (n+1)∧s'.lim=st.lim∧st.next≤s'.next∧
   ∀ j,j<st.next→blkOf v≠some j→s'.mem.get j=st.mem.get j:=by
 obtain ⟨k,s',g1,g2,g3,g4,g5,g6⟩:=h.pushN hb hl hr hz h1 hs hn
 exact ⟨k,s',g1,g2,g3,g4,g5,fun j hj hv=>g6 j hj fun q e=>hv (by rw [e];rfl)⟩
theorem zeR {B:Nat} {st s':SS} {v:Value} {c:List Value} {z n:Nat} (h:Own B st v c z n) (hn:st.next≤s'.next) (hk:∀ j,j<st.next→blkOf v=some j→s'.mem.get j=st.mem.get j):Own B s' v c z n:=by
 obtain ⟨h1,h2⟩:=h
 refine ⟨h1,h2.imp id ?_⟩
 rintro ⟨i,e,h0,hm,hb,hi⟩
 exact ⟨i,e,h0,(hk i hi (by rw [e];rfl)).trans hm,hb,zll hi hn⟩
theorem zco {B:Nat} {st:SS} {v:Value} {c:List Value} {z n:Nat} (h:Own B st v c z n) {j:Nat} (hj:blkOf v=some j):B≤j∧j<st.next:=by
 obtain ⟨_,⟨rfl,_⟩ | ⟨i,rfl,_,_,hb,hi⟩⟩:=h
 ·cases hj
 ·cases hj;exact ⟨hb,hi⟩
theorem zj9 (k n m:Nat):(Value.slice (some ⟨k,0,none⟩) n m).cells.toList=[Value.slice (some ⟨k,0,none⟩) n m]:=rfl
section
variable {st0 st : SS} {B b i : Nat} {vw ve vv : Value} {l : Lay} {its : List WItem}
theorem Bld.word (h:Bld st0 st B b i vw ve vv l its) (x:Item) (hx:Rd st0 x.2.1 (rowsF valRow x.1.args) 3 x.1.args.length∧Rd st0 x.2.2 (rowsF prRow x.1.prs) 5 x.1.prs.length) (ho:one x.2.1=true∧one x.2.2=true) (hn:its.length≤100000):
  ∃ vw' s1 s2,(st.new (.cells (wdRow (l.pl,x)) 6)).app 6 96 vw (.slice (some ⟨st.next,0,none⟩) 1 1)=some (vw',s1)∧s1.stV b 2 1 vw'=some s2∧Bld st0 s2 B b i vw' ve vv { l with wds:=l.wds++[(l.pl,x.1)] } (its++[(l.pl,x)])∧Frm b i vw st s2:=by
 have hlB:st.lim≤B:=by rw [h.ext.lim];have:=h.ll;have:=h.b0;have:=h.bB;omega
 obtain ⟨k,s1,g1,g2,g3,g4,g5,g6⟩:=zg1 (row:=wdRow (l.pl,x)) (bt:=96) h.ow h.BN hlB rfl (by omega) (by simp only [wdRow,lnRow,List.all_cons,List.all_nil,ho.1,ho.2];rfl) (by omega) (by omega)
 have old:∀ j,j<B→s1.mem.get j=st.mem.get j:=fun j hj=>g6 j (by have:=h.BN;omega) fun e=>by have:=(zco h.ow e).1;omega
 have row1:At s1 b (bldRow l.pl i vw ve vv):=⟨(old b h.bB).trans h.row.1,zll h.row.lt g5,by rw [g4];exact h.row.2.2⟩
 have e1:Ext st0 s1:=⟨zlt h.ext.next g5,g4.trans h.ext.lim,fun j hj=>(old j (by have:=h.b0;have:=h.bB;omega)).trans (h.ext.keep j hj)⟩
 obtain ⟨s2,e2,a2,m2,n2⟩:=row1.stV (k:=2) (n:=1) (v:=.slice (some ⟨k,0,none⟩) (its.length+1) (its.length+1)) (zj9 _ _ _) rfl rfl (row':=bldRow l.pl i (.slice (some ⟨k,0,none⟩) (its.length+1) (its.length+1)) ve vv) rfl
 have mlt:∀ j,j∈[b]→j<B:=by
  intro j hj
  have e:j=b:=by simpa using hj
  rw [e]
  exact h.bB
 have hne:∀ (u:Value),(∀ j,blkOf vw=some j→blkOf u≠some j)→∀ j,j<st.next→blkOf u=some j→s1.mem.get j=st.mem.get j:=fun u hu j hj e=>g6 j hj fun e'=>hu j e' e
 refine ⟨_,s1,s2,g1,e2,{ h with ext:=zay e1 m2 h.b0,row:=a2,mp:=m2.get (by have:=h.iB;have:=h.BN;omega) (by simpa using Ne.symm h.ne) ((old i h.iB).trans h.mp),BN:=by rw [n2];have:=h.BN;omega,ow:=?_,oe:=?_,ov:=?_,d1:=?_,wds:=?_,itr:=?_ },⟨by rw [n2];exact g5,m2.lim.trans g4,fun j a1 a2 a3 a4=>(m2.keep j (zll a1 g5) (by simpa using a2)).trans (g6 j a1 a4)⟩⟩
 ·rw [zbQ,zdd,List.length_append];exact g3.modLt m2 mlt
 ·exact (zeR h.oe g5 (hne ve fun j e=>(h.d1 j e).1)).modLt m2 mlt
 ·exact (zeR h.ov g5 (hne vv fun j e=>(h.d1 j e).2)).modLt m2 mlt
 ·intro j hj
  cases hj
  exact ⟨fun e=>by have:=(zco h.oe e).2;omega,fun e=>by have:=(zco h.ov e).2;omega⟩
 ·simp only [List.map_append,h.wds];rfl
 ·intro y hy
  rcases List.mem_append.1 hy with hy | hy
  ·exact h.itr y hy
  ·have:y=(l.pl,x):=by simpa using hy
   subst this
   exact hx
theorem Bld.entry (h:Bld st0 st B b i vw ve vv l its) (x:Val) (ln col:Nat) (hn:l.ents.length≤100000):
  ∃ vv' s1 s2 ve' s3 s4,(st.new (.cells (valRow x) 3)).app 3 32 vv (.slice (some ⟨st.next,0,none⟩) 1 1)=some (vv',s1)∧s1.stV b 4 1 vv'=some s2∧s2.ld b 3=some ve∧Ext st0 s2∧(∀ j,j<st.next→blkOf vv≠some j→j≠b→s2.mem.get j=st.mem.get j)∧
   (s2.new (.cells (entRow (x,ln,col)) 2)).app 2 16 ve (.slice (some ⟨s2.next,0,none⟩) 1 1)=some (ve',s3)∧s3.stV b 3 1 ve'=some s4∧Bld st0 s4 B b i vw ve' vv' { l with ents:=l.ents++[(x,ln,col)] } its:=by
 have hlB:st.lim≤B:=by rw [h.ext.lim];have:=h.ll;have:=h.b0;have:=h.bB;omega
 have ov:=h.ov
 rw [show (l.ents.length)=(l.ents.map (·.1)).length by simp] at ov
 obtain ⟨k,s1,g1,g2,g3,g4,g5,g6⟩:=zg1 (row:=valRow x) (bt:=32) ov h.BN hlB rfl (by omega) rfl (by simp;omega) (by simp;omega)
 have old:∀ j,j<B→s1.mem.get j=st.mem.get j:=fun j hj=>g6 j (by have:=h.BN;omega) fun e=>by have:=(zco h.ov e).1;omega
 have row1:At s1 b (bldRow l.pl i vw ve vv):=⟨(old b h.bB).trans h.row.1,zll h.row.lt g5,by rw [g4];exact h.row.2.2⟩
 have e1:Ext st0 s1:=⟨zlt h.ext.next g5,g4.trans h.ext.lim,fun j hj=>(old j (by have:=h.b0;have:=h.bB;omega)).trans (h.ext.keep j hj)⟩
 generalize hV:(Value.slice (some ⟨k,0,none⟩) ((l.ents.map (·.1)).length+1) ((l.ents.map (·.1)).length+1))=V at*
 have hVc:V.cells.toList=[V]∧one V=true∧blkOf V=some k:=by rw [← hV];exact ⟨rfl,rfl,rfl⟩
 obtain ⟨s2,e2,a2,m2,n2⟩:=row1.stV (k:=4) (n:=1) (v:=V) hVc.1 rfl (by simp [hVc.2.1]) (row':=bldRow l.pl i vw ve V) rfl
 have mlt:∀ j,j∈[b]→j<B:=by
  intro j hj
  have e:j=b:=by simpa using hj
  rw [e]
  exact h.bB
 have ow2:Own B s2 vw (rowsF wdRow its) 6 its.length:=(zeR h.ow g5 fun j hj e=>g6 j hj (h.d1 j e).2).modLt m2 mlt
 have oe2:Own B s2 ve (rowsF entRow l.ents) 2 l.ents.length:=(zeR h.oe g5 fun j hj e=>g6 j hj (h.d2 j e)).modLt m2 mlt
 have ov2:=g3.modLt m2 mlt
 have x2:Ext st0 s2:=zay e1 m2 h.b0
 have BN2:B≤s2.next:=by rw [n2];have:=h.BN;omega
 have hlB2:s2.lim≤B:=by rw [x2.lim];have:=h.ll;have:=h.b0;have:=h.bB;omega
 obtain ⟨k2,s3,q1,q2,q3,q4,q5,q6⟩:=zg1 (row:=entRow (x,ln,col)) (bt:=16) oe2 BN2 hlB2 rfl (by omega) rfl (by omega) (by omega)
 have old2:∀ j,j<B→s3.mem.get j=s2.mem.get j:=fun j hj=>q6 j (by omega) fun e=>by have:=(zco oe2 e).1;omega
 have row3:At s3 b (bldRow l.pl i vw ve V):=⟨(old2 b h.bB).trans a2.1,zll a2.lt q5,by rw [q4];exact a2.2.2⟩
 have x3:Ext st0 s3:=⟨zlt x2.next q5,q4.trans x2.lim,fun j hj=>(old2 j (by have:=h.b0;have:=h.bB;omega)).trans (x2.keep j hj)⟩
 obtain ⟨s4,e4,a4,m4,n4⟩:=row3.stV (k:=3) (n:=1) (v:=.slice (some ⟨k2,0,none⟩) (l.ents.length+1) (l.ents.length+1)) (zj9 _ _ _) rfl rfl (row':=bldRow l.pl i vw (.slice (some ⟨k2,0,none⟩) (l.ents.length+1) (l.ents.length+1)) V) rfl
 have hk2:blkOf V≠some k2:=fun e=>by have:=(zco ov2 e).2;omega
 refine ⟨V,s1,s2,_,s3,s4,g1,e2,a2.ld,x2,fun j hj hv hb=>(m2.keep j (by omega) (by simpa using hb)).trans (g6 j hj hv),q1,e4,{ h with ext:=zay x3 m4 h.b0,row:=a4,mp:=m4.get (by have:=h.iB;omega) (by simpa using Ne.symm h.ne) ((old2 i h.iB).trans (m2.get (by have:=h.iB;have:=h.BN;omega) (by simpa using Ne.symm h.ne) ((old i h.iB).trans h.mp))),BN:=by rw [n4];omega,ow:=?_,oe:=?_,ov:=?_,d1:=?_,d2:=?_ }⟩
 ·exact (zeR ow2 q5 fun j hj e=>q6 j hj (h.d1 j e).1).modLt m4 mlt
 ·rw [zbQ,zdd,List.length_append];exact q3.modLt m4 mlt
 ·have:=(zeR ov2 q5 fun j hj e=>q6 j hj fun e'=>by
   have hj2:=(zco h.oe e').2
   rw [hVc.2.2] at e
   cases e
   omega).modLt m4 mlt
  have e5:(l.ents++[(x,ln,col)]).map (·.1)=l.ents.map (·.1)++[x]:=by simp
  have e6:(l.ents++[(x,ln,col)]).length=(l.ents.map (·.1)).length+1:=by simp
  show Own B s4 V (rowsF valRow ((l.ents++[(x,ln,col)]).map (·.1))) 3 (l.ents++[(x,ln,col)]).length
  rw [e5,e6,zbQ,zdd]
  exact this
 ·intro j hj
  refine ⟨fun e=>?_,fun e=>?_⟩
  ·cases e
   have:=(zco ow2 hj).2
   omega
  ·rw [hVc.2.2] at e
   cases e
   have:=(zco h.ow hj).2
   omega
 ·intro j hj e
  cases hj
  exact hk2 e
end
end Go.Proofs.YtifploedaacedaaGreatDoorE
namespace Go.Proofs.YtifploedaacedaaGreatDoorE
open Go Go.E Go.Proofs
theorem ztd {p n:Nat} (hp:p≤4096) (h1:1≤n) (h2:n≤2048):((IntKind.wrap .i64 (IntKind.wrap .i64 ((p:Int)+(n:Int))-1)).tdiv (n:Int))=(((p+n-1)/n:Nat):Int):=by
 rw [wrap64 (n:=(p:Int)+(n:Int)) (by omega) (by omega),wrap64 (by omega) (by omega)]
 have e:(p:Int)+(n:Int)-1=((p+n-1:Nat):Int):=by omega
 rw [e]
 exact (Int.ofNat_tdiv _ _).symm
theorem zoP {p n:Nat} (hp:p≤4096) (h1:1≤n) (h2:n≤2048):(p+n-1)/n*n≤8192:=by
 have:=Nat.div_mul_le_self (p+n-1) n
 omega
def zr8 (l:Lay) (v:Val) (r:List Val):Option Lay:=match r with
 | [y]=>if v.nm≠[]∧v.x=0∧y.nm=[] then l.define v.nm y.x else none
 | _=>none
theorem zte {l:Lay} {x:PLine} {v:Val} {r:List Val} (h:x.args=v::r) (d1:¬ x.dir=[111,114,103]) (d2:¬ x.dir=[97,108,105,103,110]) (d3:x.dir=[115,101,116]):zcA l x=zr8 l v r:=by
 unfold zcA
 rw [h]
 simp only
 rw [if_neg d1,if_neg d2,if_pos d3]
 rfl
theorem zoQ [Sym] {st0 st:SS} {B b i:Nat} {vw ve vv:Value} {l:Lay} {its:List WItem} (h:Bld st0 st B b i vw ve vv l its) (x:Item) (hx:Rd st0 x.2.1 (rowsF valRow x.1.args) 3 x.1.args.length) (hpl:l.pl≤4096) (hn:l.ents.length≤100000)
  (hsz:x.1.args.length≤100000):
  match zcA l x.1 with
  | none=>∃ st',cc 71 [ptr b 0,.agg (lnRow x).toArray] st=some (.bool false,st')∧Frm b i vw st st'
  | some l'=>∃ st' ve' vv',cc 71 [ptr b 0,.agg (lnRow x).toArray] st=some (.bool true,st')∧Bld st0 st' B b i vw ve' vv' l' its:=by
 have hlm:st.lim≤st.next:=by rw [h.ext.lim];have:=h.ll;have:=h.ext.next;omega
 have x1:Ext st (st.new (.cells (lnRow x) 0)):=(Ext.refl st).new _
 have a1:At (st.new (.cells (lnRow x) 0)) st.next (lnRow x):=At.new hlm _
 have l3:(st.new (.cells (lnRow x) 0)).ld st.next 3=some x.2.1:=a1.ld
 have hr1:Rd (st.new (.cells (lnRow x) 0)) x.2.1 (rowsF valRow x.1.args) 3 x.1.args.length:=(hx.ext h.ext).ext x1
 have hlen:(lenV x.2.1).bind (asI .i64)=some (x.1.args.length:Int):=by rw [hx.len];rfl
 have hnl:zau (ptr b 0)=some (ptr b 0):=rfl
 cases hargs:x.1.args with
 | nil=>
   have hd:zcA l x.1=none:=by unfold zcA;rw [hargs]
   rw [hd]
   rw [hargs] at hlen
   refine ⟨_,zaP _ _ st (r:=(.bool false,st.new (.cells (lnRow x) 0))) ?_,.ext x1⟩
   have h0:((([]:List Val).length:Nat):Int)=0:=rfl
   simp only [zah,zaF,l3,hlen,zob,zdt h0,zct]
 | cons v r=>
   rw [hargs] at hlen hr1 hsz
   obtain ⟨q5,b1,b2,_⟩:=hr1.load (j:=(0:Int)) (by omega) (by first | (simp;done) | (simp;omega)) (row:=valRow v) rfl rfl
   have b2':(st.new (.cells (lnRow x) 0)).ldN q5.1 q5.2 3=some (.agg (valRow v).toArray):=b2
   obtain ⟨s8,e8,a8,x8,n8⟩:=zbk (st:=st.new (.cells (lnRow x) 0)) (by first | (simp;done) | (simp;omega)) (r:=valRow ⟨[],0,0⟩) (row:=valRow v) (v:=.agg (valRow v).toArray) (zaF _) rfl rfl rfl
   have e8':((st.new (.cells (lnRow x) 0)).new (.cells [.string ⟨#[]⟩,.int .i64 0,.int .i64 0] 0)).stV (st.new (.cells (lnRow x) 0)).next 0 3 (.agg (valRow v).toArray)=some s8:=e8
   have a18:=a1.ext x8
   have h8:=h.then (x1.trans x8)
   have m8:Frm b i vw st s8:=.ext (x1.trans x8)
   have hn1:¬ (((v::r).length:Nat):Int)=0:=by first | (simp;done) | (simp;omega)
   have l9:s8.ld (st.new (.cells (lnRow x) 0)).next 0=some (.string (mkS v.nm)):=a8.ld
   have l91:s8.ld (st.new (.cells (lnRow x) 0)).next 1=some (.int .i64 v.x):=a8.ld
   have l92:s8.ld (st.new (.cells (lnRow x) 0)).next 2=some (.int .i64 v.col):=a8.ld
   have l10:s8.ld st.next 2=some (.string (mkS x.1.dir)):=a18.ld
   have l11:s8.ld st.next 3=some x.2.1:=a18.ld
   have lpl:s8.ld b 0=some (.int .i64 l.pl):=h8.row.ld
   have hnm:eqT (mkS v.nm) ⟨#[]⟩=decide (v.nm=[]):=zd9 _
   have hlr:decide (1<(((v::r).length:Nat):Int))=decide (r≠[]):=by
    cases r with
    | nil=>rfl
    | cons a t=>rw [zdt (by simp;omega),zdt (by simp)]
   have fl:∀ st',zah cc zdQ (ptr b 0) (.agg (lnRow x).toArray) st=some (.bool false,st')→Frm b i vw st st'→zcA l x.1=none→
     match zcA l x.1 with
     | none=>∃ st',cc 71 [ptr b 0,.agg (lnRow x).toArray] st=some (.bool false,st')∧Frm b i vw st st'
     | some l'=>∃ st' ve' vv',cc 71 [ptr b 0,.agg (lnRow x).toArray] st=some (.bool true,st')∧Bld st0 st' B b i vw ve' vv' l' its:=fun st' hc hfr hdn=>by
    rw [hdn];exact ⟨st',zaP _ _ st hc,hfr⟩
   by_cases d1:x.1.dir=[111,114,103]
   ·have q1:eqT (mkS x.1.dir) ⟨#[111,114,103]⟩=true:=zdt d1
    have hd:zcA l x.1=if v.nm=[]∧r=[]∧(l.pl:Int)≤v.x∧v.x≤2048 then some { l with pl:=v.x.toNat } else none:=by unfold zcA;rw [hargs];simp only;rw [if_pos d1]
    by_cases c1:v.nm=[]
    ·by_cases c2:r=[]
     ·by_cases c3:v.x<(l.pl:Int)
      ·refine fl s8 ?_ m8 (by rw [hd,if_neg (fun hh=>by omega)])
       simp only [zah,zaF,l3,hlen,zob,zdf hn1,zcf,b1,b2',e8',l9,l10,l11,zab,q1,zct,hnm,zdt c1,znt,hlr,zdf (show ¬ r≠[] from fun hh=>hh c2),l91,zaa,hnl,zad,lpl,zdt c3]
      ·by_cases c4:2048<v.x
       ·refine fl s8 ?_ m8 (by rw [hd,if_neg (fun hh=>by omega)])
        simp only [zah,zaF,l3,hlen,zob,zdf hn1,zcf,b1,b2',e8',l9,l10,l11,zab,q1,zct,hnm,zdt c1,znt,hlr,zdf (show ¬ r≠[] from fun hh=>hh c2),l91,zaa,hnl,zad,lpl,zdf c3,zdt c4]
       ·rw [hd,if_pos ⟨c1,c2,by omega,by omega⟩]
        obtain ⟨s21,e21,h21⟩:=h8.place v.x.toNat
        have ez:((v.x.toNat:Nat):Int)=v.x:=by omega
        rw [ez] at e21
        refine ⟨s21,ve,vv,zaP _ _ st ?_,h21⟩
        simp only [zah,zaF,l3,hlen,zob,zdf hn1,zcf,b1,b2',e8',l9,l10,l11,zab,q1,zct,hnm,zdt c1,znt,hlr,zdf (show ¬ r≠[] from fun hh=>hh c2),l91,zaa,hnl,zad,lpl,zdf c3,zdf c4,e21]
     ·refine fl s8 ?_ m8 (by rw [hd,if_neg (fun hh=>c2 hh.2.1)])
      simp only [zah,zaF,l3,hlen,zob,zdf hn1,zcf,b1,b2',e8',l9,l10,l11,zab,zaa,q1,zct,hnm,zdt c1,znt,hlr,zdt (show r≠[] from c2)]
    ·refine fl s8 ?_ m8 (by rw [hd,if_neg (fun hh=>c1 hh.1)])
     simp only [zah,zaF,l3,hlen,zob,zdf hn1,zcf,b1,b2',e8',l9,l10,l11,zab,zaa,q1,zct,hnm,zdf c1,znf]
   have n1:eqT (mkS x.1.dir) ⟨#[111,114,103]⟩=false:=zdf d1
   by_cases d2:x.1.dir=[97,108,105,103,110]
   ·have q1:eqT (mkS x.1.dir) ⟨#[97,108,105,103,110]⟩=true:=zdt d2
    have hd:zcA l x.1=if v.nm=[]∧r=[]∧1≤v.x∧v.x≤2048∧(l.pl+v.x.toNat-1)/v.x.toNat*v.x.toNat≤2048 then some { l with pl:=(l.pl+v.x.toNat-1)/v.x.toNat*v.x.toNat } else none:=by unfold zcA;rw [hargs];simp only;rw [if_neg d1,if_pos d2]
    by_cases c1:v.nm=[]
    ·by_cases c2:r=[]
     ·have c2':=zdf (show ¬ r≠[] from fun hh=>hh c2)
      by_cases c3:v.x<1
      ·refine fl s8 ?_ m8 (by rw [hd,if_neg (fun hh=>by omega)])
       simp only [zah,zaF,l3,hlen,zob,zdf hn1,zcf,b1,b2',e8',l9,l10,l11,zab,zaa,n1,q1,zct,hnm,zdt c1,znt,hlr,c2',l91,zdt c3]
      ·by_cases c4:2048<v.x
       ·refine fl s8 ?_ m8 (by rw [hd,if_neg (fun hh=>by omega)])
        simp only [zah,zaF,l3,hlen,zob,zdf hn1,zcf,b1,b2',e8',l9,l10,l11,zab,zaa,n1,q1,zct,hnm,zdt c1,znt,hlr,c2',l91,zdf c3,zdt c4]
       ·have ez:((v.x.toNat:Nat):Int)=v.x:=by omega
        have hz:¬ (v.x=0):=by omega
        have e33:(aI .quo .i64 (IntKind.wrap .i64 (IntKind.wrap .i64 ((l.pl:Int)+v.x)-1)) v.x).bind (asI .i64)=some (((l.pl+v.x.toNat-1)/v.x.toNat:Nat):Int):=by
         have:=ztd (p:=l.pl) (n:=v.x.toNat) hpl (by omega) (by omega)
         rw [ez] at this
         simp only [aI,zdf hz,zcf,zob,zaa,this]
         have hle:=zoP (p:=l.pl) (n:=v.x.toNat) hpl (by omega) (by omega)
         have h1:(l.pl+v.x.toNat-1)/v.x.toNat≤(l.pl+v.x.toNat-1)/v.x.toNat*v.x.toNat:=Nat.le_mul_of_pos_right _ (by omega)
         have h0':=Int.natCast_nonneg ((l.pl+v.x.toNat-1)/v.x.toNat)
         have h1':(((l.pl+v.x.toNat-1)/v.x.toNat:Nat):Int)≤8192:=Int.ofNat_le.2 (zlt h1 hle)
         rw [wrap64 (Int.le_trans (by decide) h0') (Int.le_trans h1' (by decide))]
        have hle:=zoP (p:=l.pl) (n:=v.x.toNat) hpl (by omega) (by omega)
        have e35:IntKind.wrap .i64 ((((l.pl+v.x.toNat-1)/v.x.toNat:Nat):Int)*v.x)=(((l.pl+v.x.toNat-1)/v.x.toNat*v.x.toNat:Nat):Int):=by
         rw [← ez]
         simp only [Int.toNat_natCast]
         rw [← Int.natCast_mul]
         exact wrap64 (by omega) (by omega)
        obtain ⟨s38,e38,h38,m38⟩:=h8.placeM ((l.pl+v.x.toNat-1)/v.x.toNat*v.x.toNat)
        have l41:s38.ld b 0=some (.int .i64 (((l.pl+v.x.toNat-1)/v.x.toNat*v.x.toNat:Nat):Int)):=h38.row.ld
        by_cases c5:(l.pl+v.x.toNat-1)/v.x.toNat*v.x.toNat≤2048
        ·rw [hd,if_pos ⟨c1,c2,by omega,by omega,c5⟩]
         have c5':(((l.pl+v.x.toNat-1)/v.x.toNat*v.x.toNat:Nat):Int)≤2048:=by omega
         refine ⟨s38,ve,vv,zaP _ _ st ?_,h38⟩
         simp only [zah,zaF,l3,hlen,zob,zdf hn1,zcf,b1,b2',e8',l9,l10,l11,zab,zaa,n1,q1,zct,hnm,zdt c1,znt,hlr,c2',l91,zdf c3,zdf c4,hnl,zad,lpl,e33,e35,e38,l41,zdt c5']
        ·have c5':¬ (((l.pl+v.x.toNat-1)/v.x.toNat*v.x.toNat:Nat):Int)≤2048:=by omega
         refine fl s38 ?_ (m8.trans (.mod m38 (by simp))) (by rw [hd,if_neg (fun hh=>c5 hh.2.2.2.2)])
         simp only [zah,zaF,l3,hlen,zob,zdf hn1,zcf,b1,b2',e8',l9,l10,l11,zab,zaa,n1,q1,zct,hnm,zdt c1,znt,hlr,c2',l91,zdf c3,zdf c4,hnl,zad,lpl,e33,e35,e38,l41,zdf c5']
     ·refine fl s8 ?_ m8 (by rw [hd,if_neg (fun hh=>c2 hh.2.1)])
      simp only [zah,zaF,l3,hlen,zob,zdf hn1,zcf,b1,b2',e8',l9,l10,l11,zab,zaa,n1,q1,zct,hnm,zdt c1,znt,hlr,zdt (show r≠[] from c2)]
    ·refine fl s8 ?_ m8 (by rw [hd,if_neg (fun hh=>c1 hh.1)])
     simp only [zah,zaF,l3,hlen,zob,zdf hn1,zcf,b1,b2',e8',l9,l10,l11,zab,zaa,n1,q1,zct,hnm,zdf c1,znf]
   have n2:eqT (mkS x.1.dir) ⟨#[97,108,105,103,110]⟩=false:=zdf d2
   have hr8:Rd s8 x.2.1 (rowsF valRow (v::r)) 3 (v::r).length:=hr1.ext x8
   by_cases d3:x.1.dir=[115,101,116]
   ·have q1:eqT (mkS x.1.dir) ⟨#[115,101,116]⟩=true:=zdt d3
    have hd:zcA l x.1=zr8 l v r:=zte hargs d1 d2 d3
    have no:(∀ y,r≠[y])→¬ ((((v::r).length:Nat):Int)=2)∧zcA l x.1=none:=fun hr=>by
     rw [hd]
     match r,hr with
     | [],_=>exact ⟨by simp,rfl⟩
     | [y],hr=>exact absurd rfl (hr y)
     | _::_::_,_=>exact ⟨by simp;omega,rfl⟩
    by_cases hy:∃ y,r=[y]
    ·obtain ⟨y,rfl⟩:=hy
     have hd:zcA l x.1=if v.nm≠[]∧v.x=0∧y.nm=[] then l.define v.nm y.x else none:=hd
     have h2:(((([v,y]:List Val).length:Nat)):Int)=2:=rfl
     by_cases c1:v.nm=[]
     ·refine fl s8 ?_ m8 (by rw [hd,if_neg (fun hh=>hh.1 c1)])
      simp only [zah,zaF,l3,hlen,zob,zdf hn1,zcf,b1,b2',e8',l9,l10,l11,zab,zaa,n1,n2,q1,zct,hnm,zdt h2,zdt c1,znt]
     ·by_cases c2:v.x=0
      ·obtain ⟨p46,t1,_,t3⟩:=hr8.load (j:=(1:Int)) (by omega) (by rw [h2];omega) (row:=valRow y) rfl rfl
       have t30:s8.ld p46.1 p46.2=some (.string (mkS y.nm)):=t3 0 (by omega)
       have t31:s8.ld p46.1 (p46.2+1)=some (.int .i64 y.x):=t3 1 (by omega)
       have hy0:eqT (mkS y.nm) ⟨#[]⟩=decide (y.nm=[]):=zd9 _
       by_cases c3:y.nm=[]
       ·have hd':zcA l x.1=l.define v.nm y.x:=by rw [hd,if_pos ⟨c1,c2,c3⟩]
        have hdef:=h8.define v.nm y.x
        rw [hd']
        cases hdf:l.define v.nm y.x with
        | none=>
          rw [hdf] at hdef
          simp only at hdef
          refine ⟨s8,zaP _ _ st ?_,m8⟩
          simp only [zah,zaF,l3,hlen,zob,zdf hn1,zcf,b1,b2',e8',l9,l10,l11,zab,zaa,n1,n2,q1,zct,hnm,zdt h2,zdf c1,znf,l91,zdt c2,t1,t30,t31,hy0,zdt c3,hdef,zal]
        | some l'=>
          rw [hdf] at hdef
          obtain ⟨s9,c9,_,h9⟩:=hdef
          refine ⟨s9,ve,vv,zaP _ _ st ?_,h9⟩
          simp only [zah,zaF,l3,hlen,zob,zdf hn1,zcf,b1,b2',e8',l9,l10,l11,zab,zaa,n1,n2,q1,zct,hnm,zdt h2,zdf c1,znf,l91,zdt c2,t1,t30,t31,hy0,zdt c3,c9,zal]
       ·refine fl s8 ?_ m8 (by rw [hd,if_neg (fun hh=>c3 hh.2.2)])
        simp only [zah,zaF,l3,hlen,zob,zdf hn1,zcf,b1,b2',e8',l9,l10,l11,zab,zaa,n1,n2,q1,zct,hnm,zdt h2,zdf c1,znf,l91,zdt c2,t1,t30,hy0,zdf c3]
      ·refine fl s8 ?_ m8 (by rw [hd,if_neg (fun hh=>c2 hh.2.1)])
       simp only [zah,zaF,l3,hlen,zob,zdf hn1,zcf,b1,b2',e8',l9,l10,l11,zab,zaa,n1,n2,q1,zct,hnm,zdt h2,zdf c1,znf,l91,zdf c2]
    ·obtain ⟨h2,hdn⟩:=no fun y e=>hy ⟨y,e⟩
     refine fl s8 ?_ m8 hdn
     simp only [zah,zaF,l3,hlen,zob,zdf hn1,zcf,b1,b2',e8',l9,l10,l11,zab,zaa,n1,n2,q1,zct,hnm,zdf h2]
   ·have n3:eqT (mkS x.1.dir) ⟨#[115,101,116]⟩=false:=zdf d3
    by_cases d4:x.1.dir=[101,110,116,114,121]
    ·have q1:eqT (mkS x.1.dir) ⟨#[101,110,116,114,121]⟩=true:=zdt d4
     have hd:zcA l x.1=if v.nm≠[]∧r=[]∧v.x=0∧(l.ents.any fun e=>decide (e.1.nm=v.nm))=false then some { l with ents:=l.ents++[(v,x.1.ln,v.col)] } else none:=by unfold zcA;rw [hargs];simp only;rw [if_neg d1,if_neg d2,if_neg d3,if_pos d4]
     by_cases c1:v.nm=[]
     ·refine fl s8 ?_ m8 (by rw [hd,if_neg (fun hh=>hh.1 c1)])
      simp only [zah,zaF,l3,hlen,zob,zdf hn1,zcf,b1,b2',e8',l9,l10,l11,zab,zaa,n1,n2,n3,q1,zct,hnm,zdt c1]
     by_cases c2:r=[]
     ·have c2':=zdf (show ¬ r≠[] from fun hh=>hh c2)
      by_cases c3:v.x=0
      ·have l59:s8.ld b (0+4)=some vv:=h8.row.ld
       obtain ⟨n60,hn60,c60⟩:=ztc (l.ents.map (·.1)) (by simp;omega) v (st.new (.cells (lnRow x) 0)).next vv s8 (by have:=h8.ov.rd;simpa using this) a8.mem a8.lt
       have hany:((l.ents.map (·.1)).any fun x=>decide (x.nm=v.nm))=l.ents.any fun e=>decide (e.1.nm=v.nm):=by rw [List.any_map];rfl
       rw [hany] at c60
       cases ha:l.ents.any fun e=>decide (e.1.nm=v.nm) with
       | true=>
         rw [ha] at c60
         refine fl (s8.adv n60) ?_ (m8.trans (.ext ((Ext.refl _).adv hn60))) (by rw [hd,if_neg (fun hh=>by rw [ha] at hh;cases hh.2.2.2)])
         simp only [zah,zaF,l3,hlen,zob,zdf hn1,zcf,b1,b2',e8',l9,l10,l11,zab,zaa,n1,n2,n3,q1,zct,hnm,zdf c1,hlr,c2',l91,zdt c3,znt,hnl,zad,l59,c60,zal]
       | false=>
         rw [ha] at c60
         rw [hd,if_pos ⟨c1,c2,c3,ha⟩]
         have x60:Ext s8 (s8.adv n60):=(Ext.refl _).adv hn60
         obtain ⟨vv',s1,s2,ve',s3,s4,g1,g2,g3,g4,g5,g6,g7,g8⟩:=(h8.then x60).entry v x.1.ln v.col hn
         have l64:(s8.adv n60).ld b (0+4)=some vv:=(h8.then x60).row.ld
         have l65:(s8.adv n60).ldN (st.new (.cells (lnRow x) 0)).next 0 3=some (.agg (valRow v).toArray):=(a8.ext x60).ldN rfl
         have e66:zaS (.agg (valRow v).toArray) 3=some (valRow v):=rfl
         have g2':s1.stV b (0+4) 1 vv'=some s2:=g2
         have g3':s2.ld b (0+3)=some ve:=g3
         have g6':(s2.new (.cells ([.int .i64 x.1.ln,.int .i64 v.col]) 2)).app 2 16 ve (.slice (some ⟨s2.next,0,none⟩) 1 1)=some (ve',s3):=g6
         have g7':s3.stV b (0+3) 1 ve'=some s4:=g7
         have hv0:∀ j,blkOf vv=some j→j<st.next:=fun j e=>(zco h.ov e).2
         have hbn:=h.row.lt
         have m75:=(g5 st.next (a18.ext x60).lt (fun e=>by have:=hv0 _ e;omega) (by omega)).trans (a18.ext x60).mem
         have m76:=(g5 (st.new (.cells (lnRow x) 0)).next (a8.ext x60).lt (fun e=>by have:=hv0 _ e;simp at this;omega) (by simp;omega)).trans (a8.ext x60).mem
         have l75:s2.ld st.next 0=some (.int .i64 x.1.ln):=by rw [SS.ld_cells m75];rfl
         have l76:s2.ld (st.new (.cells (lnRow x) 0)).next 2=some (.int .i64 v.col):=by rw [SS.ld_cells m76];rfl
         refine ⟨s4,ve',vv',zaP _ _ st ?_,g8⟩
         simp only [zah,zaF,l3,hlen,zob,zdf hn1,zcf,b1,b2',e8',l9,l10,l11,zab,zaa,n1,n2,n3,q1,zct,hnm,zdf c1,hlr,c2',l91,zdt c3,znt,hnl,zad,l59,c60,zal,l64,l65,e66,List.append_nil,g1,g2',g3',l75,l76,g6',g7']
      ·refine fl s8 ?_ m8 (by rw [hd,if_neg (fun hh=>c3 hh.2.2.1)])
       simp only [zah,zaF,l3,hlen,zob,zdf hn1,zcf,b1,b2',e8',l9,l10,l11,zab,zaa,n1,n2,n3,q1,zct,hnm,zdf c1,hlr,c2',l91,zdf c3,znf]
     ·refine fl s8 ?_ m8 (by rw [hd,if_neg (fun hh=>c2 hh.2.1)])
      simp only [zah,zaF,l3,hlen,zob,zdf hn1,zcf,b1,b2',e8',l9,l10,l11,zab,zaa,n1,n2,n3,q1,zct,hnm,zdf c1,hlr,zdt (show r≠[] from c2)]
    ·have n4:eqT (mkS x.1.dir) ⟨#[101,110,116,114,121]⟩=false:=zdf d4
     refine fl s8 ?_ m8 (by unfold zcA;rw [hargs];simp only;rw [if_neg d1,if_neg d2,if_neg d3,if_neg d4])
     simp only [zah,zaF,l3,hlen,zob,zdf hn1,zcf,b1,b2',e8',l9,l10,zab,n1,n2,n3,n4]
end Go.Proofs.YtifploedaacedaaGreatDoorE
namespace Go.Proofs.YtifploedaacedaaGreatDoorE
open Go Go.E Go.Proofs
theorem ztf (n:Nat) (x:Item):zaS (.agg ⟨spl [.int .i64 n,.int .i64 0,.string ⟨#[]⟩,.string ⟨#[]⟩,.slice none 0 0,.slice none 0 0] 1 (lnRow x)⟩) 6=some (wdRow (n,x)):=rfl
theorem Bld.rest [Sym] {st0 st:SS} {B b i:Nat} {vw ve vv:Value} {l:Lay} {its:List WItem} (h:Bld st0 st B b i vw ve vv l its) (x:Item) (hx:Rd st0 x.2.1 (rowsF valRow x.1.args) 3 x.1.args.length∧Rd st0 x.2.2 (rowsF prRow x.1.prs) 5 x.1.prs.length)
  (ho:one x.2.1=true∧one x.2.2=true) (hpl:l.pl≤2048) (hni:its.length≤100000):
  ∃ vw' s1 s2 s3,(st.new (.cells (wdRow (l.pl,x)) 6)).app 6 96 vw (.slice (some ⟨st.next,0,none⟩) 1 1)=some (vw',s1)∧s1.stV b 2 1 vw'=some s2∧s2.ld b 0=some (.int .i64 l.pl)∧s2.st b 0 [.int .i64 ((l.pl+1:Nat):Int)]=some s3∧s3.ld b 0=some (.int .i64 ((l.pl+1:Nat):Int))∧
   Bld st0 s3 B b i vw' ve vv { l with pl:=l.pl+1,wds:=l.wds++[(l.pl,x.1)] } (its++[(l.pl,x)])∧Frm b i vw st s3:=by
 obtain ⟨vw',s1,s2,g1,g2,g3,g6⟩:=h.word x hx ho hni
 obtain ⟨s3,g4,g5,g7⟩:=g3.placeM (l.pl+1)
 exact ⟨vw',s1,s2,s3,g1,g2,g3.row.ld,g4,g5.row.ld,g5,g6.trans (.mod g7 (by simp))⟩
noncomputable def zgx [Sym] (b':Value) (a:Nat) (s:SS):Option (Value×SS):=
 ((s.ld a 2).bind asS).bind fun b=>
  cond (!(eqT b ⟨#[]⟩)) (
   (s.ldN a 0 5).bind fun c=>
   (cc 71 [b',c] s).bind fun d=>
   ((some d.1).bind asB).bind fun e=>
   some (.bool e,d.2)) (
   (s.ld a 4).bind fun f=>
   ((lenV f).bind (asI .i64)).bind fun g=>
   cond (decide (g=0)) (
    some (.bool true,s)) (
    (zau b').bind fun h=>
    (addr? h).bind fun i=>
    (s.ld i.1 (i.2+2)).bind fun j=>
    (zau b').bind fun k=>
    (addr? k).bind fun l=>
    ((s.ld l.1 l.2).bind (asI .i64)).bind fun m=>
    (s.ldN a 0 5).bind fun n=>
    (zaS n 5).bind fun o=>
    (zaS (.agg ⟨spl [.int .i64 m,.int .i64 0,.string ⟨#[]⟩,.string ⟨#[]⟩,.slice none 0 0,.slice none 0 0] 1 o⟩) 6).bind fun p=>
    let q:SS:=s.new (.cells (p++([])) 6)
    (q.app 6 96 j (.slice (some ⟨s.next,0,none⟩) 1 1)).bind fun r=>
    (zau b').bind fun t=>
    (addr? t).bind fun u=>
    (r.2.stV u.1 (u.2+2) 1 r.1).bind fun v=>
    (zau b').bind fun w=>
    (addr? w).bind fun x=>
    ((v.ld x.1 x.2).bind (asI .i64)).bind fun y=>
    let z:Int:=IntKind.wrap .i64 (y+1)
    (zau b').bind fun A=>
    (addr? A).bind fun B=>
    (v.st B.1 B.2 [.int .i64 z]).bind fun C=>
    (zau b').bind fun D=>
    (addr? D).bind fun E=>
    ((C.ld E.1 E.2).bind (asI .i64)).bind fun F=>
    some (.bool (decide (F≤2048)),C)))
def zho (l:Lay) (x:PLine):Option Lay:=if x.dir≠[] then zcA l x else if x.prs=[] then some l else if l.pl+1≤2048 then some { l with pl:=l.pl+1,wds:=l.wds++[(l.pl,x)] } else none
theorem zpS [Sym] {st0 s:SS} {B b i a:Nat} {vw ve vv:Value} {l:Lay} {its:List WItem} (h:Bld st0 s B b i vw ve vv l its) (x:Item) (ha:At s a (lnRow x)) (hx:Rd st0 x.2.1 (rowsF valRow x.1.args) 3 x.1.args.length∧Rd st0 x.2.2 (rowsF prRow x.1.prs) 5 x.1.prs.length)
  (ho:one x.2.1=true∧one x.2.2=true) (hpl:l.pl≤2048) (hn:l.ents.length≤100000) (hni:its.length≤100000) (hsz:x.1.args.length≤100000):
  match zho l x.1 with
  | none=>∃ st',zgx (ptr b 0) a s=some (.bool false,st')∧Frm b i vw s st'
  | some l'=>∃ st' vw' ve' vv' its',zgx (ptr b 0) a s=some (.bool true,st')∧Bld st0 st' B b i vw' ve' vv' l' its'∧its'.length≤its.length+1:=by
 have l2:s.ld a 2=some (.string (mkS x.1.dir)):=ha.ld
 have l4:s.ld a 4=some x.2.2:=ha.ld
 have l5:s.ldN a 0 5=some (.agg (lnRow x).toArray):=ha.ldN rfl
 have hd0:eqT (mkS x.1.dir) ⟨#[]⟩=decide (x.1.dir=[]):=zd9 _
 unfold zho
 by_cases c1:x.1.dir=[]
 ·rw [if_neg (fun hh=>hh c1)]
  have hlen:(lenV x.2.2).bind (asI .i64)=some (x.1.prs.length:Int):=by rw [hx.2.len];rfl
  by_cases c2:x.1.prs=[]
  ·rw [if_pos c2]
   have h0:(x.1.prs.length:Int)=0:=by rw [c2];rfl
   refine ⟨s,vw,ve,vv,its,?_,h,by omega⟩
   simp only [zgx,l2,l4,zob,zab,hd0,zdt c1,znt,zcf,hlen,zdt h0,zct]
  ·rw [if_neg c2]
   have h0:¬ (x.1.prs.length:Int)=0:=fun e=>c2 (List.length_eq_zero_iff.1 (by omega))
   obtain ⟨vw',s1,s2,s3,g1,g2,g3,g4,g5,g6,g7⟩:=h.rest x hx ho hpl hni
   have hnl:zau (ptr b 0)=some (ptr b 0):=rfl
   have lw:s.ld b (0+2)=some vw:=h.row.ld
   have lp:s.ld b 0=some (.int .i64 l.pl):=h.row.ld
   have e5:zaS (.agg (lnRow x).toArray) 5=some (lnRow x):=rfl
   have e6:=ztf l.pl x
   have g2':s1.stV b (0+2) 1 vw'=some s2:=g2
   have hw1:=zba (i:=l.pl) (by omega)
   have run:zgx (ptr b 0) a s=some (.bool (decide (((l.pl+1:Nat):Int)≤2048)),s3):=by
    simp only [zgx,l2,l4,l5,zob,zab,zaa,hd0,zdt c1,znt,zcf,hlen,zdf h0,hnl,zad,lw,lp,e5,e6,List.append_nil,g1,g2',g3,hw1,g4,g5]
   by_cases c3:l.pl+1≤2048
   ·rw [if_pos c3]
    have c3':((l.pl+1:Nat):Int)≤2048:=by omega
    exact ⟨s3,vw',ve,vv,_,by rw [run,zdt c3'],g6,by simp⟩
   ·rw [if_neg c3]
    have c3':¬ ((l.pl+1:Nat):Int)≤2048:=by omega
    exact ⟨s3,by rw [run,zdf c3'],g7⟩
 ·rw [if_pos c1]
  have hdir:=zoQ h x hx.1 (by omega) hn hsz
  cases hd:zcA l x.1 with
  | none=>
    rw [hd] at hdir
    obtain ⟨st',c,hfr⟩:=hdir
    refine ⟨st',?_,hfr⟩
    simp only [zgx,l2,l5,zob,zab,hd0,zdf c1,znf,zct,c,zal]
  | some l'=>
    rw [hd] at hdir
    obtain ⟨st',ve',vv',c,hb⟩:=hdir
    refine ⟨st',vw,ve',vv',its,?_,hb,by omega⟩
    simp only [zgx,l2,l5,zob,zab,hd0,zdf c1,znf,zct,c,zal]
theorem zk9 (l:Lay) (x:PLine):zgw l x=(if x.lab=[] then some l else l.define x.lab l.pl).bind fun l=>zho l x:=rfl
theorem zps {l l':Lay} {n:List UInt8} {x:Int} (h:l.define n x=some l'):l'.pl=l.pl∧l'.ents=l.ents:=by
 unfold Lay.define at h
 split at h
 ·cases h
 ·cases h;exact ⟨rfl,rfl⟩
theorem ztg [Sym] {st0 st:SS} {B b i:Nat} {vw ve vv:Value} {l:Lay} {its:List WItem} (h:Bld st0 st B b i vw ve vv l its) (x:Item) (hx:Rd st0 x.2.1 (rowsF valRow x.1.args) 3 x.1.args.length∧Rd st0 x.2.2 (rowsF prRow x.1.prs) 5 x.1.prs.length)
  (ho:one x.2.1=true∧one x.2.2=true) (hpl:l.pl≤2048) (hn:l.ents.length≤100000) (hni:its.length≤100000) (hsz:x.1.args.length≤100000):
  match zgw l x.1 with
  | none=>∃ st',cc 43 [ptr b 0,.agg (lnRow x).toArray] st=some (.bool false,st')∧Frm b i vw st st'
  | some l'=>∃ st' vw' ve' vv' its',cc 43 [ptr b 0,.agg (lnRow x).toArray] st=some (.bool true,st')∧Bld st0 st' B b i vw' ve' vv' l' its'∧its'.length≤its.length+1:=by
 have hlm:st.lim≤st.next:=by rw [h.ext.lim];have:=h.ll;have:=h.ext.next;omega
 have x1:Ext st (st.new (.cells (lnRow x) 0)):=(Ext.refl st).new _
 have a1:At (st.new (.cells (lnRow x) 0)) st.next (lnRow x):=At.new hlm _
 have l1:(st.new (.cells (lnRow x) 0)).ld st.next 1=some (.string (mkS x.1.lab)):=a1.ld
 have hlb:eqT (mkS x.1.lab) ⟨#[]⟩=decide (x.1.lab=[]):=zd9 _
 have h1:=h.then x1
 rw [zk9]
 by_cases c1:x.1.lab=[]
 ·rw [if_pos c1,zob]
  have e:zbJ cc zc8 (ptr b 0) (.agg (lnRow x).toArray) st=zgx (ptr b 0) st.next (st.new (.cells (lnRow x) 0)):=by
   simp only [zbJ,zaF,l1,zob,zab,hlb,zdt c1,znt,zcf]
   rfl
  have hr:=zpS h1 x a1 hx ho hpl hn hni hsz
  cases hl:zho l x.1 with
  | none=>
    rw [hl] at hr
    obtain ⟨st',c,hfr⟩:=hr
    exact ⟨st',zbK _ _ st (e.trans c),(Frm.ext x1).trans hfr⟩
  | some l'=>
    rw [hl] at hr
    obtain ⟨st',vw',ve',vv',its',c,r⟩:=hr
    exact ⟨st',vw',ve',vv',its',zbK _ _ st (e.trans c),r⟩
 ·rw [if_neg c1]
  have lp:(st.new (.cells (lnRow x) 0)).ld b 0=some (.int .i64 l.pl):=h1.row.ld
  have hnl:zau (ptr b 0)=some (ptr b 0):=rfl
  have hdef:=h1.define x.1.lab l.pl
  cases hd:l.define x.1.lab l.pl with
  | none=>
    rw [hd] at hdef
    simp only at hdef
    refine ⟨_,zbK _ _ st (r:=(.bool false,st.new (.cells (lnRow x) 0))) ?_,.ext x1⟩
    simp only [zbJ,zaF,l1,zob,zab,zaa,hlb,zdf c1,znf,zct,hnl,zad,lp,hdef,zal]
  | some l1'=>
    rw [hd] at hdef
    obtain ⟨s2,c2,m2,h2⟩:=hdef
    rw [zob]
    obtain ⟨e1,e2⟩:=zps hd
    have a2:At s2 st.next (lnRow x):=a1.mod m2 (by have:=h.iB;have:=h.BN;simp;omega)
    have e:zbJ cc zc8 (ptr b 0) (.agg (lnRow x).toArray) st=zgx (ptr b 0) st.next s2:=by
     simp only [zbJ,zaF,l1,zob,zab,zaa,hlb,zdf c1,znf,zct,hnl,zad,lp,c2,zal,znt,zcf]
     rfl
    have hr:=zpS h2 x a2 hx ho (by omega) (by rw [e2];exact hn) hni hsz
    cases hl:zho l1' x.1 with
    | none=>
      rw [hl] at hr
      obtain ⟨st',c,hfr⟩:=hr
      exact ⟨st',zbK _ _ st (e.trans c),((Frm.ext x1).trans (.mod m2 (by simp))).trans hfr⟩
    | some l'=>
      rw [hl] at hr
      obtain ⟨st',vw',ve',vv',its',c,r⟩:=hr
      exact ⟨st',vw',ve',vv',its',zbK _ _ st (e.trans c),r⟩
end Go.Proofs.YtifploedaacedaaGreatDoorE
namespace Go.Proofs.YtifploedaacedaaGreatDoorE
open Go Go.E Go.Proofs
def VOk (v:Val):Prop:=0<v.col∧ -2147483648≤v.x∧v.x≤2147483647
def POk (p:Pr):Prop:=0<p.col∧VOk p.v
structure LineOk (M:Nat) (x:PLine):Prop where
 args:∀ v∈x.args,VOk v
 prs:∀ p∈x.prs,POk p
 sa:x.args.length≤M
 sp:x.prs.length≤M
def ziZ (t:Tok):Prop:=TokOk t∧0<t.col
theorem zr9 (k col:Nat) (l:List UInt8) (ts:List Tok) (h:zca k col l=.ok ts):∀ t∈ts,0<t.col:=by
 induction k generalizing col l ts with
 | zero=>cases h;intro t ht;cases ht
 | succ k ih=>
   unfold zca at h
   split at h
   ·cases h;intro t ht;cases ht
   ·exact ih _ _ _ h
   ·rename_i kd n x hs
    cases hx:zca k (col+n) (l.drop n) with
    | error e=>rw [hx] at h;cases h
    | ok us=>
      rw [hx] at h;cases h
      intro t ht
      rcases List.mem_cons.1 ht with rfl | ht
      ·exact Nat.succ_pos _
      ·exact ih _ _ _ hx t ht
   ·cases h
theorem zth {p:List UInt8} {ts:List Tok} (h:zb4 p=.ok ts):∀ t∈ts,ziZ t:=fun t ht=>by
 refine ⟨(zoA h).2 t ht,?_⟩
 unfold zb4 at h
 split at h
 ·rename_i us hu
  cases h
  rcases List.mem_append.1 ht with ht | ht
  ·exact zr9 _ _ _ _ hu t ht
  ·have:t=zdp p:=by simpa using ht
   subst this
   exact Nat.succ_pos _
 ·cases h
theorem zns {α:Type} {n:Nat} {l:List α} {x:α} (h:x∈l.drop n):x∈l:=List.mem_of_mem_drop h
theorem zpT {l:List Tok} (hl:∀ t∈l,ziZ t) {v:Val} {n:Nat} (h:zea l=.ok (v,n)):VOk v:=by
 cases l with
 | nil=>cases h
 | cons t r=>
   rw [zfd] at h
   have ht:=hl t (by simp)
   have n0:=ht.1.nm0
   have n1:=ht.1.nm1
   split at h
   ·cases h;exact ⟨ht.2,by show -2147483648≤t.nm;omega,by show t.nm≤2147483647;omega⟩
   ·split at h
    ·cases r with
     | nil=>cases h
     | cons s u=>
       simp only at h
       split at h
       ·cases u with
        | nil=>cases h
        | cons m w=>
          simp only at h
          have hm:=(hl m (by simp)).1
          have m0:=hm.nm0
          have m1:=hm.nm1
          split at h
          ·cases h;exact ⟨ht.2,by show -2147483648≤m.nm;omega,by show m.nm≤2147483647;omega⟩
          ·cases h
       ·split at h
        ·cases u with
         | nil=>cases h
         | cons m w=>
           simp only at h
           have hm:=(hl m (by simp)).1
           have m0:=hm.nm0
           have m1:=hm.nm1
           split at h
           ·cases h;exact ⟨ht.2,by show -2147483648≤ -m.nm;omega,by show -m.nm≤2147483647;omega⟩
           ·cases h
        ·cases h;exact ⟨ht.2,by show (-2147483648:Int)≤0;omega,by show (0:Int)≤2147483647;omega⟩
    ·cases h
theorem zul (k:Nat) (l:List Tok) (hl:∀ t∈l,ziZ t) (vs:List Val) (h:zdq k l=.ok vs):(∀ v∈vs,VOk v)∧vs.length≤k:=by
 induction k generalizing l vs with
 | zero=>cases h;exact ⟨fun v hv=>(by cases hv),zlr _⟩
 | succ k ih=>
   cases l with
   | nil=>cases h;exact ⟨fun v hv=>(by cases hv),by simp⟩
   | cons t r=>
     unfold zdq at h
     split at h
     ·cases h;exact ⟨fun v hv=>(by cases hv),by simp⟩
     ·cases hx:zea (t::r) with
      | error o=>rw [hx] at h;cases h
      | ok y=>
        obtain ⟨v,n⟩:=y
        rw [hx] at h
        simp only at h
        cases hy:zdq k ((t::r).drop n) with
        | error o=>rw [hy] at h;cases h
        | ok us=>
          rw [hy] at h;cases h
          obtain ⟨h1,h2⟩:=ih _ (fun q hq=>hl q (zns hq)) us hy
          refine ⟨fun w hw=>?_,by simp;omega⟩
          rcases List.mem_cons.1 hw with rfl | hw
          ·exact zpT hl hx
          ·exact h1 w hw
theorem zum {seen:List (List UInt8)} {l:List Tok} (hl:∀ t∈l,ziZ t) {p:Pr} {n:Nat} (h:pairT seen l=.ok (p,n)):POk p:=by
 cases l with
 | nil=>cases h
 | cons t r=>
   rw [zgq] at h
   split at h
   ·cases r with
    | nil=>cases h
    | cons e u=>
      simp only at h
      split at h
      ·cases hx:zea u with
       | error o=>rw [hx] at h;cases h
       | ok y=>
         obtain ⟨v,m⟩:=y
         rw [hx] at h;cases h
         exact ⟨(hl t (by simp)).2,zpT (fun q hq=>hl q (by simp [hq])) hx⟩
      ·cases h
   ·cases h
theorem zti (k:Nat) (seen:List (List UInt8)) (l:List Tok) (hl:∀ t∈l,ziZ t) (ps:List Pr) (h:zaZ k seen l=.ok ps):(∀ p∈ps,POk p)∧ps.length≤k:=by
 induction k generalizing seen l ps with
 | zero=>cases h;exact ⟨fun v hv=>(by cases hv),zlr _⟩
 | succ k ih=>
   cases l with
   | nil=>cases h;exact ⟨fun v hv=>(by cases hv),by simp⟩
   | cons t r=>
     unfold zaZ at h
     split at h
     ·cases h;exact ⟨fun v hv=>(by cases hv),by simp⟩
     ·cases hx:pairT seen (t::r) with
      | error o=>rw [hx] at h;cases h
      | ok y=>
        obtain ⟨p,n⟩:=y
        rw [hx] at h
        simp only at h
        cases hy:zaZ k (seen++[p.fd]) ((t::r).drop n) with
        | error o=>rw [hy] at h;cases h
        | ok us=>
          rw [hy] at h;cases h
          obtain ⟨h1,h2⟩:=ih _ _ (fun q hq=>hl q (zns hq)) us hy
          refine ⟨fun w hw=>?_,by simp;omega⟩
          rcases List.mem_cons.1 hw with rfl | hw
          ·exact zum hl hx
          ·exact h1 w hw
theorem zmT {M:Nat} (lab:List UInt8) (l:List Tok) (hl:∀ t∈l,ziZ t) (hM:l.length≤M) (x:PLine) (h:zc2 lab l=.ok x):LineOk M x:=by
 cases l with
 | nil=>cases h
 | cons t r=>
   rw [zdr] at h
   split at h
   ·cases r with
    | nil=>cases h
    | cons d u=>
      simp only at h
      split at h
      ·cases hx:zdq u.length u with
       | error o=>rw [hx] at h;cases h
       | ok vs=>
         rw [hx] at h;cases h
         obtain ⟨h1,h2⟩:=zul _ _ (fun q hq=>hl q (by simp [hq])) vs hx
         simp only [List.length_cons] at hM
         exact ⟨h1,fun p hp=>(by cases hp),by show vs.length≤M;omega,by simp⟩
      ·cases h
   ·cases hx:zaZ (t::r).length [] (t::r) with
    | error o=>rw [hx] at h;cases h
    | ok ps=>
      rw [hx] at h;cases h
      obtain ⟨h1,h2⟩:=zti _ _ _ hl ps hx
      exact ⟨fun p hp=>(by cases hp),h1,by simp,by show ps.length≤M;omega⟩
theorem zun {M:Nat} (l:List Tok) (hl:∀ t∈l,ziZ t) (hM:l.length≤M) (x:PLine) (h:readT l=.ok x):LineOk M x:=by
 unfold readT at h
 split at h
 ·rename_i t s r
  split at h
  ·split at h
   ·cases h
   ·rename_i y hy
    cases h
    simp only [List.length_cons] at hM
    exact zmT _ _ (fun q hq=>hl q (by simp [hq])) (by omega) _ hy
  ·exact zmT _ _ hl hM _ h
 ·exact zmT _ _ hl hM _ h
theorem zsa {M:Nat} (tss:List (List Tok)) (i:Nat) (hl:∀ ts∈tss,(∀ t∈ts,ziZ t)∧ts.length≤M) (xs:List PLine) (h:zcy i tss=.ok xs):(∀ x∈xs,LineOk M x∧0<x.ln)∧xs.length≤tss.length:=by
 induction tss generalizing i xs with
 | nil=>cases h;exact ⟨fun v hv=>(by cases hv),zlr _⟩
 | cons ts r ih=>
   unfold zcy at h
   cases hx:readT ts with
   | error o=>rw [hx] at h;cases h
   | ok x=>
     rw [hx] at h
     simp only at h
     cases hy:zcy (i+1) r with
     | error e=>rw [hy] at h;cases h
     | ok ys=>
       rw [hy] at h;cases h
       obtain ⟨h1,h2⟩:=ih (i+1) (fun q hq=>hl q (by simp [hq])) ys hy
       obtain ⟨g1,g2⟩:=hl ts (by simp)
       have hv:=zun ts g1 g2 x hx
       split
       ·refine ⟨fun w hw=>?_,by simp;omega⟩
        rcases List.mem_cons.1 hw with rfl | hw
        ·exact ⟨⟨hv.args,hv.prs,hv.sa,hv.sp⟩,Nat.succ_pos _⟩
        ·exact h1 w hw
       ·exact ⟨h1,by simp;omega⟩
theorem zuo (ps:List (List UInt8)) (M i:Nat) (hM:∀ p∈ps,p.length+1≤M) (tss:List (List Tok)) (h:zcr i ps=.ok tss):∀ ts∈tss,(∀ t∈ts,ziZ t)∧ts.length≤M:=by
 induction ps generalizing i tss with
 | nil=>cases h;intro ts hts;cases hts
 | cons p r ih=>
   unfold zcr at h
   cases hx:zb4 p with
   | error c=>rw [hx] at h;cases h
   | ok ts=>
     rw [hx] at h
     cases hy:zcr (i+1) r with
     | error e=>rw [hy] at h;cases h
     | ok us=>
       rw [hy] at h;cases h
       intro ts' ht
       rcases List.mem_cons.1 ht with rfl | ht
       ·exact ⟨zth hx,zlt (znl p _ hx) (hM p (by simp))⟩
       ·exact ih _ (fun q hq=>hM q (by simp [hq])) _ hy ts' ht
theorem zup {l:List UInt8} {xs:List PLine} (h:zgp l=.ok xs):(∀ x∈xs,LineOk (l.length+1) x∧0<x.ln)∧xs.length≤l.length+1:=by
 unfold zgp at h
 cases hy:zcr 0 (pieces 10 l) with
 | error e=>rw [hy] at h;cases h
 | ok tss=>
   rw [hy] at h
   obtain ⟨h1,h2⟩:=zsa tss 0 (zuo _ (l.length+1) _ (fun p hp=>by have:=ziM 10 l p hp;omega) tss hy) xs h
   exact ⟨h1,zlt h2 (by rw [zrO _ _ _ hy];exact pieces_len 10 l)⟩
def zfG (l:Lay):List PLine→Except (Nat×Nat) Lay
 | []=>.ok l
 | x::r=>match zgw l x with
   | none=>.error (x.ln,1)
   | some l'=>zfG l' r
def zem:Lay:=⟨0,[],[],[]⟩
structure LayOk (M:Nat) (l:Lay):Prop where
 pl:l.pl≤2048
 nms:NmsOk l.nms
 ris:l.wds.Pairwise fun a b=>a.1<b.1
 lt:∀ x∈l.wds,x.1<l.pl
 prs:∀ x∈l.wds,LineOk M x.2∧x.2.prs≠[]∧0<x.2.ln
 ent:∀ e∈l.ents,e.1.nm≠[]∧0<e.2.1∧0<e.2.2
theorem zpU (M:Nat):LayOk M zem:=⟨by decide,fun x hx=>(by cases hx),List.Pairwise.nil,fun x hx=>(by cases hx),fun x hx=>(by cases hx),fun x hx=>(by cases hx)⟩
theorem Lay.define_ok {M:Nat} {l l':Lay} (h:LayOk M l) {n:List UInt8} {x:Int} (hx: -4294967296≤x∧x≤4294967296) (hd:l.define n x=some l'):LayOk M l'∧l'.pl=l.pl∧l'.ents=l.ents∧l'.wds=l.wds:=by
 unfold Lay.define at hd
 split at hd
 ·cases hd
 ·cases hd
  refine ⟨{ h with nms:=fun y hy=>?_ },rfl,rfl,rfl⟩
  rcases List.mem_append.1 hy with hy | hy
  ·exact h.nms y hy
  ·have:y=(n,x):=by simpa using hy
   subst this
   exact hx
theorem LayOk.place {M:Nat} {l:Lay} (h:LayOk M l) {p:Nat} (h1:l.pl≤p) (h2:p≤2048):LayOk M { l with pl:=p }:={ h with pl:=h2,lt:=fun x hx=>zll (h.lt x hx) h1 }
theorem ztj {p n:Nat} (hn:1≤n):p≤(p+n-1)/n*n:=by
 have h1:=Nat.div_add_mod (p+n-1) n
 have h2:=Nat.mod_lt (p+n-1) (show 0<n by omega)
 have h3:n*((p+n-1)/n)=(p+n-1)/n*n:=Nat.mul_comm _ _
 omega
theorem zuq {M:Nat} {l l':Lay} (h:LayOk M l) {x:PLine} (hx:LineOk M x) (h0:0<x.ln) (hd:zcA l x=some l'):LayOk M l'∧l'.ents.length≤l.ents.length+1:=by
 unfold zcA at hd
 cases ha:x.args with
 | nil=>rw [ha] at hd;cases hd
 | cons v r=>
   rw [ha] at hd
   simp only at hd
   have hv:=hx.args v (by rw [ha];simp)
   split at hd
   ·split at hd
    ·rename_i hc
     cases hd
     exact ⟨h.place (by omega) (by omega),by simp⟩
    ·cases hd
   ·split at hd
    ·split at hd
     ·rename_i hc
      cases hd
      exact ⟨h.place (ztj (by omega)) hc.2.2.2.2,by simp⟩
     ·cases hd
    ·split at hd
     ·split at hd
      ·rename_i y
       split at hd
       ·have hy:=hx.args y (by rw [ha];simp)
        obtain ⟨g1,g2,g3,g4⟩:=Lay.define_ok h (by have:=hy.2;omega) hd
        exact ⟨g1,by rw [g3];omega⟩
       ·cases hd
      ·cases hd
     ·split at hd
      ·split at hd
       ·rename_i hc
        cases hd
        refine ⟨{ h with ent:=fun e he=>?_ },by simp⟩
        rcases List.mem_append.1 he with he | he
        ·exact h.ent e he
        ·have:e=(v,x.ln,v.col):=by simpa using he
         subst this
         exact ⟨hc.1,h0,hv.1⟩
       ·cases hd
      ·cases hd
theorem zoR {M:Nat} {l l':Lay} (h:LayOk M l) {x:PLine} (hx:LineOk M x) (h0:0<x.ln) (hd:zgw l x=some l'):LayOk M l'∧l'.ents.length≤l.ents.length+1:=by
 rw [zk9] at hd
 have hlab:∃ l1,(if x.lab=[] then some l else l.define x.lab l.pl)=some l1∧LayOk M l1∧l1.ents=l.ents∧zho l1 x=some l':=by
  cases hc:(if x.lab=[] then some l else l.define x.lab l.pl) with
  | none=>rw [hc] at hd;cases hd
  | some l1=>
    rw [hc] at hd
    refine ⟨l1,rfl,?_⟩
    split at hc
    ·cases hc;exact ⟨h,rfl,hd⟩
    ·have:=h.pl
     obtain ⟨g1,g2,g3,g4⟩:=Lay.define_ok h (by omega) hc
     exact ⟨g1,g3,hd⟩
 obtain ⟨l1,_,h1,h2,h3⟩:=hlab
 rw [← h2]
 unfold zho at h3
 split at h3
 ·exact zuq h1 hx h0 h3
 ·split at h3
  ·cases h3;exact ⟨h1,by omega⟩
  ·split at h3
   ·rename_i hp hpl
    cases h3
    refine ⟨⟨hpl,h1.nms,?_,fun y hy=>?_,fun y hy=>?_,h1.ent⟩,by simp⟩
    ·show List.Pairwise _ (l1.wds++[(l1.pl,x)])
     rw [List.pairwise_append]
     refine ⟨h1.ris,List.pairwise_singleton _ _,fun a ha b hb=>?_⟩
     have:b=(l1.pl,x):=by simpa using hb
     subst this
     exact h1.lt a ha
    ·show y.1<l1.pl+1
     rcases List.mem_append.1 hy with hy | hy
     ·have:=h1.lt y hy;omega
     ·have:y=(l1.pl,x):=by simpa using hy
      subst this
      exact Nat.lt_succ_self _
    ·rcases List.mem_append.1 hy with hy | hy
     ·exact h1.prs y hy
     ·have:y=(l1.pl,x):=by simpa using hy
      subst this
      exact ⟨hx,hp,h0⟩
   ·cases h3
theorem zur {M:Nat} (xs:List PLine) (l l':Lay) (h:LayOk M l) (hx:∀ x∈xs,LineOk M x∧0<x.ln) (hd:zfG l xs=.ok l'):LayOk M l'∧l'.ents.length≤l.ents.length+xs.length:=by
 induction xs generalizing l with
 | nil=>cases hd;exact ⟨h,by simp⟩
 | cons x r ih=>
   unfold zfG at hd
   cases hc:zgw l x with
   | none=>rw [hc] at hd;cases hd
   | some l1=>
     rw [hc] at hd
     obtain ⟨g1,g2⟩:=zoR h (hx x (by simp)).1 (hx x (by simp)).2 hc
     obtain ⟨g3,g4⟩:=ih l1 g1 (fun y hy=>hx y (by simp [hy])) hd
     exact ⟨g3,by simp;omega⟩
theorem LayOk.wlen {M:Nat} {l:Lay} (h:LayOk M l):l.wds.length≤l.pl:=by
 have key:∀ (w:List (Nat×PLine)) (a p:Nat),a≤p→w.Pairwise (fun a b=>a.1<b.1)→(∀ x∈w,a≤x.1∧x.1<p)→w.length+a≤p:=by
  intro w
  induction w with
  | nil=>intro a p h _ _;simpa using h
  | cons x r ih=>
    intro a p h h1 h2
    rw [List.pairwise_cons] at h1
    have hx:=h2 x (by simp)
    have:=ih (x.1+1) p (by omega) h1.2 fun y hy=>⟨h1.1 y hy,(h2 y (by simp [hy])).2⟩
    simp only [List.length_cons]
    omega
 have:=key l.wds 0 l.pl (Nat.zero_le _) h.ris fun x hx=>⟨Nat.zero_le _,h.lt x hx⟩
 omega
def sizeT (l:Lay):Nat:=match l.wds.getLast? with | none=>0 | some x=>x.1+1
def zcC (nms:Nms) (N:Nat):List (Nat×PLine)→List Wd→Except (Nat×Nat) (List Wd)
 | [],ws=>.ok ws
 | x::r,ws=>if (za3 nms zaJ x.2.prs).2≠0 then .error (x.2.ln,(za3 nms zaJ x.2.prs).2)
   else if ((zcT ((za3 nms zaJ x.2.prs).1.getD 8 0) ((za3 nms zaJ x.2.prs).1.getD 10 0) x.1).any fun t=>decide ((N:Int)<t.1+t.2))=true then .error (x.2.ln,((x.2.prs.head?).map (·.col)).getD 0)
   else zcC nms N r (ws.set x.1 (za3 nms zaJ x.2.prs).1)
def zgy (nms:Nms) (N:Nat):List (Val×Nat×Nat)→Except (Nat×Nat) (List (List UInt8×Int))
 | []=>.ok []
 | e::r=>match zbT nms e.1.nm with
   | none=>.error e.2
   | some x=>if x<0∨(N:Int)≤x then .error e.2 else match zgy nms N r with
     | .error z=>.error z
     | .ok es=>.ok ((e.1.nm,x)::es)
def zhK (l:Lay):Except (Nat×Nat) (List Wd×List (List UInt8×Int)):=match zcC l.nms (sizeT l) l.wds (List.replicate (sizeT l) zaJ) with
 | .error z=>.error z
 | .ok ws=>match zgy l.nms (sizeT l) l.ents with
   | .error z=>.error z
   | .ok es=>.ok (ws,es)
def asmT (t:List UInt8):Except (Nat×Nat) (List Wd×List (List UInt8×Int)):=match zgp t with
 | .error z=>.error z
 | .ok xs=>match zfG zem xs with
   | .error z=>.error z
   | .ok l=>zhK l
theorem zoS {M:Nat} {l:Lay} (h:LayOk M l):(∀ x∈l.wds,x.1<sizeT l)∧sizeT l≤2048:=by
 unfold sizeT
 cases hg:l.wds.getLast? with
 | none=>
   have:l.wds=[]:=List.getLast?_eq_none_iff.1 hg
   rw [this]
   exact ⟨fun x hx=>(by cases hx),by simp⟩
 | some y=>
   obtain ⟨w,hw⟩:=List.getLast?_eq_some_iff.1 hg
   have hris:=h.ris
   rw [hw,List.pairwise_append] at hris
   have hy:=h.lt y (by rw [hw];simp)
   have hp:=h.pl
   refine ⟨fun x hx=>?_,by simp only;omega⟩
   rw [hw] at hx
   simp only
   rcases List.mem_append.1 hx with hx | hx
   ·have:=hris.2.2 x hx y (by simp);omega
   ·have:x=y:=by simpa using hx
    subst this
    omega
def zen (w:Wd):Prop:=w.length=12∧zbv w=true
theorem znu {w:Wd}:zbv w=true↔∀ k,k<12→fitsT (w.getD k 0) (zav k)=true:=by
 unfold zbv
 rw [List.all_eq_true]
 exact ⟨fun h k hk=>h k (List.mem_range.2 hk),fun h k hk=>h k (List.mem_range.1 hk)⟩
theorem zsb {w:Wd} (hw:w.length=12) (hg:zbv w=true) (f:List UInt8) (x:Int) (h:(zbM w f x).2=0):zbv (zbM w f x).1=true:=by
 rw [znu] at hg ⊢
 intro k hk
 unfold zbM at h ⊢
 cases hf:zeG f with
 | none=>rw [hf] at h;cases h
 | some i=>
   rw [hf] at h
   simp only at h
   obtain ⟨_,_,_,hi⟩:=zk5 hf
   show fitsT ((if fitsT x (zav i)=true then (w.set i x,(0:Int)) else (w,1)).1.getD k 0) _=true
   by_cases hfit:fitsT x (zav i)=true
   ·rw [if_pos hfit]
    by_cases hki:k=i
    ·subst hki
     rw [List.getD_eq_getElem?_getD,List.getElem?_set_self (by omega)]
     exact hfit
    ·rw [List.getD_eq_getElem?_getD,List.getElem?_set_ne (fun e=>hki e.symm),← List.getD_eq_getElem?_getD]
     exact hg k hk
   ·rw [if_neg hfit] at h
    cases h
theorem zsc (nms:Nms) (prs:List Pr) (w:Wd) (hw:w.length=12) (hg:zbv w=true):zbv (za3 nms w prs).1=true:=by
 induction prs generalizing w with
 | nil=>exact hg
 | cons p r ih=>
   unfold za3
   split
   ·exact hg
   ·split
    ·exact hg
    ·split
     ·rename_i h;exact ih _ (by rw [zc0,hw]) (zsb hw hg _ _ h)
     ·exact hg
theorem ztk:zen zaJ:=⟨rfl,by decide+kernel⟩
theorem zus (nms:Nms) (prs:List Pr):zen (za3 nms zaJ prs).1:=⟨by rw [zk8];rfl,zsc nms prs zaJ rfl ztk.2⟩
end Go.Proofs.YtifploedaacedaaGreatDoorE
namespace Go.Proofs.YtifploedaacedaaGreatDoorE
open Go Go.E Go.Proofs
structure OL where
 v:Value
 c:List Value
 z:Nat
 n:Nat
structure Owns (B:Nat) (st:SS) (L:List OL):Prop where
 own:∀ (k:Nat) o,L[k]?=some o→Own B st o.v o.c o.z o.n
 dis:∀ (k m:Nat) a b j,L[k]?=some a→L[m]?=some b→blkOf a.v=some j→blkOf b.v=some j→k=m
section
variable {B : Nat} {st st' : SS} {L : List OL}
theorem Owns.ext (h:Owns B st L) (x:Ext st st'):Owns B st' L:=⟨fun k o e=>(h.own k o e).ext x,h.dis⟩
theorem Owns.modLt {S:List Nat} (h:Owns B st L) (m:Mod S st st') (hS:∀ j,j∈S→j<B):Owns B st' L:=⟨fun k o e=>(h.own k o e).modLt m hS,h.dis⟩
theorem Owns.push (h:Owns B st L) {k:Nat} {v:Value} {c row:List Value} {z n bt:Nat} (hk:L[k]?=some ⟨v,c,z,n⟩) (hb:B≤st.next) (hl:st.lim≤B) (hr:row.length=z) (hz:0<z) (h1:row.all one=true) (hs:(n+2)*bt≤2^44) (hn:n+1≤2^44):
  ∃ j s',(st.new (.cells row z)).app z bt v (.slice (some ⟨st.next,0,none⟩) 1 1)=some (.slice (some ⟨j,0,none⟩) (n+1) (n+1),s')∧Owns B s' (L.set k ⟨.slice (some ⟨j,0,none⟩) (n+1) (n+1),c++row,z,n+1⟩)∧Keep B [] st s':=by
 obtain ⟨j,s',g1,g2,g3,g4,g5,g6⟩:=zg1 (row:=row) (bt:=bt) (h.own k _ hk) hb hl hr hz h1 hs hn
 have hlt:k<L.length:=(List.getElem?_eq_some_iff.1 hk).1
 have hget:∀ m o,(L.set k ⟨.slice (some ⟨j,0,none⟩) (n+1) (n+1),c++row,z,n+1⟩)[m]?=some o→(m=k∧o=⟨.slice (some ⟨j,0,none⟩) (n+1) (n+1),c++row,z,n+1⟩)∨(m≠k∧L[m]?=some o):=fun m o ho=>by
  by_cases hm:m=k
  ·subst hm
   rw [List.getElem?_set_self hlt] at ho
   cases ho;exact .inl ⟨rfl,rfl⟩
  ·rw [List.getElem?_set_ne (fun e=>hm e.symm)] at ho
   exact .inr ⟨hm,ho⟩
 refine ⟨j,s',g1,⟨fun m o ho=>?_,fun m1 m2 a b q h1 h2 q1 q2=>?_⟩,⟨g5,g4,fun i hi _=>g6 i (by omega) fun e=>by have:=(zco (h.own k _ hk) e).1;omega⟩⟩
 ·rcases hget m o ho with ⟨_,rfl⟩ | ⟨hm,ho⟩
  ·exact g3
  ·exact zeR (h.own m o ho) g5 fun i hi e=>g6 i hi fun e'=>hm (h.dis m k _ _ i ho hk e e')
 ·rcases hget m1 a h1 with ⟨e1,rfl⟩ | ⟨e1,h1⟩<;>rcases hget m2 b h2 with ⟨e2,rfl⟩ | ⟨e2,h2⟩
  ·rw [e1,e2]
  ·cases q1
   have:=(zco (h.own m2 _ h2) q2).2
   omega
  ·cases q2
   have:=(zco (h.own m1 _ h1) q1).2
   omega
  ·exact h.dis m1 m2 a b q h1 h2 q1 q2
end
end Go.Proofs.YtifploedaacedaaGreatDoorE
namespace Go.Proofs.YtifploedaacedaaGreatDoorE
set_option maxRecDepth 20000
open Go Go.E Go.Proofs
def ze4:LoopI:=⟨[(0,.any),(2,.any),(3,.any),(4,.any),(103,.any),(104,.int .i64),(105,.int .i64)],[(.exit 4,[(2,.any),(3,.any),(4,.any)]),(.ret,[(2,.any),(3,.any)])]⟩
def ze5:LoopI:=⟨[(0,.any),(2,.any),(3,.any),(4,.any),(7,.any),(8,.any),(38,.any),(39,.int .i64),(40,.int .i64),(62,.any),(63,.int .i64),(64,.int .i64)],[(.exit 2,[(0,.any),(2,.any),(3,.any),(4,.any),(7,.any),(8,.any),(38,.any),(39,.int .i64),(40,.int .i64)]),(.ret,[(2,.any),(3,.any)])]⟩
def zfk:LoopI:=⟨[(0,.any),(2,.any),(3,.any),(4,.any),(38,.any),(39,.int .i64),(40,.int .i64)],[(.exit 0,[(0,.any),(2,.any),(3,.any),(4,.any)]),(.ret,[(2,.any),(3,.any)])]⟩
def zfs (n:Nat):Option LoopI:=cond (Nat.beq n 6) (some zfk) (cond (Nat.beq n 12) (some ze5) (cond (Nat.beq n 20) (some ze4) (none)))
noncomputable def zcD (cf:zan) (lf:zac) (b':Value) (st:SS):Option (Value×SS):=
 let a:SS:=st.new (.cells [.slice none 0 0,.slice none 0 0] 0)
 let b:SS:=a.new (.cells [.int .i64 0,.int .i64 0] 0)
 let c:SS:=b.new (.cells [.slice none 0 0,.slice none 0 0] 0)
 (zau b').bind fun d=>
 (addr? d).bind fun e=>
 (c.ld e.1 (e.2+2)).bind fun f=>
 ((lenV f).bind (asI .i64)).bind fun g=>
 cond (decide (0<g)) (
 (zau b').bind fun h=>
 (addr? h).bind fun i=>
 (c.ld i.1 (i.2+2)).bind fun j=>
 let k:Int:=IntKind.wrap .i64 (g-1)
 (zaw j k 6).bind fun l=>
 ((c.ld l.1 l.2).bind (asI .i64)).bind fun m=>
 let n:Int:=IntKind.wrap .i64 (m+1)
 (zeF n n 8).bind fun _=>
 let o:SS:=c.new (.cells (zet [.int .u64 0] n) 1)
 (o.st b.next 0 [.slice (some ⟨c.next,0,none⟩) ((n:Int).toNat) ((n:Int).toNat)]).bind fun p=>
 (zau b').bind fun q=>
 (addr? q).bind fun r=>
 (p.ld r.1 (r.2+2)).bind fun s=>
 ((lenV s).bind (asI .i64)).bind fun t=>
 (lf 6 [b',ptr st.next 0,ptr a.next 0,ptr b.next 0,s,.int .i64 t,.int .i64 0] p).bind fun u=>
 cond (Nat.beq u.1 0) (
 (u.2.1[0]?).bind fun v=>
 (u.2.1[1]?).bind fun w=>
 (u.2.1[2]?).bind fun x=>
 (u.2.1[3]?).bind fun y=>
 (zau v).bind fun z=>
 (addr? z).bind fun A=>
 (u.2.2.ld A.1 (A.2+4)).bind fun B=>
 ((lenV B).bind (asI .i64)).bind fun C=>
 (lf 20 [v,w,x,y,B,.int .i64 C,.int .i64 0] u.2.2).bind fun D=>
 cond (Nat.beq D.1 0) (
 (D.2.1[0]?).bind fun E=>
 (D.2.1[1]?).bind fun F=>
 (D.2.1[2]?).bind fun G=>
 (addr? G).bind fun H=>
 (D.2.2.ldN H.1 H.2 2).bind fun I=>
 (addr? E).bind fun J=>
 (D.2.2.stV J.1 J.2 2 I).bind fun K=>
 (addr? F).bind fun L=>
 (K.st L.1 L.2 [.int .i64 0,.int .i64 0]).bind fun M=>
 (addr? E).bind fun N=>
 (M.rdN N.1 N.2 2).bind fun O=>
 (addr? F).bind fun P=>
 (M.rdN P.1 P.2 2).bind fun Q=>
 some (.tuple #[O,Q],M)) (
 (D.2.1[0]?).bind fun R=>
 (D.2.1[1]?).bind fun S=>
 (addr? R).bind fun T=>
 (D.2.2.rdN T.1 T.2 2).bind fun U=>
 (addr? S).bind fun V=>
 (D.2.2.rdN V.1 V.2 2).bind fun W=>
 some (.tuple #[U,W],D.2.2))) (
 (u.2.1[0]?).bind fun X=>
 (u.2.1[1]?).bind fun Y=>
 (addr? X).bind fun Z=>
 (u.2.2.rdN Z.1 Z.2 2).bind fun aA=>
 (addr? Y).bind fun aB=>
 (u.2.2.rdN aB.1 aB.2 2).bind fun aC=>
 some (.tuple #[aA,aC],u.2.2))) (
 (zau b').bind fun aD=>
 (addr? aD).bind fun aE=>
 (c.ld aE.1 (aE.2+2)).bind fun aF=>
 ((lenV aF).bind (asI .i64)).bind fun aG=>
 (lf 6 [b',ptr st.next 0,ptr a.next 0,ptr b.next 0,aF,.int .i64 aG,.int .i64 0] c).bind fun aH=>
 cond (Nat.beq aH.1 0) (
 (aH.2.1[0]?).bind fun aI=>
 (aH.2.1[1]?).bind fun aJ=>
 (aH.2.1[2]?).bind fun aK=>
 (aH.2.1[3]?).bind fun aL=>
 (zau aI).bind fun aM=>
 (addr? aM).bind fun aN=>
 (aH.2.2.ld aN.1 (aN.2+4)).bind fun aO=>
 ((lenV aO).bind (asI .i64)).bind fun aP=>
 (lf 20 [aI,aJ,aK,aL,aO,.int .i64 aP,.int .i64 0] aH.2.2).bind fun aQ=>
 cond (Nat.beq aQ.1 0) (
 (aQ.2.1[0]?).bind fun aR=>
 (aQ.2.1[1]?).bind fun aS=>
 (aQ.2.1[2]?).bind fun aT=>
 (addr? aT).bind fun aU=>
 (aQ.2.2.ldN aU.1 aU.2 2).bind fun aV=>
 (addr? aR).bind fun aW=>
 (aQ.2.2.stV aW.1 aW.2 2 aV).bind fun aX=>
 (addr? aS).bind fun aY=>
 (aX.st aY.1 aY.2 [.int .i64 0,.int .i64 0]).bind fun aZ=>
 (addr? aR).bind fun bA=>
 (aZ.rdN bA.1 bA.2 2).bind fun bB=>
 (addr? aS).bind fun bC=>
 (aZ.rdN bC.1 bC.2 2).bind fun bD=>
 some (.tuple #[bB,bD],aZ)) (
 (aQ.2.1[0]?).bind fun bE=>
 (aQ.2.1[1]?).bind fun bF=>
 (addr? bE).bind fun bG=>
 (aQ.2.2.rdN bG.1 bG.2 2).bind fun bH=>
 (addr? bF).bind fun bI=>
 (aQ.2.2.rdN bI.1 bI.2 2).bind fun bJ=>
 some (.tuple #[bH,bJ],aQ.2.2))) (
 (aH.2.1[0]?).bind fun bK=>
 (aH.2.1[1]?).bind fun bL=>
 (addr? bK).bind fun bM=>
 (aH.2.2.rdN bM.1 bM.2 2).bind fun bN=>
 (addr? bL).bind fun bO=>
 (aH.2.2.rdN bO.1 bO.2 2).bind fun bP=>
 some (.tuple #[bN,bP],aH.2.2)))
noncomputable abbrev zak:zac:=lS Tryz.prog Lk0 Tryz.f44 zfs
theorem zjc:Lk0.func 44=some (44,Tryz.f44):=by kernel_rfl
theorem zcJ [Sym] (b':Value) (st:SS) {r:Value×SS} (h:zcD cc zak b' st=some r):cc 44 [b'] st=some r:=
 zaf (li:=zfs) zai zar zjc rfl (fun _=>rfl) (.trans (by kernel_rfl) h)
noncomputable def zb0 (cf:zan) (lf:zac) (b':Value) (t2':Value) (t3':Value) (r':Value) (t38':Value) (t39':Int) (t40':Int) (st:SS):Option (Nat×List Value×SS):=
 cond (decide (t40'<t39')) (
 (zaw t38' t40' 6).bind fun a=>
 (st.ldN a.1 a.2 6).bind fun b=>
 let c:SS:=st.new (.cells [.int .i64 0,.int .i64 0,.string ⟨#[]⟩,.string ⟨#[]⟩,.slice none 0 0,.slice none 0 0] 0)
 (c.stV st.next 0 6 b).bind fun d=>
 (d.ldN st.next 1 5).bind fun e=>
 (cf 72 [b',e] d).bind fun f=>
 (zaq f.1 0).bind fun g=>
 ((zaq f.1 1).bind (asI .i64)).bind fun h=>
 let i:SS:=f.2.new (.cells [.int .i64 0,.int .i64 0,.int .i64 0,.int .i64 0,.int .i64 0,.int .i64 0,.int .i64 0,.int .i64 0,.int .i64 0,.int .i64 0,.int .i64 0,.int .i64 0] 0)
 (i.stV f.2.next 0 12 g).bind fun j=>
 cond (decide (0<h)) (
 ((j.ld st.next 1).bind (asI .i64)).bind fun k=>
 cond (zbz (ptr st.next 1) t2') (
 (addr? t2').bind fun l=>
 (j.st l.1 l.2 [.slice none 0 0,.slice none 0 0]).bind fun m=>
 (addr? t3').bind fun n=>
 (m.st n.1 n.2 [.int .i64 k,.int .i64 h]).bind fun o=>
 some (1,[t2',t3'],o)) (
 none)) (
 (j.ldN f.2.next 0 12).bind fun p=>
 ((j.ld st.next 0).bind (asI .i64)).bind fun q=>
 (cf 62 [p,.int .i64 q] j).bind fun r=>
 ((lenV r.1).bind (asI .i64)).bind fun s=>
 (lf 12 [b',t2',t3',r',ptr st.next 0,ptr f.2.next 0,t38',.int .i64 t39',.int .i64 t40',r.1,.int .i64 s,.int .i64 0] r.2).bind fun t=>
 cond (Nat.beq t.1 0) (
 (t.2.1[0]?).bind fun u=>
 (t.2.1[1]?).bind fun v=>
 (t.2.1[2]?).bind fun w=>
 (t.2.1[3]?).bind fun x=>
 (t.2.1[4]?).bind fun y=>
 (t.2.1[5]?).bind fun z=>
 (t.2.1[6]?).bind fun A=>
 ((t.2.1[7]?).bind (asI .i64)).bind fun B=>
 ((t.2.1[8]?).bind (asI .i64)).bind fun C=>
 (addr? x).bind fun D=>
 (t.2.2.ld D.1 D.2).bind fun E=>
 (addr? y).bind fun F=>
 ((t.2.2.ld F.1 F.2).bind (asI .i64)).bind fun G=>
 (addr? z).bind fun H=>
 (t.2.2.ldN H.1 H.2 12).bind fun I=>
 (cf 73 [I] (t.2.2.ro t.2.2.next)).bind fun J=>
 ((zaq J.1 0).bind (asI .u64)).bind fun K=>
 ((zaq J.1 1).bind (asI .i64)).bind fun L=>
 (zaw E G 1).bind fun M=>
 ((J.2.ro t.2.2.lim).st M.1 M.2 [.int .u64 K]).bind fun N=>
 let O:Int:=IntKind.wrap .i64 (C+1)
 lf 6 [u,v,w,x,A,.int .i64 B,.int .i64 O] N) (
 (t.2.1[0]?).bind fun P=>
 (t.2.1[1]?).bind fun Q=>
 some (1,[P,Q],t.2.2)))) (
 some (0,[b',t2',t3',r'],st))
theorem zb8 [Sym] (b':Value) (t2':Value) (t3':Value) (r':Value) (t38':Value) (t39':Int) (t40':Int) (st:SS) {r:Nat×List Value×SS} (h:zb0 cc zak b' t2' t3' r' t38' t39' t40' st=some r):zak 6 [b',t2',t3',r',t38',.int .i64 t39',.int .i64 t40'] st=some r:=
 zaA zai zar (key:=6) (I:=zfk) rfl (by kernel_rfl) (by kernel_rfl) rfl rfl (.trans (by kernel_rfl) h)
noncomputable def zcv (cf:zan) (lf:zac) (b':Value) (t2':Value) (t3':Value) (r':Value) (x':Value) (w':Value) (t38':Value) (t39':Int) (t40':Int) (t62':Value) (t63':Int) (t64':Int) (st:SS):Option (Nat×List Value×SS):=
 cond (decide (t64'<t63')) (
 (zaw t62' t64' 2).bind fun a=>
 (st.ldN a.1 a.2 2).bind fun b=>
 let c:SS:=st.new (.cells [.int .i64 0,.int .i64 0] 0)
 (c.stV st.next 0 2 b).bind fun d=>
 (zbr (ptr st.next 0) 2 0 1).bind fun e=>
 ((d.ld e.1 e.2).bind (asI .i64)).bind fun f=>
 (zbr (ptr st.next 0) 2 1 1).bind fun g=>
 ((d.ld g.1 g.2).bind (asI .i64)).bind fun h=>
 let i:Int:=IntKind.wrap .i64 (f+h)
 (addr? r').bind fun j=>
 (d.ld j.1 j.2).bind fun k=>
 ((lenV k).bind (asI .i64)).bind fun l=>
 cond (decide (l<i)) (
 (addr? x').bind fun m=>
 ((d.ld m.1 (m.2+1)).bind (asI .i64)).bind fun n=>
 (addr? x').bind fun o=>
 (d.ld o.1 (o.2+1+4)).bind fun p=>
 (zaw p 0 5).bind fun q=>
 ((d.ld q.1 (q.2+1)).bind (asI .i64)).bind fun r=>
 cond (zbz (ptr m.1 (m.2+1)) t2') (
 cond (zbz (ptr o.1 (o.2+1+4)) t2') (
 cond (zbz (ptr q.1 (q.2+1)) t2') (
 (addr? t2').bind fun s=>
 (d.st s.1 s.2 [.slice none 0 0,.slice none 0 0]).bind fun t=>
 (addr? t3').bind fun u=>
 (t.st u.1 u.2 [.int .i64 n,.int .i64 r]).bind fun v=>
 some (1,[t2',t3'],v)) (
 none)) (
 none)) (
 none)) (
 let w:Int:=IntKind.wrap .i64 (t64'+1)
 lf 12 [b',t2',t3',r',x',w',t38',.int .i64 t39',.int .i64 t40',t62',.int .i64 t63',.int .i64 w] d)) (
 some (0,[b',t2',t3',r',x',w',t38',.int .i64 t39',.int .i64 t40'],st))
theorem zcL [Sym] (b':Value) (t2':Value) (t3':Value) (r':Value) (x':Value) (w':Value) (t38':Value) (t39':Int) (t40':Int) (t62':Value) (t63':Int) (t64':Int) (st:SS) {r:Nat×List Value×SS} (h:zcv cc zak b' t2' t3' r' x' w' t38' t39' t40' t62' t63' t64' st=some r):zak 12 [b',t2',t3',r',x',w',t38',.int .i64 t39',.int .i64 t40',t62',.int .i64 t63',.int .i64 t64'] st=some r:=
 zaA zai zar (key:=12) (I:=ze5) rfl (by kernel_rfl) (by kernel_rfl) rfl rfl (.trans (by kernel_rfl) h)
noncomputable def zbm (cf:zan) (lf:zac) (b':Value) (t2':Value) (t3':Value) (r':Value) (t103':Value) (t104':Int) (t105':Int) (st:SS):Option (Nat×List Value×SS):=
 cond (decide (t105'<t104')) (
 (zaw t103' t105' 3).bind fun a=>
 (st.ldN a.1 a.2 3).bind fun b=>
 let c:SS:=st.new (.cells [.string ⟨#[]⟩,.int .i64 0,.int .i64 0] 0)
 (c.stV st.next 0 3 b).bind fun d=>
 (zau b').bind fun e=>
 (addr? e).bind fun f=>
 (d.ld f.1 (f.2+1)).bind fun g=>
 ((d.ld st.next 0).bind asS).bind fun h=>
 (d.mapF g h).bind fun i=>
 ze9 i (
 (zau b').bind fun j=>
 (addr? j).bind fun k=>
 (d.ld k.1 (k.2+3)).bind fun l=>
 (zaw l t105' 2).bind fun m=>
 (d.ldN m.1 m.2 2).bind fun n=>
 cond (zbz (ptr k.1 (k.2+3)) t2') (
 cond (zbz (ptr m.1 m.2) t2') (
 (addr? t2').bind fun o=>
 (d.st o.1 o.2 [.slice none 0 0,.slice none 0 0]).bind fun p=>
 (addr? t3').bind fun q=>
 (p.stV q.1 q.2 2 n).bind fun r=>
 some (1,[t2',t3'],r)) (
 none)) (
 none)) (fun s=>
 ((zaq (.tuple #[s,.bool true]) 0).bind (asI .i64)).bind fun t=>
 cond (decide (t<0)) (
 (zau b').bind fun u=>
 (addr? u).bind fun v=>
 (d.ld v.1 (v.2+3)).bind fun w=>
 (zaw w t105' 2).bind fun x=>
 (d.ldN x.1 x.2 2).bind fun y=>
 cond (zbz (ptr v.1 (v.2+3)) t2') (
 cond (zbz (ptr x.1 x.2) t2') (
 (addr? t2').bind fun z=>
 (d.st z.1 z.2 [.slice none 0 0,.slice none 0 0]).bind fun A=>
 (addr? t3').bind fun B=>
 (A.stV B.1 B.2 2 y).bind fun C=>
 some (1,[t2',t3'],C)) (
 none)) (
 none)) (
 (addr? r').bind fun D=>
 (d.ld D.1 D.2).bind fun E=>
 ((lenV E).bind (asI .i64)).bind fun F=>
 cond (decide (F≤t)) (
 (zau b').bind fun G=>
 (addr? G).bind fun H=>
 (d.ld H.1 (H.2+3)).bind fun I=>
 (zaw I t105' 2).bind fun J=>
 (d.ldN J.1 J.2 2).bind fun K=>
 cond (zbz (ptr H.1 (H.2+3)) t2') (
 cond (zbz (ptr J.1 J.2) t2') (
 (addr? t2').bind fun L=>
 (d.st L.1 L.2 [.slice none 0 0,.slice none 0 0]).bind fun M=>
 (addr? t3').bind fun N=>
 (M.stV N.1 N.2 2 K).bind fun O=>
 some (1,[t2',t3'],O)) (
 none)) (
 none)) (
 (addr? r').bind fun P=>
 (d.ld P.1 (P.2+1)).bind fun Q=>
 ((d.ld st.next 0).bind asS).bind fun R=>
 let S:SS:=d.new (.cells ([.string R,.int .i64 t]) 2)
 (S.app 2 24 Q (.slice (some ⟨d.next,0,none⟩) 1 1)).bind fun T=>
 (addr? r').bind fun U=>
 (T.2.stV U.1 (U.2+1) 1 T.1).bind fun V=>
 let W:Int:=IntKind.wrap .i64 (t105'+1)
 lf 20 [b',t2',t3',r',t103',.int .i64 t104',.int .i64 W] V)))) (
 some (0,[t2',t3',r'],st))
theorem zbn [Sym] (b':Value) (t2':Value) (t3':Value) (r':Value) (t103':Value) (t104':Int) (t105':Int) (st:SS) {r:Nat×List Value×SS} (h:zbm cc zak b' t2' t3' r' t103' t104' t105' st=some r):zak 20 [b',t2',t3',r',t103',.int .i64 t104',.int .i64 t105'] st=some r:=
 zaA zai zar (key:=20) (I:=ze4) rfl (by kernel_rfl) (by kernel_rfl) rfl rfl (.trans (by kernel_rfl) h)
def zf9:LoopI:=⟨[(2,.any),(3,.any),(8,.any),(27,.any),(28,.int .i64),(29,.int .i64)],[(.exit 0,[(2,.any),(3,.any),(8,.any)]),(.ret,[(2,.any),(3,.any),(4,.int .i64)])]⟩
def zg2 (n:Nat):Option LoopI:=cond (Nat.beq n 6) (some zf9) (none)
noncomputable def zdC (cf:zan) (lf:zac) (text':ByteArray) (st:SS):Option (Value×SS):=
 let a:SS:=st.new (.cells [.slice none 0 0,.slice none 0 0] 0)
 let b:SS:=a.new (.cells [.int .i64 0,.int .i64 0] 0)
 (cf 42 [.string text'] b).bind fun c=>
 (zaq c.1 0).bind fun d=>
 (zaq c.1 1).bind fun e=>
 ((zaq c.1 2).bind (asI .i64)).bind fun f=>
 let g:SS:=c.2.new (.cells [.int .i64 0,.int .i64 0] 0)
 (g.stV c.2.next 0 2 e).bind fun h=>
 cond (!(decide (f=0))) (
 (h.ldN c.2.next 0 2).bind fun i=>
 cond (zbz (ptr c.2.next 0) (ptr st.next 0)) (
 (h.st st.next 0 [.slice none 0 0,.slice none 0 0]).bind fun j=>
 (j.stV a.next 0 2 i).bind fun k=>
 (k.rdN st.next 0 2).bind fun l=>
 (k.rdN a.next 0 2).bind fun m=>
 some (.tuple #[l,m,.int .i64 f],k)) (
 none)) (
 let n:SS:=h.new (.map [])
 let o:SS:=n.new (.cells [.int .i64 0,.map (some h.next),.slice none 0 0,.slice none 0 0,.slice none 0 0] 0)
 ((lenV d).bind (asI .i64)).bind fun p=>
 (lf 6 [ptr st.next 0,ptr a.next 0,ptr n.next 0,d,.int .i64 p,.int .i64 0] o).bind fun q=>
 cond (Nat.beq q.1 0) (
 (q.2.1[0]?).bind fun s=>
 (q.2.1[1]?).bind fun t=>
 (q.2.1[2]?).bind fun u=>
 (cf 44 [u] q.2.2).bind fun v=>
 (zaq v.1 0).bind fun w=>
 (zaq v.1 1).bind fun x=>
 let y:SS:=v.2.new (.cells [.slice none 0 0,.slice none 0 0] 0)
 let z:SS:=y.new (.cells [.int .i64 0,.int .i64 0] 0)
 (z.stV v.2.next 0 2 w).bind fun A=>
 (A.stV y.next 0 2 x).bind fun B=>
 (B.ldN y.next 0 2).bind fun C=>
 (((eqA Tryz.prog Lk0 97 C (.agg #[.int .i64 0,.int .i64 0])).bind fun r=>some (.bool !r)).bind asB).bind fun D=>
 cond D (
 (B.ldN y.next 0 2).bind fun E=>
 cond (zbz (ptr y.next 0) s) (
 (addr? s).bind fun F=>
 (B.st F.1 F.2 [.slice none 0 0,.slice none 0 0]).bind fun G=>
 (addr? t).bind fun H=>
 (G.stV H.1 H.2 2 E).bind fun I=>
 (addr? s).bind fun J=>
 (I.rdN J.1 J.2 2).bind fun K=>
 (addr? t).bind fun L=>
 (I.rdN L.1 L.2 2).bind fun M=>
 some (.tuple #[K,M,.int .i64 4],I)) (
 none)) (
 (B.ldN v.2.next 0 2).bind fun N=>
 (addr? s).bind fun O=>
 (B.stV O.1 O.2 2 N).bind fun P=>
 (addr? t).bind fun Q=>
 (P.st Q.1 Q.2 [.int .i64 0,.int .i64 0]).bind fun R=>
 (addr? s).bind fun S=>
 (R.rdN S.1 S.2 2).bind fun T=>
 (addr? t).bind fun U=>
 (R.rdN U.1 U.2 2).bind fun V=>
 some (.tuple #[T,V,.int .i64 0],R))) (
 (q.2.1[0]?).bind fun W=>
 (q.2.1[1]?).bind fun X=>
 ((q.2.1[2]?).bind (asI .i64)).bind fun Y=>
 (addr? W).bind fun Z=>
 (q.2.2.rdN Z.1 Z.2 2).bind fun aA=>
 (addr? X).bind fun aB=>
 (q.2.2.rdN aB.1 aB.2 2).bind fun aC=>
 some (.tuple #[aA,aC,.int .i64 Y],q.2.2)))
noncomputable abbrev zbh:zac:=lS Tryz.prog Lk0 Tryz.f16 zg2
theorem zla:Lk0.func 16=some (16,Tryz.f16):=by kernel_rfl
theorem zdw [Sym] (text':ByteArray) (st:SS) {r:Value×SS} (h:zdC cc zbh text' st=some r):cc 16 [.string text'] st=some r:=
 zaf (li:=zg2) zai zar zla rfl (fun _=>rfl) (.trans (by kernel_rfl) h)
noncomputable def zdx (cf:zan) (lf:zac) (t2':Value) (t3':Value) (b':Value) (t27':Value) (t28':Int) (t29':Int) (st:SS):Option (Nat×List Value×SS):=
 cond (decide (t29'<t28')) (
 (zaw t27' t29' 5).bind fun a=>
 (st.ldN a.1 a.2 5).bind fun b=>
 let c:SS:=st.new (.cells [.int .i64 0,.string ⟨#[]⟩,.string ⟨#[]⟩,.slice none 0 0,.slice none 0 0] 0)
 (c.stV st.next 0 5 b).bind fun d=>
 (d.ldN st.next 0 5).bind fun e=>
 (cf 43 [b',e] d).bind fun f=>
 ((some f.1).bind asB).bind fun g=>
 cond (!g) (
 ((f.2.ld st.next 0).bind (asI .i64)).bind fun h=>
 cond (zbz (ptr st.next 0) t2') (
 (addr? t2').bind fun i=>
 (f.2.st i.1 i.2 [.slice none 0 0,.slice none 0 0]).bind fun j=>
 (addr? t3').bind fun k=>
 (j.st k.1 k.2 [.int .i64 h,.int .i64 1]).bind fun l=>
 some (1,[t2',t3',.int .i64 4],l)) (
 none)) (
 let m:Int:=IntKind.wrap .i64 (t29'+1)
 lf 6 [t2',t3',b',t27',.int .i64 t28',.int .i64 m] f.2)) (
 some (0,[t2',t3',b'],st))
theorem zdM [Sym] (t2':Value) (t3':Value) (b':Value) (t27':Value) (t28':Int) (t29':Int) (st:SS) {r:Nat×List Value×SS} (h:zdx cc zbh t2' t3' b' t27' t28' t29' st=some r):zbh 6 [t2',t3',b',t27',.int .i64 t28',.int .i64 t29'] st=some r:=
 zaA zai zar (key:=6) (I:=zf9) rfl (by kernel_rfl) (by kernel_rfl) rfl rfl (.trans (by kernel_rfl) h)
noncomputable def zbL (cf:zan) (lf:zac) (l':Value) (name':ByteArray) (n':Int) (st:SS):Option (Value×SS):=
 (zau l').bind fun a=>
 (addr? a).bind fun b=>
 (st.ld b.1 b.2).bind fun c=>
 (cf 47 [c,.string name'] st).bind fun d=>
 ((some d.1).bind (asI .i64)).bind fun e=>
 cond (decide (0≤e)) (
 some (.bool false,d.2)) (
 cond (eqT name' ⟨#[]⟩) (
 some (.bool false,d.2)) (
 (zau l').bind fun f=>
 (addr? f).bind fun g=>
 (d.2.ld g.1 g.2).bind fun h=>
 let i:SS:=d.2.new (.cells ([.string name']) 1)
 (i.app 1 16 h (.slice (some ⟨d.2.next,0,none⟩) 1 1)).bind fun j=>
 (zau l').bind fun k=>
 (addr? k).bind fun l=>
 (j.2.stV l.1 l.2 1 j.1).bind fun m=>
 (zau l').bind fun n=>
 (addr? n).bind fun o=>
 (m.ld o.1 (o.2+1)).bind fun p=>
 let q:SS:=m.new (.cells ([.int .i64 n']) 1)
 (q.app 1 8 p (.slice (some ⟨m.next,0,none⟩) 1 1)).bind fun r=>
 (zau l').bind fun s=>
 (addr? s).bind fun t=>
 (r.2.stV t.1 (t.2+1) 1 r.1).bind fun u=>
 some (.bool true,u)))
noncomputable abbrev zfH:zac:=lS Tryz.prog Lk0 Tryz.f74 zaC
theorem zfI:Lk0.func 74=some (74,Tryz.f74):=by kernel_rfl
theorem zb1 [Sym] (l':Value) (name':ByteArray) (n':Int) (st:SS) {r:Value×SS} (h:zbL cc zfH l' name' n' st=some r):cc 74 [l',.string name',.int .i64 n'] st=some r:=
 zaf (li:=zaC) zai zar zfI rfl (fun _=>rfl) (.trans (by kernel_rfl) h)
end Go.Proofs.YtifploedaacedaaGreatDoorE
namespace Go.Proofs.YtifploedaacedaaGreatDoorE
open Go Go.E Go.Proofs
theorem znv {α:Type} {f:α→List Value} {z:Nat} (hz:∀ x,(f x).length=z) (x:α):∀ (l:List α) (k:Nat),k<l.length→(rowsF f l).take (k*z)++(f x++(rowsF f l).drop (k*z+z))=rowsF f (l.set k x)
 | [],k,h=>by simp at h
 | a::r,0,_=>by
   rw [zcP,List.set_cons_zero,zcP,Nat.zero_mul,List.take_zero,List.nil_append,Nat.zero_add,List.drop_append,hz,Nat.sub_self,List.drop_of_length_le (by rw [hz];exact zlr _)]
   simp
 | a::r,k+1,h=>by
   have ih:=znv hz x r k (by simpa using h)
   have e1:(k+1)*z-z=k*z:=by rw [Nat.add_mul];omega
   have e2:(k+1)*z+z-z=k*z+z:=by rw [Nat.add_mul];omega
   have e3:z≤(k+1)*z:=by rw [Nat.add_mul];omega
   rw [zcP,List.set_cons_succ,zcP,List.take_append,List.drop_append,hz,e1,e2,List.take_of_length_le (by rw [hz];exact e3),List.drop_of_length_le (by rw [hz];omega),List.nil_append,List.append_assoc,ih]
theorem zsd {α:Type} {f:α→List Value} {z:Nat} (hz:∀ x,(f x).length=z) (l:List α) (k:Nat) (x:α) (hk:k<l.length):zcx (rowsF f l) (k*z) (f x)=some (rowsF f (l.set k x)):=by
 have h1:(k+1)*z≤l.length*z:=Nat.mul_le_mul_right _ hk
 rw [Nat.add_mul,Nat.one_mul] at h1
 rw [zbs (by rw [hz,zhh hz];exact h1),hz,znv hz x l k hk]
theorem Own.put {b:Nat} {st:SS} {v:Value} {α:Type} {f:α→List Value} {z:Nat} (hz:∀ x,(f x).length=z) {l:List α} {n:Nat} (h:Own b st v (rowsF f l) z n) (hn:l.length=n) (hl:st.lim≤b) {k:Nat} (hk:k<n) (x:α) (h1:(f x).all one=true):
  ∃ i st',zaw v (k:Int) z=some (i,k*z)∧b≤i∧i<st.next∧st.st i (k*z) (f x)=some st'∧(∀ u:Value,u.cells.toList=f x→st.stV i (k*z) z u=some st')∧Own b st' v (rowsF f (l.set k x)) z n∧Mod [i] st st'∧st'.next=st.next:=by
 obtain ⟨h2,⟨rfl,h0⟩ | ⟨i,rfl,h0,hm,hb,hi⟩⟩:=h
 ·omega
 ·have hs:=SS.st_cells hm (by omega) h1 (zsd hz l k x (by omega))
  refine ⟨i,_,?_,hb,hi,hs,fun u hu=>?_,⟨?_,.inr ⟨i,rfl,h0,by simp,hb,by simpa using hi⟩⟩,⟨zlr _,rfl,fun j hj hS=>SS.set_old (by simpa using hS)⟩,rfl⟩
  ·unfold zaw
   simp [hk]
  ·unfold SS.stV
   have:u.cells.size=z:=by rw [← hz x,← hu];simp
   rw [this,hu,hs]
   simp
  ·rw [zhh hz,List.length_set,hn]
def zb9 (w:Wd):List Value:=[.int .u64 (zdv w)]
def zi0 (e:List UInt8×Int):List Value:=[.string (mkS e.1),.int .i64 e.2]
abbrev NN:List Value:=[.slice none 0 0,.slice none 0 0]
abbrev Z2:List Value:=[.int .i64 0,.int .i64 0]
def inR (N:Nat) (T:List (Int×Int)):Bool:=T.any fun t=>decide ((N:Int)<t.1+t.2)
theorem znw {x:Int} {n:Nat}:fitsT x n=true↔0≤x∧x<2^n:=by unfold fitsT;rw [decide_eq_true_eq]
theorem zoT {s tw a:Int} (ha:0≤a∧a≤4096) (ht:0≤tw∧tw<2048):∀ t∈zcT s tw a,0≤t.1∧t.1≤100000∧0≤t.2∧t.2≤100000:=by
 intro t h
 unfold zcT at h
 repeat' (split at h)
 all_goals first
  | (cases h;done)
  | (simp only [List.mem_cons,List.not_mem_nil,or_false] at h
     rcases h with rfl | rfl<;>simp only<;>omega)
  | (simp only [List.mem_cons,List.not_mem_nil,or_false] at h
     subst h
     simp only
     omega)
theorem zut {w:Wd} (h:zen w):0≤w.getD 10 0∧w.getD 10 0<2048:=by
 have h1:=znu.1 h.2 10 (by omega)
 have e:zav 10=11:=rfl
 rw [znw,e] at h1
 exact ⟨h1.1,by have:=h1.2;simpa using this⟩
theorem getD_some {w:Wd} {k:Nat} (h:k<w.length):w[k]?=some (w.getD k 0):=by
 rw [List.getD_eq_getElem?_getD,zge h];rfl
theorem ztl [Sym] {base st0:SS} (hx0:Ext base st0) (hll:base.lim≤base.next) {T:List (Int×Int)} (hT:∀ t∈T,0≤t.1∧t.1≤100000∧0≤t.2∧t.2≤100000) (hTl:T.length≤10) {x:WItem} {b' w' t38 v wv ev:Value} {n j:Int} {t2 t3 r xb N:Nat}
  (hN:(lenV wv).bind (asI .i64)=some (N:Int)) (hr:At st0 r [wv,ev]) (a2:At st0 t2 NN) (a3:At st0 t3 Z2) (ax:At st0 xb (wdRow x)) (hne:t2≠t3) (h2:base.next≤t2) (h3:base.next≤t3) (hxb:xb≠t2) (p0:Pr) (ps:List Pr) (hps:x.2.1.prs=p0::ps) (hp:Rd base x.2.2.2 (rowsF prRow x.2.1.prs) 5 x.2.1.prs.length)
  (hv:Rd st0 v (rowsF zfj T) 2 T.length):∀ (k i:Nat) (s:SS),T.length=k+i→Ext st0 s→
  ∃ s',if inR N (T.drop i)=true then zak 12 [b',ptr t2 0,ptr t3 0,ptr r 0,ptr xb 0,w',t38,.int .i64 n,.int .i64 j,v,.int .i64 T.length,.int .i64 i] s=some (1,[ptr t2 0,ptr t3 0],s')∧Ext base s'∧At s' t2 NN∧At s' t3 [.int .i64 x.2.1.ln,.int .i64 p0.col]
   else zak 12 [b',ptr t2 0,ptr t3 0,ptr r 0,ptr xb 0,w',t38,.int .i64 n,.int .i64 j,v,.int .i64 T.length,.int .i64 i] s=some (0,[b',ptr t2 0,ptr t3 0,ptr r 0,ptr xb 0,w',t38,.int .i64 n,.int .i64 j],s')∧Ext st0 s':=by
 intro k
 induction k with
 | zero=>
   intro i s hk he
   have h:¬ (i:Int)<(T.length:Int):=by omega
   rw [List.drop_of_length_le (by omega)]
   refine ⟨s,?_⟩
   rw [if_neg (by simp [inR])]
   refine ⟨zcL _ _ _ _ _ _ _ _ _ _ _ _ s ?_,he⟩
   simp only [zcv,zdf h,zcf]
 | succ k ih=>
   intro i s hk he
   have h:(i:Int)<(T.length:Int):=by omega
   obtain ⟨t,ht⟩:∃ t,T[i]?=some t:=⟨_,zge (by omega)⟩
   obtain ⟨q1,q2,q3,q4⟩:=hT t (zmg ht)
   obtain ⟨p,b1,b2,_⟩:=(hv.ext he).load (j:=(i:Int)) (by omega) h (zbt (f:=zfj) (z:=2) (fun _=>rfl) T i t ht) rfl
   have b2':s.ldN p.1 p.2 2=some (.agg (zfj t).toArray):=b2
   have hlm:s.lim≤s.next:=((hx0.trans he).ll hll)
   obtain ⟨s4,e4,a4,x4,n4⟩:=zbk (st:=s) hlm (r:=Z2) (row:=zfj t) (v:=.agg (zfj t).toArray) (zaF _) rfl rfl rfl
   have e4':(s.new (.cells [.int .i64 0,.int .i64 0] 0)).stV s.next 0 2 (.agg (zfj t).toArray)=some s4:=e4
   have he4:=he.trans x4
   have c5:zbr (ptr s.next 0) 2 0 1=some (s.next,0):=rfl
   have c7:zbr (ptr s.next 0) 2 1 1=some (s.next,1):=rfl
   have l6:s4.ld s.next 0=some (.int .i64 t.1):=a4.ld
   have l8:s4.ld s.next 1=some (.int .i64 t.2):=a4.ld
   have hw9:IntKind.wrap .i64 (t.1+t.2)=t.1+t.2:=wrap64 (by omega) (by omega)
   have l11:s4.ld r 0=some wv:=(hr.ext he4).ld
   have hd:=drop_cons ht
   by_cases hc:(N:Int)<t.1+t.2
   ·obtain ⟨i15,z15,g1,g2,g3⟩:=hp.elem (j:=(0:Int)) (by omega) (by rw [hps];simp)
    obtain ⟨p17,f1,_,f3⟩:=((hp.ext hx0).ext he4).load (j:=(0:Int)) (by omega) (by rw [hps];simp) (row:=prRow p0) (by rw [hps];rfl) rfl
    have hp17:p17.1<base.next:=by rw [g1] at f1;cases f1;exact g3
    have l18:s4.ld p17.1 (p17.2+1)=some (.int .i64 p0.col):=f3 1 (by omega)
    have l14:s4.ld xb (0+1)=some (.int .i64 x.2.1.ln):=(ax.ext he4).ld
    have l16:s4.ld xb (0+1+4)=some x.2.2.2:=(ax.ext he4).ld
    have a24:=a2.ext he4
    have a34:=a3.ext he4
    obtain ⟨s20,e20,a20,m20,n20⟩:=a24.sto (k:=0) (vs:=NN) (row':=NN) rfl rfl
    obtain ⟨s22,e22,a22,m22,n22⟩:=(a34.mod m20 (by simpa using hne.symm)).sto (k:=0) (vs:=[.int .i64 x.2.1.ln,.int .i64 p0.col]) (row':=[.int .i64 x.2.1.ln,.int .i64 p0.col]) rfl rfl
    refine ⟨s22,?_⟩
    rw [if_pos (by unfold inR;rw [hd,List.any_cons,zdt hc];rfl)]
    refine ⟨zcL _ _ _ _ _ _ _ _ _ _ _ _ s ?_,zay (zay (hx0.trans he4) m20 h2) m22 h3,a20.mod m22 (by simpa using hne),a22⟩
    simp only [zcv,zdt h,zct,b1,b2',e4',c5,c7,l6,l8,zob,zaa,hw9,zad,l11,hN,zdt hc,l14,l16,f1,l18,zcB hxb,zcB (show p17.1≠t2 by omega),e20,e22]
   ·obtain ⟨s',hs'⟩:=ih (i+1) s4 (by omega) he4
    have hw1:=zba (i:=i) (by omega)
    refine ⟨s',?_⟩
    have e:inR N (T.drop i)=inR N (T.drop (i+1)):=by unfold inR;rw [hd,List.any_cons,zdf hc,Bool.false_or]
    rw [e]
    have go:∀ z,zak 12 [b',ptr t2 0,ptr t3 0,ptr r 0,ptr xb 0,w',t38,.int .i64 n,.int .i64 j,v,.int .i64 T.length,.int .i64 ((i+1:Nat):Int)] s4=some z→zak 12 [b',ptr t2 0,ptr t3 0,ptr r 0,ptr xb 0,w',t38,.int .i64 n,.int .i64 j,v,.int .i64 T.length,.int .i64 i] s=some z:=fun z hz=>by
     refine zcL _ _ _ _ _ _ _ _ _ _ _ _ s ?_
     simp only [zcv,zdt h,zct,b1,b2',e4',c5,c7,l6,l8,zob,zaa,hw9,zad,l11,hN,zdf hc,zcf,hw1]
     exact hz
    split
    ·rename_i hh
     rw [if_pos hh] at hs'
     exact ⟨go _ hs'.1,hs'.2⟩
    ·rename_i hh
     rw [if_neg hh] at hs'
     exact ⟨go _ hs'.1,hs'.2⟩
theorem ztm {M:Nat} {x:PLine} (h:LineOk M x) (hM:M≤1099511627776):zqK x.prs:=⟨zlt h.sp hM,fun p hp=>by
 obtain ⟨h1,h2,h3,h4⟩:=h.prs p hp
 exact ⟨h1,h2,by omega,by omega⟩⟩
def LayW (base:SS) (t2 t3 r N:Nat) (b' wv:Value) (res:Option (Nat×List Value×SS)):Except (Nat×Nat) (List Wd)→Prop
 | .error e=>∃ s',res=some (1,[ptr t2 0,ptr t3 0],s')∧Ext base s'∧At s' t2 NN∧At s' t3 [.int .i64 e.1,.int .i64 e.2]
 | .ok ws=>∃ s',res=some (0,[b',ptr t2 0,ptr t3 0,ptr r 0],s')∧Ext base s'∧At s' t2 NN∧At s' t3 Z2∧At s' r [wv,.slice none 0 0]∧Own (base.next+3) s' wv (rowsF zb9 ws) 1 N∧ws.length=N
theorem zuu [Sym] {st0 base:SS} {B b i M:Nat} {vw ve vv wv:Value} {l:Lay} {its:List WItem} (hB:Bld st0 base B b i vw ve vv l its) (hL:LayOk M l) (hM:M≤100000) (hg:Gd base)
  (hN:(lenV wv).bind (asI .i64)=some ((sizeT l:Nat):Int)):∀ (k j:Nat) (ws:List Wd) (s:SS),its.length=k+j→ws.length=sizeT l→Ext base s→At s base.next NN→At s (base.next+1) Z2→At s (base.next+2) [wv,.slice none 0 0]→Own (base.next+3) s wv (rowsF zb9 ws) 1 (sizeT l)→
  LayW base base.next (base.next+1) (base.next+2) (sizeT l) (ptr b 0) wv (zak 6 [ptr b 0,ptr base.next 0,ptr (base.next+1) 0,ptr (base.next+2) 0,vw,.int .i64 its.length,.int .i64 j] s) (zcC l.nms (sizeT l) (l.wds.drop j) ws):=by
 have hll:base.lim≤base.next:=by rw [hB.ext.lim];have:=hB.ll;have:=hB.ext.next;omega
 have hil:its.length≤2048:=by
  have h1:=hL.wlen
  have h2:=hL.pl
  rw [← hB.wds,List.length_map] at h1
  omega
 obtain ⟨hat,hNb⟩:=zoS hL
 intro k
 induction k with
 | zero=>
   intro j ws s hk hws he a2 a3 ar ow
   have h:¬ (j:Int)<(its.length:Int):=by omega
   have hd:l.wds.drop j=[]:=List.drop_of_length_le (by rw [← hB.wds,List.length_map];omega)
   rw [hd]
   refine ⟨s,zb8 _ _ _ _ _ _ _ s ?_,he,a2,a3,ar,ow,hws⟩
   simp only [zb0,zdf h,zcf]
 | succ k ih=>
   intro j ws s hk hws he a2 a3 ar ow
   have h:(j:Int)<(its.length:Int):=by omega
   obtain ⟨x,hx⟩:∃ x,its[j]?=some x:=⟨_,zge (by omega)⟩
   have hwx:l.wds[j]?=some (x.1,x.2.1):=by rw [← hB.wds,List.getElem?_map,hx];rfl
   have hmem:=zmg hwx
   obtain ⟨hlo,hpne,hln⟩:=hL.prs _ hmem
   have hxat:x.1<sizeT l:=hat _ hmem
   have hd:=drop_cons hwx
   obtain ⟨p0,ps,hps⟩:∃ p0 ps,x.2.1.prs=p0::ps:=by
    cases hp:x.2.1.prs with
    | nil=>exact absurd hp hpne
    | cons a r=>exact ⟨a,r,rfl⟩
   have hsb:=hB.then he
   have hlm:s.lim≤s.next:=he.ll hll
   obtain ⟨p1,b1,b2,_⟩:=hsb.ow.rd.load (j:=(j:Int)) (by omega) h (zbt (f:=wdRow) (z:=6) (fun _=>rfl) its j x hx) rfl
   have b2':s.ldN p1.1 p1.2 6=some (.agg (wdRow x).toArray):=b2
   obtain ⟨s4,e4,a4,x4,n4⟩:=zbk (st:=s) hlm (r:=wdRow (0,⟨0,[],[],[],[]⟩,.slice none 0 0,.slice none 0 0)) (row:=wdRow x) (v:=.agg (wdRow x).toArray) (zaF _) rfl (by
    obtain ⟨hr1,hr2⟩:=hB.itr x (zmg hx)
    have o1:one x.2.2.1=true:=by obtain ⟨_,⟨e,_⟩ | ⟨i,c,e,_⟩⟩:=hr1<;>rw [e]<;>rfl
    have o2:one x.2.2.2=true:=by obtain ⟨_,⟨e,_⟩ | ⟨i,c,e,_⟩⟩:=hr2<;>rw [e]<;>rfl
    simp only [wdRow,lnRow,List.all_cons,List.all_nil,o1,o2]
    rfl) rfl
   have e4':(s.new (.cells [.int .i64 0,.int .i64 0,.string ⟨#[]⟩,.string ⟨#[]⟩,.slice none 0 0,.slice none 0 0] 0)).stV s.next 0 6 (.agg (wdRow x).toArray)=some s4:=e4
   have he4:=he.trans x4
   have hsb4:=hB.then he4
   have l5:s4.ldN s.next 1 5=some (.agg (lnRow x.2).toArray):=a4.ldC rfl
   have hpr:Rd st0 x.2.2.2 (rowsF prRow x.2.1.prs) 5 x.2.1.prs.length:=(hB.itr x (zmg hx)).2
   have hprb:=hpr.ext hB.ext
   obtain ⟨n6,u,hn6,hu,huo,c6⟩:=zr7 l.nms hL.nms x.2 (ztm hlo (by omega)) b i (.int .i64 l.pl) vw ve vv s4 (hg.ext he4) hsb4.row.1 hsb4.row.lt hsb4.mp (by have:=hsb4.iB;have:=hsb4.BN;omega) (hprb.ext he4)
   have x6:Ext s4 (s4.adv n6):=(Ext.refl _).adv hn6
   have he6:=he4.trans x6
   obtain ⟨s10,e10,a10,x10,n10⟩:=zbk (n:=12) (st:=s4.adv n6) (he6.ll hll) (r:=Z12) (row:=wRow u) (v:=wV u) (zaF _) (by rw [zaW,hu]) (zfE u) rfl
   have e10':((s4.adv n6).new (.cells [.int .i64 0,.int .i64 0,.int .i64 0,.int .i64 0,.int .i64 0,.int .i64 0,.int .i64 0,.int .i64 0,.int .i64 0,.int .i64 0,.int .i64 0,.int .i64 0] 0)).stV n6 0 12 (wV u)=some s10:=e10
   have he10:=he6.trans x10
   have he4_10:Ext s4 s10:=x6.trans x10
   have a4_10:=a4.ext he4_10
   have t0:∀ (a:Value) (z:Int),zaq (.tuple #[a,.int .i64 z]) 0=some a:=fun _ _=>rfl
   have t1:∀ (a:Value) (z:Int),(zaq (.tuple #[a,.int .i64 z]) 1).bind (asI .i64)=some z:=fun _ _=>rfl
   have hE:zcC l.nms (sizeT l) (l.wds.drop j) ws=if (za3 l.nms zaJ x.2.1.prs).2≠0 then .error (x.2.1.ln,(za3 l.nms zaJ x.2.1.prs).2)
    else if inR (sizeT l) (zcT ((za3 l.nms zaJ x.2.1.prs).1.getD 8 0) ((za3 l.nms zaJ x.2.1.prs).1.getD 10 0) x.1)=true then .error (x.2.1.ln,((x.2.1.prs.head?).map (·.col)).getD 0)
    else zcC l.nms (sizeT l) (l.wds.drop (j+1)) (ws.set x.1 (za3 l.nms zaJ x.2.1.prs).1):=by rw [hd];rfl
   have hlt2:base.next<s.next:=a2.lt
   have hlt3:base.next+1<s.next:=a3.lt
   by_cases hc:(za3 l.nms zaJ x.2.1.prs).2=0
   ·rw [if_neg (fun hh=>hh hc)] at hE
    have hcz:¬ (0:Int)<(((za3 l.nms zaJ x.2.1.prs).2:Nat):Int):=by omega
    have hue:=huo hc
    have hwok:=zus l.nms x.2.1.prs
    generalize hw:(za3 l.nms zaJ x.2.1.prs).1=w at*
    subst hue
    have l16:s10.ldN n6 0 12=some (wV u):=a10.ldN (by rw [zaW,hu])
    have l17:s10.ld s.next 0=some (.int .i64 x.1):=a4_10.ld
    have hto:=zut hwok
    obtain ⟨v18,s18,c18,x18,o18⟩:=zs3 u (x.1:Int) (u.getD 8 0) (u.getD 10 0) (getD_some (by omega)) (getD_some (by omega)) (by omega) (by omega) s10 (he10.ll hll)
    have he18:=he10.trans x18
    have hT:=zoT (s:=u.getD 8 0) (a:=(x.1:Int)) (by omega) hto
    have hTl:(zcT (u.getD 8 0) (u.getD 10 0) (x.1:Int)).length≤10:=by
     unfold zcT
     repeat' split
     all_goals simp
    obtain ⟨s20,h20⟩:=ztl (b':=ptr b 0) (w':=ptr n6 0) (t38:=vw) (n:=its.length) (j:=j) he18 hll hT hTl (x:=x) (N:=sizeT l) hN (ar.ext ((x4.trans he4_10).trans x18)) (a2.ext ((x4.trans he4_10).trans x18)) (a3.ext ((x4.trans he4_10).trans x18)) (a4_10.ext x18) (by omega) (zlr _) (by omega) (by omega) p0 ps hps hprb o18.rd
     _ 0 s18 rfl (Ext.refl _)
    rw [List.drop_zero] at h20
    have hlen:(lenV v18).bind (asI .i64)=some ((zcT (u.getD 8 0) (u.getD 10 0) (x.1:Int)).length:Int):=by rw [o18.len];rfl
    have b0:Nat.beq 0 0=true:=rfl
    have b1':Nat.beq 1 0=false:=rfl
    by_cases hr:inR (sizeT l) (zcT (u.getD 8 0) (u.getD 10 0) (x.1:Int))=true
    ·rw [if_pos hr] at hE h20
     rw [hE]
     obtain ⟨g1,g2,g3,g4⟩:=h20
     have g1':zak 12 [ptr b 0,ptr base.next 0,ptr (base.next+1) 0,ptr (base.next+2) 0,ptr s.next 0,ptr n6 0,vw,.int .i64 its.length,.int .i64 j,v18,.int .i64 (zcT (u.getD 8 0) (u.getD 10 0) (x.1:Int)).length,.int .i64 0] s18=_:=g1
     refine ⟨s20,zb8 _ _ _ _ _ _ _ s ?_,g2,g3,by rw [hps];exact g4⟩
     simp only [zb0,zdt h,zct,b1,b2',e4',l5,c6,t0,t1,zob,SS.adv_next,e10',zdf hcz,zcf,l16,l17,zaa,c18,hlen]
     rw [g1',zob]
     simp only [b1',zcf,zob,zgs,zgz]
    ·rw [if_neg hr] at hE h20
     rw [hE]
     obtain ⟨g1,g2⟩:=h20
     have g1':zak 12 [ptr b 0,ptr base.next 0,ptr (base.next+1) 0,ptr (base.next+2) 0,ptr s.next 0,ptr n6 0,vw,.int .i64 its.length,.int .i64 j,v18,.int .i64 (zcT (u.getD 8 0) (u.getD 10 0) (x.1:Int)).length,.int .i64 0] s18=_:=g1
     have he20:=he18.trans g2
     have xs20:Ext s s20:=((x4.trans he4_10).trans x18).trans g2
     have l31:s20.ld (base.next+2) 0=some wv:=(ar.ext xs20).ld
     have l33:s20.ld s.next 0=some (.int .i64 x.1):=(a4_10.ext (x18.trans g2)).ld
     have l35:s20.ldN n6 0 12=some (wV u):=(a10.ext (x18.trans g2)).ldN (by rw [zaW,hu])
     obtain ⟨n36,hn36,c36⟩:=zui u hu (s20.ro s20.next) (hg.ext he20).ro
     rw [if_pos hwok.2] at c36
     have hn36':s20.next≤n36:=hn36
     have x36:Ext s20 (s20.adv n36):=(Ext.refl _).adv hn36'
     have hst:((s20.ro s20.next).adv n36).ro s20.lim=s20.adv n36:=rfl
     have u0:∀ (a:Int) (z:Int),(zaq (.tuple #[.int .u64 a,.int .i64 z]) 0).bind (asI .u64)=some a:=fun _ _=>rfl
     have u1:∀ (a:Int) (z:Int),(zaq (.tuple #[.int .u64 a,.int .i64 z]) 1).bind (asI .i64)=some z:=fun _ _=>rfl
     have he36:=he20.trans x36
     obtain ⟨iw,s40,f1,f2,f3,f4,_,f6,f7,f8⟩:=Own.put (f:=zb9) (fun _=>rfl) ((ow.ext xs20).ext x36) hws (by rw [he36.lim];omega) hxat u rfl
     rw [Nat.mul_one] at f1 f4
     have f4':(s20.adv n36).st iw x.1 [.int .u64 (zdv u)]=some s40:=f4
     have xs36:=xs20.trans x36
     have next:=ih (j+1) (ws.set x.1 u) s40 (by omega) (by rw [List.length_set,hws]) (zay he36 f7 (by omega)) ((a2.ext xs36).mod f7 (by simp;omega)) ((a3.ext xs36).mod f7 (by simp;omega)) ((ar.ext xs36).mod f7 (by simp;omega)) f6
     have hw1:=zba (i:=j) (by omega)
     have step:∀ z,zak 6 [ptr b 0,ptr base.next 0,ptr (base.next+1) 0,ptr (base.next+2) 0,vw,.int .i64 its.length,.int .i64 ((j+1:Nat):Int)] s40=some z→zak 6 [ptr b 0,ptr base.next 0,ptr (base.next+1) 0,ptr (base.next+2) 0,vw,.int .i64 its.length,.int .i64 j] s=some z:=fun z hz=>by
      refine zb8 _ _ _ _ _ _ _ s ?_
      simp only [zb0,zdt h,zct,b1,b2',e4',l5,c6,t0,t1,zob,SS.adv_next,e10',zdf hcz,zcf,l16,l17,zaa,c18,hlen]
      rw [g1',zob]
      simp only [b0,zct,zaa,zob,zgs,zgz,zad,l31,l33,l35,c36,u0,u1,hst,f1,f4',hw1]
      exact hz
     cases hz:zcC l.nms (sizeT l) (l.wds.drop (j+1)) (ws.set x.1 u) with
     | error e=>
       rw [hz] at next
       obtain ⟨s',d1,d2⟩:=next
       exact ⟨s',step _ d1,d2⟩
     | ok ws'=>
       rw [hz] at next
       obtain ⟨s',d1,d2⟩:=next
       exact ⟨s',step _ d1,d2⟩
   ·rw [if_pos hc] at hE
    rw [hE]
    have hcz:(0:Int)<(((za3 l.nms zaJ x.2.1.prs).2:Nat):Int):=by omega
    have xs10:Ext s s10:=x4.trans he4_10
    have l11:s10.ld s.next 1=some (.int .i64 x.2.1.ln):=a4_10.ld
    obtain ⟨s13,e13,a13,m13,n13⟩:=(a2.ext xs10).sto (k:=0) (vs:=NN) (row':=NN) rfl rfl
    obtain ⟨s15,e15,a15,m15,n15⟩:=((a3.ext xs10).mod m13 (by simp)).sto (k:=0) (vs:=[.int .i64 x.2.1.ln,.int .i64 (za3 l.nms zaJ x.2.1.prs).2]) (row':=[.int .i64 x.2.1.ln,.int .i64 (za3 l.nms zaJ x.2.1.prs).2]) rfl rfl
    refine ⟨s15,zb8 _ _ _ _ _ _ _ s ?_,zay (zay he10 m13 (zlr _)) m15 (by omega),a13.mod m15 (by simp),a15⟩
    simp only [zb0,zdt h,zct,b1,b2',e4',l5,c6,t0,t1,zob,SS.adv_next,e10',zdt hcz,l11,zaa,zcB (show s.next≠base.next by omega),zad,e13,e15]
end Go.Proofs.YtifploedaacedaaGreatDoorE
namespace Go.Proofs.YtifploedaacedaaGreatDoorE
open Go Go.E Go.Proofs
def LayE (base:SS) (t2 t3 r N:Nat) (wv:Value) (ws:List Wd) (es:List (List UInt8×Int)) (res:Option (Nat×List Value×SS)):Except (Nat×Nat) (List (List UInt8×Int))→Prop
 | .error e=>∃ s',res=some (1,[ptr t2 0,ptr t3 0],s')∧Ext base s'∧At s' t2 NN∧At s' t3 [.int .i64 e.1,.int .i64 e.2]
 | .ok es'=>∃ s' ev',res=some (0,[ptr t2 0,ptr t3 0,ptr r 0],s')∧Ext base s'∧At s' t2 NN∧At s' t3 Z2∧At s' r [wv,ev']∧Owns (base.next+3) s' [⟨wv,rowsF zb9 ws,1,N⟩,⟨ev',rowsF zi0 (es++es'),2,(es++es').length⟩]
theorem ztn [Sym] {st0 base:SS} {B b i M N:Nat} {vw ve vv wv:Value} {l:Lay} {its:List WItem} (hB:Bld st0 base B b i vw ve vv l its) (hL:LayOk M l) (hn:l.ents.length≤100000) (ws:List Wd)
  (hN:(lenV wv).bind (asI .i64)=some (N:Int)):∀ (k j:Nat) (es:List (List UInt8×Int)) (ev:Value) (s:SS),l.ents.length=k+j→es.length≤j→Ext base s→At s base.next NN→At s (base.next+1) Z2→At s (base.next+2) [wv,ev]→Owns (base.next+3) s [⟨wv,rowsF zb9 ws,1,N⟩,⟨ev,rowsF zi0 es,2,es.length⟩]→
  LayE base base.next (base.next+1) (base.next+2) N wv ws es (zak 20 [ptr b 0,ptr base.next 0,ptr (base.next+1) 0,ptr (base.next+2) 0,vv,.int .i64 l.ents.length,.int .i64 j] s) (zgy l.nms N (l.ents.drop j)):=by
 have hll:base.lim≤base.next:=by rw [hB.ext.lim];have:=hB.ll;have:=hB.ext.next;omega
 intro k
 induction k with
 | zero=>
   intro j es ev s hk hes he a2 a3 ar ow
   have h:¬ (j:Int)<(l.ents.length:Int):=by omega
   rw [List.drop_of_length_le (by omega)]
   refine ⟨s,ev,zbn _ _ _ _ _ _ _ s ?_,he,a2,a3,ar,by rw [List.append_nil];exact ow⟩
   simp only [zbm,zdf h,zcf]
 | succ k ih=>
   intro j es ev s hk hes he a2 a3 ar ow
   have h:(j:Int)<(l.ents.length:Int):=by omega
   obtain ⟨e,hx⟩:∃ e,l.ents[j]?=some e:=⟨_,zge (by omega)⟩
   have hd:=drop_cons hx
   have hE:zgy l.nms N (l.ents.drop j)=match zbT l.nms e.1.nm with
    | none=>.error e.2
    | some x=>if x<0∨(N:Int)≤x then .error e.2 else match zgy l.nms N (l.ents.drop (j+1)) with
      | .error z=>.error z
      | .ok es=>.ok ((e.1.nm,x)::es):=by rw [hd];rfl
   have hsb:=hB.then he
   have hlm:s.lim≤s.next:=he.ll hll
   have ov:=hsb.ov
   rw [show l.ents.length=(l.ents.map (·.1)).length by simp] at ov
   have hmx:(l.ents.map (·.1))[j]?=some e.1:=by rw [List.getElem?_map,hx];rfl
   obtain ⟨p1,b1,b2,_⟩:=ov.rd.load (j:=(j:Int)) (by omega) (by simpa using h) (zbt (f:=valRow) (z:=3) (fun _=>rfl) _ j e.1 hmx) rfl
   have b2':s.ldN p1.1 p1.2 3=some (.agg (valRow e.1).toArray):=b2
   obtain ⟨s4,e4,a4,x4,n4⟩:=zbk (n:=3) (st:=s) hlm (r:=valRow ⟨[],0,0⟩) (row:=valRow e.1) (v:=.agg (valRow e.1).toArray) (zaF _) rfl rfl rfl
   have e4':(s.new (.cells [.string ⟨#[]⟩,.int .i64 0,.int .i64 0] 0)).stV s.next 0 3 (.agg (valRow e.1).toArray)=some s4:=e4
   have he4:=he.trans x4
   have hsb4:=hB.then he4
   have hnl:zau (ptr b 0)=some (ptr b 0):=rfl
   have l7:s4.ld b (0+1)=some (.map (some i)):=hsb4.row.ld
   have l8:s4.ld s.next 0=some (.string (mkS e.1.nm)):=a4.ld
   have l13:s4.ld b (0+3)=some ve:=hsb4.row.ld
   have m7:s4.mapF (.map (some i)) (mkS e.1.nm)=some ((zbT l.nms e.1.nm).map (.int .i64)):=by
    unfold SS.mapF
    simp only [hsb4.mp,zob,zk7]
   obtain ⟨p14,c1,c2,_⟩:=hsb4.oe.rd.load (j:=(j:Int)) (by omega) h (zbt (f:=entRow) (z:=2) (fun _=>rfl) l.ents j e hx) rfl
   have c2':s4.ldN p14.1 p14.2 2=some (.agg (entRow e).toArray):=c2
   have hp14:p14.1<base.next:=by
    obtain ⟨i',z',g1,g2,g3⟩:=hB.oe.rd.elem (j:=(j:Int)) (by omega) h
    rw [g1] at c1;cases c1;exact g3
   have hbt:b≠base.next:=by have:=hB.row.lt;omega
   have a24:=a2.ext x4
   have a34:=a3.ext x4
   obtain ⟨s17,e17,a17,m17,n17⟩:=a24.sto (k:=0) (vs:=NN) (row':=NN) rfl rfl
   obtain ⟨s19,e19,a19,m19,n19⟩:=(a34.mod m17 (by simp)).stV (k:=0) (n:=2) (v:=.agg (entRow e).toArray) (zaF _) rfl rfl (row':=entRow e) rfl
   have hbad:∀ z,z=some (1,[ptr base.next 0,ptr (base.next+1) 0],s19)→LayE base base.next (base.next+1) (base.next+2) N wv ws es z (.error e.2):=fun z hz=>⟨s19,hz,zay (zay he4 m17 (zlr _)) m19 (by omega),a17.mod m19 (by simp),a19⟩
   have hp2:zbz (ptr p14.1 p14.2) (ptr base.next 0)=true:=zcB (by omega)
   have hp1:zbz (ptr b (0+3)) (ptr base.next 0)=true:=zcB hbt
   rw [hE]
   cases hf:zbT l.nms e.1.nm with
   | none=>
     rw [hf] at m7
     refine hbad _ (zbn _ _ _ _ _ _ _ s ?_)
     simp only [zbm,zdt h,zct,b1,b2',e4',hnl,zad,l7,l8,m7,zob,zab,Option.map_none,ze9,l13,c1,c2',hp1,hp2,e17,e19]
   | some y=>
     rw [hf] at m7
     have ht:(zaq (.tuple #[.int .i64 y,.bool true]) 0).bind (asI .i64)=some y:=rfl
     by_cases hy:y<0
     ·simp only [if_pos (show y<0∨(N:Int)≤y from .inl hy)]
      refine hbad _ (zbn _ _ _ _ _ _ _ s ?_)
      simp only [zbm,zdt h,zct,b1,b2',e4',hnl,zad,l7,l8,m7,zob,zab,Option.map_some,ze9,ht,zdt hy,l13,c1,c2',hp1,hp2,e17,e19]
     ·have l31:s4.ld (base.next+2) 0=some wv:=(ar.ext x4).ld
      by_cases hyN:(N:Int)≤y
      ·simp only [if_pos (show y<0∨(N:Int)≤y from .inr hyN)]
       refine hbad _ (zbn _ _ _ _ _ _ _ s ?_)
       simp only [zbm,zdt h,zct,b1,b2',e4',hnl,zad,l7,l8,m7,zob,zab,Option.map_some,ze9,ht,zdf hy,zcf,l31,hN,zdt hyN,l13,c1,c2',hp1,hp2,e17,e19]
      ·simp only [if_neg (show ¬ (y<0∨(N:Int)≤y) by omega)]
       have l43:s4.ld (base.next+2) (0+1)=some ev:=(ar.ext x4).ld
       have hlt2:base.next+2<s.next:=ar.lt
       obtain ⟨q,s46,f1,f2,f3⟩:=(ow.ext x4).push (k:=1) (row:=zi0 (e.1.nm,y)) (bt:=24) rfl (by have:=x4.next;omega) (by rw [he4.lim];omega) rfl (by omega) rfl (by omega) (by omega)
       have f1':(s4.new (.cells ([.string (mkS e.1.nm),.int .i64 y]) 2)).app 2 24 ev (.slice (some ⟨s4.next,0,none⟩) 1 1)=some (.slice (some ⟨q,0,none⟩) (es.length+1) (es.length+1),s46):=f1
       have ar46:At s46 (base.next+2) [wv,ev]:=(ar.ext x4).keepB f3 (by omega) (by simp)
       have a246:=a24.keepB f3 (by omega) (by simp)
       have a346:=a34.keepB f3 (by omega) (by simp)
       obtain ⟨s48,e48,a48,m48,n48⟩:=ar46.stV (k:=1) (n:=1) (v:=.slice (some ⟨q,0,none⟩) (es.length+1) (es.length+1)) (zj9 _ _ _) rfl rfl (row':=[wv,.slice (some ⟨q,0,none⟩) (es.length+1) (es.length+1)]) rfl
       have e48':s46.stV (base.next+2) (0+1) 1 (.slice (some ⟨q,0,none⟩) (es.length+1) (es.length+1))=some s48:=e48
       have he46:Ext base s46:=⟨zlt he4.next f3.next,f3.lim.trans he4.lim,fun m hm=>(f3.keep m (by omega) (by simp)).trans (he4.keep m hm)⟩
       have hw1:=zba (i:=j) (by omega)
       have ow48:=f2.modLt m48 (by intro m hm;have e:m=base.next+2:=(by simpa using hm);omega)
       have ow48':Owns (base.next+3) s48 [⟨wv,rowsF zb9 ws,1,N⟩,⟨.slice (some ⟨q,0,none⟩) (es.length+1) (es.length+1),rowsF zi0 (es++[(e.1.nm,y)]),2,(es++[(e.1.nm,y)]).length⟩]:=by
        rw [zbQ,zdd,List.length_append]
        exact ow48
       have next:=ih (j+1) (es++[(e.1.nm,y)]) _ s48 (by omega) (by simp;omega) (zay he46 m48 (by omega)) (a246.mod m48 (by simp)) (a346.mod m48 (by simp)) a48 ow48'
       have step:∀ z,zak 20 [ptr b 0,ptr base.next 0,ptr (base.next+1) 0,ptr (base.next+2) 0,vv,.int .i64 l.ents.length,.int .i64 ((j+1:Nat):Int)] s48=some z→zak 20 [ptr b 0,ptr base.next 0,ptr (base.next+1) 0,ptr (base.next+2) 0,vv,.int .i64 l.ents.length,.int .i64 j] s=some z:=fun z hz=>by
        refine zbn _ _ _ _ _ _ _ s ?_
        simp only [zbm,zdt h,zct,b1,b2',e4',hnl,zad,l7,l8,m7,zob,zab,Option.map_some,ze9,ht,zdf hy,zcf,l31,hN,zdf hyN,l43,List.append_nil,f1',e48',hw1]
        exact hz
       cases hz:zgy l.nms N (l.ents.drop (j+1)) with
       | error z=>
         rw [hz] at next
         obtain ⟨s',d1,d2⟩:=next
         exact ⟨s',step _ d1,d2⟩
       | ok es'=>
         rw [hz] at next
         obtain ⟨s',ev',d1,d2,d3,d4,d5,d6⟩:=next
         refine ⟨s',ev',step _ d1,d2,d3,d4,d5,?_⟩
         rw [List.append_assoc] at d6
         exact d6
def zlb (w e:Value):Value:=.agg #[w,e]
def LayR (base:SS) (res:Option (Value×SS)):Except (Nat×Nat) (List Wd×List (List UInt8×Int))→Prop
 | .error e=>∃ s',res=some (.tuple #[zlb (.slice none 0 0) (.slice none 0 0),zbP e],s')∧Ext base s'∧e≠(0,0)
 | .ok (ws,es)=>∃ s' wv ev,res=some (.tuple #[zlb wv ev,zbP (0,0)],s')∧Ext base s'∧Own base.next s' wv (rowsF zb9 ws) 1 ws.length∧Own base.next s' ev (rowsF zi0 es) 2 es.length
theorem zma {M:Nat} {nms:Nms} {N:Nat}:∀ (xs:List (Nat×PLine)) (ws:List Wd) (e:Nat×Nat),(∀ x∈xs,LineOk M x.2∧x.2.prs≠[]∧0<x.2.ln)→zcC nms N xs ws=.error e→0<e.1
 | [],ws,e,_,h=>by cases h
 | x::r,ws,e,hx,h=>by
   unfold zcC at h
   have:=(hx x (by simp)).2.2
   split at h
   ·cases h;exact this
   ·split at h
    ·cases h;exact this
    ·exact zma r _ e (fun y hy=>hx y (by simp [hy])) h
theorem znx {nms:Nms} {N:Nat}:∀ (xs:List (Val×Nat×Nat)) (e:Nat×Nat),(∀ x∈xs,x.1.nm≠[]∧0<x.2.1∧0<x.2.2)→zgy nms N xs=.error e→0<e.1
 | [],e,_,h=>by cases h
 | x::r,e,hx,h=>by
   unfold zgy at h
   have:=(hx x (by simp)).2.1
   split at h
   ·cases h;exact this
   ·split at h
    ·cases h;exact this
    ·split at h
     ·rename_i hz
      cases h
      exact znx r _ (fun y hy=>hx y (by simp [hy])) hz
     ·cases h
theorem zqM:zdv zaJ=0:=by decide+kernel
theorem zny (n:Nat):rowsF zb9 (List.replicate n zaJ)=List.replicate n (.int .u64 0):=by
 induction n with
 | zero=>rfl
 | succ n ih=>rw [List.replicate_succ,zcP,ih,List.replicate_succ];unfold zb9;rw [zqM];rfl
theorem zmb {nms:Nms} {N:Nat}:∀ (xs:List (Nat×PLine)) (ws ws':List Wd),zcC nms N xs ws=.ok ws'→ws'.length=ws.length
 | [],ws,ws',h=>by cases h;rfl
 | x::r,ws,ws',h=>by
   unfold zcC at h
   split at h
   ·cases h
   ·split at h
    ·cases h
    ·rw [zmb r _ ws' h,List.length_set]
theorem lay_ok [Sym] {st0 base:SS} {B b i M:Nat} {vw ve vv:Value} {l:Lay} {its:List WItem} (hB:Bld st0 base B b i vw ve vv l its) (hL:LayOk M l) (hM:M≤100000) (hn:l.ents.length≤100000) (hg:Gd base):
  LayR base (cc 44 [ptr b 0] base) (zhK l):=by
 have hll:base.lim≤base.next:=by rw [hB.ext.lim];have:=hB.ll;have:=hB.ext.next;omega
 have hil:its.length=l.wds.length:=by rw [← hB.wds,List.length_map]
 have hil2:its.length≤2048:=by
  have h1:=hL.wlen
  have h2:=hL.pl
  omega
 have x1:Ext base (base.new (.cells NN 0)):=(Ext.refl _).new _
 have x2:Ext (base.new (.cells NN 0)) ((base.new (.cells NN 0)).new (.cells Z2 0)):=(Ext.refl _).new _
 have x3:Ext ((base.new (.cells NN 0)).new (.cells Z2 0)) (((base.new (.cells NN 0)).new (.cells Z2 0)).new (.cells NN 0)):=(Ext.refl _).new _
 have a2:At (((base.new (.cells NN 0)).new (.cells Z2 0)).new (.cells NN 0)) base.next NN:=((At.new hll NN).ext x2).ext x3
 have a3:At (((base.new (.cells NN 0)).new (.cells Z2 0)).new (.cells NN 0)) (base.next+1) Z2:=(At.new (st:=base.new (.cells NN 0)) (x1.ll hll) Z2).ext x3
 have ar:At (((base.new (.cells NN 0)).new (.cells Z2 0)).new (.cells NN 0)) (base.next+2) NN:=At.new (st:=(base.new (.cells NN 0)).new (.cells Z2 0)) ((x1.trans x2).ll hll) NN
 have he3:Ext base (((base.new (.cells NN 0)).new (.cells Z2 0)).new (.cells NN 0)):=x1.trans (x2.trans x3)
 have hn1:(base.new (.cells NN 0)).next=base.next+1:=rfl
 have hn2:((base.new (.cells NN 0)).new (.cells Z2 0)).next=base.next+2:=rfl
 have hn3:(((base.new (.cells NN 0)).new (.cells Z2 0)).new (.cells NN 0)).next=base.next+3:=rfl
 generalize hs3:((base.new (.cells NN 0)).new (.cells Z2 0)).new (.cells NN 0)=s3 at*
 have hsb:=hB.then he3
 have hnl:zau (ptr b 0)=some (ptr b 0):=rfl
 have l6:s3.ld b (0+2)=some vw:=hsb.row.ld
 have hlen:(lenV vw).bind (asI .i64)=some (its.length:Int):=by rw [hB.ow.len];rfl
 have rest:∀ (s:SS) (wv:Value),Ext base s→At s base.next NN→At s (base.next+1) Z2→At s (base.next+2) [wv,.slice none 0 0]→Own (base.next+3) s wv (rowsF zb9 (List.replicate (sizeT l) zaJ)) 1 (sizeT l)→
   LayR base ((zak 6 [ptr b 0,ptr base.next 0,ptr (base.next+1) 0,ptr (base.next+2) 0,vw,.int .i64 its.length,.int .i64 0] s).bind fun r21=>cond (Nat.beq r21.1 0) (
  (r21.2.1[0]?).bind fun v22=>
  (r21.2.1[1]?).bind fun v23=>
  (r21.2.1[2]?).bind fun v24=>
  (r21.2.1[3]?).bind fun v25=>
  (zau v22).bind fun v26=>
  (addr? v26).bind fun p27=>
  (r21.2.2.ld p27.1 (p27.2+4)).bind fun v28=>
  ((lenV v28).bind (asI .i64)).bind fun n29=>
  (zak 20 [v22,v23,v24,v25,v28,.int .i64 n29,.int .i64 0] r21.2.2).bind fun r30=>
  cond (Nat.beq r30.1 0) (
   (r30.2.1[0]?).bind fun v31=>
   (r30.2.1[1]?).bind fun v32=>
   (r30.2.1[2]?).bind fun v33=>
   (addr? v33).bind fun p34=>
   (r30.2.2.ldN p34.1 p34.2 2).bind fun v35=>
   (addr? v31).bind fun p36=>
   (r30.2.2.stV p36.1 p36.2 2 v35).bind fun st37=>
   (addr? v32).bind fun p38=>
   (st37.st p38.1 p38.2 [.int .i64 0,.int .i64 0]).bind fun st39=>
   (addr? v31).bind fun p40=>
   (st39.rdN p40.1 p40.2 2).bind fun v41=>
   (addr? v32).bind fun p42=>
   (st39.rdN p42.1 p42.2 2).bind fun v43=>
   some (.tuple #[v41,v43],st39)) (
   (r30.2.1[0]?).bind fun v44=>
   (r30.2.1[1]?).bind fun v45=>
   (addr? v44).bind fun p46=>
   (r30.2.2.rdN p46.1 p46.2 2).bind fun v47=>
   (addr? v45).bind fun p48=>
   (r30.2.2.rdN p48.1 p48.2 2).bind fun v49=>
   some (.tuple #[v47,v49],r30.2.2))) (
  (r21.2.1[0]?).bind fun v50=>
  (r21.2.1[1]?).bind fun v51=>
  (addr? v50).bind fun p52=>
  (r21.2.2.rdN p52.1 p52.2 2).bind fun v53=>
  (addr? v51).bind fun p54=>
  (r21.2.2.rdN p54.1 p54.2 2).bind fun v55=>
  some (.tuple #[v53,v55],r21.2.2))) (zhK l):=by
  intro s wv he b2 b3 br bo
  have hN:(lenV wv).bind (asI .i64)=some ((sizeT l:Nat):Int):=by rw [bo.len];rfl
  have hw:=zuu hB hL hM hg hN its.length 0 (List.replicate (sizeT l) zaJ) s rfl (by simp) he b2 b3 br bo
  rw [List.drop_zero] at hw
  have b0:Nat.beq 0 0=true:=rfl
  have b1:Nat.beq 1 0=false:=rfl
  unfold zhK
  cases hws:zcC l.nms (sizeT l) l.wds (List.replicate (sizeT l) zaJ) with
  | error e=>
    rw [hws] at hw
    obtain ⟨s',c1,c2,c3,c4⟩:=hw
    have c1':zak 6 [ptr b 0,ptr base.next 0,ptr (base.next+1) 0,ptr (base.next+2) 0,vw,.int .i64 its.length,.int .i64 0] s=_:=c1
    have r1:=c3.rdN (n:=2) rfl
    have r2:=c4.rdN (n:=2) rfl
    refine ⟨s',?_,c2,fun hh=>by have:=zma _ _ _ hL.prs hws;rw [hh] at this;omega⟩
    rw [c1',zob]
    simp only [b1,zcf,zgs,zgz,zob,zad,r1,r2]
    rfl
  | ok ws=>
    rw [hws] at hw
    obtain ⟨s',c1,c2,c3,c4,c5,c6,c7⟩:=hw
    have c1':zak 6 [ptr b 0,ptr base.next 0,ptr (base.next+1) 0,ptr (base.next+2) 0,vw,.int .i64 its.length,.int .i64 0] s=_:=c1
    have hsb':=hB.then c2
    have l28:s'.ld b (0+4)=some vv:=hsb'.row.ld
    have hlen2:(lenV vv).bind (asI .i64)=some (l.ents.length:Int):=by rw [hB.ov.len];rfl
    have ow:Owns (base.next+3) s' [⟨wv,rowsF zb9 ws,1,sizeT l⟩,⟨.slice none 0 0,rowsF zi0 [],2,([]:List (List UInt8×Int)).length⟩]:=by
     refine ⟨fun k o ho=>?_,fun k m a b' j ha hb h1 h2=>?_⟩
     ·match k,ho with
      | 0,ho=>cases ho;exact c6
      | 1,ho=>cases ho;exact Own.nil _ _ _
      | k+2,ho=>simp at ho
     ·match k,m,ha,hb with
      | 0,0,_,_=>rfl
      | 1,1,_,_=>rfl
      | 0,1,_,hb=>cases hb;cases h2
      | 1,0,ha,_=>cases ha;cases h1
      | k+2,_,ha,_=>simp at ha
      | _,k+2,_,hb=>simp at hb
    have hen:=ztn hB hL hn ws hN l.ents.length 0 [] _ s' rfl (by simp) c2 c3 c4 c5 ow
    rw [List.drop_zero] at hen
    rw [c1',zob]
    simp only [b0,zct,zgs,zgz,zob,hnl,zad,l28,hlen2]
    cases hes:zgy l.nms (sizeT l) l.ents with
    | error e=>
      rw [hes] at hen
      obtain ⟨s2,d1,d2,d3,d4⟩:=hen
      have d1':zak 20 [ptr b 0,ptr base.next 0,ptr (base.next+1) 0,ptr (base.next+2) 0,vv,.int .i64 l.ents.length,.int .i64 0] s'=_:=d1
      have r1:=d3.rdN (n:=2) rfl
      have r2:=d4.rdN (n:=2) rfl
      refine ⟨s2,?_,d2,fun hh=>by have:=znx _ _ hL.ent hes;rw [hh] at this;omega⟩
      rw [d1',zob]
      simp only [b1,zcf,zgs,zgz,zob,zad,r1,r2]
      rfl
    | ok es=>
      rw [hes] at hen
      obtain ⟨s2,ev,d1,d2,d3,d4,d5,d6⟩:=hen
      have d1':zak 20 [ptr b 0,ptr base.next 0,ptr (base.next+1) 0,ptr (base.next+2) 0,vv,.int .i64 l.ents.length,.int .i64 0] s'=_:=d1
      have l35:=d5.ldN (n:=2) rfl
      have o1:=d6.own 0 _ rfl
      have o2:=d6.own 1 _ rfl
      simp only [List.nil_append] at o2
      have w1:one wv=true:=(Own.cell o1).2
      have w2:one ev=true:=(Own.cell o2).2
      obtain ⟨s37,e37,a37,m37,n37⟩:=d3.stV (k:=0) (n:=2) (v:=.agg [wv,ev].toArray) (zaF _) rfl (by simp [w1,w2]) (row':=[wv,ev]) rfl
      obtain ⟨s39,e39,a39,m39,n39⟩:=(d4.mod m37 (by simp)).sto (k:=0) (vs:=Z2) (row':=Z2) rfl rfl
      have r1:=(a37.mod m39 (by simp)).rdN (n:=2) rfl
      have r2:=a39.rdN (n:=2) rfl
      have hlw:=zmb _ _ _ hws
      rw [List.length_replicate] at hlw
      have q1:∀ m,m∈[base.next]→m<base.next+3:=(by intro m hm;have e:m=base.next:=(by simpa using hm);omega)
      have q2:∀ m,m∈[base.next+1]→m<base.next+3:=(by intro m hm;have e:m=base.next+1:=(by simpa using hm);omega)
      refine ⟨s39,wv,ev,?_,zay (zay d2 m37 (zlr _)) m39 (by omega),?_,((o2.modLt m37 q1).modLt m39 q2).low (by omega)⟩
      ·rw [d1',zob]
       simp only [b0,zct,zgs,zgz,zob,zad,l35,e37,e39,r1,r2]
       rfl
      ·rw [hlw]
       exact ((o1.modLt m37 q1).modLt m39 q2).low (by omega)
 by_cases hw0:0<its.length
 ·have hp:(0:Int)<(its.length:Int):=by omega
  obtain ⟨x,hx⟩:∃ x,its[its.length-1]?=some x:=⟨_,zge (by omega)⟩
  have hwx:l.wds.getLast?=some (x.1,x.2.1):=by
   rw [List.getLast?_eq_getElem?,← hB.wds,List.length_map,List.getElem?_map,hx];rfl
  have hsz:sizeT l=x.1+1:=by unfold sizeT;rw [hwx]
  have hszb:=(zoS hL).2
  have n11:IntKind.wrap .i64 ((its.length:Int)-1)=((its.length-1:Nat):Int):=by rw [wrap64 (by omega) (by omega)];omega
  obtain ⟨p12,b1,_,b3⟩:=hsb.ow.rd.load (j:=((its.length-1:Nat):Int)) (by omega) (by omega) (zbt (f:=wdRow) (z:=6) (fun _=>rfl) its (its.length-1) x hx) rfl
  have l13:s3.ld p12.1 p12.2=some (.int .i64 x.1):=b3 0 (by omega)
  have n14:IntKind.wrap .i64 ((x.1:Int)+1)=((sizeT l:Nat):Int):=by rw [wrap64 (by omega) (by omega),hsz];omega
  have hmk:zeF ((sizeT l:Nat):Int) ((sizeT l:Nat):Int) 8=some ():=zkY (by omega) (by omega) (by omega)
  have x15:Ext s3 (s3.new (.cells (List.replicate (sizeT l) (.int .u64 0)) 1)):=(Ext.refl _).new _
  obtain ⟨s16,e16,a16,m16,n16⟩:=(ar.ext x15).sto (k:=0) (vs:=[.slice (some ⟨s3.next,0,none⟩) (sizeT l) (sizeT l)]) (row':=[.slice (some ⟨s3.next,0,none⟩) (sizeT l) (sizeT l),.slice none 0 0]) rfl rfl
  have ow16:Own (base.next+3) s16 (.slice (some ⟨s3.next,0,none⟩) (sizeT l) (sizeT l)) (rowsF zb9 (List.replicate (sizeT l) zaJ)) 1 (sizeT l):=by
   refine ⟨by rw [zny];simp,.inr ⟨s3.next,rfl,by omega,?_,by omega,by rw [n16];simp⟩⟩
   rw [zny]
   exact m16.get (by simp) (by simp;omega) (SS.new_get)
  have hr:=rest s16 _ (zay (he3.trans x15) m16 (by omega)) ((a2.ext x15).mod m16 (by simp)) ((a3.ext x15).mod m16 (by simp)) a16 ow16
  have l19:s16.ld b (0+2)=some vw:=(hB.then (zay (he3.trans x15) m16 (by omega))).row.ld
  have hst:∀ z,z=zcD cc zak (ptr b 0) base→LayR base z (zhK l):=fun z hz=>by
   rw [hz]
   simp only [zcD,hs3,hn1,hn2,hnl,zob,zad,l6,hlen,zdt hp,zct,n11,b1,l13,zaa,n14,hmk,ziI,Int.toNat_natCast,e16,l19]
   exact hr
  have hfin:=hst _ rfl
  cases hro:zhK l with
  | error e=>
    rw [hro] at hfin
    obtain ⟨s',c,d⟩:=hfin
    exact ⟨s',zcJ _ base c,d⟩
  | ok y=>
    obtain ⟨ws,es⟩:=y
    rw [hro] at hfin
    obtain ⟨s',wv,ev,c,d⟩:=hfin
    exact ⟨s',wv,ev,zcJ _ base c,d⟩
 ·have hp:¬ (0:Int)<(its.length:Int):=by omega
  have hwn:l.wds=[]:=List.length_eq_zero_iff.1 (by omega)
  have hsz:sizeT l=0:=by unfold sizeT;rw [hwn];rfl
  have hr:=rest s3 (.slice none 0 0) he3 a2 a3 ar (by rw [hsz];exact Own.nil _ _ _)
  have hst:∀ z,z=zcD cc zak (ptr b 0) base→LayR base z (zhK l):=fun z hz=>by
   rw [hz]
   simp only [zcD,hs3,hn1,hn2,hnl,zob,zad,l6,hlen,zdf hp,zcf]
   exact hr
  have hfin:=hst _ rfl
  cases hro:zhK l with
  | error e=>
    rw [hro] at hfin
    obtain ⟨s',c,d⟩:=hfin
    exact ⟨s',zcJ _ base c,d⟩
  | ok y=>
    obtain ⟨ws,es⟩:=y
    rw [hro] at hfin
    obtain ⟨s',wv,ev,c,d⟩:=hfin
    exact ⟨s',wv,ev,zcJ _ base c,d⟩
end Go.Proofs.YtifploedaacedaaGreatDoorE
namespace Go.Proofs.YtifploedaacedaaGreatDoorE
open Go Go.E Go.Proofs
theorem zoU (a b c d:Int):eqA Tryz.prog Lk0 97 (.agg #[.int .i64 a,.int .i64 b]) (.agg #[.int .i64 c,.int .i64 d])=some (decide (a=c)&&(decide (b=d)&&true)):=by kernel_rfl
theorem At.frm {b i j:Nat} {vw:Value} {st st':SS} {row:List Value} (h:At st j row) (f:Frm b i vw st st') (h1:j≠b) (h2:j≠i) (h3:blkOf vw≠some j):At st' j row:=⟨(f.keep j h.lt h1 h2 h3).trans h.1,zll h.lt f.next,by rw [f.lim];exact h.2.2⟩
theorem zse {st:SS} {v:Value} {c:List Value} {z n:Nat} (h:Rd st v c z n):one v=true:=by obtain ⟨_,⟨e,_⟩ | ⟨i,c,e,_⟩⟩:=h<;>rw [e]<;>rfl
def AsmL (base st0:SS) (B b i t2 t3:Nat) (res:Option (Nat×List Value×SS)):Except (Nat×Nat) Lay→Prop
 | .error e=>∃ s',res=some (1,[ptr t2 0,ptr t3 0,.int .i64 4],s')∧Ext base s'∧At s' t2 NN∧At s' t3 [.int .i64 e.1,.int .i64 e.2]
 | .ok l=>∃ s' vw ve vv its,res=some (0,[ptr t2 0,ptr t3 0,ptr b 0],s')∧Bld st0 s' B b i vw ve vv l its
theorem zuv [Sym] {base st0:SS} {B b i M:Nat} (hM:M≤100000) (items:List Item) (hits:items.length≤99999) (hok:∀ x∈items,LineOk M x.1∧0<x.1.ln) (v:Value) (hv:Rd st0 v (rowsF lnRow items) 5 items.length)
  (hrd:∀ x∈items,Rd st0 x.2.1 (rowsF valRow x.1.args) 3 x.1.args.length∧Rd st0 x.2.2 (rowsF prRow x.1.prs) 5 x.1.prs.length) (hx0:Ext base st0) (hb2:base.next+2≤st0.next) (a2:At st0 base.next NN) (a3:At st0 (base.next+1) Z2):
  ∀ (k j:Nat) (l:Lay) (vw ve vv:Value) (its:List WItem) (s:SS),items.length=k+j→Bld st0 s B b i vw ve vv l its→LayOk M l→l.ents.length≤j→
  AsmL base st0 B b i base.next (base.next+1) (zbh 6 [ptr base.next 0,ptr (base.next+1) 0,ptr b 0,v,.int .i64 items.length,.int .i64 j] s) (zfG l ((items.drop j).map (·.1))):=by
 intro k
 induction k with
 | zero=>
   intro j l vw ve vv its s hk hB hL hen
   have h:¬ (j:Int)<(items.length:Int):=by omega
   rw [List.drop_of_length_le (by omega)]
   refine ⟨s,vw,ve,vv,its,zdM _ _ _ _ _ _ s ?_,hB⟩
   simp only [zdx,zdf h,zcf]
 | succ k ih=>
   intro j l vw ve vv its s hk hB hL hen
   have h:(j:Int)<(items.length:Int):=by omega
   obtain ⟨x,hx⟩:∃ x,items[j]?=some x:=⟨_,zge (by omega)⟩
   have hmem:=zmg hx
   have hd:=drop_cons hx
   have hlm:s.lim≤s.next:=hB.ext.ll hB.ll
   have hil:its.length≤2048:=by
    have h1:=hL.wlen
    have h2:=hL.pl
    rw [← hB.wds,List.length_map] at h1
    omega
   obtain ⟨p1,b1,b2,_⟩:=(hv.ext hB.ext).load (j:=(j:Int)) (by omega) h (zbt (f:=lnRow) (z:=5) (fun _=>rfl) items j x hx) rfl
   have b2':s.ldN p1.1 p1.2 5=some (.agg (lnRow x).toArray):=b2
   have ho:one x.2.1=true∧one x.2.2=true:=⟨zse (hrd x hmem).1,zse (hrd x hmem).2⟩
   obtain ⟨s4,e4,a4,x4,n4⟩:=zbk (n:=5) (st:=s) hlm (r:=lnRow (⟨0,[],[],[],[]⟩,.slice none 0 0,.slice none 0 0)) (row:=lnRow x) (v:=.agg (lnRow x).toArray) (zaF _) rfl (by
    simp only [lnRow,List.all_cons,List.all_nil,ho.1,ho.2]
    rfl) rfl
   have e4':(s.new (.cells [.int .i64 0,.string ⟨#[]⟩,.string ⟨#[]⟩,.slice none 0 0,.slice none 0 0] 0)).stV s.next 0 5 (.agg (lnRow x).toArray)=some s4:=e4
   have l5:s4.ldN s.next 0 5=some (.agg (lnRow x).toArray):=a4.ldN rfl
   have hf:=ztg (hB.then x4) x (hrd x hmem) ho hL.pl (by omega) (by omega) (by have:=(hok x hmem).1.sa;omega)
   have hL6:zfG l ((items.drop j).map (·.1))=match zgw l x.1 with
    | none=>.error (x.1.ln,1)
    | some l'=>zfG l' ((items.drop (j+1)).map (·.1)):=by rw [hd];rfl
   rw [hL6]
   cases hln:zgw l x.1 with
   | none=>
     rw [hln] at hf
     obtain ⟨s6,c6,f6⟩:=hf
     have hxs:∀ q,q<st0.next→q≠b∧q≠i∧blkOf vw≠some q:=fun q hq=>⟨by have:=hB.b0;omega,by have:=hB.i0;omega,fun e=>by have:=(zco hB.ow e).1;have:=hB.b0;have:=hB.bB;omega⟩
     have a46:At s6 s.next (lnRow x):=At.frm a4 f6 (by have:=hB.bB;have:=hB.BN;omega) (by have:=hB.iB;have:=hB.BN;omega) fun e=>by have:=(zco hB.ow e).2;omega
     have a26:At s6 base.next NN:=At.frm (a2.ext (hB.ext.trans x4)) f6 (hxs _ (by omega)).1 (hxs _ (by omega)).2.1 (hxs _ (by omega)).2.2
     have a36:At s6 (base.next+1) Z2:=At.frm (a3.ext (hB.ext.trans x4)) f6 (hxs _ (by omega)).1 (hxs _ (by omega)).2.1 (hxs _ (by omega)).2.2
     have x6:Ext base s6:=by
      have y:=(hx0.trans hB.ext).trans x4
      exact ⟨zlt y.next f6.next,f6.lim.trans y.lim,fun q hq=>(f6.keep q (zll hq y.next) (hxs q (by omega)).1 (hxs q (by omega)).2.1 (hxs q (by omega)).2.2).trans (y.keep q hq)⟩
     have l8:s6.ld s.next 0=some (.int .i64 x.1.ln):=a46.ld
     obtain ⟨s10,e10,a10,m10,n10⟩:=a26.sto (k:=0) (vs:=NN) (row':=NN) rfl rfl
     obtain ⟨s12,e12,a12,m12,n12⟩:=(a36.mod m10 (by simp)).sto (k:=0) (vs:=[.int .i64 x.1.ln,.int .i64 1]) (row':=[.int .i64 x.1.ln,.int .i64 1]) rfl rfl
     have hne:zbz (ptr s.next 0) (ptr base.next 0)=true:=zcB (by have:=hB.ext.next;omega)
     refine ⟨s12,zdM _ _ _ _ _ _ s ?_,zay (zay x6 m10 (zlr _)) m12 (by omega),a10.mod m12 (by simp),a12⟩
     simp only [zdx,zdt h,zct,b1,b2',e4',l5,c6,zob,zal,znf,l8,zaa,hne,zad,e10,e12]
   | some l'=>
     rw [hln] at hf
     obtain ⟨s6,vw',ve',vv',its',c6,h6,_⟩:=hf
     obtain ⟨g1,g2⟩:=zoR hL (hok x hmem).1 (hok x hmem).2 hln
     have next:=ih (j+1) l' vw' ve' vv' its' s6 (by omega) h6 g1 (by omega)
     have hw1:=zba (i:=j) (by omega)
     have step:∀ z,zbh 6 [ptr base.next 0,ptr (base.next+1) 0,ptr b 0,v,.int .i64 items.length,.int .i64 ((j+1:Nat):Int)] s6=some z→zbh 6 [ptr base.next 0,ptr (base.next+1) 0,ptr b 0,v,.int .i64 items.length,.int .i64 j] s=some z:=fun z hz=>by
      refine zdM _ _ _ _ _ _ s ?_
      simp only [zdx,zdt h,zct,b1,b2',e4',l5,c6,zob,zal,znt,zcf,hw1]
      exact hz
     simp only
     cases hz:zfG l' ((items.drop (j+1)).map (·.1)) with
     | error e=>
       rw [hz] at next
       obtain ⟨s',d1,d2⟩:=next
       exact ⟨s',step _ d1,d2⟩
     | ok l2=>
       rw [hz] at next
       obtain ⟨s',w1,w2,w3,w4,d1,d2⟩:=next
       exact ⟨s',w1,w2,w3,w4,step _ d1,d2⟩
def AsmR (st:SS) (res:Option (Value×SS)):Except (Nat×Nat) (List Wd×List (List UInt8×Int))→Prop
 | .error e=>∃ s',res=some (.tuple #[zlb (.slice none 0 0) (.slice none 0 0),zbP e,.int .i64 4],s')∧Ext st s'
 | .ok (ws,es)=>∃ s' wv ev,res=some (.tuple #[zlb wv ev,zbP (0,0),.int .i64 0],s')∧Ext st s'∧Own st.next s' wv (rowsF zb9 ws) 1 ws.length∧Own st.next s' ev (rowsF zi0 es) 2 es.length
theorem asm_ok [Sym] {st:SS} (hg:Gd st) (hl:st.lim≤st.next) (s:ByteArray) (hs:s.size≤65536):AsmR st (cc 16 [.string s] st) (asmT (bl s)):=by
 have x1:Ext st (st.new (.cells NN 0)):=(Ext.refl _).new _
 have x2:Ext (st.new (.cells NN 0)) ((st.new (.cells NN 0)).new (.cells Z2 0)):=(Ext.refl _).new _
 have a2:At ((st.new (.cells NN 0)).new (.cells Z2 0)) st.next NN:=(At.new hl NN).ext x2
 have a3:At ((st.new (.cells NN 0)).new (.cells Z2 0)) (st.next+1) Z2:=At.new (st:=st.new (.cells NN 0)) (x1.ll hl) Z2
 have hn1:(st.new (.cells NN 0)).next=st.next+1:=rfl
 have hn2:((st.new (.cells NN 0)).new (.cells Z2 0)).next=st.next+2:=rfl
 have x02:=x1.trans x2
 generalize hs2:(st.new (.cells NN 0)).new (.cells Z2 0)=s2 at*
 have hp:=zsQ (hg.ext x02) (x02.ll hl) s hs
 have t0:∀ (a b c:Value),zaq (.tuple #[a,b,c]) 0=some a:=fun _ _ _=>rfl
 have t1:∀ (a b c:Value),zaq (.tuple #[a,b,c]) 1=some b:=fun _ _ _=>rfl
 have t2:∀ (a b c:Value),zaq (.tuple #[a,b,c]) 2=some c:=fun _ _ _=>rfl
 have u0:∀ (a b:Value),zaq (.tuple #[a,b]) 0=some a:=fun _ _=>rfl
 have u1:∀ (a b:Value),zaq (.tuple #[a,b]) 1=some b:=fun _ _=>rfl
 unfold asmT
 cases hpt:zgp (bl s) with
 | error e=>
   rw [hpt] at hp
   obtain ⟨s3,c3,x3⟩:=hp
   obtain ⟨s8,e8,a8,x8,n8⟩:=zbk (n:=2) (st:=s3) ((x02.trans x3).ll hl) (r:=Z2) (row:=[.int .i64 e.1,.int .i64 e.2]) (v:=zbP e) rfl rfl rfl rfl
   have e8':(s3.new (.cells [.int .i64 0,.int .i64 0] 0)).stV s3.next 0 2 (zbP e)=some s8:=e8
   have h4:¬ (4:Int)=0:=by decide
   have a28:=(a2.ext x3).ext x8
   have a38:=(a3.ext x3).ext x8
   have l9:s8.ldN s3.next 0 2=some (zbP e):=a8.ldN rfl
   have hne:zbz (ptr s3.next 0) (ptr st.next 0)=true:=zcB (by have:=x3.next;omega)
   obtain ⟨s10,e10,a10,m10,n10⟩:=a28.sto (k:=0) (vs:=NN) (row':=NN) rfl rfl
   obtain ⟨s11,e11,a11,m11,n11⟩:=(a38.mod m10 (by simp)).stV (k:=0) (n:=2) (v:=zbP e) (vs:=[.int .i64 e.1,.int .i64 e.2]) rfl rfl rfl (row':=[.int .i64 e.1,.int .i64 e.2]) rfl
   have r1:=(a10.mod m11 (by simp)).rdN (n:=2) rfl
   have r2:=a11.rdN (n:=2) rfl
   refine ⟨s11,zdw _ st ?_,zay (zay ((x02.trans x3).trans x8) m10 (zlr _)) m11 (by omega)⟩
   simp only [zdC,hs2,hn1,c3,t0,t1,t2,zob,zaa,e8',zdf h4,znf,zct,l9,hne,e10,e11,r1,r2]
   rfl
 | ok xs=>
   rw [hpt] at hp
   obtain ⟨v,s3,c3,x3,items,hxs,hv,hrd⟩:=hp
   obtain ⟨hok,hlen⟩:=zup hpt
   rw [zaK] at hok hlen
   obtain ⟨s8,e8,a8,x8,n8⟩:=zbk (n:=2) (st:=s3) ((x02.trans x3).ll hl) (r:=Z2) (row:=Z2) (v:=zbP (0,0)) rfl rfl rfl rfl
   have e8':(s3.new (.cells [.int .i64 0,.int .i64 0] 0)).stV s3.next 0 2 (zbP (0,0))=some s8:=e8
   have h0:(0:Int)=0:=rfl
   have x08:=(x02.trans x3).trans x8
   have hl8:=x08.ll hl
   have hlen':(lenV v).bind (asI .i64)=some (items.length:Int):=by rw [hv.len];rfl
   have hil:items.length=xs.length:=by rw [← hxs,List.length_map]
   have hmp:((s8.new (.map [])).new (.cells (bldRow 0 s8.next (.slice none 0 0) (.slice none 0 0) (.slice none 0 0)) 0)).mem.get s8.next=some (.map []):=by
    rw [SS.new_old (by simp)];exact SS.new_get
   have hB0:Bld s8 ((s8.new (.map [])).new (.cells (bldRow 0 s8.next (.slice none 0 0) (.slice none 0 0) (.slice none 0 0)) 0)) (s8.next+2) (s8.next+1) s8.next (.slice none 0 0) (.slice none 0 0) (.slice none 0 0) zem []:=
    ⟨((Ext.refl s8).new _).new _,hl8,At.new (st:=s8.new (.map [])) (by simp;omega) _,hmp,by omega,zlr _,by omega,by omega,by omega,by simp,Own.nil _ _ _,Own.nil _ _ _,Own.nil _ _ _,fun j hj=>(by cases hj),fun j hj=>(by cases hj),rfl,fun x hx=>(by cases hx)⟩
   have hb2:st.next+2≤s8.next:=by have:=x3.next;have:=x8.next;omega
   have hloop:=zuv (base:=st) (st0:=s8) (B:=s8.next+2) (b:=s8.next+1) (i:=s8.next) (M:=s.size+1) (by omega) items (by omega) (fun x hx=>hok x.1 (by rw [← hxs];exact List.mem_map_of_mem hx)) v (hv.ext x8) (fun x hx=>⟨(hrd x hx).1.ext x8,(hrd x hx).2.ext x8⟩) x08 hb2 ((a2.ext x3).ext x8) ((a3.ext x3).ext x8)
    items.length 0 zem _ _ _ [] _ rfl hB0 (zpU _) (by simp [zem])
   rw [List.drop_zero,hxs] at hloop
   have b0:Nat.beq 0 0=true:=rfl
   have b1:Nat.beq 1 0=false:=rfl
   simp only
   cases hly:zfG zem xs with
   | error e=>
     rw [hly] at hloop
     obtain ⟨s17,d1,d2,d3,d4⟩:=hloop
     have d1':zbh 6 [ptr st.next 0,ptr (st.next+1) 0,ptr (s8.new (.map [])).next 0,v,.int .i64 items.length,.int .i64 0] ((s8.new (.map [])).new (.cells [.int .i64 0,.map (some s8.next),.slice none 0 0,.slice none 0 0,.slice none 0 0] 0))=_:=d1
     have r1:=d3.rdN (n:=2) rfl
     have r2:=d4.rdN (n:=2) rfl
     refine ⟨s17,zdw _ st ?_,d2⟩
     simp only [zdC,hs2,hn1,c3,t0,t1,t2,zob,zaa,e8',decide_true,znt,zcf,hlen']
     rw [d1',zob]
     simp only [b1,zcf,zgs,zgz,zob,zad,zaa,r1,r2]
     rfl
   | ok l=>
     rw [hly] at hloop
     obtain ⟨s17,vw,ve,vv,its,d1,hB⟩:=hloop
     have d1':zbh 6 [ptr st.next 0,ptr (st.next+1) 0,ptr (s8.new (.map [])).next 0,v,.int .i64 items.length,.int .i64 0] ((s8.new (.map [])).new (.cells [.int .i64 0,.map (some s8.next),.slice none 0 0,.slice none 0 0,.slice none 0 0] 0))=_:=d1
     obtain ⟨hL,hen⟩:=zur xs zem l (zpU (s.size+1)) hok hly
     simp only [zem,List.length_nil,Nat.zero_add] at hen
     have x017:=x08.trans hB.ext
     have hlay:=lay_ok hB hL (by omega) (by omega) (hg.ext x017)
     have a217:=((a2.ext x3).ext x8).ext hB.ext
     have a317:=((a3.ext x3).ext x8).ext hB.ext
     have hn17:st.next+2≤s17.next:=zlt hb2 hB.ext.next
     simp only
     cases hro:zhK l with
     | error e=>
       rw [hro] at hlay
       obtain ⟨s21,c21,x21,hne⟩:=hlay
       have hll21:=x21.ll (x017.ll hl)
       have y1:Ext s21 (s21.new (.cells NN 0)):=(Ext.refl _).new _
       have y2:Ext (s21.new (.cells NN 0)) ((s21.new (.cells NN 0)).new (.cells Z2 0)):=(Ext.refl _).new _
       have q1:At ((s21.new (.cells NN 0)).new (.cells Z2 0)) s21.next NN:=(At.new hll21 NN).ext y2
       have q2:At ((s21.new (.cells NN 0)).new (.cells Z2 0)) (s21.new (.cells NN 0)).next Z2:=At.new (st:=s21.new (.cells NN 0)) (y1.ll hll21) Z2
       have hnn:(s21.new (.cells NN 0)).next=s21.next+1:=rfl
       obtain ⟨s26,e26,a26,m26,n26⟩:=q1.stV (k:=0) (n:=2) (v:=zlb (.slice none 0 0) (.slice none 0 0)) (vs:=NN) rfl rfl rfl (row':=NN) rfl
       obtain ⟨s27,e27,a27,m27,n27⟩:=(q2.mod m26 (by simp)).stV (k:=0) (n:=2) (v:=zbP e) (vs:=[.int .i64 e.1,.int .i64 e.2]) rfl rfl rfl (row':=[.int .i64 e.1,.int .i64 e.2]) rfl
       have l28:s27.ldN (s21.new (.cells NN 0)).next 0 2=some (.agg #[.int .i64 e.1,.int .i64 e.2]):=a27.ldN rfl
       have heq:(decide ((e.1:Int)=0)&&(decide ((e.2:Int)=0)&&true))=false:=by
        rw [Bool.and_true,← Bool.decide_and,decide_eq_false_iff_not]
        exact fun hh=>hne (Prod.ext (by omega) (by omega))
       have x27:Ext s21 s27:=zay (zay (y1.trans y2) m26 (zlr _)) m27 (by simp)
       have xx27:=(x017.trans x21).trans x27
       have hp1:zbz (ptr (s21.new (.cells NN 0)).next 0) (ptr st.next 0)=true:=zcB (by have:=x21.next;simp;omega)
       obtain ⟨s32,e32,a32,m32,n32⟩:=((a217.ext x21).ext x27).sto (k:=0) (vs:=NN) (row':=NN) rfl rfl
       obtain ⟨s34,e34,a34,m34,n34⟩:=(((a317.ext x21).ext x27).mod m32 (by simp)).stV (k:=0) (n:=2) (v:=.agg #[.int .i64 e.1,.int .i64 e.2]) (vs:=[.int .i64 e.1,.int .i64 e.2]) rfl rfl rfl (row':=[.int .i64 e.1,.int .i64 e.2]) rfl
       have r1:=(a32.mod m34 (by simp)).rdN (n:=2) rfl
       have r2:=a34.rdN (n:=2) rfl
       refine ⟨s34,zdw _ st ?_,zay (zay xx27 m32 (zlr _)) m34 (by omega)⟩
       simp only [zdC,hs2,hn1,c3,t0,t1,t2,zob,zaa,e8',decide_true,znt,zcf,hlen']
       rw [d1',zob]
       simp only [b0,zct,zgs,zgz,zob]
       rw [c21,zob]
       simp only [u0,u1,zob,e26,e27,l28,zoU,heq,znf,zal,zct,hp1,zad,e32,e34,r1,r2]
       rfl
     | ok y=>
       obtain ⟨ws,es⟩:=y
       rw [hro] at hlay
       obtain ⟨s21,wv,ev,c21,x21,o1,o2⟩:=hlay
       have hll21:=x21.ll (x017.ll hl)
       have w1:one wv=true:=(Own.cell o1).2
       have w2:one ev=true:=(Own.cell o2).2
       have y1:Ext s21 (s21.new (.cells NN 0)):=(Ext.refl _).new _
       have y2:Ext (s21.new (.cells NN 0)) ((s21.new (.cells NN 0)).new (.cells Z2 0)):=(Ext.refl _).new _
       have q1:At ((s21.new (.cells NN 0)).new (.cells Z2 0)) s21.next NN:=(At.new hll21 NN).ext y2
       have q2:At ((s21.new (.cells NN 0)).new (.cells Z2 0)) (s21.new (.cells NN 0)).next Z2:=At.new (st:=s21.new (.cells NN 0)) (y1.ll hll21) Z2
       obtain ⟨s26,e26,a26,m26,n26⟩:=q1.stV (k:=0) (n:=2) (v:=zlb wv ev) (vs:=[wv,ev]) rfl rfl (by simp [w1,w2]) (row':=[wv,ev]) rfl
       obtain ⟨s27,e27,a27,m27,n27⟩:=(q2.mod m26 (by simp)).stV (k:=0) (n:=2) (v:=zbP (0,0)) (vs:=Z2) rfl rfl rfl (row':=Z2) rfl
       have l28:s27.ldN (s21.new (.cells NN 0)).next 0 2=some (.agg #[.int .i64 0,.int .i64 0]):=a27.ldN rfl
       have heq:(decide ((0:Int)=0)&&(decide ((0:Int)=0)&&true))=true:=rfl
       have x27:Ext s21 s27:=zay (zay (y1.trans y2) m26 (zlr _)) m27 (by simp)
       have xx27:=(x017.trans x21).trans x27
       have l39:s27.ldN s21.next 0 2=some (.agg [wv,ev].toArray):=(a26.mod m27 (by simp)).ldN rfl
       obtain ⟨s41,e41,a41,m41,n41⟩:=((a217.ext x21).ext x27).stV (k:=0) (n:=2) (v:=.agg [wv,ev].toArray) (vs:=[wv,ev]) (zaF _) rfl (by simp [w1,w2]) (row':=[wv,ev]) rfl
       obtain ⟨s43,e43,a43,m43,n43⟩:=(((a317.ext x21).ext x27).mod m41 (by simp)).sto (k:=0) (vs:=Z2) (row':=Z2) rfl rfl
       have r1:=(a41.mod m43 (by simp)).rdN (n:=2) rfl
       have r2:=a43.rdN (n:=2) rfl
       have z1:∀ m,m∈[st.next]→m<s17.next:=by intro m hm;have e:m=st.next:=(by simpa using hm);omega
       have z2:∀ m,m∈[st.next+1]→m<s17.next:=by intro m hm;have e:m=st.next+1:=(by simpa using hm);omega
       refine ⟨s43,wv,ev,zdw _ st ?_,zay (zay xx27 m41 (zlr _)) m43 (by omega),(((o1.ext x27).modLt m41 z1).modLt m43 z2).low (by omega),(((o2.ext x27).modLt m41 z1).modLt m43 z2).low (by omega)⟩
       simp only [zdC,hs2,hn1,c3,t0,t1,t2,zob,zaa,e8',decide_true,znt,zcf,hlen']
       rw [d1',zob]
       simp only [b0,zct,zgs,zgz,zob]
       rw [c21,zob]
       simp only [u0,u1,zob,e26,e27,l28,zoU,heq,znt,zal,zcf,l39,zad,e41,e43,r1,r2]
       rfl
end Go.Proofs.YtifploedaacedaaGreatDoorE
