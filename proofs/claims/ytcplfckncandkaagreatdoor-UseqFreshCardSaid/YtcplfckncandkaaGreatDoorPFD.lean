/- Parts of the proof of UseqFresh, packed by a program: an evaluator over the given code, functions as plain texts, their laws. -/
import Derived.Test.YtcplfckncandkaaGreatDoorPFC
set_option linter.unusedVariables false
set_option linter.unusedSimpArgs false
namespace Go.Proofs.YtcplfckncandkaaGreatDoorE
set_option maxRecDepth 20000
open Go Go.E Go.Proofs
def zfR:LoopI:=⟨[(0,.str),(9,.any),(10,.int .i64),(12,.int .i64)],[(.exit 6,[(0,.str),(9,.any),(10,.int .i64),(12,.int .i64)])]⟩
def zfS:LoopI:=⟨[(0,.str),(9,.any),(10,.int .i64),(11,.int .i64),(12,.int .i64)],[(.exit 4,[(0,.str),(9,.any),(10,.int .i64),(11,.int .i64)])]⟩
def zfT:LoopI:=⟨[(0,.str),(9,.any),(10,.int .i64),(12,.int .i64)],[(.exit 2,[(0,.str),(9,.any),(10,.int .i64),(12,.int .i64)])]⟩
def zgu:LoopI:=⟨[(0,.str),(3,.int .i64),(4,.int .i64),(5,.int .u8),(6,.int .i64)],[(.exit 0,[(0,.str),(3,.int .i64),(5,.int .u8)])]⟩
def zgK (n:Nat):Option LoopI:=cond (Nat.beq n 5) (some zgu) (cond (Nat.beq n 18) (some zfT) (cond (Nat.beq n 21) (some zfS) (cond (Nat.beq n 27) (some zfR) (none))))
noncomputable def strings_Fields (cf:zak) (lf:zab) (s':ByteArray) (st:SS):Option (Value×SS):=
 (lf 5 [.string s',.int .i64 0,.int .i64 1,.int .u8 0,.int .i64 0] st).bind fun a=>
 ((a.2.1[0]?).bind asS).bind fun b=>
 ((a.2.1[1]?).bind (asI .i64)).bind fun c=>
 ((a.2.1[2]?).bind (asI .u8)).bind fun d=>
 cond (decide (128≤d)) (
 (cf 124 [.string b,.func (.func 125) #[] #[]] a.2.2).bind fun e=>
 some (e.1,e.2)) (
 (ze9 c c 16).bind fun _=>
 let f:SS:=a.2.2.new (.cells (zeW [.string ⟨#[]⟩] c) 1)
 (lf 18 [.string b,.slice (some ⟨a.2.2.next,0,none⟩) ((c:Int).toNat) ((c:Int).toNat),.int .i64 0,.int .i64 0] f).bind fun g=>
 ((g.2.1[0]?).bind asS).bind fun h=>
 (g.2.1[1]?).bind fun i=>
 ((g.2.1[2]?).bind (asI .i64)).bind fun j=>
 ((g.2.1[3]?).bind (asI .i64)).bind fun k=>
 (lf 21 [.string h,i,.int .i64 j,.int .i64 k,.int .i64 k] g.2.2).bind fun l=>
 ((l.2.1[0]?).bind asS).bind fun m=>
 (l.2.1[1]?).bind fun n=>
 ((l.2.1[2]?).bind (asI .i64)).bind fun o=>
 ((l.2.1[3]?).bind (asI .i64)).bind fun p=>
 cond (decide (p<(m.size:Int))) (
 (zci m p (m.size:Int)).bind fun q=>
 (zau n o 1).bind fun r=>
 (l.2.2.st r.1 r.2 [.string q]).bind fun s=>
 some (n,s)) (
 some (n,l.2.2)))
noncomputable abbrev zaI:zab:=lS Tryz.prog Lk0 Tryz.f110 zgK
theorem zlH:Lk0.func 110=some (110,Tryz.f110):=by kernel_rfl
theorem zlI [Sym] (s':ByteArray) (st:SS) {r:Value×SS} (h:strings_Fields cc zaI s' st=some r):cc 110 [.string s'] st=some r:=
 zaf (li:=zgK) zah zal zlH rfl (fun _=>rfl) (.trans (by kernel_rfl) h)
noncomputable def zeR (cf:zak) (lf:zab) (s':ByteArray) (n':Int) (wasSpace':Int) (setBits':Int) (i':Int) (st:SS):Option (Nat×List Value×SS):=
 cond (decide (i'<(s'.size:Int))) (
 ((zcB s' i').bind (asI .u8)).bind fun a=>
 let b:Int:=orI .u8 setBits' a
 (zaR (ptr 2 0) 256 a 1).bind fun c=>
 ((st.ld c.1 c.2).bind (asI .u8)).bind fun d=>
 let e:Int:=IntKind.wrap .i64 d
 let f:Int:=xorI .i64 (-1) e
 let g:Int:=zf0 .i64 wasSpace' f
 let h:Int:=IntKind.wrap .i64 (n'+g)
 let i:Int:=IntKind.wrap .i64 (i'+1)
 lf 5 [.string s',.int .i64 h,.int .i64 e,.int .u8 b,.int .i64 i] st) (
 some (0,[.string s',.int .i64 n',.int .u8 setBits'],st))
theorem zfF [Sym] (s':ByteArray) (n':Int) (wasSpace':Int) (setBits':Int) (i':Int) (st:SS) {r:Nat×List Value×SS} (h:zeR cc zaI s' n' wasSpace' setBits' i' st=some r):zaI 5 [.string s',.int .i64 n',.int .i64 wasSpace',.int .u8 setBits',.int .i64 i'] st=some r:=
 zay zah zal (key:=5) (I:=zgu) rfl (by kernel_rfl) (by kernel_rfl) rfl rfl (.trans (by kernel_rfl) h)
noncomputable def zeq (cf:zak) (lf:zab) (s':ByteArray) (a':Value) (na':Int) (i':Int) (st:SS):Option (Nat×List Value×SS):=
 cond (decide (i'<(s'.size:Int))) (
 ((zcB s' i').bind (asI .u8)).bind fun a=>
 (zaR (ptr 2 0) 256 a 1).bind fun b=>
 ((st.ld b.1 b.2).bind (asI .u8)).bind fun c=>
 cond (!(decide (c=0))) (
 let d:Int:=IntKind.wrap .i64 (i'+1)
 lf 18 [.string s',a',.int .i64 na',.int .i64 d] st) (
 some (0,[.string s',a',.int .i64 na',.int .i64 i'],st))) (
 some (0,[.string s',a',.int .i64 na',.int .i64 i'],st))
theorem zi4 [Sym] (s':ByteArray) (a':Value) (na':Int) (i':Int) (st:SS) {r:Nat×List Value×SS} (h:zeq cc zaI s' a' na' i' st=some r):zaI 18 [.string s',a',.int .i64 na',.int .i64 i'] st=some r:=
 zay zah zal (key:=18) (I:=zfT) rfl (by kernel_rfl) (by kernel_rfl) rfl rfl (.trans (by kernel_rfl) h)
noncomputable def zc5 (cf:zak) (lf:zab) (s':ByteArray) (a':Value) (na':Int) (fieldStart':Int) (i':Int) (st:SS):Option (Nat×List Value×SS):=
 cond (decide (i'<(s'.size:Int))) (
 ((zcB s' i').bind (asI .u8)).bind fun a=>
 (zaR (ptr 2 0) 256 a 1).bind fun b=>
 ((st.ld b.1 b.2).bind (asI .u8)).bind fun c=>
 cond (decide (c=0)) (
 let d:Int:=IntKind.wrap .i64 (i'+1)
 lf 21 [.string s',a',.int .i64 na',.int .i64 fieldStart',.int .i64 d] st) (
 (zci s' fieldStart' i').bind fun e=>
 (zau a' na' 1).bind fun f=>
 (st.st f.1 f.2 [.string e]).bind fun g=>
 let h:Int:=IntKind.wrap .i64 (na'+1)
 let i:Int:=IntKind.wrap .i64 (i'+1)
 (lf 27 [.string s',a',.int .i64 h,.int .i64 i] g).bind fun j=>
 ((j.2.1[0]?).bind asS).bind fun k=>
 (j.2.1[1]?).bind fun l=>
 ((j.2.1[2]?).bind (asI .i64)).bind fun m=>
 ((j.2.1[3]?).bind (asI .i64)).bind fun n=>
 lf 21 [.string k,l,.int .i64 m,.int .i64 n,.int .i64 n] j.2.2)) (
 some (0,[.string s',a',.int .i64 na',.int .i64 fieldStart'],st))
theorem zdv [Sym] (s':ByteArray) (a':Value) (na':Int) (fieldStart':Int) (i':Int) (st:SS) {r:Nat×List Value×SS} (h:zc5 cc zaI s' a' na' fieldStart' i' st=some r):zaI 21 [.string s',a',.int .i64 na',.int .i64 fieldStart',.int .i64 i'] st=some r:=
 zay zah zal (key:=21) (I:=zfS) rfl (by kernel_rfl) (by kernel_rfl) rfl rfl (.trans (by kernel_rfl) h)
noncomputable def zer (cf:zak) (lf:zab) (s':ByteArray) (a':Value) (na':Int) (i':Int) (st:SS):Option (Nat×List Value×SS):=
 cond (decide (i'<(s'.size:Int))) (
 ((zcB s' i').bind (asI .u8)).bind fun a=>
 (zaR (ptr 2 0) 256 a 1).bind fun b=>
 ((st.ld b.1 b.2).bind (asI .u8)).bind fun c=>
 cond (!(decide (c=0))) (
 let d:Int:=IntKind.wrap .i64 (i'+1)
 lf 27 [.string s',a',.int .i64 na',.int .i64 d] st) (
 some (0,[.string s',a',.int .i64 na',.int .i64 i'],st))) (
 some (0,[.string s',a',.int .i64 na',.int .i64 i'],st))
theorem zi5 [Sym] (s':ByteArray) (a':Value) (na':Int) (i':Int) (st:SS) {r:Nat×List Value×SS} (h:zer cc zaI s' a' na' i' st=some r):zaI 27 [.string s',a',.int .i64 na',.int .i64 i'] st=some r:=
 zay zah zal (key:=27) (I:=zfR) rfl (by kernel_rfl) (by kernel_rfl) rfl rfl (.trans (by kernel_rfl) h)
noncomputable def zqD (cf:zak) (lf:zab) (s':ByteArray) (st:SS):Option (Value×SS):=
 (cf 110 [.string s'] st).bind fun a=>
 some (a.1,a.2)
noncomputable abbrev zrx:zab:=lS Tryz.prog Lk0 Tryz.f98 zav
theorem zry:Lk0.func 98=some (98,Tryz.f98):=by kernel_rfl
theorem zrz [Sym] (s':ByteArray) (st:SS) {r:Value×SS} (h:zqD cc zrx s' st=some r):cc 98 [.string s'] st=some r:=
 zaf (li:=zav) zah zal zry rfl (fun _=>rfl) (.trans (by kernel_rfl) h)
noncomputable def zbL (cf:zak) (lf:zab) (field':ByteArray) (st:SS):Option (Value×SS):=
 cond (eqT field' ⟨#[97,108,117]⟩) (
 (cf 98 [.string ⟨#[110,111,110,101,32,109,111,118,32,110,111,116,32,110,101,103,32,105,110,99,32,100,101,99,32,97,100,100,32,115,117,98,32,97,100,100,99,32,115,117,98,99,32,109,117,108,32,100,105,118,32,111,114,32,98,105,99,32,120,111,114,32,97,110,100,32,99,109,112,32,116,101,115,116,32,99,108,101,97,114,32,115,120,98,32,115,120,119,32,122,120,98,32,122,120,119,32,115,104,108,32,115,104,114,32,97,115,104,32,114,111,116,32,111,112,32,115,120,111,32,101,120,116,32,105,110,115,32,99,118,116]⟩] st).bind fun a=>
 some (a.1,a.2)) (
 cond (eqT field' ⟨#[97]⟩) (
 cond (eqT field' ⟨#[97]⟩) (
 (cf 98 [.string ⟨#[114,48,32,114,49,32,114,50,32,114,51,32,114,52,32,114,53,32,114,54,32,114,55,32,114,56,32,114,57,32,114,49,48,32,114,49,49,32,114,49,50,32,114,49,51,32,114,49,52,32,114,49,53,32,116,48,32,116,49,32,116,50,32,116,51,32,116,52,32,116,53,32,116,54,32,116,55,32,118,48,32,118,49,32,118,50,32,118,51,32,118,52,32,118,53,32,97,48,32,97,49,32,97,50,32,97,51,32,97,52,32,97,53,32,109,100,32,118,97,32,112,115,108,32,114,110,32,114,120,32,108,105,116,32,122,101,114,111,32,118,101,99,32,112,48,32,112,49,32,115,116,97,114,116,32,115,99,98,98,32,107,115,112,32,117,115,112,32,100,105,115,112,32,111,115,105,122,101,32,105,108,101,110,32,108,101,118,101,108,32,118,99,32,97,99,32,97,108,32,107,108,32,99,110,116,32,110,112]⟩] st).bind fun b=>
 some (b.1,b.2)) (
 cond (eqT field' ⟨#[115,105,122,101]⟩) (
 (cf 98 [.string ⟨#[98,121,116,101,32,119,111,114,100,32,108,111,110,103,32,111,119,110]⟩] st).bind fun c=>
 some (c.1,c.2)) (
 cond (eqT field' ⟨#[99,99]⟩) (
 (cf 98 [.string ⟨#[107,101,101,112,32,115,101,116,32,115,101,116,107]⟩] st).bind fun d=>
 some (d.1,d.2)) (
 cond (eqT field' ⟨#[109,101,109]⟩) (
 (cf 98 [.string ⟨#[110,111,110,101,32,114,100,32,119,114,32,112,114,111,98,101,32,98,108,100,32,98,115,116,32,98,112,117,116,32,98,103,101,116,32,98,99,108,114,32,105,102,32,114,100,112,32,107,115,116,32,114,111,119,32,117,110,114,111,119,32,114,111,119,97,32,102,108,117,115,104]⟩] st).bind fun e=>
 some (e.1,e.2)) (
 cond (eqT field' ⟨#[115,101,113]⟩) (
 (cf 98 [.string ⟨#[110,101,120,116,32,106,109,112,32,99,106,32,99,97,108,108,32,114,101,116,32,115,112,101,99,32,109,111,100,101,32,101,110,100]⟩] st).bind fun f=>
 some (f.1,f.2)) (
 cond (eqT field' ⟨#[99,111,110,100]⟩) (
 (cf 98 [.string ⟨#[97,108,119,97,121,115,32,122,32,110,122,32,110,101,103,32,112,111,115,32,99,32,110,99,32,117,115,101,114,32,107,101,114,110,101,108,32,102,112,100,32,110,111,102,112,100,32,116,97,107,101,110,32,109,97,116,99,104,32,107,49,32,107,50,32,107,51,32,108,97,115,116,114,101,103,32,102,32,114,101,97,100,115,32,105,110,100,101,120,32,100,105,118,32,108,101,115,115,97,108,117,32,97,108,117,49,32,115,116,114,105,110,103,32,110,111,105,110,100,101,120,32,110,111,114,101,97,100,115,32,111,118,101,114]⟩] st).bind fun g=>
 some (g.1,g.2)) (
 cond (eqT field' ⟨#[109,105,115,99]⟩) (
 (cf 98 [.string ⟨#[110,111,110,101,32,115,116,101,112,32,117,110,100,111,32,115,101,116,102,112,100,32,99,108,114,102,112,100,32,114,97,105,115,101,32,108,97,116,99,104,107,32,108,97,116,99,104,120,32,109,116,112,114,32,109,102,112,114,32,101,110,116,101,114,32,112,117,116,112,115,108,32,104,97,108,116,32,98,97,99,107,32,100,101,99,111,100,101,32,115,101,108,32,115,101,108,107,32,111,119,110,108,97,115,116,32,112,105,99,107,32,112,105,99,107,116,111,112,32,112,97,114,97,109,115,32,99,111,117,110,116]⟩] st).bind fun h=>
 some (h.1,h.2)) (
 some (.slice none 0 0,st))))))))) (
 cond (eqT field' ⟨#[98]⟩) (
 cond (eqT field' ⟨#[98]⟩) (
 (cf 98 [.string ⟨#[114,48,32,114,49,32,114,50,32,114,51,32,114,52,32,114,53,32,114,54,32,114,55,32,114,56,32,114,57,32,114,49,48,32,114,49,49,32,114,49,50,32,114,49,51,32,114,49,52,32,114,49,53,32,116,48,32,116,49,32,116,50,32,116,51,32,116,52,32,116,53,32,116,54,32,116,55,32,118,48,32,118,49,32,118,50,32,118,51,32,118,52,32,118,53,32,97,48,32,97,49,32,97,50,32,97,51,32,97,52,32,97,53,32,109,100,32,118,97,32,112,115,108,32,114,110,32,114,120,32,108,105,116,32,122,101,114,111,32,118,101,99,32,112,48,32,112,49,32,115,116,97,114,116,32,115,99,98,98,32,107,115,112,32,117,115,112,32,100,105,115,112,32,111,115,105,122,101,32,105,108,101,110,32,108,101,118,101,108,32,118,99,32,97,99,32,97,108,32,107,108,32,99,110,116,32,110,112]⟩] st).bind fun i=>
 some (i.1,i.2)) (
 cond (eqT field' ⟨#[115,105,122,101]⟩) (
 (cf 98 [.string ⟨#[98,121,116,101,32,119,111,114,100,32,108,111,110,103,32,111,119,110]⟩] st).bind fun j=>
 some (j.1,j.2)) (
 cond (eqT field' ⟨#[99,99]⟩) (
 (cf 98 [.string ⟨#[107,101,101,112,32,115,101,116,32,115,101,116,107]⟩] st).bind fun k=>
 some (k.1,k.2)) (
 cond (eqT field' ⟨#[109,101,109]⟩) (
 (cf 98 [.string ⟨#[110,111,110,101,32,114,100,32,119,114,32,112,114,111,98,101,32,98,108,100,32,98,115,116,32,98,112,117,116,32,98,103,101,116,32,98,99,108,114,32,105,102,32,114,100,112,32,107,115,116,32,114,111,119,32,117,110,114,111,119,32,114,111,119,97,32,102,108,117,115,104]⟩] st).bind fun l=>
 some (l.1,l.2)) (
 cond (eqT field' ⟨#[115,101,113]⟩) (
 (cf 98 [.string ⟨#[110,101,120,116,32,106,109,112,32,99,106,32,99,97,108,108,32,114,101,116,32,115,112,101,99,32,109,111,100,101,32,101,110,100]⟩] st).bind fun m=>
 some (m.1,m.2)) (
 cond (eqT field' ⟨#[99,111,110,100]⟩) (
 (cf 98 [.string ⟨#[97,108,119,97,121,115,32,122,32,110,122,32,110,101,103,32,112,111,115,32,99,32,110,99,32,117,115,101,114,32,107,101,114,110,101,108,32,102,112,100,32,110,111,102,112,100,32,116,97,107,101,110,32,109,97,116,99,104,32,107,49,32,107,50,32,107,51,32,108,97,115,116,114,101,103,32,102,32,114,101,97,100,115,32,105,110,100,101,120,32,100,105,118,32,108,101,115,115,97,108,117,32,97,108,117,49,32,115,116,114,105,110,103,32,110,111,105,110,100,101,120,32,110,111,114,101,97,100,115,32,111,118,101,114]⟩] st).bind fun n=>
 some (n.1,n.2)) (
 cond (eqT field' ⟨#[109,105,115,99]⟩) (
 (cf 98 [.string ⟨#[110,111,110,101,32,115,116,101,112,32,117,110,100,111,32,115,101,116,102,112,100,32,99,108,114,102,112,100,32,114,97,105,115,101,32,108,97,116,99,104,107,32,108,97,116,99,104,120,32,109,116,112,114,32,109,102,112,114,32,101,110,116,101,114,32,112,117,116,112,115,108,32,104,97,108,116,32,98,97,99,107,32,100,101,99,111,100,101,32,115,101,108,32,115,101,108,107,32,111,119,110,108,97,115,116,32,112,105,99,107,32,112,105,99,107,116,111,112,32,112,97,114,97,109,115,32,99,111,117,110,116]⟩] st).bind fun o=>
 some (o.1,o.2)) (
 some (.slice none 0 0,st))))))))) (
 cond (eqT field' ⟨#[100]⟩) (
 (cf 98 [.string ⟨#[114,48,32,114,49,32,114,50,32,114,51,32,114,52,32,114,53,32,114,54,32,114,55,32,114,56,32,114,57,32,114,49,48,32,114,49,49,32,114,49,50,32,114,49,51,32,114,49,52,32,114,49,53,32,116,48,32,116,49,32,116,50,32,116,51,32,116,52,32,116,53,32,116,54,32,116,55,32,118,48,32,118,49,32,118,50,32,118,51,32,118,52,32,118,53,32,97,48,32,97,49,32,97,50,32,97,51,32,97,52,32,97,53,32,109,100,32,118,97,32,112,115,108,32,114,110,32,114,120,32,108,105,116,32,122,101,114,111,32,118,101,99,32,112,48,32,112,49,32,115,116,97,114,116,32,115,99,98,98,32,107,115,112,32,117,115,112,32,100,105,115,112,32,111,115,105,122,101,32,105,108,101,110,32,108,101,118,101,108,32,118,99,32,97,99,32,97,108,32,107,108,32,99,110,116,32,110,112]⟩] st).bind fun p=>
 some (p.1,p.2)) (
 cond (eqT field' ⟨#[115,105,122,101]⟩) (
 (cf 98 [.string ⟨#[98,121,116,101,32,119,111,114,100,32,108,111,110,103,32,111,119,110]⟩] st).bind fun q=>
 some (q.1,q.2)) (
 cond (eqT field' ⟨#[99,99]⟩) (
 (cf 98 [.string ⟨#[107,101,101,112,32,115,101,116,32,115,101,116,107]⟩] st).bind fun r=>
 some (r.1,r.2)) (
 cond (eqT field' ⟨#[109,101,109]⟩) (
 (cf 98 [.string ⟨#[110,111,110,101,32,114,100,32,119,114,32,112,114,111,98,101,32,98,108,100,32,98,115,116,32,98,112,117,116,32,98,103,101,116,32,98,99,108,114,32,105,102,32,114,100,112,32,107,115,116,32,114,111,119,32,117,110,114,111,119,32,114,111,119,97,32,102,108,117,115,104]⟩] st).bind fun s=>
 some (s.1,s.2)) (
 cond (eqT field' ⟨#[115,101,113]⟩) (
 (cf 98 [.string ⟨#[110,101,120,116,32,106,109,112,32,99,106,32,99,97,108,108,32,114,101,116,32,115,112,101,99,32,109,111,100,101,32,101,110,100]⟩] st).bind fun t=>
 some (t.1,t.2)) (
 cond (eqT field' ⟨#[99,111,110,100]⟩) (
 (cf 98 [.string ⟨#[97,108,119,97,121,115,32,122,32,110,122,32,110,101,103,32,112,111,115,32,99,32,110,99,32,117,115,101,114,32,107,101,114,110,101,108,32,102,112,100,32,110,111,102,112,100,32,116,97,107,101,110,32,109,97,116,99,104,32,107,49,32,107,50,32,107,51,32,108,97,115,116,114,101,103,32,102,32,114,101,97,100,115,32,105,110,100,101,120,32,100,105,118,32,108,101,115,115,97,108,117,32,97,108,117,49,32,115,116,114,105,110,103,32,110,111,105,110,100,101,120,32,110,111,114,101,97,100,115,32,111,118,101,114]⟩] st).bind fun u=>
 some (u.1,u.2)) (
 cond (eqT field' ⟨#[109,105,115,99]⟩) (
 (cf 98 [.string ⟨#[110,111,110,101,32,115,116,101,112,32,117,110,100,111,32,115,101,116,102,112,100,32,99,108,114,102,112,100,32,114,97,105,115,101,32,108,97,116,99,104,107,32,108,97,116,99,104,120,32,109,116,112,114,32,109,102,112,114,32,101,110,116,101,114,32,112,117,116,112,115,108,32,104,97,108,116,32,98,97,99,107,32,100,101,99,111,100,101,32,115,101,108,32,115,101,108,107,32,111,119,110,108,97,115,116,32,112,105,99,107,32,112,105,99,107,116,111,112,32,112,97,114,97,109,115,32,99,111,117,110,116]⟩] st).bind fun v=>
 some (v.1,v.2)) (
 some (.slice none 0 0,st)))))))))))
noncomputable abbrev zpK:zab:=lS Tryz.prog Lk0 Tryz.f77 zav
theorem zpL:Lk0.func 77=some (77,Tryz.f77):=by kernel_rfl
theorem zbm [Sym] (field':ByteArray) (st:SS) {r:Value×SS} (h:zbL cc zpK field' st=some r):cc 77 [.string field'] st=some r:=
 zaf (li:=zav) zah zal zpL rfl (fun _=>rfl) (.trans (by kernel_rfl) h)
noncomputable def zc6 (cf:zak) (lf:zab) (w':Value) (at0':Int) (st:SS):Option (Value×SS):=
 let a:SS:=st.new (.cells (w':Value).cells.toList 0)
 ((a.ld st.next 8).bind (asI .i64)).bind fun b=>
 cond (decide (b=0)) (
 let c:Int:=IntKind.wrap .i64 (at0'+1)
 let d:SS:=a.new (.cells ([.int .i64 c,.int .i64 1]) 2)
 some (.slice (some ⟨a.next,0,none⟩) 1 1,d)) (
 cond (decide (b=1)) (
 ((a.ld st.next 10).bind (asI .i64)).bind fun e=>
 let f:SS:=a.new (.cells ([.int .i64 e,.int .i64 1]) 2)
 some (.slice (some ⟨a.next,0,none⟩) 1 1,f)) (
 cond (decide (b=2)) (
 cond (decide (b=2)) (
 let g:Int:=IntKind.wrap .i64 (at0'+1)
 ((a.ld st.next 10).bind (asI .i64)).bind fun h=>
 let i:SS:=a.new (.cells ([.int .i64 g,.int .i64 1,.int .i64 h,.int .i64 1]) 2)
 some (.slice (some ⟨a.next,0,none⟩) 2 2,i)) (
 cond (decide (b=5)) (
 ((a.ld st.next 10).bind (asI .i64)).bind fun j=>
 let k:SS:=a.new (.cells ([.int .i64 j,.int .i64 64]) 2)
 some (.slice (some ⟨a.next,0,none⟩) 1 1,k)) (
 cond (decide (b=6)) (
 ((a.ld st.next 10).bind (asI .i64)).bind fun l=>
 let m:SS:=a.new (.cells ([.int .i64 l,.int .i64 16]) 2)
 some (.slice (some ⟨a.next,0,none⟩) 1 1,m)) (
 some (.slice none 0 0,a))))) (
 cond (decide (b=3)) (
 let n:Int:=IntKind.wrap .i64 (at0'+1)
 ((a.ld st.next 10).bind (asI .i64)).bind fun o=>
 let p:SS:=a.new (.cells ([.int .i64 n,.int .i64 1,.int .i64 o,.int .i64 1]) 2)
 some (.slice (some ⟨a.next,0,none⟩) 2 2,p)) (
 cond (decide (b=5)) (
 ((a.ld st.next 10).bind (asI .i64)).bind fun q=>
 let r:SS:=a.new (.cells ([.int .i64 q,.int .i64 64]) 2)
 some (.slice (some ⟨a.next,0,none⟩) 1 1,r)) (
 cond (decide (b=6)) (
 ((a.ld st.next 10).bind (asI .i64)).bind fun s=>
 let t:SS:=a.new (.cells ([.int .i64 s,.int .i64 16]) 2)
 some (.slice (some ⟨a.next,0,none⟩) 1 1,t)) (
 some (.slice none 0 0,a)))))))
noncomputable abbrev zpM:zab:=lS Tryz.prog Lk0 Tryz.f25 zav
theorem zpN:Lk0.func 25=some (25,Tryz.f25):=by kernel_rfl
theorem zcu [Sym] (w':Value) (at0':Int) (st:SS) {r:Value×SS} (h:zc6 cc zpM w' at0' st=some r):cc 25 [w',.int .i64 at0'] st=some r:=
 zaf (li:=zav) zah zal zpN rfl (fun _=>rfl) (.trans (by kernel_rfl) h)
end Go.Proofs.YtcplfckncandkaaGreatDoorE
namespace Go.Proofs.YtcplfckncandkaaGreatDoorE
open Go Go.E Go.Proofs
def Simple (l:List UInt8):Bool:=l.all (fun b=>decide (b.toNat<128)&&(!Lib.isSp b||decide (b=32))&&(Lib.isSp b||decide (b≠32)))&&(pieces 32 l).all (fun p=>!p.isEmpty)
theorem Simple.byte {l:List UInt8} (h:Simple l=true) {b:UInt8} (hb:b∈l):b.toNat<128∧Lib.isSp b=decide (b=32):=by
 unfold Simple at h
 rw [zae] at h
 have:=List.all_eq_true.1 h.1 b hb
 simp only [zae,decide_eq_true_eq,Bool.or_eq_true,Bool.not_eq_true'] at this
 refine ⟨this.1.1,?_⟩
 rcases this.1.2 with h1 | h1
 ·rw [h1]
  rcases this.2 with h2 | h2
  ·rw [h1] at h2;cases h2
  ·rw [zdf h2]
 ·rw [zdt h1]
  rcases this.2 with h2 | h2
  ·exact h2
  ·exact absurd h1 h2
theorem Simple.piece {l:List UInt8} (h:Simple l=true) {p:List UInt8} (hp:p∈pieces 32 l):p≠[]:=by
 unfold Simple at h
 rw [zae] at h
 have:=List.all_eq_true.1 h.2 p hp
 intro e
 subst e
 cases this
def zjT:Bool→List UInt8→Nat
 | _,[]=>0
 | ws,b::r=>(if ws=true∧b≠32 then 1 else 0)+zjT (decide (b=32)) r
theorem zrA (l:List UInt8) (h:∀ p∈(pieces 32 l).tail,p≠[]):zjT false l+1=(pieces 32 l).length∧((pieces 32 l).head?≠some []→zjT true l=(pieces 32 l).length):=by
 induction l with
 | nil=>exact ⟨rfl,fun h=>absurd rfl h⟩
 | cons b r ih=>
   rw [zfz] at h ⊢
   by_cases hb:b=32
   ·subst hb
    rw [if_pos rfl] at h ⊢
    have h2:∀ p∈pieces 32 r,p≠[]:=h
    have hne:=zfl 32 r
    have ih':=ih fun p hp=>h2 p (List.mem_of_mem_tail hp)
    have hh:(pieces 32 r).head?≠some []:=by
     cases hp:pieces 32 r with
     | nil=>exact absurd hp hne
     | cons x y=>rw [hp] at h2;intro e;simp at e;exact h2 x (by simp) e
    refine ⟨?_,fun hc=>absurd rfl hc⟩
    show (if _ then _ else _)+zjT (decide ((32:UInt8)=32)) r+1=_
    rw [zdt rfl,ih'.2 hh]
    simp
   ·rw [if_neg hb] at h ⊢
    cases hp:pieces 32 r with
    | nil=>exact absurd hp (zfl 32 r)
    | cons x y=>
      rw [hp] at h ih
      have ih':=ih h
      have e:decide (b=32)=false:=zdf hb
      refine ⟨?_,fun _=>?_⟩
      ·show (if _ then _ else _)+zjT (decide (b=32)) r+1=_
       rw [e]
       simp at ih' ⊢
       omega
      ·show (if _ then _ else _)+zjT (decide (b=32)) r=_
       rw [e,if_pos ⟨rfl,hb⟩]
       simp at ih' ⊢
       omega
theorem zjU {i k len z n:Nat} (h:n<len):zaR (ptr i k) len (n:Int) z=some (i,k+n*z):=by
 have h1:(0:Int)≤(n:Int):=by omega
 have h2:(n:Int)<(len:Int):=by omega
 unfold ptr zaR
 simp only [zdt h1,zdt h2,Bool.and_self,zct,Int.toNat_natCast]
theorem zjV {st:SS} (hg:Gd st) {b:UInt8}:st.ld 2 (0+b.toNat*1)=some (.int .u8 (if Lib.isSp b=true then 1 else 0)):=by
 rw [SS.ld_table hg.gS]
 have hb:=b.toNat_lt
 have e:0+b.toNat*1=b.toNat:=by omega
 unfold asciiC Lib.asciiSpaceTab
 rw [e,List.getElem?_map,List.getElem?_map,List.getElem?_range hb]
 simp
theorem zxi {a b:Nat} (ha:a<128) (hb:b<128):∃ c:Nat,orI .u8 (a:Int) (b:Int)=(c:Int)∧c<128:=by
 refine ⟨a||| b,?_,Nat.or_lt_two_pow (n:=7) ha hb⟩
 have h:a||| b<128:=Nat.or_lt_two_pow (n:=7) ha hb
 unfold orI
 have e:((BitVec.ofInt 8 (a:Int)||| BitVec.ofInt 8 (b:Int)).toNat:Nat)=a||| b:=by
  rw [BitVec.toNat_or,BitVec.toNat_ofInt,BitVec.toNat_ofInt]
  congr 1<;>omega
 show IntKind.wrap .u8 (((BitVec.ofInt 8 (a:Int)||| BitVec.ofInt 8 (b:Int)).toNat:Nat):Int)=_
 rw [e,ziT (by omega) (by omega)]
theorem zv8 (w x:Bool):zf0 .i64 (if w=true then 1 else 0) (xorI .i64 (-1) (if x=true then 1 else 0))=if w=true∧x=false then 1 else 0:=by
 cases w<;>cases x<;>decide
theorem zrB [Sym] (s:ByteArray) (hs:s.size≤4294967296) (hsim:Simple (bl s)=true) (st:SS) (hg:Gd st):∀ (k i n sb:Nat) (ws:Bool),s.size=k+i→sb<128→n≤i→
  ∃ sb',sb'<128∧zaI 5 [.string s,.int .i64 n,.int .i64 (if ws=true then 1 else 0),.int .u8 sb,.int .i64 i] st=some (0,[.string s,.int .i64 ((n+zjT ws ((bl s).drop i):Nat):Int),.int .u8 ((sb':Nat):Int)],st):=by
 intro k
 induction k with
 | zero=>
   intro i n sb ws hk hsb hn
   have hlt:¬ (i:Int)<(s.size:Int):=by omega
   refine ⟨sb,hsb,zfF s _ _ _ _ st ?_⟩
   rw [List.drop_of_length_le (by rw [zaQ];omega)]
   simp only [zeR,zdf hlt,zcf]
   rfl
 | succ k ih=>
   intro i n sb ws hk hsb hn
   obtain ⟨b,hb⟩:∃ b,(bl s)[i]?=some b:=⟨_,zge (by rw [zaQ];omega)⟩
   have hlt:(i:Int)<(s.size:Int):=by omega
   obtain ⟨b128,bsp⟩:=Simple.byte hsim (zmg hb)
   obtain ⟨c,hc1,hc2⟩:=zxi hsb b128
   have he:zaR (ptr 2 0) 256 (b.toNat:Int) 1=some (2,0+b.toNat*1):=zjU (by have:=b.toNat_lt;omega)
   have hl:=zjV hg (b:=b)
   rw [bsp] at hl
   have hw:IntKind.wrap .i64 (if decide (b=32)=true then (1:Int) else 0)=(if decide (b=32)=true then 1 else 0):=by cases decide (b=32)<;>decide
   have hn1:IntKind.wrap .i64 ((n:Int)+(if ws=true∧decide (b=32)=false then 1 else 0))=((n+(if ws=true∧b≠32 then 1 else 0):Nat):Int):=by
    have e:(ws=true∧decide (b=32)=false)↔(ws=true∧b≠32):=by simp
    by_cases h:ws=true∧b≠32
    ·rw [if_pos (e.2 h),if_pos h,wrap64 (by omega) (by omega)];omega
    ·rw [if_neg (fun x=>h (e.1 x)),if_neg h,wrap64 (by omega) (by omega)];omega
   obtain ⟨sb',h1,h2⟩:=ih (i+1) (n+(if ws=true∧b≠32 then 1 else 0)) c (decide (b=32)) (by omega) hc2 (by split<;>omega)
   refine ⟨sb',h1,zfF s _ _ _ _ st ?_⟩
   have hd:=drop_cons hb
   have hcnt:n+zjT ws ((bl s).drop i)=n+(if ws=true∧b≠32 then 1 else 0)+zjT (decide (b=32)) ((bl s).drop (i+1)):=by
    rw [hd]
    show n+((if ws=true∧b≠32 then 1 else 0)+_)=_
    omega
   rw [hcnt]
   simp only [zeR,zdt hlt,zct,zeB hb,zob,hc1,he,hl,zaa,zv8,hw,hn1,zaX (show i≤1099511627776 by omega)]
   exact h2
theorem zxj [Sym] (s:ByteArray) (hs:s.size≤4294967296) (hsim:Simple (bl s)=true) (st:SS) (hg:Gd st) (a:Value) (na:Int) (i:Nat) (h:∀ b,(bl s)[i]?=some b→b≠32):
  zaI 18 [.string s,a,.int .i64 na,.int .i64 i] st=some (0,[.string s,a,.int .i64 na,.int .i64 i],st):=by
 refine zi4 s a _ _ st ?_
 by_cases hlt:(i:Int)<(s.size:Int)
 ·obtain ⟨b,hb⟩:∃ b,(bl s)[i]?=some b:=⟨_,zge (by rw [zaQ];omega)⟩
  obtain ⟨b128,bsp⟩:=Simple.byte hsim (zmg hb)
  have he:zaR (ptr 2 0) 256 (b.toNat:Int) 1=some (2,0+b.toNat*1):=zjU (by have:=b.toNat_lt;omega)
  have hl:=zjV hg (b:=b)
  rw [bsp,zdf (h b hb),if_neg (by decide)] at hl
  simp only [zeq,zdt hlt,zct,zeB hb,zob,he,hl,zaa,decide_true,znt,zcf]
 ·simp only [zeq,zdf hlt,zcf]
theorem zxk [Sym] (s:ByteArray) (hs:s.size≤4294967296) (hsim:Simple (bl s)=true) (st:SS) (hg:Gd st) (a:Value) (na:Int) (i:Nat) (h:∀ b,(bl s)[i]?=some b→b≠32):
  zaI 27 [.string s,a,.int .i64 na,.int .i64 i] st=some (0,[.string s,a,.int .i64 na,.int .i64 i],st):=by
 refine zi5 s a _ _ st ?_
 by_cases hlt:(i:Int)<(s.size:Int)
 ·obtain ⟨b,hb⟩:∃ b,(bl s)[i]?=some b:=⟨_,zge (by rw [zaQ];omega)⟩
  obtain ⟨b128,bsp⟩:=Simple.byte hsim (zmg hb)
  have he:zaR (ptr 2 0) 256 (b.toNat:Int) 1=some (2,0+b.toNat*1):=zjU (by have:=b.toNat_lt;omega)
  have hl:=zjV hg (b:=b)
  rw [bsp,zdf (h b hb),if_neg (by decide)] at hl
  simp only [zer,zdt hlt,zct,zeB hb,zob,he,hl,zaa,decide_true,znt,zcf]
 ·simp only [zer,zdf hlt,zcf]
theorem zs6 [Sym] (s:ByteArray) (hs:s.size≤4294967296) (hsim:Simple (bl s)=true) (N j:Nat) (hN:N=(pieces 32 (bl s)).length) (st0:SS) (hg:Gd st0) (hj0:st0.next≤j):∀ (k i f:Nat) (done:List (List UInt8)) (st:SS),s.size=k+i→f≤i→
  done++zf2 (((bl s).drop f).take (i-f)) (pieces 32 ((bl s).drop i))=pieces 32 (bl s)→Ext st0 st→j<st.next→st.lim≤j→st.mem.get j=some (.cells (strs done++List.replicate (N-done.length) (Value.string ⟨#[]⟩)) 1)→
  ∃ f' done' st',zaI 21 [.string s,.slice (some ⟨j,0,none⟩) N N,.int .i64 done.length,.int .i64 f,.int .i64 i] st=some (0,[.string s,.slice (some ⟨j,0,none⟩) N N,.int .i64 ((done'.length:Nat):Int),.int .i64 ((f':Nat):Int)],st')∧
   Ext st0 st'∧st'.next=st.next∧st'.lim=st.lim∧done'++[(bl s).drop f']=pieces 32 (bl s)∧f'≤s.size∧st'.mem.get j=some (.cells (strs done'++List.replicate (N-done'.length) (Value.string ⟨#[]⟩)) 1):=by
 have hplen:=pieces_len 32 (bl s)
 rw [zaQ] at hplen
 intro k
 induction k with
 | zero=>
   intro i f done st hk hf hp he hj hlim hm
   have hlt:¬ (i:Int)<(s.size:Int):=by omega
   refine ⟨f,done,st,zdv s _ _ _ _ st ?_,he,rfl,rfl,?_,by omega,hm⟩
   ·simp only [zc5,zdf hlt,zcf]
   ·rw [← hp,List.drop_of_length_le (i:=i) (by rw [zaQ];omega)]
    show done++[_]=done++[_++[]]
    rw [List.append_nil,List.take_of_length_le (by rw [List.length_drop,zaQ];omega)]
 | succ k ih=>
   intro i f done st hk hf hp he hj hlim hm
   obtain ⟨b,hb⟩:∃ b,(bl s)[i]?=some b:=⟨_,zge (by rw [zaQ];omega)⟩
   have hlt:(i:Int)<(s.size:Int):=by omega
   obtain ⟨b128,bsp⟩:=Simple.byte hsim (zmg hb)
   have hea:zaR (ptr 2 0) 256 (b.toNat:Int) 1=some (2,0+b.toNat*1):=zjU (by have:=b.toNat_lt;omega)
   have hl:=zjV (hg.ext he) (b:=b)
   rw [bsp] at hl
   have hd:=drop_cons hb
   have hw:=zaX (show i≤1099511627776 by omega)
   by_cases h32:b=32
   ·rw [zdt h32,if_pos rfl] at hl
    rw [hd,zfz,if_pos h32] at hp
    have hp':done++((((bl s).drop f).take (i-f))++[])::pieces 32 ((bl s).drop (i+1))=pieces 32 (bl s):=hp
    rw [List.append_nil] at hp'
    have hdl:done.length<N:=by
     have:=congrArg List.length hp'
     simp at this
     omega
    have hsub:zci s (f:Int) (i:Int)=some (mkS (((bl s).drop f).take (i-f))):=by
     have:=zjI (s:=s) (col:=f) (n:=i-f) (by omega)
     rw [show f+(i-f)=i by omega] at this
     exact this
    have hel:zau (.slice (some ⟨j,0,none⟩) N N) (done.length:Int) 1=some (j,0+done.length*1):=by
     unfold zau
     have h1:(0:Int)≤(done.length:Int):=by omega
     have h2:(done.length:Int)<(N:Int):=by omega
     simp only [zdt h1,zdt h2,Bool.and_self,zct,Int.toNat_natCast]
    have hst:st.st j (0+done.length*1) [.string (mkS (((bl s).drop f).take (i-f)))]=some (st.set j (some (.cells (strs (done++[((bl s).drop f).take (i-f)])++List.replicate (N-(done.length+1)) (Value.string ⟨#[]⟩)) 1))):=by
     refine SS.st_cells hm hlim rfl ?_
     obtain ⟨q,hq⟩:∃ q,N-done.length=q+1:=⟨N-done.length-1,by omega⟩
     have hq2:N-(done.length+1)=q:=by omega
     rw [hq,hq2,zbu (by simp [strs])]
     have:=zmG done q (((bl s).drop f).take (i-f))
     rw [show 0+done.length*1=done.length by omega]
     exact congrArg some this
    have hx:Ext st0 (st.set j (some (.cells (strs (done++[((bl s).drop f).take (i-f)])++List.replicate (N-(done.length+1)) (Value.string ⟨#[]⟩)) 1))):=he.set hj0 _
    have hnext:∀ b',(bl s)[i+1]?=some b'→b'≠32:=by
     intro b' hb' e
     have hd':=drop_cons hb'
     rw [hd',e,zfz,if_pos rfl] at hp'
     exact Simple.piece hsim (p:=[]) (by rw [← hp'];simp) rfl
    have hsk:=zxk s hs hsim _ (hg.ext hx) (.slice (some ⟨j,0,none⟩) N N) ((done.length+1:Nat):Int) (i+1) hnext
    obtain ⟨f',done',st',d1,d2,d3,d4,d5,d6,d7⟩:=ih (i+1) (i+1) (done++[((bl s).drop f).take (i-f)]) (st.set j (some (.cells (strs (done++[((bl s).drop f).take (i-f)])++List.replicate (N-(done.length+1)) (Value.string ⟨#[]⟩)) 1))) (by omega) (zlr _) (by
      rw [Nat.sub_self,List.take_zero,zl2 (zfl _ _),List.append_assoc];exact hp') hx hj hlim (by simp)
    have hdw:=zaX (show done.length≤1099511627776 by omega)
    have h10:¬ (1:Int)=0:=by omega
    refine ⟨f',done',st',zdv s _ _ _ _ st ?_,d2,d3,d4,d5,d6,d7⟩
    simp only [zc5,zdt hlt,zct,zeB hb,zob,hea,hl,zaa,zdf h10,zcf,hsub,hel,hst,hdw,hw]
    rw [hsk,zob]
    simp only [zgs,zgz,zob,zac,zaa]
    simpa using d1
   ·rw [zdf h32,if_neg (by decide)] at hl
    have hcur:((bl s).drop f).take (i+1-f)=((bl s).drop f).take (i-f)++[b]:=by
     rw [show i+1-f=(i-f)+1 by omega]
     refine zro ?_
     rw [List.getElem?_drop,show f+(i-f)=i by omega];exact hb
    obtain ⟨f',done',st',d1,d2,d3,d4,d5,d6,d7⟩:=ih (i+1) f done st (by omega) (by omega) (by
      rw [hcur,← zqu _ _ _ _ h32,← hd];exact hp) he hj hlim hm
    refine ⟨f',done',st',zdv s _ _ _ _ st ?_,d2,d3,d4,d5,d6,d7⟩
    simp only [zc5,zdt hlt,zct,zeB hb,zob,hea,hl,zaa,decide_true,hw]
    exact d1
theorem zuq [Sym] (s:ByteArray) (hs:s.size≤4294967296) (hsim:Simple (bl s)=true) (st:SS) (hg:Gd st) (hll:st.lim≤st.next):
  ∃ v st',cc 110 [.string s] st=some (v,st')∧Ext st st'∧Own st.next st' v (strs (pieces 32 (bl s))) 1 (pieces 32 (bl s)).length:=by
 have hplen:=pieces_len 32 (bl s)
 rw [zaQ] at hplen
 have hall:∀ p∈pieces 32 (bl s),p≠[]:=fun p hp=>Simple.piece hsim hp
 have hne:=zfl 32 (bl s)
 have hhd:(pieces 32 (bl s)).head?≠some []:=by
  cases hp:pieces 32 (bl s) with
  | nil=>exact absurd hp hne
  | cons x y=>rw [hp] at hall;intro e;simp at e;exact hall x (by simp) e
 obtain ⟨sb,hsb,c1⟩:=zrB s hs hsim st hg s.size 0 0 0 true (by omega) (by omega) (by omega)
 have hcnt:=(zrA (bl s) (fun p hp=>hall p (List.mem_of_mem_tail hp))).2 hhd
 rw [List.drop_zero,Nat.zero_add,hcnt] at c1
 have c1':zaI 5 [.string s,.int .i64 0,.int .i64 1,.int .u8 0,.int .i64 0] st=some (0,[.string s,.int .i64 ((pieces 32 (bl s)).length:Int),.int .u8 (sb:Int)],st):=c1
 have h128:¬ (128:Int)≤(sb:Int):=by omega
 have hmk:ze9 ((pieces 32 (bl s)).length:Int) ((pieces 32 (bl s)).length:Int) 16=some ():=zmF (by omega) (by omega) (by omega)
 have hz:zeW [Value.string ⟨#[]⟩] ((pieces 32 (bl s)).length:Int)=List.replicate (pieces 32 (bl s)).length (Value.string ⟨#[]⟩):=zjE _ _
 have x1:Ext st (st.new (.cells (List.replicate (pieces 32 (bl s)).length (Value.string ⟨#[]⟩)) 1)):=(Ext.refl st).new _
 have hfirst:∀ b,(bl s)[0]?=some b→b≠32:=by
  intro b hb e
  have hd:=drop_cons hb
  rw [List.drop_zero] at hd
  rw [hd,e,zfz,if_pos rfl] at hhd
  exact hhd rfl
 have hsk:=zxj s hs hsim _ (hg.ext x1) (.slice (some ⟨st.next,0,none⟩) (pieces 32 (bl s)).length (pieces 32 (bl s)).length) 0 0 hfirst
 obtain ⟨f',done',st',d1,d2,d3,d4,d5,d6,d7⟩:=zs6 s hs hsim (pieces 32 (bl s)).length st.next rfl st hg (zlr _) s.size 0 0 [] (st.new (.cells (List.replicate (pieces 32 (bl s)).length (Value.string ⟨#[]⟩)) 1)) (by omega) (by omega) (by
   rw [List.drop_zero];show zf2 (List.take (0-0) (bl s)) _=_;rw [Nat.sub_self,List.take_zero,zl2 hne]) x1 (by simp) hll (by simp [strs])
 have d1':zaI 21 [.string s,.slice (some ⟨st.next,0,none⟩) (pieces 32 (bl s)).length (pieces 32 (bl s)).length,.int .i64 0,.int .i64 0,.int .i64 0] (st.new (.cells (List.replicate (pieces 32 (bl s)).length (Value.string ⟨#[]⟩)) 1))=some (0,[.string s,.slice (some ⟨st.next,0,none⟩) (pieces 32 (bl s)).length (pieces 32 (bl s)).length,.int .i64 ((done'.length:Nat):Int),.int .i64 ((f':Nat):Int)],st'):=d1
 have hlen:(pieces 32 (bl s)).length=done'.length+1:=by rw [← d5];simp
 have hlast:(bl s).drop f'≠[]:=hall _ (by rw [← d5];simp)
 have hf':f'<s.size:=by
  have:((bl s).drop f').length≠0:=fun e=>hlast (List.length_eq_zero_iff.1 e)
  rw [List.length_drop,zaQ] at this
  omega
 have hlt:(f':Int)<(s.size:Int):=by omega
 have hsub:zci s (f':Int) (s.size:Int)=some (mkS ((bl s).drop f')):=zpk (by omega)
 have hel:zau (.slice (some ⟨st.next,0,none⟩) (pieces 32 (bl s)).length (pieces 32 (bl s)).length) (done'.length:Int) 1=some (st.next,0+done'.length*1):=by
  unfold zau
  have h1:(0:Int)≤(done'.length:Int):=by omega
  have h2:(done'.length:Int)<((pieces 32 (bl s)).length:Int):=by omega
  simp only [zdt h1,zdt h2,Bool.and_self,zct,Int.toNat_natCast]
 have hst:st'.st st.next (0+done'.length*1) [.string (mkS ((bl s).drop f'))]=some (st'.set st.next (some (.cells (strs (pieces 32 (bl s))) 1))):=by
  refine SS.st_cells d7 (by rw [d4];exact hll) rfl ?_
  have hq:(pieces 32 (bl s)).length-done'.length=0+1:=by omega
  rw [hq,zbu (by simp [strs])]
  have:=zmG done' 0 ((bl s).drop f')
  rw [show 0+done'.length*1=done'.length by omega]
  exact congrArg some (this.trans (by rw [d5];simp))
 refine ⟨.slice (some ⟨st.next,0,none⟩) (pieces 32 (bl s)).length (pieces 32 (bl s)).length,st'.set st.next (some (.cells (strs (pieces 32 (bl s))) 1)),zlI s st ?_,d2.set (zlr _) _,by simp,.inr ⟨st.next,rfl,by omega,by simp,zlr _,by simp [d3]⟩⟩
 simp only [strings_Fields]
 rw [c1',zob]
 simp only [zgs,zgz,zob,zac,zaa,zdf h128,zcf,hmk,hz,Int.toNat_natCast]
 have hsk':zaI 18 [.string s,.slice (some ⟨st.next,0,none⟩) (pieces 32 (bl s)).length (pieces 32 (bl s)).length,.int .i64 0,.int .i64 0] (st.new (.cells (List.replicate (pieces 32 (bl s)).length (Value.string ⟨#[]⟩)) 1))=some (0,[.string s,.slice (some ⟨st.next,0,none⟩) (pieces 32 (bl s)).length (pieces 32 (bl s)).length,.int .i64 0,.int .i64 0],st.new (.cells (List.replicate (pieces 32 (bl s)).length (Value.string ⟨#[]⟩)) 1)):=hsk
 rw [hsk',zob]
 simp only [zgs,zgz,zob,zac,zaa]
 have d1'':zaI 21 [.string s,.slice (some ⟨st.next,0,none⟩) (pieces 32 (bl s)).length (pieces 32 (bl s)).length,.int .i64 0,.int .i64 0,.int .i64 0] (st.new (.cells (List.replicate (pieces 32 (bl s)).length (Value.string ⟨#[]⟩)) 1))=_:=d1'
 rw [d1'',zob]
 simp only [zgs,zgz,zob,zac,zaa,zdt hlt,zct,hsub,hel,hst]
theorem row_ok [Sym] (s:ByteArray) (hs:s.size≤4294967296) (hsim:Simple (bl s)=true) (st:SS) (hg:Gd st) (hll:st.lim≤st.next):
  ∃ v st',cc 98 [.string s] st=some (v,st')∧Ext st st'∧Own st.next st' v (strs (pieces 32 (bl s))) 1 (pieces 32 (bl s)).length:=by
 obtain ⟨v,st',c,x,o⟩:=zuq s hs hsim st hg hll
 refine ⟨v,st',zrz s st ?_,x,o⟩
 simp only [zqD,c,zob]
end Go.Proofs.YtcplfckncandkaaGreatDoorE
namespace Go.Proofs.YtcplfckncandkaaGreatDoorE
open Go Go.E Go.Proofs
def zs7:List UInt8:=[110,111,110,101,32,109,111,118,32,110,111,116,32,110,101,103,32,105,110,99,32,100,101,99,32,97,100,100,32,115,117,98,32,97,100,100,99,32,115,117,98,99,32,109,117,108,32,100,105,118,32,111,114,32,98,105,99,32,120,111,114,32,97,110,100,32,99,109,112,32,116,101,115,116,32,99,108,101,97,114,32,115,120,98,32,115,120,119,32,122,120,98,32,122,120,119,32,115,104,108,32,115,104,114,32,97,115,104,32,114,111,116,32,111,112,32,115,120,111,32,101,120,116,32,105,110,115,32,99,118,116]
def zjW:List UInt8:=[114,48,32,114,49,32,114,50,32,114,51,32,114,52,32,114,53,32,114,54,32,114,55,32,114,56,32,114,57,32,114,49,48,32,114,49,49,32,114,49,50,32,114,49,51,32,114,49,52,32,114,49,53,32,116,48,32,116,49,32,116,50,32,116,51,32,116,52,32,116,53,32,116,54,32,116,55,32,118,48,32,118,49,32,118,50,32,118,51,32,118,52,32,118,53,32,97,48,32,97,49,32,97,50,32,97,51,32,97,52,32,97,53,32,109,100,32,118,97,32,112,115,108,32,114,110,32,114,120,32,108,105,116,32,122,101,114,111,32,118,101,99,32,112,48,32,112,49,32,115,116,97,114,116,32,115,99,98,98,32,107,115,112,32,117,115,112,32,100,105,115,112,32,111,115,105,122,101,32,105,108,101,110,32,108,101,118,101,108,32,118,99,32,97,99,32,97,108,32,107,108,32,99,110,116,32,110,112]
def zqE:List UInt8:=[98,121,116,101,32,119,111,114,100,32,108,111,110,103,32,111,119,110]
def c_cc:List UInt8:=[107,101,101,112,32,115,101,116,32,115,101,116,107]
def zs8:List UInt8:=[110,111,110,101,32,114,100,32,119,114,32,112,114,111,98,101,32,98,108,100,32,98,115,116,32,98,112,117,116,32,98,103,101,116,32,98,99,108,114,32,105,102,32,114,100,112,32,107,115,116,32,114,111,119,32,117,110,114,111,119,32,114,111,119,97,32,102,108,117,115,104]
def zs9:List UInt8:=[110,101,120,116,32,106,109,112,32,99,106,32,99,97,108,108,32,114,101,116,32,115,112,101,99,32,109,111,100,101,32,101,110,100]
def zqF:List UInt8:=[97,108,119,97,121,115,32,122,32,110,122,32,110,101,103,32,112,111,115,32,99,32,110,99,32,117,115,101,114,32,107,101,114,110,101,108,32,102,112,100,32,110,111,102,112,100,32,116,97,107,101,110,32,109,97,116,99,104,32,107,49,32,107,50,32,107,51,32,108,97,115,116,114,101,103,32,102,32,114,101,97,100,115,32,105,110,100,101,120,32,100,105,118,32,108,101,115,115,97,108,117,32,97,108,117,49,32,115,116,114,105,110,103,32,110,111,105,110,100,101,120,32,110,111,114,101,97,100,115,32,111,118,101,114]
def zqG:List UInt8:=[110,111,110,101,32,115,116,101,112,32,117,110,100,111,32,115,101,116,102,112,100,32,99,108,114,102,112,100,32,114,97,105,115,101,32,108,97,116,99,104,107,32,108,97,116,99,104,120,32,109,116,112,114,32,109,102,112,114,32,101,110,116,101,114,32,112,117,116,112,115,108,32,104,97,108,116,32,98,97,99,107,32,100,101,99,111,100,101,32,115,101,108,32,115,101,108,107,32,111,119,110,108,97,115,116,32,112,105,99,107,32,112,105,99,107,116,111,112,32,112,97,114,97,109,115,32,99,111,117,110,116]
def namesT (f:List UInt8):List (List UInt8):=
 if f=[97,108,117] then pieces 32 zs7 else
 if f=[97] then pieces 32 zjW else
 if f=[98] then pieces 32 zjW else
 if f=[100] then pieces 32 zjW else
 if f=[115,105,122,101] then pieces 32 zqE else
 if f=[99,99] then pieces 32 c_cc else
 if f=[109,101,109] then pieces 32 zs8 else
 if f=[115,101,113] then pieces 32 zs9 else
 if f=[99,111,110,100] then pieces 32 zqF else
 if f=[109,105,115,99] then pieces 32 zqG else
 []
theorem zv9 [Sym] (f:ByteArray) (st:SS) (hg:Gd st) (hll:st.lim≤st.next):
  ∃ v st',cc 77 [.string f] st=some (v,st')∧Ext st st'∧Own st.next st' v (strs (namesT (bl f))) 1 (namesT (bl f)).length:=by
 have R:∀ s:ByteArray,s.size≤4294967296→Simple (bl s)=true→∃ v st',((cc 98 [.string s] st).bind fun r=>some (r.1,r.2))=some (v,st')∧Ext st st'∧Own st.next st' v (strs (pieces 32 (bl s))) 1 (pieces 32 (bl s)).length:=fun s h1 h2=>by
  obtain ⟨v,st',c,x,o⟩:=row_ok s h1 h2 st hg hll
  exact ⟨v,st',by rw [c];rfl,x,o⟩
 by_cases h_alu:bl f=[97,108,117]
 ·have e:namesT (bl f)=pieces 32 zs7:=by rw [h_alu];rfl
  obtain ⟨v,st',c,x,o⟩:=R ⟨#[110,111,110,101,32,109,111,118,32,110,111,116,32,110,101,103,32,105,110,99,32,100,101,99,32,97,100,100,32,115,117,98,32,97,100,100,99,32,115,117,98,99,32,109,117,108,32,100,105,118,32,111,114,32,98,105,99,32,120,111,114,32,97,110,100,32,99,109,112,32,116,101,115,116,32,99,108,101,97,114,32,115,120,98,32,115,120,119,32,122,120,98,32,122,120,119,32,115,104,108,32,115,104,114,32,97,115,104,32,114,111,116,32,111,112,32,115,120,111,32,101,120,116,32,105,110,115,32,99,118,116]⟩ (by decide+kernel) (by decide+kernel)
  have q_alu:eqT f ⟨#[97,108,117]⟩=true:=zdt h_alu
  refine ⟨v,st',zbm f st ?_,x,by rw [e];exact o⟩
  simp only [zbL,q_alu,zct,zcf]
  exact c
 have n_alu:eqT f ⟨#[97,108,117]⟩=false:=zdf h_alu
 by_cases h_a:bl f=[97]
 ·have e:namesT (bl f)=pieces 32 zjW:=by rw [h_a];rfl
  obtain ⟨v,st',c,x,o⟩:=R ⟨#[114,48,32,114,49,32,114,50,32,114,51,32,114,52,32,114,53,32,114,54,32,114,55,32,114,56,32,114,57,32,114,49,48,32,114,49,49,32,114,49,50,32,114,49,51,32,114,49,52,32,114,49,53,32,116,48,32,116,49,32,116,50,32,116,51,32,116,52,32,116,53,32,116,54,32,116,55,32,118,48,32,118,49,32,118,50,32,118,51,32,118,52,32,118,53,32,97,48,32,97,49,32,97,50,32,97,51,32,97,52,32,97,53,32,109,100,32,118,97,32,112,115,108,32,114,110,32,114,120,32,108,105,116,32,122,101,114,111,32,118,101,99,32,112,48,32,112,49,32,115,116,97,114,116,32,115,99,98,98,32,107,115,112,32,117,115,112,32,100,105,115,112,32,111,115,105,122,101,32,105,108,101,110,32,108,101,118,101,108,32,118,99,32,97,99,32,97,108,32,107,108,32,99,110,116,32,110,112]⟩ (by decide+kernel) (by decide+kernel)
  have q_a:eqT f ⟨#[97]⟩=true:=zdt h_a
  refine ⟨v,st',zbm f st ?_,x,by rw [e];exact o⟩
  simp only [zbL,n_alu,q_a,zct,zcf]
  exact c
 have n_a:eqT f ⟨#[97]⟩=false:=zdf h_a
 by_cases h_b:bl f=[98]
 ·have e:namesT (bl f)=pieces 32 zjW:=by rw [h_b];rfl
  obtain ⟨v,st',c,x,o⟩:=R ⟨#[114,48,32,114,49,32,114,50,32,114,51,32,114,52,32,114,53,32,114,54,32,114,55,32,114,56,32,114,57,32,114,49,48,32,114,49,49,32,114,49,50,32,114,49,51,32,114,49,52,32,114,49,53,32,116,48,32,116,49,32,116,50,32,116,51,32,116,52,32,116,53,32,116,54,32,116,55,32,118,48,32,118,49,32,118,50,32,118,51,32,118,52,32,118,53,32,97,48,32,97,49,32,97,50,32,97,51,32,97,52,32,97,53,32,109,100,32,118,97,32,112,115,108,32,114,110,32,114,120,32,108,105,116,32,122,101,114,111,32,118,101,99,32,112,48,32,112,49,32,115,116,97,114,116,32,115,99,98,98,32,107,115,112,32,117,115,112,32,100,105,115,112,32,111,115,105,122,101,32,105,108,101,110,32,108,101,118,101,108,32,118,99,32,97,99,32,97,108,32,107,108,32,99,110,116,32,110,112]⟩ (by decide+kernel) (by decide+kernel)
  have q_b:eqT f ⟨#[98]⟩=true:=zdt h_b
  refine ⟨v,st',zbm f st ?_,x,by rw [e];exact o⟩
  simp only [zbL,n_alu,n_a,q_b,zct,zcf]
  exact c
 have n_b:eqT f ⟨#[98]⟩=false:=zdf h_b
 by_cases h_d:bl f=[100]
 ·have e:namesT (bl f)=pieces 32 zjW:=by rw [h_d];rfl
  obtain ⟨v,st',c,x,o⟩:=R ⟨#[114,48,32,114,49,32,114,50,32,114,51,32,114,52,32,114,53,32,114,54,32,114,55,32,114,56,32,114,57,32,114,49,48,32,114,49,49,32,114,49,50,32,114,49,51,32,114,49,52,32,114,49,53,32,116,48,32,116,49,32,116,50,32,116,51,32,116,52,32,116,53,32,116,54,32,116,55,32,118,48,32,118,49,32,118,50,32,118,51,32,118,52,32,118,53,32,97,48,32,97,49,32,97,50,32,97,51,32,97,52,32,97,53,32,109,100,32,118,97,32,112,115,108,32,114,110,32,114,120,32,108,105,116,32,122,101,114,111,32,118,101,99,32,112,48,32,112,49,32,115,116,97,114,116,32,115,99,98,98,32,107,115,112,32,117,115,112,32,100,105,115,112,32,111,115,105,122,101,32,105,108,101,110,32,108,101,118,101,108,32,118,99,32,97,99,32,97,108,32,107,108,32,99,110,116,32,110,112]⟩ (by decide+kernel) (by decide+kernel)
  have q_d:eqT f ⟨#[100]⟩=true:=zdt h_d
  refine ⟨v,st',zbm f st ?_,x,by rw [e];exact o⟩
  simp only [zbL,n_alu,n_a,n_b,q_d,zct,zcf]
  exact c
 have n_d:eqT f ⟨#[100]⟩=false:=zdf h_d
 by_cases h_size:bl f=[115,105,122,101]
 ·have e:namesT (bl f)=pieces 32 zqE:=by rw [h_size];rfl
  obtain ⟨v,st',c,x,o⟩:=R ⟨#[98,121,116,101,32,119,111,114,100,32,108,111,110,103,32,111,119,110]⟩ (by decide+kernel) (by decide+kernel)
  have q_size:eqT f ⟨#[115,105,122,101]⟩=true:=zdt h_size
  refine ⟨v,st',zbm f st ?_,x,by rw [e];exact o⟩
  simp only [zbL,n_alu,n_a,n_b,n_d,q_size,zct,zcf]
  exact c
 have n_size:eqT f ⟨#[115,105,122,101]⟩=false:=zdf h_size
 by_cases h_cc:bl f=[99,99]
 ·have e:namesT (bl f)=pieces 32 c_cc:=by rw [h_cc];rfl
  obtain ⟨v,st',c,x,o⟩:=R ⟨#[107,101,101,112,32,115,101,116,32,115,101,116,107]⟩ (by decide+kernel) (by decide+kernel)
  have q_cc:eqT f ⟨#[99,99]⟩=true:=zdt h_cc
  refine ⟨v,st',zbm f st ?_,x,by rw [e];exact o⟩
  simp only [zbL,n_alu,n_a,n_b,n_d,n_size,q_cc,zct,zcf]
  exact c
 have n_cc:eqT f ⟨#[99,99]⟩=false:=zdf h_cc
 by_cases h_mem:bl f=[109,101,109]
 ·have e:namesT (bl f)=pieces 32 zs8:=by rw [h_mem];rfl
  obtain ⟨v,st',c,x,o⟩:=R ⟨#[110,111,110,101,32,114,100,32,119,114,32,112,114,111,98,101,32,98,108,100,32,98,115,116,32,98,112,117,116,32,98,103,101,116,32,98,99,108,114,32,105,102,32,114,100,112,32,107,115,116,32,114,111,119,32,117,110,114,111,119,32,114,111,119,97,32,102,108,117,115,104]⟩ (by decide+kernel) (by decide+kernel)
  have q_mem:eqT f ⟨#[109,101,109]⟩=true:=zdt h_mem
  refine ⟨v,st',zbm f st ?_,x,by rw [e];exact o⟩
  simp only [zbL,n_alu,n_a,n_b,n_d,n_size,n_cc,q_mem,zct,zcf]
  exact c
 have n_mem:eqT f ⟨#[109,101,109]⟩=false:=zdf h_mem
 by_cases h_seq:bl f=[115,101,113]
 ·have e:namesT (bl f)=pieces 32 zs9:=by rw [h_seq];rfl
  obtain ⟨v,st',c,x,o⟩:=R ⟨#[110,101,120,116,32,106,109,112,32,99,106,32,99,97,108,108,32,114,101,116,32,115,112,101,99,32,109,111,100,101,32,101,110,100]⟩ (by decide+kernel) (by decide+kernel)
  have q_seq:eqT f ⟨#[115,101,113]⟩=true:=zdt h_seq
  refine ⟨v,st',zbm f st ?_,x,by rw [e];exact o⟩
  simp only [zbL,n_alu,n_a,n_b,n_d,n_size,n_cc,n_mem,q_seq,zct,zcf]
  exact c
 have n_seq:eqT f ⟨#[115,101,113]⟩=false:=zdf h_seq
 by_cases h_cond:bl f=[99,111,110,100]
 ·have e:namesT (bl f)=pieces 32 zqF:=by rw [h_cond];rfl
  obtain ⟨v,st',c,x,o⟩:=R ⟨#[97,108,119,97,121,115,32,122,32,110,122,32,110,101,103,32,112,111,115,32,99,32,110,99,32,117,115,101,114,32,107,101,114,110,101,108,32,102,112,100,32,110,111,102,112,100,32,116,97,107,101,110,32,109,97,116,99,104,32,107,49,32,107,50,32,107,51,32,108,97,115,116,114,101,103,32,102,32,114,101,97,100,115,32,105,110,100,101,120,32,100,105,118,32,108,101,115,115,97,108,117,32,97,108,117,49,32,115,116,114,105,110,103,32,110,111,105,110,100,101,120,32,110,111,114,101,97,100,115,32,111,118,101,114]⟩ (by decide+kernel) (by decide+kernel)
  have q_cond:eqT f ⟨#[99,111,110,100]⟩=true:=zdt h_cond
  refine ⟨v,st',zbm f st ?_,x,by rw [e];exact o⟩
  simp only [zbL,n_alu,n_a,n_b,n_d,n_size,n_cc,n_mem,n_seq,q_cond,zct,zcf]
  exact c
 have n_cond:eqT f ⟨#[99,111,110,100]⟩=false:=zdf h_cond
 by_cases h_misc:bl f=[109,105,115,99]
 ·have e:namesT (bl f)=pieces 32 zqG:=by rw [h_misc];rfl
  obtain ⟨v,st',c,x,o⟩:=R ⟨#[110,111,110,101,32,115,116,101,112,32,117,110,100,111,32,115,101,116,102,112,100,32,99,108,114,102,112,100,32,114,97,105,115,101,32,108,97,116,99,104,107,32,108,97,116,99,104,120,32,109,116,112,114,32,109,102,112,114,32,101,110,116,101,114,32,112,117,116,112,115,108,32,104,97,108,116,32,98,97,99,107,32,100,101,99,111,100,101,32,115,101,108,32,115,101,108,107,32,111,119,110,108,97,115,116,32,112,105,99,107,32,112,105,99,107,116,111,112,32,112,97,114,97,109,115,32,99,111,117,110,116]⟩ (by decide+kernel) (by decide+kernel)
  have q_misc:eqT f ⟨#[109,105,115,99]⟩=true:=zdt h_misc
  refine ⟨v,st',zbm f st ?_,x,by rw [e];exact o⟩
  simp only [zbL,n_alu,n_a,n_b,n_d,n_size,n_cc,n_mem,n_seq,n_cond,q_misc,zct,zcf]
  exact c
 have n_misc:eqT f ⟨#[109,105,115,99]⟩=false:=zdf h_misc
 have e:namesT (bl f)=[]:=by simp only [namesT,if_neg h_alu,if_neg h_a,if_neg h_b,if_neg h_d,if_neg h_size,if_neg h_cc,if_neg h_mem,if_neg h_seq,if_neg h_cond,if_neg h_misc]
 refine ⟨.slice none 0 0,st,zbm f st ?_,.refl _,by rw [e];exact Own.nil _ _ _⟩
 simp only [zbL,n_alu,n_a,n_b,n_d,n_size,n_cc,n_mem,n_seq,n_cond,n_misc,zct,zcf]
def inT (l:List (List UInt8)) (s:List UInt8):Int:=match l.findIdx? (fun x=>decide (x=s)) with | none=> -1 | some k=>(k:Int)
end Go.Proofs.YtcplfckncandkaaGreatDoorE
namespace Go.Proofs.YtcplfckncandkaaGreatDoorE
open Go Go.E Go.Proofs
abbrev Wd:=List Int
def wRow (w:Wd):List Value:=w.map (.int .i64)
def wV (w:Wd):Value:=.agg (wRow w).toArray
theorem zjX (w:Wd) (i:Nat):(wRow w)[i]?=(w[i]?).map (.int .i64):=by unfold wRow;rw [List.getElem?_map]
theorem zbc (w:Wd):(wRow w).length=w.length:=by simp [wRow]
theorem zde (w:Wd):(wRow w).all one=true:=by simp [wRow,one]
def zcE (p:Int×Int):List Value:=[.int .i64 p.1,.int .i64 p.2]
def zbq (s tw a:Int):List (Int×Int):=
 if s=0 then [(a+1,1)] else if s=1 then [(tw,1)] else if s=2∨s=3 then [(a+1,1),(tw,1)] else if s=5 then [(tw,64)] else if s=6 then [(tw,16)] else []
theorem zqH [Sym] (w:Wd) (a s tw:Int) (h8:w[8]?=some s) (h10:w[10]?=some tw) (h0:0≤a) (h1:a≤1099511627776) (st:SS) (hll:st.lim≤st.next):
  ∃ v st',cc 25 [wV w,.int .i64 a] st=some (v,st')∧Ext st st'∧Own st.next st' v (rowsF zcE (zbq s tw a)) 2 (zbq s tw a).length:=by
 have hw:IntKind.wrap .i64 (a+1)=a+1:=wrap64 (by omega) (by omega)
 have x1:Ext st (st.new (.cells (wRow w) 0)):=(Ext.refl st).new _
 have hm:(st.new (.cells (wRow w) 0)).mem.get st.next=some (.cells (wRow w) 0):=SS.new_get
 have l8:(st.new (.cells (wRow w) 0)).ld st.next 8=some (.int .i64 s):=by rw [SS.ld_cells hm,zjX,h8];rfl
 have l10:(st.new (.cells (wRow w) 0)).ld st.next 10=some (.int .i64 tw):=by rw [SS.ld_cells hm,zjX,h10];rfl
 have hc:(wV w).cells.toList=wRow w:=zaG _
 have mk:∀ (l:List (Int×Int)),l≠[]→∃ v st',some (Value.slice (some ⟨(st.new (.cells (wRow w) 0)).next,0,none⟩) l.length l.length,(st.new (.cells (wRow w) 0)).new (.cells (rowsF zcE l) 2))=some (v,st')∧Ext st st'∧Own st.next st' v (rowsF zcE l) 2 l.length:=fun l hl=>by
  have hne:l.length≠0:=fun e=>hl (List.length_eq_zero_iff.1 e)
  exact ⟨_,_,rfl,x1.new _,⟨zh6 (f:=zcE) (z:=2) (fun _=>rfl) l,.inr ⟨_,rfl,by omega,SS.new_get,by simp,by simp⟩⟩⟩
 have nil:∃ v st',some (Value.slice none 0 0,(st.new (.cells (wRow w) 0)))=some (v,st')∧Ext st st'∧Own st.next st' v (rowsF zcE []) 2 0:=⟨_,_,rfl,x1,Own.nil _ _ _⟩
 unfold zbq
 by_cases s0:s=0
 ·rw [if_pos s0]
  obtain ⟨v,st',c,r⟩:=mk [(a+1,1)] (by simp)
  refine ⟨v,st',zcu _ _ st ?_,r⟩
  simp only [zc6,hc,l8,l10,zob,zaa,zdt s0,zct,hw]
  exact c
 rw [if_neg s0]
 by_cases s1:s=1
 ·rw [if_pos s1]
  obtain ⟨v,st',c,r⟩:=mk [(tw,1)] (by simp)
  refine ⟨v,st',zcu _ _ st ?_,r⟩
  simp only [zc6,hc,l8,l10,zob,zaa,zdf s0,zdt s1,zct,zcf,hw]
  exact c
 rw [if_neg s1]
 by_cases s2:s=2
 ·rw [if_pos (.inl s2)]
  obtain ⟨v,st',c,r⟩:=mk [(a+1,1),(tw,1)] (by simp)
  refine ⟨v,st',zcu _ _ st ?_,r⟩
  simp only [zc6,hc,l8,l10,zob,zaa,zdf s0,zdf s1,zdt s2,zct,zcf,hw]
  exact c
 by_cases s3:s=3
 ·rw [if_pos (.inr s3)]
  obtain ⟨v,st',c,r⟩:=mk [(a+1,1),(tw,1)] (by simp)
  refine ⟨v,st',zcu _ _ st ?_,r⟩
  simp only [zc6,hc,l8,l10,zob,zaa,zdf s0,zdf s1,zdf s2,zdt s3,zct,zcf,hw]
  exact c
 rw [if_neg (fun h=>h.elim s2 s3)]
 by_cases s5:s=5
 ·rw [if_pos s5]
  obtain ⟨v,st',c,r⟩:=mk [(tw,64)] (by simp)
  refine ⟨v,st',zcu _ _ st ?_,r⟩
  simp only [zc6,hc,l8,l10,zob,zaa,zdf s0,zdf s1,zdf s2,zdf s3,zdt s5,zct,zcf,hw]
  exact c
 rw [if_neg s5]
 by_cases s6:s=6
 ·rw [if_pos s6]
  obtain ⟨v,st',c,r⟩:=mk [(tw,16)] (by simp)
  refine ⟨v,st',zcu _ _ st ?_,r⟩
  simp only [zc6,hc,l8,l10,zob,zaa,zdf s0,zdf s1,zdf s2,zdf s3,zdf s5,zdt s6,zct,zcf,hw]
  exact c
 rw [if_neg s6]
 obtain ⟨v,st',c,r⟩:=nil
 refine ⟨v,st',zcu _ _ st ?_,r⟩
 simp only [zc6,hc,l8,l10,zob,zaa,zdf s0,zdf s1,zdf s2,zdf s3,zdf s5,zdf s6,zct,zcf,hw]
 exact c
end Go.Proofs.YtcplfckncandkaaGreatDoorE
namespace Go.Proofs.YtcplfckncandkaaGreatDoorE
set_option maxRecDepth 20000
open Go Go.E Go.Proofs
noncomputable def zjY (cf:zak) (lf:zab) (name':ByteArray) (st:SS):Option (Value×SS):=
 (cf 75 [.string name'] (st.ro st.next)).bind fun a=>
 ((some a.1).bind (asI .i64)).bind fun b=>
 cond (decide (0≤b)) (
 (zaR (ptr 0 0) 12 b 2).bind fun c=>
 ((a.2.ld c.1 (c.2+1)).bind (asI .i64)).bind fun d=>
 some (.int .i64 d,st.adv a.2.next)) (
 some (.int .i64 0,st.adv a.2.next))
noncomputable abbrev zpO:zab:=lS Tryz.prog Lk0 Tryz.f55 zav
theorem zpP:Lk0.func 55=some (55,Tryz.f55):=by kernel_rfl
theorem zpQ [Sym] (name':ByteArray) (st:SS) {r:Value×SS} (h:zjY cc zpO name' st=some r):cc 55 [.string name'] st=some r:=
 zaf (li:=zav) zah zal zpP rfl (fun _=>rfl) (.trans (by kernel_rfl) h)
noncomputable def zmd (cf:zak) (lf:zab) (name':ByteArray) (st:SS):Option (Value×SS):=
 let a:SS:=(st.ro st.next).new (.cells [.string name'] 0)
 (znn 0 0 12 2 0 12).bind fun b=>
 (cf 96 [b,.func (.func 97) #[] #[ptr ((st.ro st.next).next) 0]] a).bind fun c=>
 ((some c.1).bind (asI .i64)).bind fun d=>
 some (.int .i64 d,st.adv c.2.next)
noncomputable abbrev zoF:zab:=lS Tryz.prog Lk0 Tryz.f75 zav
theorem zoG:Lk0.func 75=some (75,Tryz.f75):=by kernel_rfl
theorem zoH [Sym] (name':ByteArray) (st:SS) {r:Value×SS} (h:zmd cc zoF name' st=some r):cc 75 [.string name'] st=some r:=
 zaf (li:=zav) zah zal zoG rfl (fun _=>rfl) (.trans (by kernel_rfl) h)
def zkY:LoopI:=⟨[(0,.any),(1,.any),(7,.int .i64),(8,.int .i64)],[(.exit 0,[]),(.ret,[(4,.int .i64)])]⟩
def zme (n:Nat):Option LoopI:=cond (Nat.beq n 2) (some zkY) (none)
noncomputable def zmS (cf:zak) (lf:zab) (s':Value) (q':Nat) (st:SS):Option (Value×SS):=
 ((lenV s').bind (asI .i64)).bind fun a=>
 (lf 2 [s',.func (.func 97) #[] #[ptr q' 0],.int .i64 a,.int .i64 0] (st.ro st.next)).bind fun b=>
 cond (Nat.beq b.1 0) (
 some (.int .i64 (-1),st.adv b.2.2.next)) (
 ((b.2.1[0]?).bind (asI .i64)).bind fun c=>
 some (.int .i64 c,st.adv b.2.2.next))
noncomputable abbrev zd3:zab:=lS Tryz.prog Lk0 Tryz.f96 zme
theorem zrC:Lk0.func 96=some (96,Tryz.f96):=by kernel_rfl
theorem zmf [Sym] (s':Value) (q':Nat) (st:SS) {r:Value×SS} (h:zmS cc zd3 s' q' st=some r):cc 96 [s',.func (.func 97) #[] #[ptr q' 0]] st=some r:=
 zaf (li:=zme) zah zal zrC rfl (fun _=>rfl) (.trans (by kernel_rfl) h)
noncomputable def ziB (cf:zak) (lf:zab) (s':Value) (q':Nat) (t7':Int) (t8':Int) (st:SS):Option (Nat×List Value×SS):=
 cond (decide (t8'<t7')) (
 (zau s' t8' 2).bind fun a=>
 (st.ldN a.1 a.2 2).bind fun b=>
 (cf 97 [b,ptr q' 0] st).bind fun c=>
 ((some c.1).bind asB).bind fun d=>
 cond d (
 some (1,[.int .i64 t8'],c.2)) (
 let e:Int:=IntKind.wrap .i64 (t8'+1)
 lf 2 [s',.func (.func 97) #[] #[ptr q' 0],.int .i64 t7',.int .i64 e] c.2)) (
 some (0,[],st))
theorem zgb [Sym] (s':Value) (q':Nat) (t7':Int) (t8':Int) (st:SS) {r:Nat×List Value×SS} (h:ziB cc zd3 s' q' t7' t8' st=some r):zd3 2 [s',.func (.func 97) #[] #[ptr q' 0],.int .i64 t7',.int .i64 t8'] st=some r:=
 zay zah zal (key:=2) (I:=zkY) rfl (by kernel_rfl) (by kernel_rfl) rfl rfl (.trans (by kernel_rfl) h)
noncomputable def zr8 (cf:zak) (lf:zab) (f':Value) (x1':Value) (st:SS):Option (Value×SS):=
 let a:SS:=(st.ro st.next).new (.cells (f':Value).cells.toList 0)
 ((a.ld ((st.ro st.next).next) 0).bind asS).bind fun b=>
 (addr? x1').bind fun c=>
 ((a.ld c.1 c.2).bind asS).bind fun d=>
 some (.bool (eqT b d),st.adv a.next)
noncomputable abbrev zta:zab:=lS Tryz.prog Lk0 Tryz.f97 zav
theorem ztb:Lk0.func 97=some (97,Tryz.f97):=by kernel_rfl
theorem ztc [Sym] (f':Value) (x1':Value) (st:SS) {r:Value×SS} (h:zr8 cc zta f' x1' st=some r):cc 97 [f',x1'] st=some r:=
 zaf (li:=zav) zah zal ztb rfl (fun _=>rfl) (.trans (by kernel_rfl) h)
noncomputable def zie (cf:zak) (lf:zab) (w':Value) (name':ByteArray) (x':Int) (st:SS):Option (Value×SS):=
 let a:SS:=(st.ro st.next).new (.cells (w':Value).cells.toList 0)
 let b:SS:=a.new (.cells [.int .i64 0,.int .i64 0,.int .i64 0,.int .i64 0,.int .i64 0,.int .i64 0,.int .i64 0,.int .i64 0,.int .i64 0,.int .i64 0,.int .i64 0,.int .i64 0] 0)
 (cf 75 [.string name'] b).bind fun c=>
 ((some c.1).bind (asI .i64)).bind fun d=>
 cond (decide (d<0)) (
 (c.2.ldN ((st.ro st.next).next) 0 12).bind fun e=>
 (c.2.stV a.next 0 12 e).bind fun f=>
 (f.rdN a.next 0 12).bind fun g=>
 cond (flat3 (.tuple #[g,.int .i64 5])) (some (.tuple #[g,.int .i64 5],st.adv f.next)) none) (
 (zaR (ptr 0 0) 12 d 2).bind fun h=>
 ((c.2.ld h.1 (h.2+1)).bind (asI .i64)).bind fun i=>
 (cf 78 [.int .i64 x',.int .i64 i] c.2).bind fun j=>
 ((some j.1).bind asB).bind fun k=>
 cond (!k) (
 (j.2.ldN ((st.ro st.next).next) 0 12).bind fun l=>
 (j.2.stV a.next 0 12 l).bind fun m=>
 (m.rdN a.next 0 12).bind fun n=>
 cond (flat3 (.tuple #[n,.int .i64 1])) (some (.tuple #[n,.int .i64 1],st.adv m.next)) none) (
 (cf 45 [ptr ((st.ro st.next).next) 0] j.2).bind fun o=>
 (zau o.1 d 1).bind fun p=>
 (o.2.ld p.1 p.2).bind fun q=>
 (zaj q).bind fun r=>
 (addr? r).bind fun s=>
 (o.2.st s.1 s.2 [.int .i64 x']).bind fun t=>
 (t.ldN ((st.ro st.next).next) 0 12).bind fun u=>
 (t.stV a.next 0 12 u).bind fun v=>
 (v.rdN a.next 0 12).bind fun w=>
 cond (flat3 (.tuple #[w,.int .i64 0])) (some (.tuple #[w,.int .i64 0],st.adv v.next)) none))
noncomputable abbrev zqI:zab:=lS Tryz.prog Lk0 Tryz.f57 zav
theorem zqJ:Lk0.func 57=some (57,Tryz.f57):=by kernel_rfl
theorem zhJ [Sym] (w':Value) (name':ByteArray) (x':Int) (st:SS) {r:Value×SS} (h:zie cc zqI w' name' x' st=some r):cc 57 [w',.string name',.int .i64 x'] st=some r:=
 zaf (li:=zav) zah zal zqJ rfl (fun _=>rfl) (.trans (by kernel_rfl) h)
noncomputable def zjZ (cf:zak) (lf:zab) (x':Int) (bits':Int) (st:SS):Option (Value×SS):=
 cond (decide (0≤x')) (
 ((aI .shr .i64 x' bits').bind (asI .i64)).bind fun a=>
 some (.bool (decide (a=0)),st.adv (st.ro st.next).next)) (
 some (.bool false,st.adv (st.ro st.next).next))
noncomputable abbrev zpR:zab:=lS Tryz.prog Lk0 Tryz.f78 zav
theorem zpS:Lk0.func 78=some (78,Tryz.f78):=by kernel_rfl
theorem zpT [Sym] (x':Int) (bits':Int) (st:SS) {r:Value×SS} (h:zjZ cc zpR x' bits' st=some r):cc 78 [.int .i64 x',.int .i64 bits'] st=some r:=
 zaf (li:=zav) zah zal zpS rfl (fun _=>rfl) (.trans (by kernel_rfl) h)
def zi6:LoopI:=⟨[(5,.any),(6,.int .i64),(7,.int .i64)],[(.exit 0,[]),(.ret,[(2,.bool)])]⟩
def zke (n:Nat):Option LoopI:=cond (Nat.beq n 2) (some zi6) (none)
noncomputable def zj0 (cf:zak) (lf:zab) (w':Value) (st:SS):Option (Value×SS):=
 let a:SS:=(st.ro st.next).new (.cells (w':Value).cells.toList 0)
 (cf 45 [ptr ((st.ro st.next).next) 0] a).bind fun b=>
 ((lenV b.1).bind (asI .i64)).bind fun c=>
 (lf 2 [b.1,.int .i64 c,.int .i64 0] b.2).bind fun d=>
 cond (Nat.beq d.1 0) (
 some (.bool true,st.adv d.2.2.next)) (
 ((d.2.1[0]?).bind asB).bind fun e=>
 some (.bool e,st.adv d.2.2.next))
noncomputable abbrev zdR:zab:=lS Tryz.prog Lk0 Tryz.f58 zke
theorem zpU:Lk0.func 58=some (58,Tryz.f58):=by kernel_rfl
theorem zpV [Sym] (w':Value) (st:SS) {r:Value×SS} (h:zj0 cc zdR w' st=some r):cc 58 [w'] st=some r:=
 zaf (li:=zke) zah zal zpU rfl (fun _=>rfl) (.trans (by kernel_rfl) h)
noncomputable def zgH (cf:zak) (lf:zab) (t5':Value) (t6':Int) (t7':Int) (st:SS):Option (Nat×List Value×SS):=
 cond (decide (t7'<t6')) (
 (zau t5' t7' 1).bind fun a=>
 (st.ld a.1 a.2).bind fun b=>
 (zaj b).bind fun c=>
 (addr? c).bind fun d=>
 ((st.ld d.1 d.2).bind (asI .i64)).bind fun e=>
 (zaR (ptr 0 0) 12 t7' 2).bind fun f=>
 ((st.ld f.1 (f.2+1)).bind (asI .i64)).bind fun g=>
 (cf 78 [.int .i64 e,.int .i64 g] st).bind fun h=>
 ((some h.1).bind asB).bind fun i=>
 cond (!i) (
 some (1,[.bool false],h.2)) (
 let j:Int:=IntKind.wrap .i64 (t7'+1)
 lf 2 [t5',.int .i64 t6',.int .i64 j] h.2)) (
 some (0,[],st))
theorem zff [Sym] (t5':Value) (t6':Int) (t7':Int) (st:SS) {r:Nat×List Value×SS} (h:zgH cc zdR t5' t6' t7' st=some r):zdR 2 [t5',.int .i64 t6',.int .i64 t7'] st=some r:=
 zay zah zal (key:=2) (I:=zi6) rfl (by kernel_rfl) (by kernel_rfl) rfl rfl (.trans (by kernel_rfl) h)
def zi7:LoopI:=⟨[(4,.int .u64),(5,.int .i64),(11,.any),(12,.int .i64),(13,.int .i64)],[(.exit 0,[(4,.int .u64)])]⟩
def zkf (n:Nat):Option LoopI:=cond (Nat.beq n 5) (some zi7) (none)
noncomputable def zj1 (cf:zak) (lf:zab) (w':Value) (st:SS):Option (Value×SS):=
 let a:SS:=(st.ro st.next).new (.cells (w':Value).cells.toList 0)
 (a.ldN ((st.ro st.next).next) 0 12).bind fun b=>
 (cf 58 [b] a).bind fun c=>
 ((some c.1).bind asB).bind fun d=>
 cond (!d) (
 some (.tuple #[.int .u64 0,.int .i64 1],st.adv c.2.next)) (
 (cf 45 [ptr ((st.ro st.next).next) 0] c.2).bind fun e=>
 ((lenV e.1).bind (asI .i64)).bind fun f=>
 (lf 5 [.int .u64 0,.int .i64 0,e.1,.int .i64 f,.int .i64 0] e.2).bind fun g=>
 ((g.2.1[0]?).bind (asI .u64)).bind fun h=>
 some (.tuple #[.int .u64 h,.int .i64 0],st.adv g.2.2.next))
noncomputable abbrev zdS:zab:=lS Tryz.prog Lk0 Tryz.f36 zkf
theorem zpW:Lk0.func 36=some (36,Tryz.f36):=by kernel_rfl
theorem zkg [Sym] (w':Value) (st:SS) {r:Value×SS} (h:zj1 cc zdS w' st=some r):cc 36 [w'] st=some r:=
 zaf (li:=zkf) zah zal zpW rfl (fun _=>rfl) (.trans (by kernel_rfl) h)
noncomputable def zkh (cf:zak) (lf:zab) (x':Int) (at0':Int) (t11':Value) (t12':Int) (t13':Int) (st:SS):Option (Nat×List Value×SS):=
 cond (decide (t13'<t12')) (
 (zau t11' t13' 1).bind fun a=>
 (st.ld a.1 a.2).bind fun b=>
 (zaj b).bind fun c=>
 (addr? c).bind fun d=>
 ((st.ld d.1 d.2).bind (asI .i64)).bind fun e=>
 let f:Int:=IntKind.wrap .u64 e
 ((aI .shl .u64 f at0').bind (asI .u64)).bind fun g=>
 let h:Int:=orI .u64 x' g
 (zaR (ptr 0 0) 12 t13' 2).bind fun i=>
 ((st.ld i.1 (i.2+1)).bind (asI .i64)).bind fun j=>
 let k:Int:=IntKind.wrap .i64 (at0'+j)
 let l:Int:=IntKind.wrap .i64 (t13'+1)
 lf 5 [.int .u64 h,.int .i64 k,t11',.int .i64 t12',.int .i64 l] st) (
 some (0,[.int .u64 x'],st))
theorem zhK [Sym] (x':Int) (at0':Int) (t11':Value) (t12':Int) (t13':Int) (st:SS) {r:Nat×List Value×SS} (h:zkh cc zdS x' at0' t11' t12' t13' st=some r):zdS 5 [.int .u64 x',.int .i64 at0',t11',.int .i64 t12',.int .i64 t13'] st=some r:=
 zay zah zal (key:=5) (I:=zi7) rfl (by kernel_rfl) (by kernel_rfl) rfl rfl (.trans (by kernel_rfl) h)
def zhL:LoopI:=⟨[(0,.int .u64),(2,.any),(3,.any),(7,.any),(8,.int .i64),(9,.int .i64)],[(.exit 0,[(2,.any),(3,.any)])]⟩
def zif (n:Nat):Option LoopI:=cond (Nat.beq n 3) (some zhL) (none)
noncomputable def zkZ (cf:zak) (lf:zab) (x':Int) (st:SS):Option (Value×SS):=
 let a:SS:=(st.ro st.next).new (.cells [.int .i64 0,.int .i64 0,.int .i64 0,.int .i64 0,.int .i64 0,.int .i64 0,.int .i64 0,.int .i64 0,.int .i64 0,.int .i64 0,.int .i64 0,.int .i64 0] 0)
 let b:SS:=a.new (.cells [.int .i64 0,.int .i64 0,.int .i64 0,.int .i64 0,.int .i64 0,.int .i64 0,.int .i64 0,.int .i64 0,.int .i64 0,.int .i64 0,.int .i64 0,.int .i64 0] 0)
 (cf 45 [ptr a.next 0] b).bind fun c=>
 ((lenV c.1).bind (asI .i64)).bind fun d=>
 (lf 3 [.int .u64 x',ptr ((st.ro st.next).next) 0,ptr a.next 0,c.1,.int .i64 d,.int .i64 0] c.2).bind fun e=>
 (e.2.1[0]?).bind fun f=>
 (e.2.1[1]?).bind fun g=>
 (addr? g).bind fun h=>
 (e.2.2.ldN h.1 h.2 12).bind fun i=>
 (addr? f).bind fun j=>
 (e.2.2.stV j.1 j.2 12 i).bind fun k=>
 (addr? f).bind fun l=>
 (k.rdN l.1 l.2 12).bind fun m=>
 cond (flat3 m) (some (m,st.adv k.next)) none
noncomputable abbrev zc7:zab:=lS Tryz.prog Lk0 Tryz.f24 zif
theorem znL:Lk0.func 24=some (24,Tryz.f24):=by kernel_rfl
theorem znM [Sym] (x':Int) (st:SS) {r:Value×SS} (h:zkZ cc zc7 x' st=some r):cc 24 [.int .u64 x'] st=some r:=
 zaf (li:=zif) zah zal znL rfl (fun _=>rfl) (.trans (by kernel_rfl) h)
noncomputable def zfG (cf:zak) (lf:zab) (x':Int) (t2':Value) (w':Value) (t7':Value) (t8':Int) (t9':Int) (st:SS):Option (Nat×List Value×SS):=
 cond (decide (t9'<t8')) (
 (zau t7' t9' 1).bind fun a=>
 (st.ld a.1 a.2).bind fun b=>
 (zaR (ptr 0 0) 12 t9' 2).bind fun c=>
 ((st.ld c.1 (c.2+1)).bind (asI .i64)).bind fun d=>
 ((aI .shl .u64 1 d).bind (asI .u64)).bind fun e=>
 let f:Int:=IntKind.wrap .u64 (e-1)
 let g:Int:=zf0 .u64 x' f
 let h:Int:=IntKind.wrap .i64 g
 (zaj b).bind fun i=>
 (addr? i).bind fun j=>
 (st.st j.1 j.2 [.int .i64 h]).bind fun k=>
 ((aI .shr .u64 x' d).bind (asI .u64)).bind fun l=>
 let m:Int:=IntKind.wrap .i64 (t9'+1)
 lf 3 [.int .u64 l,t2',w',t7',.int .i64 t8',.int .i64 m] k) (
 some (0,[t2',w'],st))
theorem zgv [Sym] (x':Int) (t2':Value) (w':Value) (t7':Value) (t8':Int) (t9':Int) (st:SS) {r:Nat×List Value×SS} (h:zfG cc zc7 x' t2' w' t7' t8' t9' st=some r):zc7 3 [.int .u64 x',t2',w',t7',.int .i64 t8',.int .i64 t9'] st=some r:=
 zay zah zal (key:=3) (I:=zhL) rfl (by kernel_rfl) (by kernel_rfl) rfl rfl (.trans (by kernel_rfl) h)
noncomputable def zk0 (cf:zak) (lf:zab) (w':Value) (st:SS):Option (Value×SS):=
 (zaj w').bind fun a=>
 (addr? a).bind fun b=>
 (zaj w').bind fun c=>
 (addr? c).bind fun d=>
 (zaj w').bind fun e=>
 (addr? e).bind fun f=>
 (zaj w').bind fun g=>
 (addr? g).bind fun h=>
 (zaj w').bind fun i=>
 (addr? i).bind fun j=>
 (zaj w').bind fun k=>
 (addr? k).bind fun l=>
 (zaj w').bind fun m=>
 (addr? m).bind fun n=>
 (zaj w').bind fun o=>
 (addr? o).bind fun p=>
 (zaj w').bind fun q=>
 (addr? q).bind fun r=>
 (zaj w').bind fun s=>
 (addr? s).bind fun t=>
 (zaj w').bind fun u=>
 (addr? u).bind fun v=>
 (zaj w').bind fun w=>
 (addr? w).bind fun x=>
 let y:SS:=st.new (.cells ([ptr b.1 b.2,ptr d.1 (d.2+1),ptr f.1 (f.2+2),ptr h.1 (h.2+3),ptr j.1 (j.2+4),ptr l.1 (l.2+5),ptr n.1 (n.2+6),ptr p.1 (p.2+7),ptr r.1 (r.2+8),ptr t.1 (t.2+9),ptr v.1 (v.2+10),ptr x.1 (x.2+11)]) 1)
 some (.slice (some ⟨st.next,0,none⟩) 12 12,y)
noncomputable abbrev znN:zab:=lS Tryz.prog Lk0 Tryz.f45 zav
theorem znO:Lk0.func 45=some (45,Tryz.f45):=by kernel_rfl
theorem znP [Sym] (w':Value) (st:SS) {r:Value×SS} (h:zk0 cc znN w' st=some r):cc 45 [w'] st=some r:=
 zaf (li:=zav) zah zal znO rfl (fun _=>rfl) (.trans (by kernel_rfl) h)
end Go.Proofs.YtcplfckncandkaaGreatDoorE
namespace Go.Proofs.YtcplfckncandkaaGreatDoorE
open Go Go.E Go.Proofs
def ze3 (x:List UInt8×Nat):List Value:=[.string (mkS x.1),.int .i64 x.2]
theorem zk1:fieldsC=rowsF ze3 zb3:=rfl
def zih (f:List UInt8) (x:List UInt8×Nat):Bool:=decide (x.1=f)
def zfH (f:List UInt8):Option Nat:=zb3.findIdx? (zih f)
def ixI:Option Nat→Int
 | none=> -1
 | some k=>(k:Int)
theorem zxl {i:Nat} {x:List UInt8×Nat} (h:zb3[i]?=some x):cut fieldsC (0+i*2) 2=some (ze3 x):=by
 rw [Nat.zero_add,zk1]
 exact zkE (zaU (f:=ze3) (z:=2) (fun _=>rfl) zb3 i x h) rfl
theorem zwa {i:Nat} {x:List UInt8×Nat} (h:zb3[i]?=some x):fieldsC[0+i*2+1]?=some (.int .i64 x.2):=by
 have:=zaU (f:=ze3) (z:=2) (fun _=>rfl) zb3 i x h
 rw [← zk1] at this
 have h1:=congrArg (·[1]?) this
 simp only [List.getElem?_take_of_lt (show 1<2 by omega),List.getElem?_drop] at h1
 rw [Nat.zero_add]
 exact h1
theorem ztd [Sym] (x:List UInt8×Nat) (f:List UInt8) (q:Nat) (st:SS) (hq:st.mem.get q=some (.cells [.string (mkS f)] 0)) (hlt:q<st.next):∃ n,st.next≤n∧cc 97 [.agg (ze3 x).toArray,ptr q 0] st=some (.bool (zih f x),st.adv n):=by
 refine ⟨st.next+1,by omega,ztc _ _ st ?_⟩
 have l0:((st.ro st.next).new (.cells (ze3 x) 0)).ld st.next 0=some (.string (mkS x.1)):=by
  have hm:((st.ro st.next).new (.cells (ze3 x) 0)).mem.get st.next=some (.cells (ze3 x) 0):=SS.new_get (st:=st.ro st.next)
  rw [SS.ld_cells hm];rfl
 have l1:((st.ro st.next).new (.cells (ze3 x) 0)).ld q 0=some (.string (mkS f)):=by
  rw [SS.ld_cells (c:=[.string (mkS f)]) (z:=0) (by rw [SS.new_old (by simp;omega)];exact hq)];rfl
 have he:eqT (mkS x.1) (mkS f)=zih f x:=by rw [zhx,zbI,zbI];rfl
 simp only [zr8,zaG,SS.ro_next,l0,zob,zac,zad,l1,he]
 rfl
theorem zwb [Sym] (f:List UInt8) (q:Nat) (st0:SS) (hg:Gd st0) (hq:st0.mem.get q=some (.cells [.string (mkS f)] 0)) (hlt:q<st0.next):
  ∀ (k j:Nat) (st:SS),12=k+j→Ext st0 st→∃ e vs st',zd3 2 [.slice (some ⟨0,0,none⟩) 12 12,.func (.func 97) #[] #[ptr q 0],.int .i64 12,.int .i64 j] st=some (e,vs,st')∧Ext st0 st'∧
   ((e=0∧vs=[]∧(zb3.drop j).findIdx? (zih f)=none)∨(∃ m:Nat,e=1∧(zb3.drop j).findIdx? (zih f)=some m∧vs=[.int .i64 ((j+m:Nat):Int)])):=by
 intro k
 induction k with
 | zero=>
   intro j st hk he
   have:j=12:=by omega
   subst this
   exact ⟨0,[],st,zgb _ q _ _ st rfl,he,.inl ⟨rfl,rfl,rfl⟩⟩
 | succ k ih=>
   intro j st hk he
   obtain ⟨x,hx⟩:∃ x,zb3[j]?=some x:=⟨_,zge (by show j<12;omega)⟩
   have hjl:(j:Int)<12:=by omega
   have hel:zau (.slice (some ⟨0,0,none⟩) 12 12) (j:Int) 2=some (0,0+j*2):=by
    unfold zau
    have h1:(0:Int)≤(j:Int):=by omega
    have h2:(j:Int)<((12:Nat):Int):=by omega
    simp only [zdt h1,zdt h2,Bool.and_self,zct,Int.toNat_natCast]
   have hld:st.ldN 0 (0+j*2) 2=some (.agg (ze3 x).toArray):=by rw [SS.ldN_table (hg.ext he).gF,zxl hx];rfl
   obtain ⟨n,hn,c1⟩:=ztd x f q st (he.get hlt hq) (zll hlt he.next)
   have hd:=drop_cons hx
   have hw:=zaX (i:=j) (by omega)
   by_cases hf:zih f x=true
   ·refine ⟨1,[.int .i64 j],st.adv n,zgb _ q _ _ st ?_,he.adv (by have:=he.next;omega),.inr ⟨0,rfl,?_,rfl⟩⟩
    ·rw [hf] at c1
     simp only [ziB,zdt hjl,zct,hel,zob,hld,c1,zai]
    ·rw [hd,List.findIdx?_cons,hf];rfl
   ·have hf':zih f x=false:=by simpa using hf
    obtain ⟨e,vs,st',d1,d2,d3⟩:=ih (j+1) (st.adv n) (by omega) (he.adv (by have:=he.next;omega))
    rw [hf'] at c1
    refine ⟨e,vs,st',zgb _ q _ _ st ?_,d2,?_⟩
    ·simp only [ziB,zdt hjl,zct,hel,zob,hld,c1,zai,zcf,hw]
     exact d1
    ·rw [hd,List.findIdx?_cons,hf']
     rcases d3 with ⟨e1,e2,e3⟩ | ⟨m,e1,e2,e3⟩
     ·exact .inl ⟨e1,e2,by rw [e3];rfl⟩
     ·exact .inr ⟨m+1,e1,by rw [e2];rfl,by rw [e3,show j+1+m=j+(m+1) by omega]⟩
theorem zqK [Sym] (f:List UInt8) (st:SS) (hg:Gd st):∃ n,st.next≤n∧cc 75 [.string (mkS f)] st=some (.int .i64 (ixI (zfH f)),st.adv n):=by
 have g1:Gd ((st.ro st.next).new (.cells [.string (mkS f)] 0)):=(hg.ro (n:=st.next)).ext ((Ext.refl _).new _)
 have hm:((st.ro st.next).new (.cells [.string (mkS f)] 0)).mem.get st.next=some (.cells [.string (mkS f)] 0):=SS.new_get (st:=st.ro st.next)
 have g2:=g1.ro (n:=((st.ro st.next).new (.cells [.string (mkS f)] 0)).next)
 obtain ⟨e,vs,st',d1,d2,d3⟩:=zwb f st.next _ g2 hm (by simp) 12 0 _ (by omega) (.refl _)
 have d1':zd3 2 [.slice (some ⟨0,0,none⟩) 12 12,.func (.func 97) #[] #[ptr st.next 0],.int .i64 12,.int .i64 0] (((st.ro st.next).new (.cells [.string (mkS f)] 0)).ro ((st.ro st.next).new (.cells [.string (mkS f)] 0)).next)=_:=d1
 have hnx:=d2.next
 simp at hnx
 have hsl:znn 0 0 12 2 0 12=some (.slice (some ⟨0,0,none⟩) 12 12):=rfl
 have hlen:(lenV (.slice (some ⟨0,0,none⟩) 12 12)).bind (asI .i64)=some 12:=rfl
 have c:∀ z,(∃ e vs,zd3 2 [.slice (some ⟨0,0,none⟩) 12 12,.func (.func 97) #[] #[ptr st.next 0],.int .i64 12,.int .i64 0] (((st.ro st.next).new (.cells [.string (mkS f)] 0)).ro ((st.ro st.next).new (.cells [.string (mkS f)] 0)).next)=some (e,vs,st')∧((e=0∧z= -1)∨(e=1∧vs=[.int .i64 z])))→
   cc 96 [.slice (some ⟨0,0,none⟩) 12 12,.func (.func 97) #[] #[ptr st.next 0]] ((st.ro st.next).new (.cells [.string (mkS f)] 0))=some (.int .i64 z,((st.ro st.next).new (.cells [.string (mkS f)] 0)).adv st'.next):=by
  rintro z ⟨e,vs,h,⟨rfl,rfl⟩ | ⟨rfl,rfl⟩⟩
  ·refine zmf _ _ _ ?_
   have hb0:Nat.beq 0 0=true:=rfl
   simp only [zmS,hlen,zob,h,hb0,zct]
  ·refine zmf _ _ _ ?_
   have hb0:Nat.beq 1 0=false:=rfl
   simp only [zmS,hlen,zob,h,hb0,zcf,zgz,zaa]
 have c':=c (ixI (zfH f)) ⟨e,vs,d1',by
  rw [List.drop_zero] at d3
  rcases d3 with ⟨e1,e2,e3⟩ | ⟨m,e1,e2,e3⟩
  ·exact .inl ⟨e1,by unfold zfH;rw [e3];rfl⟩
  ·exact .inr ⟨e1,by unfold zfH;rw [e2,e3,Nat.zero_add];rfl⟩⟩
 refine ⟨st'.next,by omega,zoH _ st ?_⟩
 simp only [zmd,hsl,zob,SS.ro_next,c',zaa]
 rfl
theorem zmT {f:List UInt8} {k:Nat} (h:zfH f=some k):∃ x,zb3[k]?=some x∧x.1=f∧k<12:=by
 unfold zfH at h
 obtain ⟨hlt,hp,_⟩:=List.findIdx?_eq_some_iff_getElem.1 h
 exact ⟨_,zge hlt,by simpa [zih] using hp,hlt⟩
def zax (k:Nat):Nat:=((zb3[k]?).map (·.2)).getD 0
def zg5 (f:List UInt8):Nat:=match zfH f with | none=>0 | some k=>zax k
theorem znQ {k:Nat} (h:k<12):zaR (ptr 0 0) 12 (k:Int) 2=some (0,0+k*2):=by
 have h1:(0:Int)≤(k:Int):=by omega
 have h2:(k:Int)<((12:Nat):Int):=by omega
 unfold ptr zaR
 simp only [zdt h1,zdt h2,Bool.and_self,zct,Int.toNat_natCast]
theorem zk2 {st:SS} (hg:Gd st) {k:Nat} (h:k<12):st.ld 0 (0+k*2+1)=some (.int .i64 (zax k)):=by
 obtain ⟨x,hx⟩:∃ x,zb3[k]?=some x:=⟨_,zge (by show k<12;omega)⟩
 rw [SS.ld_table hg.gF,zwa hx]
 unfold zax
 rw [hx];rfl
theorem zxm [Sym] (f:List UInt8) (st:SS) (hg:Gd st):∃ n,st.next≤n∧cc 55 [.string (mkS f)] st=some (.int .i64 (zg5 f),st.adv n):=by
 obtain ⟨n,hn,c⟩:=zqK f (st.ro st.next) hg.ro
 refine ⟨n,hn,zpQ _ st ?_⟩
 unfold zg5
 cases hk:zfH f with
 | none=>
   rw [hk] at c
   have h0:¬ (0:Int)≤ixI none:=by decide
   simp only [zjY,c,zob,zaa,zdf h0,zcf]
   rfl
 | some k=>
   rw [hk] at c
   obtain ⟨x,_,_,hlt⟩:=zmT hk
   have h0:(0:Int)≤ixI (some k):=Int.natCast_nonneg k
   have e1:zaR (ptr 0 0) 12 (ixI (some k)) 2=some (0,0+k*2):=znQ hlt
   have e2:((st.ro st.next).adv n).ld 0 (0+k*2+1)=some (.int .i64 (zax k)):=zk2 (hg.ro.ext ((Ext.refl _).adv hn)) hlt
   simp only [zjY,c,zob,zaa,zdt h0,zct,e1,e2]
   rfl
end Go.Proofs.YtcplfckncandkaaGreatDoorE
namespace Go.Proofs.YtcplfckncandkaaGreatDoorE
open Go Go.E Go.Proofs
def plRow (b:Nat):List Value:=(List.range 12).map fun i=>ptr b i
theorem zk3 (b:Nat) {k:Nat} (h:k<12):(plRow b)[k]?=some (ptr b k):=by
 unfold plRow
 rw [List.getElem?_map,List.getElem?_range h];rfl
theorem zii [Sym] (b:Nat) (st:SS):cc 45 [ptr b 0] st=some (.slice (some ⟨st.next,0,none⟩) 12 12,st.new (.cells (plRow b) 1)):=by
 refine znP _ st ?_
 have h1:zaj (ptr b 0)=some (ptr b 0):=rfl
 simp only [zk0,h1,zob,zad]
 rfl
def fitsT (x:Int) (n:Nat):Bool:=decide (0≤x∧x<2^n)
theorem zr9 [Sym] (x:Int) (n:Nat) (hn:n≤62) (st:SS):cc 78 [.int .i64 x,.int .i64 n] st=some (.bool (fitsT x n),st.adv st.next):=by
 refine zpT _ _ st ?_
 by_cases h:0≤x
 ·have hb:¬ ((n:Int)<0):=by omega
  have h1:(aI .shr .i64 x (n:Int)).bind (asI .i64)=some (x/2^n):=by
   have e:min ((n:Int)).toNat (IntKind.bits .i64)=n:=by
    show min ((n:Int)).toNat 64=n
    rw [Int.toNat_natCast];omega
   have e2:zok .i64 x (n:Int)=x/2^n:=by
    unfold zok
    rw [e]
    exact Int.fdiv_eq_ediv_of_nonneg x (Int.pow_nonneg (by omega))
   simp only [aI,zdf hb,zcf,zob,zaa,e2]
  have e3:decide (x/2^n=0)=fitsT x n:=by
   unfold fitsT
   have hp:(0:Int)<2^n:=Int.pow_pos (by omega)
   by_cases hx:x<2^n
   ·rw [zdt (Int.ediv_eq_zero_of_lt h hx),zdt ⟨h,hx⟩]
   ·rw [zdf (fun hc=>hx ?_),zdf (fun hc=>hx hc.2)]
    have:=Int.lt_ediv_add_one_mul_self x hp
    rw [hc] at this
    omega
  simp only [zjZ,zdt h,zct,h1,zob,e3]
  rfl
 ·have e3:fitsT x n=false:=zdf (fun hc=>h hc.1)
  simp only [zjZ,zdf h,zcf,e3]
  rfl
theorem zgw (k:Nat):zax k≤11:=by
 by_cases h:k<12
 ·have:∀ k,k<12→zax k≤11:=by decide+kernel
  exact this k h
 ·unfold zax
  rw [List.getElem?_eq_none (by show 12≤k;omega)]
  decide
def zbV (w:Wd) (f:List UInt8) (x:Int):Wd×Int:=match zfH f with
 | none=>(w,5)
 | some k=>if fitsT x (zax k)=true then (w.set k x,0) else (w,1)
theorem zdg (w:Wd) (f:List UInt8) (x:Int):(zbV w f x).1.length=w.length:=by
 unfold zbV
 repeat' split
 all_goals simp
theorem znR (w:Wd) (z:Int):flat3 (.tuple #[wV w,.int .i64 z])=true:=by
 have:zaB (wV w)=true:=by
  show ((wRow w).toArray.toList.all zbn)=true
  simp [wRow,zbn]
 show ([wV w,.int .i64 z].all zaB)=true
 simp only [List.all_cons,this,Bool.true_and,List.all_nil,Bool.and_true]
 rfl
theorem zqL (w:Wd) (k:Nat) (x:Int):wRow (w.set k x)=(wRow w).set k (.int .i64 x):=by simp [wRow,List.map_set]
theorem znS {row:List Value} {k:Nat} (h:k<row.length) (v:Value):zcK row k [v]=some (row.set k v):=by
 rw [zbu (by simp;omega)]
 congr 1
 rw [List.set_eq_take_append_cons_drop,if_pos h]
 simp
abbrev Z12:List Value:=[.int .i64 0,.int .i64 0,.int .i64 0,.int .i64 0,.int .i64 0,.int .i64 0,.int .i64 0,.int .i64 0,.int .i64 0,.int .i64 0,.int .i64 0,.int .i64 0]
theorem set_ok [Sym] (w:Wd) (hw:w.length=12) (f:List UInt8) (x:Int) (st:SS) (hg:Gd st):∃ n,st.next≤n∧cc 57 [wV w,.string (mkS f),.int .i64 x] st=some (.tuple #[wV (zbV w f x).1,.int .i64 (zbV w f x).2],st.adv n):=by
 have hc:(wV w).cells.toList=wRow w:=zaG _
 have hl:(wRow w).length=12:=by rw [zbc,hw]
 have a0:At ((st.ro st.next).new (.cells (wRow w) 0)) st.next (wRow w):=At.new (st:=st.ro st.next) (zlr _) _
 have x1:Ext (st.ro st.next) ((st.ro st.next).new (.cells (wRow w) 0)):=(Ext.refl _).new _
 have a1:At (((st.ro st.next).new (.cells (wRow w) 0)).new (.cells Z12 0)) (st.next+1) Z12:=At.new (st:=(st.ro st.next).new (.cells (wRow w) 0)) (by simp) _
 have x2:Ext ((st.ro st.next).new (.cells (wRow w) 0)) (((st.ro st.next).new (.cells (wRow w) 0)).new (.cells Z12 0)):=(Ext.refl _).new _
 have g2:Gd (((st.ro st.next).new (.cells (wRow w) 0)).new (.cells Z12 0)):=(hg.ro (n:=st.next)).ext (x1.trans x2)
 have hn2:(((st.ro st.next).new (.cells (wRow w) 0)).new (.cells Z12 0)).next=st.next+2:=rfl
 obtain ⟨n3,hn3,c3⟩:=zqK f _ g2
 have x3:Ext (((st.ro st.next).new (.cells (wRow w) 0)).new (.cells Z12 0)) ((((st.ro st.next).new (.cells (wRow w) 0)).new (.cells Z12 0)).adv n3):=(Ext.refl _).adv hn3
 have a0':=(a0.ext x2).ext x3
 have a1':=a1.ext x3
 cases hk:zfH f with
 | none=>
   rw [hk] at c3
   have hs:zbV w f x=(w,5):=by unfold zbV;rw [hk]
   rw [hs]
   obtain ⟨s',f1,f2,f3,f4,_⟩:=zcx (n:=12) a1' rfl a0' hl (zde w)
   have h0:ixI none<0:=by decide
   refine ⟨s'.next,by have:=f4.next;simp at this;omega,zhJ _ _ _ st ?_⟩
   have hz:=znR w 5
   unfold wV at hz
   simp only [zie,hc,SS.ro_next,SS.new_next,c3,zob,zaa,zdt h0,zct,f1,f2,f3,hz]
   rfl
 | some k=>
   rw [hk] at c3
   obtain ⟨fx,_,_,hlt⟩:=zmT hk
   have h0:¬ ixI (some k)<0:=by
    show ¬ (k:Int)<0
    omega
   have e1:zaR (ptr 0 0) 12 (ixI (some k)) 2=some (0,0+k*2):=znQ hlt
   have e2:=zk2 (g2.ext x3) hlt
   have c4:=zr9 x (zax k) (by have:=zgw k;omega) ((((st.ro st.next).new (.cells (wRow w) 0)).new (.cells Z12 0)).adv n3)
   have x4:Ext ((((st.ro st.next).new (.cells (wRow w) 0)).new (.cells Z12 0)).adv n3) (((((st.ro st.next).new (.cells (wRow w) 0)).new (.cells Z12 0)).adv n3).adv ((((st.ro st.next).new (.cells (wRow w) 0)).new (.cells Z12 0)).adv n3).next):=(Ext.refl _).adv (zlr _)
   have a0'':=a0'.ext x4
   have a1'':=a1'.ext x4
   by_cases hf:fitsT x (zax k)=true
   ·rw [hf] at c4
    have hs:zbV w f x=(w.set k x,0):=by unfold zbV;rw [hk];exact if_pos hf
    rw [hs]
    have c5:=zii st.next (((((st.ro st.next).new (.cells (wRow w) 0)).new (.cells Z12 0)).adv n3).adv ((((st.ro st.next).new (.cells (wRow w) 0)).new (.cells Z12 0)).adv n3).next)
    generalize hs4:(((((st.ro st.next).new (.cells (wRow w) 0)).new (.cells Z12 0)).adv n3).adv ((((st.ro st.next).new (.cells (wRow w) 0)).new (.cells Z12 0)).adv n3).next)=s4 at*
    have x5:Ext s4 (s4.new (.cells (plRow st.next) 1)):=(Ext.refl _).new _
    have a0v:=a0''.ext x5
    have a1v:=a1''.ext x5
    have hel:zau (.slice (some ⟨s4.next,0,none⟩) 12 12) (ixI (some k)) 1=some (s4.next,0+k*1):=by
     show zau (.slice (some ⟨s4.next,0,none⟩) 12 12) (k:Int) 1=_
     unfold zau
     have h1:(0:Int)≤(k:Int):=by omega
     have h2:(k:Int)<((12:Nat):Int):=by omega
     simp only [zdt h1,zdt h2,Bool.and_self,zct,Int.toNat_natCast]
    have hld:(s4.new (.cells (plRow st.next) 1)).ld s4.next (0+k*1)=some (ptr st.next k):=by
     rw [SS.ld_cells SS.new_get,show 0+k*1=k by omega,zk3 _ hlt]
    obtain ⟨s6,e6,a6,m6,_⟩:=a0v.sto (k:=k) (vs:=[.int .i64 x]) (row':=wRow (w.set k x)) rfl (by rw [zqL];exact znS (by rw [hl];exact hlt) _)
    have a1w:=a1v.mod m6 (by simp)
    obtain ⟨s',f1,f2,f3,f4,_⟩:=zcx (n:=12) a1w rfl a6 (by rw [zbc,List.length_set,hw]) (zde _)
    have hnl:zaj (ptr st.next k)=some (ptr st.next k):=rfl
    have hz:=znR (w.set k x) 0
    unfold wV at hz
    have hq:∀ q:Nat,s4.next≥st.next:=fun _=>by rw [← hs4];simp;omega
    refine ⟨s'.next,by have:=f4.next;have:=m6.next;have:=x5.next;have:=hq 0;omega,zhJ _ _ _ st ?_⟩
    have e1':zaR (ptr 0 0) 12 (ixI (some k)) 2=some (0,0+k*2):=e1
    simp only [zie,hc,SS.ro_next,SS.new_next,c3,zob,zaa,zdf h0,zcf,e1',e2,c4,zai,znt,c5,hel,hld,hnl,zad,e6,f1,f2,f3,hz,zct]
    rfl
   ·have hf':fitsT x (zax k)=false:=by simpa using hf
    rw [hf'] at c4
    have hs:zbV w f x=(w,1):=by unfold zbV;rw [hk];exact if_neg hf
    rw [hs]
    obtain ⟨s',f1,f2,f3,f4,_⟩:=zcx (n:=12) a1'' rfl a0'' hl (zde w)
    have hz:=znR w 1
    unfold wV at hz
    refine ⟨s'.next,by have:=f4.next;simp at this;omega,zhJ _ _ _ st ?_⟩
    simp only [zie,hc,SS.ro_next,SS.new_next,c3,zob,zaa,zdf h0,zcf,e1,e2,c4,zai,znf,f1,f2,f3,hz,zct]
    rfl
end Go.Proofs.YtcplfckncandkaaGreatDoorE
namespace Go.Proofs.YtcplfckncandkaaGreatDoorE
open Go Go.E Go.Proofs
def zc8 (w:Wd):Bool:=(List.range 12).all fun k=>fitsT (w.getD k 0) (zax k)
structure Pls (st:SS) (b j:Nat) (w:Wd):Prop where
 pl:st.mem.get j=some (.cells (plRow b) 1)
 lt:j<st.next
 at0:At st b (wRow w)
section
variable {st st' : SS} {b j : Nat} {w : Wd}
theorem Pls.ext (h:Pls st b j w) (e:Ext st st'):Pls st' b j w:=⟨e.get h.lt h.pl,zll h.lt e.next,h.at0.ext e⟩
theorem plS {k:Nat} (h:k<12):zau (.slice (some ⟨j,0,none⟩) 12 12) (k:Int) 1=some (j,0+k*1):=by
 unfold zau
 have h1:(0:Int)≤(k:Int):=by omega
 have h2:(k:Int)<((12:Nat):Int):=by omega
 simp only [zdt h1,zdt h2,Bool.and_self,zct,Int.toNat_natCast]
theorem Pls.ptr (h:Pls st b j w) {k:Nat} (hk:k<12):st.ld j (0+k*1)=some (Go.E.ptr b k):=by
 rw [SS.ld_cells h.pl,show 0+k*1=k by omega,zk3 _ hk]
theorem Pls.part (h:Pls st b j w) (hw:w.length=12) {k:Nat} (hk:k<12):st.ld b k=some (.int .i64 (w.getD k 0)):=by
 rw [h.at0.ld,zjX,List.getD_eq_getElem?_getD]
 rw [zge (by omega)]
 rfl
end
theorem zur [Sym] (w:Wd) (hw:w.length=12) (b j:Nat) (st0:SS) (hg:Gd st0) (hp:Pls st0 b j w):∀ (m k:Nat) (st:SS),12=m+k→Ext st0 st→
  ∃ st',Ext st0 st'∧zdR 2 [.slice (some ⟨j,0,none⟩) 12 12,.int .i64 12,.int .i64 k] st=some (if ((List.range' k m).all fun k=>fitsT (w.getD k 0) (zax k))=true then (0,[],st') else (1,[.bool false],st')):=by
 intro m
 induction m with
 | zero=>
   intro k st hk he
   have:k=12:=by omega
   subst this
   exact ⟨st,he,zff _ _ _ st rfl⟩
 | succ m ih=>
   intro k st hk he
   have hkl:k<12:=by omega
   have h1:(k:Int)<12:=by omega
   have hnl:zaj (ptr b k)=some (ptr b k):=rfl
   have c:=zr9 (w.getD k 0) (zax k) (by have:=zgw k;omega) st
   have hw1:=zaX (i:=k) (by omega)
   have e1:=(hp.ext he).ptr hkl
   have e2:=(hp.ext he).part hw hkl
   have e3:=zk2 (hg.ext he) hkl
   have e4:=znQ hkl
   rw [List.range'_succ,List.all_cons]
   cases hf:fitsT (w.getD k 0) (zax k) with
   | true=>
     obtain ⟨st',x',l⟩:=ih (k+1) (st.adv st.next) (by omega) (he.adv (zlr _))
     rw [hf] at c
     refine ⟨st',x',zff _ _ _ st ?_⟩
     simp only [zgH,zdt h1,zct,plS hkl,zob,e1,hnl,zad,e2,zaa,e4,e3,c,zai,znt,zcf,hw1,Bool.true_and]
     exact l
   | false=>
     rw [hf] at c
     refine ⟨st.adv st.next,he.adv (zlr _),zff _ _ _ st ?_⟩
     simp only [zgH,zdt h1,zct,plS hkl,zob,e1,hnl,zad,e2,zaa,e4,e3,c,zai,znf,Bool.false_and]
     rfl
theorem zxn [Sym] (w:Wd) (hw:w.length=12) (st:SS) (hg:Gd st):∃ n,st.next≤n∧cc 58 [wV w] st=some (.bool (zc8 w),st.adv n):=by
 have hc:(wV w).cells.toList=wRow w:=zaG _
 have a0:At ((st.ro st.next).new (.cells (wRow w) 0)) st.next (wRow w):=At.new (st:=st.ro st.next) (zlr _) _
 have x1:Ext (st.ro st.next) ((st.ro st.next).new (.cells (wRow w) 0)):=(Ext.refl _).new _
 have c2:=zii st.next ((st.ro st.next).new (.cells (wRow w) 0))
 have x2:Ext ((st.ro st.next).new (.cells (wRow w) 0)) (((st.ro st.next).new (.cells (wRow w) 0)).new (.cells (plRow st.next) 1)):=(Ext.refl _).new _
 have hp:Pls (((st.ro st.next).new (.cells (wRow w) 0)).new (.cells (plRow st.next) 1)) st.next (st.next+1) w:=⟨SS.new_get (st:=(st.ro st.next).new (.cells (wRow w) 0)),by simp,a0.ext x2⟩
 obtain ⟨s',x',l⟩:=zur w hw st.next (st.next+1) _ ((hg.ro (n:=st.next)).ext (x1.trans x2)) hp 12 0 _ (by omega) (.refl _)
 have hnx:=x'.next
 simp at hnx
 have hlen:(lenV (.slice (some ⟨st.next+1,0,none⟩) 12 12)).bind (asI .i64)=some 12:=rfl
 have l':zdR 2 [.slice (some ⟨st.next+1,0,none⟩) 12 12,.int .i64 12,.int .i64 0] (((st.ro st.next).new (.cells (wRow w) 0)).new (.cells (plRow st.next) 1))=some (if zc8 w=true then (0,[],s') else (1,[.bool false],s')):=by
  have hg':zc8 w=(List.range' 0 12).all fun k=>fitsT (w.getD k 0) (zax k):=by unfold zc8;rw [List.range_eq_range']
  rw [hg']
  exact l
 refine ⟨s'.next,by omega,zpV _ st ?_⟩
 have b0:Nat.beq 0 0=true:=rfl
 have b1:Nat.beq 1 0=false:=rfl
 cases hgd:zc8 w with
 | true=>
   rw [hgd,if_pos rfl] at l'
   simp only [zj0,hc,SS.ro_next,c2,zob,SS.new_next,hlen,l',b0,zct]
 | false=>
   rw [hgd,if_neg (by decide)] at l'
   simp only [zj0,hc,SS.ro_next,c2,zob,SS.new_next,hlen,l',b1,zcf,zgz,zai]
def zcF:List Nat:=zb3.map (·.2)
def zee:List Nat→List Int→Int
 | n::ns,p::ps=>p+2^n*zee ns ps
 | _,_=>0
def zef (w:Wd):Int:=zee zcF w
theorem orU64 {a c s:Nat} (ha:a<2^s) (hc:a+c*2^s<2^64):orI .u64 (a:Int) ((c*2^s:Nat):Int)=((a+c*2^s:Nat):Int):=by
 have h1:a||| c*2^s=a+c*2^s:=by
  have:=Nat.two_pow_add_eq_or_of_lt ha c
  rw [Nat.or_comm,Nat.mul_comm,← this,Nat.add_comm]
 unfold orI
 have e:((BitVec.ofInt 64 (a:Int)||| BitVec.ofInt 64 ((c*2^s:Nat):Int)).toNat:Nat)=a+c*2^s:=by
  rw [BitVec.toNat_or,BitVec.ofInt_natCast,BitVec.ofInt_natCast,BitVec.toNat_ofNat,BitVec.toNat_ofNat,Nat.mod_eq_of_lt (by omega),Nat.mod_eq_of_lt (by omega),h1]
 show IntKind.wrap .u64 (((BitVec.ofInt 64 (a:Int)||| BitVec.ofInt 64 ((c*2^s:Nat):Int)).toNat:Nat):Int)=_
 rw [e]
 exact zey (by omega) (by omega)
theorem shl64 {c s:Nat} (hs:s<64) (hc:c*2^s<2^64):(aI .shl .u64 (c:Int) (s:Int)).bind (asI .u64)=some ((c*2^s:Nat):Int):=by
 have hb:¬ ((s:Int)<0):=by omega
 have e:min ((s:Int)).toNat (IntKind.bits .u64)=s:=by
  show min ((s:Int)).toNat 64=s
  rw [Int.toNat_natCast];omega
 have e2:zkv .u64 (c:Int) (s:Int)=((c*2^s:Nat):Int):=by
  unfold zkv
  rw [e]
  have:(c:Int)*2^s=((c*2^s:Nat):Int):=by simp
  rw [this]
  exact zey (by omega) (by omega)
 simp only [aI,zdf hb,zcf,zob,zaa,e2]
def za9 (k:Nat):Nat:=(zcF.take k).sum
theorem zk4 {k:Nat} (h:k<12):za9 (k+1)=za9 k+zax k:=by
 have:∀ k,k<12→za9 (k+1)=za9 k+zax k:=by decide+kernel
 exact this k h
theorem zxo {k:Nat} (h:k<12):za9 k+zax k≤64∧0<zax k:=by
 have:∀ k,k<12→za9 k+zax k≤64∧0<zax k:=by decide+kernel
 exact this k h
theorem znT {k:Nat} (h:k<12):zcF.drop k=zax k::zcF.drop (k+1):=by
 have:∀ k,k<12→zcF.drop k=zax k::zcF.drop (k+1):=by decide+kernel
 exact this k h
theorem getD_drop {w:Wd} {k:Nat} (h:k<w.length):w.drop k=w.getD k 0::w.drop (k+1):=by
 rw [List.drop_eq_getElem_cons h,List.getD_eq_getElem?_getD,zge h]
 rfl
theorem zj2 {w:Wd} (h:zc8 w=true) {k:Nat} (hk:k<12):∃ p:Nat,w.getD k 0=(p:Int)∧p<2^zax k:=by
 have:=List.all_eq_true.1 h k (List.mem_range.2 hk)
 unfold fitsT at this
 obtain ⟨h1,h2⟩:=of_decide_eq_true this
 obtain ⟨p,hp⟩:=Int.eq_ofNat_of_zero_le h1
 refine ⟨p,hp,?_⟩
 rw [hp] at h2
 have:((p:Int))<((2^zax k:Nat):Int):=by simpa using h2
 omega
theorem zus [Sym] (w:Wd) (hw:w.length=12) (hgd:zc8 w=true) (b j:Nat) (st0:SS) (hg:Gd st0) (hp:Pls st0 b j w):∀ (m k x:Nat),12=m+k→x<2^za9 k→
  zdS 5 [.int .u64 x,.int .i64 (za9 k),.slice (some ⟨j,0,none⟩) 12 12,.int .i64 12,.int .i64 k] st0=some (0,[.int .u64 ((x:Int)+2^za9 k*zee (zcF.drop k) (w.drop k))],st0):=by
 intro m
 induction m with
 | zero=>
   intro k x hk hx
   have:k=12:=by omega
   subst this
   refine zhK _ _ _ _ _ st0 ?_
   have e:zee (zcF.drop 12) (w.drop 12)=0:=rfl
   rw [e,Int.mul_zero,Int.add_zero]
   rfl
 | succ m ih=>
   intro k x hk hx
   have hkl:k<12:=by omega
   have h1:(k:Int)<12:=by omega
   have hnl:zaj (ptr b k)=some (ptr b k):=rfl
   obtain ⟨p,hp1,hp2⟩:=zj2 hgd hkl
   have hs:=zxo hkl
   have hss:=zk4 hkl
   have hw1:=zaX (i:=k) (by omega)
   have e1:=hp.ptr hkl
   have e2:=hp.part hw hkl
   rw [hp1] at e2
   have e3:=zk2 hg hkl
   have e4:=znQ hkl
   have hpow:2^zax k≤2^11:=Nat.pow_le_pow_right (by omega) (zgw k)
   have hw2:IntKind.wrap .u64 (p:Int)=(p:Int):=zey (by omega) (by omega)
   have hpm:p*2^za9 k+2^za9 k≤2^(za9 k+zax k):=by
    rw [Nat.pow_add,Nat.mul_comm (2^za9 k)]
    have:(p+1)*2^za9 k≤2^zax k*2^za9 k:=Nat.mul_le_mul_right _ hp2
    rw [Nat.add_mul] at this
    omega
   have h64:2^(za9 k+zax k)≤2^64:=Nat.pow_le_pow_right (by omega) hs.1
   have e5:=shl64 (c:=p) (s:=za9 k) (by omega) (by omega)
   have e6:=orU64 (a:=x) (c:=p) (s:=za9 k) hx (by omega)
   have hw3:IntKind.wrap .i64 ((za9 k:Int)+(zax k:Int))=((za9 (k+1):Nat):Int):=by rw [wrap64 (by omega) (by omega),hss];omega
   have:=ih (k+1) (x+p*2^za9 k) (by omega) (by rw [hss];omega)
   have e7:(((x+p*2^za9 k:Nat):Int)+2^za9 (k+1)*zee (zcF.drop (k+1)) (w.drop (k+1)))=(x:Int)+2^za9 k*zee (zcF.drop k) (w.drop k):=by
    rw [znT hkl,getD_drop (w:=w) (k:=k) (by omega),hp1]
    show _=(x:Int)+2^za9 k*((p:Int)+2^zax k*zee (zcF.drop (k+1)) (w.drop (k+1)))
    rw [hss,Int.pow_add,Int.mul_add,Int.mul_assoc]
    simp only [Int.natCast_add,Int.natCast_mul,Int.natCast_pow]
    rw [Int.mul_comm (p:Int)]
    simp [Int.add_assoc]
   rw [e7] at this
   refine zhK _ _ _ _ _ st0 ?_
   simp only [zkh,zdt h1,zct,plS hkl,zob,e1,hnl,zad,e2,zaa,hw2,e5,e6,e4,e3,hw3,hw1]
   exact this
theorem zxp [Sym] (w:Wd) (hw:w.length=12) (st:SS) (hg:Gd st):∃ n,st.next≤n∧cc 36 [wV w] st=some (if zc8 w=true then .tuple #[.int .u64 (zef w),.int .i64 0] else .tuple #[.int .u64 0,.int .i64 1],st.adv n):=by
 have hc:(wV w).cells.toList=wRow w:=zaG _
 have a0:At ((st.ro st.next).new (.cells (wRow w) 0)) st.next (wRow w):=At.new (st:=st.ro st.next) (zlr _) _
 have x1:Ext (st.ro st.next) ((st.ro st.next).new (.cells (wRow w) 0)):=(Ext.refl _).new _
 have l0:((st.ro st.next).new (.cells (wRow w) 0)).ldN st.next 0 12=some (wV w):=a0.ldN (by rw [zbc,hw])
 obtain ⟨n3,hn3,c3⟩:=zxn w hw _ ((hg.ro (n:=st.next)).ext x1)
 have x3:Ext ((st.ro st.next).new (.cells (wRow w) 0)) (((st.ro st.next).new (.cells (wRow w) 0)).adv n3):=(Ext.refl _).adv hn3
 simp at hn3
 have b0:Nat.beq 0 0=true:=rfl
 cases hgd:zc8 w with
 | false=>
   rw [hgd] at c3
   refine ⟨n3,by omega,zkg _ st ?_⟩
   simp only [zj1,hc,SS.ro_next,l0,c3,zob,zai,znf,zct]
   rfl
 | true=>
   rw [hgd] at c3
   have c5:=zii st.next (((st.ro st.next).new (.cells (wRow w) 0)).adv n3)
   have x5:Ext (((st.ro st.next).new (.cells (wRow w) 0)).adv n3) ((((st.ro st.next).new (.cells (wRow w) 0)).adv n3).new (.cells (plRow st.next) 1)):=(Ext.refl _).new _
   have hp:Pls ((((st.ro st.next).new (.cells (wRow w) 0)).adv n3).new (.cells (plRow st.next) 1)) st.next n3 w:=⟨SS.new_get (st:=((st.ro st.next).new (.cells (wRow w) 0)).adv n3),by simp,(a0.ext x3).ext x5⟩
   have l:=zus w hw hgd st.next n3 _ ((hg.ro (n:=st.next)).ext (x1.trans (x3.trans x5))) hp 12 0 0 (by omega) (by decide)
   have e:((0:Nat):Int)+2^za9 0*zee (zcF.drop 0) (w.drop 0)=zef w:=by
    rw [List.drop_zero,List.drop_zero]
    show (0:Int)+2^0*zef w=zef w
    omega
   rw [e] at l
   have l':zdS 5 [.int .u64 0,.int .i64 0,.slice (some ⟨n3,0,none⟩) 12 12,.int .i64 12,.int .i64 0] ((((st.ro st.next).new (.cells (wRow w) 0)).adv n3).new (.cells (plRow st.next) 1))=_:=l
   have hlen:(lenV (.slice (some ⟨n3,0,none⟩) 12 12)).bind (asI .i64)=some 12:=rfl
   refine ⟨n3+1,by omega,zkg _ st ?_⟩
   have hnx:(((st.ro st.next).new (.cells (wRow w) 0)).adv n3).next=n3:=rfl
   simp only [zj1,hc,SS.ro_next,l0,c3,zob,zai,znt,zcf,c5,hnx,hlen,l',zgz,zaa]
   rfl
end Go.Proofs.YtcplfckncandkaaGreatDoorE
namespace Go.Proofs.YtcplfckncandkaaGreatDoorE
open Go Go.E Go.Proofs
theorem flatV (w:Wd):flat3 (wV w)=true:=by
 show ((wRow w).toArray.toList.all zbn)=true
 simp [wRow,zbn]
end Go.Proofs.YtcplfckncandkaaGreatDoorE
namespace Go.Proofs.YtcplfckncandkaaGreatDoorE
set_option maxRecDepth 20000
open Go Go.E Go.Proofs
noncomputable def zmU (cf:zak) (lf:zab) (s':Value) (q':Nat) (st:SS):Option (Value×SS):=
 (cf 95 [s',.func (.func 73) #[] #[ptr q' 0]] (st.ro st.next)).bind fun a=>
 ((some a.1).bind (asI .i64)).bind fun b=>
 some (.bool (decide (0≤b)),st.adv a.2.next)
noncomputable abbrev zrD:zab:=lS Tryz.prog Lk0 Tryz.f72 zav
theorem zrE:Lk0.func 72=some (72,Tryz.f72):=by kernel_rfl
theorem zrF [Sym] (s':Value) (q':Nat) (st:SS) {r:Value×SS} (h:zmU cc zrD s' q' st=some r):cc 72 [s',.func (.func 73) #[] #[ptr q' 0]] st=some r:=
 zaf (li:=zav) zah zal zrE rfl (fun _=>rfl) (.trans (by kernel_rfl) h)
def zmh:LoopI:=⟨[(0,.any),(1,.any),(7,.int .i64),(8,.int .i64)],[(.exit 0,[]),(.ret,[(4,.int .i64)])]⟩
def znU (n:Nat):Option LoopI:=cond (Nat.beq n 2) (some zmh) (none)
noncomputable def zoI (cf:zak) (lf:zab) (s':Value) (q':Nat) (st:SS):Option (Value×SS):=
 ((lenV s').bind (asI .i64)).bind fun a=>
 (lf 2 [s',.func (.func 73) #[] #[ptr q' 0],.int .i64 a,.int .i64 0] (st.ro st.next)).bind fun b=>
 cond (Nat.beq b.1 0) (
 some (.int .i64 (-1),st.adv b.2.2.next)) (
 ((b.2.1[0]?).bind (asI .i64)).bind fun c=>
 some (.int .i64 c,st.adv b.2.2.next))
noncomputable abbrev zfI:zab:=lS Tryz.prog Lk0 Tryz.f95 znU
theorem zte:Lk0.func 95=some (95,Tryz.f95):=by kernel_rfl
theorem znV [Sym] (s':Value) (q':Nat) (st:SS) {r:Value×SS} (h:zoI cc zfI s' q' st=some r):cc 95 [s',.func (.func 73) #[] #[ptr q' 0]] st=some r:=
 zaf (li:=znU) zah zal zte rfl (fun _=>rfl) (.trans (by kernel_rfl) h)
noncomputable def zg6 (cf:zak) (lf:zab) (s':Value) (q':Nat) (t7':Int) (t8':Int) (st:SS):Option (Nat×List Value×SS):=
 cond (decide (t8'<t7')) (
 (zau s' t8' 5).bind fun a=>
 (st.ldN a.1 a.2 5).bind fun b=>
 (cf 73 [b,ptr q' 0] st).bind fun c=>
 ((some c.1).bind asB).bind fun d=>
 cond d (
 some (1,[.int .i64 t8'],c.2)) (
 let e:Int:=IntKind.wrap .i64 (t8'+1)
 lf 2 [s',.func (.func 73) #[] #[ptr q' 0],.int .i64 t7',.int .i64 e] c.2)) (
 some (0,[],st))
theorem zgI [Sym] (s':Value) (q':Nat) (t7':Int) (t8':Int) (st:SS) {r:Nat×List Value×SS} (h:zg6 cc zfI s' q' t7' t8' st=some r):zfI 2 [s',.func (.func 73) #[] #[ptr q' 0],.int .i64 t7',.int .i64 t8'] st=some r:=
 zay zah zal (key:=2) (I:=zmh) rfl (by kernel_rfl) (by kernel_rfl) rfl rfl (.trans (by kernel_rfl) h)
noncomputable def zut (cf:zak) (lf:zab) (y':Value) (x1':Value) (st:SS):Option (Value×SS):=
 let a:SS:=(st.ro st.next).new (.cells (y':Value).cells.toList 0)
 ((a.ld ((st.ro st.next).next) 0).bind asS).bind fun b=>
 (addr? x1').bind fun c=>
 ((a.ld c.1 c.2).bind asS).bind fun d=>
 some (.bool (eqT b d),st.adv a.next)
noncomputable abbrev zuu:zab:=lS Tryz.prog Lk0 Tryz.f73 zav
theorem zuv:Lk0.func 73=some (73,Tryz.f73):=by kernel_rfl
theorem zuw [Sym] (y':Value) (x1':Value) (st:SS) {r:Value×SS} (h:zut cc zuu y' x1' st=some r):cc 73 [y',x1'] st=some r:=
 zaf (li:=zav) zah zal zuv rfl (fun _=>rfl) (.trans (by kernel_rfl) h)
end Go.Proofs.YtcplfckncandkaaGreatDoorE
namespace Go.Proofs.YtcplfckncandkaaGreatDoorE
open Go Go.E Go.Proofs
def valRow (x:Val):List Value:=[.string (mkS x.nm),.int .i64 x.x,.int .i64 x.col]
def prRow (p:Pr):List Value:=[.string (mkS p.fd),.int .i64 p.col,.string (mkS p.v.nm),.int .i64 p.v.x,.int .i64 p.v.col]
abbrev Z3:List Value:=[.string ⟨#[]⟩,.int .i64 0,.int .i64 0]
theorem LineAt.sz {st:SS} {b i ln:Nat} {v:Value} {us:List (Nat×Tok)} {l:List Tok} (h:PAt st b v us i) (hl:LineAt us i ln l):i≤1099511627776:=by
 obtain ⟨t,r,rfl⟩:=hl.lin.ne
 have:=(List.getElem?_eq_some_iff.1 hl.head).1
 have:=h.sz
 omega
theorem zxq {n:Int} (h0:0≤n) (h1:n≤2147483647):IntKind.wrap .i64 (0-n)= -n:=by rw [wrap64 (by omega) (by omega)];omega
def ValR (b:Nat) (v:Value) (us:List (Nat×Tok)) (i:Nat) (st:SS) (r:Option (Value×SS)):Except Nat (Val×Nat)→Prop
 | .ok (x,n)=>∃ st',r=some (.tuple #[.agg (valRow x).toArray,.bool true],st')∧Mod [b] st st'∧PAt st' b v us (i+n)
 | .error o=>∃ w st',r=some (.tuple #[.agg (valRow w).toArray,.bool false],st')∧Mod [b] st st'∧PAt st' b v us (i+o)
theorem zqM [Sym] {st:SS} {b i ln:Nat} {v:Value} {us:List (Nat×Tok)} {l:List Tok} (h:PAt st b v us i) (hl:LineAt us i ln l):
  ValR b v us i st (cc 51 [ptr b 0] st) (zeC l):=by
 obtain ⟨t,r,rfl⟩:=hl.lin.ne
 have hb:=h.blk.lt
 have a1:At (st.new (.cells Z3 0)) st.next Z3:=At.new h.ll Z3
 have x1:Ext st (st.new (.cells Z3 0)):=(Ext.refl st).new _
 obtain ⟨n,hn,c1⟩:=zcy (h.ext x1).has hl.head
 have hn':st.next+1≤n:=hn
 obtain ⟨s5,e5,a5,x5,_⟩:=zkI (st:=(st.new (.cells Z3 0)).adv n) (zlt h.ll (by simp;omega)) (r:=Z3) (row:=[.string ⟨#[]⟩,.int .i64 0,.int .i64 t.col]) rfl rfl
 have x05:Ext st s5:=x1.trans ((Ext.advR _ hn).trans x5)
 have b5:At s5 st.next Z3:=(a1.adv hn).ext x5
 obtain ⟨s6,c6,m6,p6⟩:=zjP (h.ext x05) hl.head
 have a6:=a5.mod m6 (by simp;omega)
 have b6:=b5.mod m6 (by simp;omega)
 have M6:Mod [b] st s6:=(Mod.ofExt x05).then m6
 have k4:=(zcL (ln:=ln) (t:=t)).2.2.2
 have cN:∀ row:List Value,row.length=3→∀ d:List Value,d=row→True:=fun _ _ _ _=>trivial
 by_cases h2:t.kd=2
 ·rw [if_pos h2,zdt h2] at c6
  rw [if_pos h2] at p6
  obtain ⟨s9,e9,a9,m9,_⟩:=a6.sto (k:=1) (vs:=[.int .i64 t.nm]) (row':=valRow ⟨[],t.nm,t.col⟩) rfl rfl
  have b9:=b6.mod m9 (by simp;omega)
  obtain ⟨s11,f1,f2,f3,f4,_⟩:=zcx (n:=3) b9 rfl a9 rfl rfl
  rw [zg0,if_pos h2]
  refine ⟨s11,zbb _ st ?_,(M6.thenI m9 (.inl (by simp;omega))).thenI f4 (.inl (zlr _)),(p6.modI m9 (by simp;omega)).modI f4 hb⟩
  simp only [zbf,c1,zob,k4,e5,c6,zan,List.getElem?_toArray,zgs,zgz,zaa,zai,e9,zct,f1,f2,f3]
 ·rw [if_neg h2,zdf h2] at c6
  rw [if_neg h2] at p6
  obtain ⟨s9,e9,a9,m9,_⟩:=a6.sto (k:=1) (vs:=[.int .i64 0]) (row':=valRow ⟨[],0,t.col⟩) rfl rfl
  have b9:=b6.mod m9 (by simp;omega)
  have p9:=p6.modI m9 (by simp;omega)
  have M9:=M6.thenI m9 (.inl (by simp;omega))
  obtain ⟨s13,c13,m13,p13⟩:=zr7 p9 hl.head
  have a13:=a9.mod m13 (by simp;omega)
  have b13:=b9.mod m13 (by simp;omega)
  have M13:=M9.then m13
  rw [zg0,if_neg h2]
  by_cases h1:t.kd=1
  ·rw [if_pos h1,zdt h1] at c13
   rw [if_pos h1] at p13
   rw [if_pos h1]
   have hl1:=hl.tail (by omega)
   obtain ⟨s,u,rfl⟩:=hl1.lin.ne
   obtain ⟨s16,e16,a16,m16,_⟩:=a13.sto (k:=0) (vs:=[.string (mkS t.tx)]) (row':=valRow ⟨t.tx,0,t.col⟩) rfl rfl
   have b16:=b13.mod m16 (by simp;omega)
   have p16:=p13.modI m16 (by simp;omega)
   have M16:=M13.thenI m16 (.inl (by simp;omega))
   obtain ⟨s20,c20,m20,p20⟩:=zjO p16 hl1.head [43]
   have c20':cc 49 [ptr b 0,.string ⟨#[43]⟩] s16=some (.bool (zaM s [43]),s20):=c20
   have a20:=a16.mod m20 (by simp;omega)
   have b20:=b16.mod m20 (by simp;omega)
   have M20:=M16.then m20
   simp only
   by_cases hp:zaM s [43]=true
   ·rw [hp] at c20'
    rw [if_pos hp] at p20
    rw [if_pos hp]
    have hl2:=hl1.tail (by have:=zc1 hp;omega)
    obtain ⟨w,z,rfl⟩:=hl2.lin.ne
    obtain ⟨s22,c22,m22,p22⟩:=zjP p20 hl2.head
    have a22:=a20.mod m22 (by simp;omega)
    have b22:=b20.mod m22 (by simp;omega)
    have M22:=M20.then m22
    simp only
    by_cases hw:w.kd=2
    ·rw [if_pos hw,zdt hw] at c22
     rw [if_pos hw] at p22
     rw [if_pos hw]
     obtain ⟨s25,e25,a25,m25,_⟩:=a22.sto (k:=1) (vs:=[.int .i64 w.nm]) (row':=valRow ⟨t.tx,w.nm,t.col⟩) rfl rfl
     have b25:=b22.mod m25 (by simp;omega)
     obtain ⟨s27,f1,f2,f3,f4,_⟩:=zcx (n:=3) b25 rfl a25 rfl rfl
     refine ⟨s27,zbb _ st ?_,(M22.thenI m25 (.inl (by simp;omega))).thenI f4 (.inl (zlr _)),(p22.modI m25 (by simp;omega)).modI f4 hb⟩
     simp only [zbf,c1,zob,k4,e5,c6,zan,List.getElem?_toArray,zgs,zgz,zaa,zai,e9,zcf,c13,zac,e16,znt,c20',zct,c22,e25,f1,f2,f3]
    ·rw [if_neg hw,zdf hw] at c22
     rw [if_neg hw] at p22
     rw [if_neg hw]
     obtain ⟨s25,e25,a25,m25,_⟩:=a22.sto (k:=1) (vs:=[.int .i64 0]) (row':=valRow ⟨t.tx,0,t.col⟩) rfl rfl
     have b25:=b22.mod m25 (by simp;omega)
     obtain ⟨s27,f1,f2,f3,f4,_⟩:=zcx (n:=3) b25 rfl a25 rfl rfl
     refine ⟨⟨t.tx,0,t.col⟩,s27,zbb _ st ?_,(M22.thenI m25 (.inl (by simp;omega))).thenI f4 (.inl (zlr _)),(p22.modI m25 (by simp;omega)).modI f4 hb⟩
     simp only [zbf,c1,zob,k4,e5,c6,zan,List.getElem?_toArray,zgs,zgz,zaa,zai,e9,zcf,c13,zac,e16,znt,c20',zct,c22,e25,f1,f2,f3]
   ·rw [if_neg hp] at p20
    have hp':zaM s [43]=false:=Bool.eq_false_iff.2 hp
    rw [hp'] at c20'
    rw [if_neg hp]
    obtain ⟨s29,c29,m29,p29⟩:=zjO p20 hl1.head [45]
    have c29':cc 49 [ptr b 0,.string ⟨#[45]⟩] s20=some (.bool (zaM s [45]),s29):=c29
    have a29:=a20.mod m29 (by simp;omega)
    have b29:=b20.mod m29 (by simp;omega)
    have M29:=M20.then m29
    by_cases hm:zaM s [45]=true
    ·rw [hm] at c29'
     rw [if_pos hm] at p29
     rw [if_pos hm]
     have hl2:=hl1.tail (by have:=zc1 hm;omega)
     obtain ⟨w,z,rfl⟩:=hl2.lin.ne
     obtain ⟨s31,c31,m31,p31⟩:=zjP p29 hl2.head
     have a31:=a29.mod m31 (by simp;omega)
     have b31:=b29.mod m31 (by simp;omega)
     have M31:=M29.then m31
     simp only
     by_cases hw:w.kd=2
     ·rw [if_pos hw,zdt hw] at c31
      rw [if_pos hw] at p31
      rw [if_pos hw]
      obtain ⟨s34,e34,a34,m34,_⟩:=a31.sto (k:=1) (vs:=[.int .i64 w.nm]) (row':=valRow ⟨t.tx,w.nm,t.col⟩) rfl rfl
      have b34:=b31.mod m34 (by simp;omega)
      have l34:s34.ld ((st.new (.cells Z3 0)).adv n).next 1=some (.int .i64 w.nm):=a34.ld
      obtain ⟨s37,e37,a37,m37,_⟩:=a34.sto (k:=1) (vs:=[.int .i64 (-w.nm)]) (row':=valRow ⟨t.tx, -w.nm,t.col⟩) rfl rfl
      have b37:=b34.mod m37 (by simp;omega)
      obtain ⟨s39,f1,f2,f3,f4,_⟩:=zcx (n:=3) b37 rfl a37 rfl rfl
      have hneg:=zxq hl2.tok.nm0 hl2.tok.nm1
      refine ⟨s39,zbb _ st ?_,((M31.thenI m34 (.inl (by simp;omega))).thenI m37 (.inl (by simp;omega))).thenI f4 (.inl (zlr _)),((p31.modI m34 (by simp;omega)).modI m37 (by simp;omega)).modI f4 hb⟩
      simp only [zbf,c1,zob,k4,e5,c6,zan,List.getElem?_toArray,zgs,zgz,zaa,zai,e9,zcf,c13,zac,e16,znt,c20',c29',zct,c31,e34,l34,hneg,e37,f1,f2,f3]
     ·rw [if_neg hw,zdf hw] at c31
      rw [if_neg hw] at p31
      rw [if_neg hw]
      obtain ⟨s34,e34,a34,m34,_⟩:=a31.sto (k:=1) (vs:=[.int .i64 0]) (row':=valRow ⟨t.tx,0,t.col⟩) rfl rfl
      have b34:=b31.mod m34 (by simp;omega)
      have l34:s34.ld ((st.new (.cells Z3 0)).adv n).next 1=some (.int .i64 0):=a34.ld
      obtain ⟨s37,e37,a37,m37,_⟩:=a34.sto (k:=1) (vs:=[.int .i64 0]) (row':=valRow ⟨t.tx,0,t.col⟩) rfl rfl
      have b37:=b34.mod m37 (by simp;omega)
      obtain ⟨s39,f1,f2,f3,f4,_⟩:=zcx (n:=3) b37 rfl a37 rfl rfl
      have hneg:IntKind.wrap .i64 (0-0)=0:=by decide
      refine ⟨⟨t.tx,0,t.col⟩,s39,zbb _ st ?_,((M31.thenI m34 (.inl (by simp;omega))).thenI m37 (.inl (by simp;omega))).thenI f4 (.inl (zlr _)),((p31.modI m34 (by simp;omega)).modI m37 (by simp;omega)).modI f4 hb⟩
      simp only [zbf,c1,zob,k4,e5,c6,zan,List.getElem?_toArray,zgs,zgz,zaa,zai,e9,zcf,c13,zac,e16,znt,c20',c29',zct,c31,e34,l34,hneg,e37,f1,f2,f3]
    ·rw [if_neg hm] at p29
     have hm':zaM s [45]=false:=Bool.eq_false_iff.2 hm
     rw [hm'] at c29'
     rw [if_neg hm]
     obtain ⟨s42,f1,f2,f3,f4,_⟩:=zcx (n:=3) b29 rfl a29 rfl rfl
     refine ⟨s42,zbb _ st ?_,M29.thenI f4 (.inl (zlr _)),p29.modI f4 hb⟩
     simp only [zbf,c1,zob,k4,e5,c6,zan,List.getElem?_toArray,zgs,zgz,zaa,zai,e9,zcf,c13,zac,e16,znt,c20',c29',f1,f2,f3]
  ·rw [if_neg h1,zdf h1] at c13
   rw [if_neg h1] at p13
   rw [if_neg h1]
   obtain ⟨s16,e16,a16,m16,_⟩:=a13.sto (k:=0) (vs:=[.string (mkS [])]) (row':=valRow ⟨[],0,t.col⟩) rfl rfl
   have b16:=b13.mod m16 (by simp;omega)
   obtain ⟨s18,f1,f2,f3,f4,_⟩:=zcx (n:=3) b16 rfl a16 rfl rfl
   refine ⟨⟨[],0,t.col⟩,s18,zbb _ st ?_,(M13.thenI m16 (.inl (by simp;omega))).thenI f4 (.inl (zlr _)),(p13.modI m16 (by simp;omega)).modI f4 hb⟩
   simp only [zbf,c1,zob,k4,e5,c6,zan,List.getElem?_toArray,zgs,zgz,zaa,zai,e9,zcf,c13,zac,e16,znf,zct,f1,f2,f3]
theorem zpp (p:Pr):(prRow p).length=5:=rfl
theorem ztf (p:Val):(valRow p).length=3:=rfl
theorem zux [Sym] (p:Pr) (f:List UInt8) (q:Nat) (st:SS) (hq:st.mem.get q=some (.cells [.string (mkS f)] 0)) (hlt:q<st.next):∃ n,st.next≤n∧cc 73 [.agg (prRow p).toArray,ptr q 0] st=some (.bool (decide (p.fd=f)),st.adv n):=by
 refine ⟨st.next+1,by omega,zuw _ _ st ?_⟩
 have l0:((st.ro st.next).new (.cells (prRow p) 0)).ld st.next 0=some (.string (mkS p.fd)):=by
  have hm:((st.ro st.next).new (.cells (prRow p) 0)).mem.get st.next=some (.cells (prRow p) 0):=SS.new_get (st:=st.ro st.next)
  rw [SS.ld_cells hm];rfl
 have l1:((st.ro st.next).new (.cells (prRow p) 0)).ld q 0=some (.string (mkS f)):=by
  rw [SS.ld_cells (c:=[.string (mkS f)]) (z:=0) (by rw [SS.new_old (by simp;omega)];exact hq)];rfl
 simp only [zut,zaG,SS.ro_next,l0,zob,zac,zad,l1,zcW]
 rfl
theorem zuy [Sym] (ps:List Pr) (hsz:ps.length≤1099511627776) (f:List UInt8) (q:Nat) (v:Value) (st0:SS) (hv:Rd st0 v (rowsF prRow ps) 5 ps.length) (hq:st0.mem.get q=some (.cells [.string (mkS f)] 0)) (hlt:q<st0.next):
  ∀ (k j:Nat) (st:SS),ps.length=k+j→Ext st0 st→∃ e vs st',zfI 2 [v,.func (.func 73) #[] #[ptr q 0],.int .i64 ps.length,.int .i64 j] st=some (e,vs,st')∧Ext st0 st'∧
   ((e=0∧vs=[]∧f∉(ps.drop j).map (·.fd))∨(e=1∧f∈(ps.drop j).map (·.fd)∧∃ m:Nat,vs=[.int .i64 m])):=by
 intro k
 induction k with
 | zero=>
   intro j st hk he
   refine ⟨0,[],st,zgI v q _ _ st ?_,he,.inl ⟨rfl,rfl,?_⟩⟩
   ·have:¬ (j:Int)<(ps.length:Int):=by omega
    simp only [zg6,zdf this,zcf]
   ·rw [List.drop_of_length_le (by omega)];simp
 | succ k ih=>
   intro j st hk he
   obtain ⟨p,hp⟩:∃ p,ps[j]?=some p:=⟨_,zge (by omega)⟩
   have hjl:(j:Int)<(ps.length:Int):=by omega
   obtain ⟨x,b1,b2,_⟩:=(hv.ext he).load (j:=(j:Int)) (by omega) hjl (zaU zpp ps j p hp) rfl
   obtain ⟨n,hn,c1⟩:=zux p f q st (he.get hlt hq) (zll hlt he.next)
   have b2':st.ldN x.1 x.2 5=some (.agg (prRow p).toArray):=b2
   have hd:=drop_cons hp
   have hw:=zaX (i:=j) (by omega)
   by_cases hf:p.fd=f
   ·refine ⟨1,[.int .i64 j],st.adv n,zgI v q _ _ st ?_,he.adv (by have:=he.next;omega),.inr ⟨rfl,?_,j,rfl⟩⟩
    ·rw [zdt hf] at c1
     simp only [zg6,zdt hjl,zct,b1,zob,b2',c1,zai]
    ·rw [hd];simp [hf]
   ·obtain ⟨e,vs,st',d1,d2,d3⟩:=ih (j+1) (st.adv n) (by omega) (he.adv (by have:=he.next;omega))
    rw [zdf hf] at c1
    refine ⟨e,vs,st',zgI v q _ _ st ?_,d2,?_⟩
    ·simp only [zg6,zdt hjl,zct,b1,zob,b2',c1,zai,zcf,hw]
     exact d1
    ·rw [hd]
     rcases d3 with ⟨e1,e2,e3⟩ | ⟨e1,e2,e3⟩
     ·exact .inl ⟨e1,e2,by simp only [List.map_cons,List.mem_cons,not_or];exact ⟨fun x=>hf x.symm,e3⟩⟩
     ·exact .inr ⟨e1,by simp only [List.map_cons,List.mem_cons];exact .inr e2,e3⟩
theorem zxr [Sym] (ps:List Pr) (hsz:ps.length≤1099511627776) (f:List UInt8) (q:Nat) (v:Value) (st:SS) (hv:Rd st v (rowsF prRow ps) 5 ps.length) (hq:st.mem.get q=some (.cells [.string (mkS f)] 0)) (hlt:q<st.next):
  ∃ n,st.next≤n∧cc 72 [v,.func (.func 73) #[] #[ptr q 0]] st=some (.bool (decide (f∈ps.map (·.fd))),st.adv n):=by
 obtain ⟨e,vs,st',d1,d2,d3⟩:=zuy ps hsz f q v ((st.ro st.next).ro (st.ro st.next).next) hv hq hlt ps.length 0 ((st.ro st.next).ro (st.ro st.next).next) (by omega) (.refl _)
 have d1':zfI 2 [v,.func (.func 73) #[] #[ptr q 0],.int .i64 ps.length,.int .i64 0] ((st.ro st.next).ro (st.ro st.next).next)=some (e,vs,st'):=d1
 have hlen:(lenV v).bind (asI .i64)=some (ps.length:Int):=by rw [hv.len];rfl
 rw [List.drop_zero] at d3
 have hnx:=d2.next
 simp at hnx
 refine ⟨st'.next,hnx,zrF _ _ st ?_⟩
 rcases d3 with ⟨rfl,rfl,e3⟩ | ⟨rfl,e2,m,rfl⟩
 ·have c:cc 95 [v,.func (.func 73) #[] #[ptr q 0]] (st.ro st.next)=some (.int .i64 (-1),(st.ro st.next).adv st'.next):=by
   refine znV _ _ _ ?_
   have hb0:Nat.beq 0 0=true:=rfl
   simp only [zoI,hlen,zob,d1',hb0,zct]
  have h0:¬ (0:Int)≤ -1:=by omega
  rw [zdf e3]
  simp only [zmU,c,zob,zaa,zdf h0]
  rfl
 ·have c:cc 95 [v,.func (.func 73) #[] #[ptr q 0]] (st.ro st.next)=some (.int .i64 m,(st.ro st.next).adv st'.next):=by
   refine znV _ _ _ ?_
   have hb0:Nat.beq 1 0=false:=rfl
   simp only [zoI,hlen,zob,d1',hb0,zcf,zgz,zaa]
  have h0:(0:Int)≤(m:Int):=by omega
  rw [zdt e2]
  simp only [zmU,c,zob,zaa,zdt h0]
  rfl
end Go.Proofs.YtcplfckncandkaaGreatDoorE
namespace Go.Proofs.YtcplfckncandkaaGreatDoorE
open Go Go.E Go.Proofs
theorem PAt.keepB {S:List Nat} {st st':SS} {b i B:Nat} {v:Value} {us:List (Nat×Tok)} (h:PAt st b v us i) (k:Keep B S st st') (hB:b<B) (hS:∀ j,j∈S→b<j):PAt st' b v us i:=by
 refine ⟨h.blk.keepB k hB (fun hm=>by have:=hS b hm;omega),?_,h.vb,h.sz,k.ll h.ll⟩
 obtain ⟨h1,h2⟩:=h.rd
 refine ⟨h1,h2.imp id ?_⟩
 rintro ⟨j,cap,e,⟨z',hm⟩,hj⟩
 have hjb:=h.vb j 0 _ cap e
 exact ⟨j,cap,e,⟨z',(k.keep j (by omega) (fun hx=>by have:=hS j hx;omega)).trans hm⟩,zll hj k.next⟩
def PairR (B b lb:Nat) (w0 w1 w2 w3 pv v:Value) (us:List (Nat×Tok)) (i:Nat) (ps:List Pr) (st:SS) (r:Option (Value×SS)):Except Nat (Pr×Nat)→Prop
 | .ok (p,n)=>∃ st' pv',r=some (.bool true,st')∧Keep B [b,lb] st st'∧PAt st' b v us (i+n)∧At st' lb [w0,w1,w2,w3,pv']∧Own B st' pv' (rowsF prRow (ps++[p])) 5 (ps++[p]).length
 | .error o=>∃ st',r=some (.bool false,st')∧Keep B [b,lb] st st'∧PAt st' b v us (i+o)∧At st' lb [w0,w1,w2,w3,pv]∧Own B st' pv (rowsF prRow ps) 5 ps.length
theorem zxs [Sym] {st:SS} {b i ln lb B:Nat} {v w0 w1 w2 w3 pv:Value} {us:List (Nat×Tok)} {l:List Tok} {ps:List Pr} (h:PAt st b v us i) (hl:LineAt us i ln l)
  (ha:At st lb [w0,w1,w2,w3,pv]) (hbl:b<lb) (hlB:lb<B) (hB:B≤st.next) (hps:ps.length≤1099511627776/8) (ho:Own B st pv (rowsF prRow ps) 5 ps.length):
  PairR B b lb w0 w1 w2 w3 pv v us i ps st (cc 52 [ptr b 0,ptr lb 0] st) (pairT (ps.map (·.fd)) l):=by
 obtain ⟨t,r,rfl⟩:=hl.lin.ne
 have hisz:=LineAt.sz h hl
 have hb:=h.blk.lt
 have hlim:st.lim≤B:=by have:=ha.2.2;omega
 obtain ⟨n1,hn1,c1⟩:=zcy h.has hl.head
 obtain ⟨s4,e4,a4,x4,_⟩:=zkI (st:=st.adv n1) (zlt h.ll hn1) (r:=[.string ⟨#[]⟩,.int .i64 0,.string ⟨#[]⟩,.int .i64 0,.int .i64 0]) (row:=prRow ⟨[],t.col,⟨[],0,0⟩⟩) rfl rfl
 have x04:Ext st s4:=(Ext.advR st hn1).trans x4
 obtain ⟨n2,hn2,c2⟩:=zcy (h.ext x04).has hl.head
 obtain ⟨s8,e8,a8,x8,_⟩:=zkI (st:=s4.adv n2) (zlt (x04.ll h.ll) hn2) (r:=[.string ⟨#[]⟩]) (row:=[.string (mkS t.tx)]) rfl rfl
 have x08:Ext st s8:=x04.trans ((Ext.advR s4 hn2).trans x8)
 have a48:=(a4.adv hn2).ext x8
 obtain ⟨n3,hn3,c3⟩:=zcy (h.ext x08).has hl.head
 have x03:Ext st (s8.adv n3):=x08.trans (.advR s8 hn3)
 have p3:=h.ext x03
 have la:=ha.ext x03
 have l4:(s8.adv n3).ld lb 4=some pv:=la.ld
 have k0:=(zcL (ln:=ln) (t:=t)).1
 have k1:=(zcL (ln:=ln) (t:=t)).2.1
 have k4:=(zcL (ln:=ln) (t:=t)).2.2.2
 have e4':((st.adv n1).new (.cells [.string ⟨#[]⟩,.int .i64 0,.string ⟨#[]⟩,.int .i64 0,.int .i64 0] 0)).st (st.adv n1).next 0 [.string ⟨#[]⟩,.int .i64 t.col,.string ⟨#[]⟩,.int .i64 0,.int .i64 0]=some s4:=e4
 rw [zjK]
 by_cases h1:t.kd=1
 case neg=>
  have h1':¬ (t.kd:Int)=1:=by omega
  rw [if_neg (fun x=>h1 x.1)]
  refine ⟨s8.adv n3,zbO _ _ st ?_,x03.keepB hB,p3,la,ho.ext x03⟩
  simp only [zbN,c1,zob,k4,e4',c2,k1,e8,c3,k0,zdf h1',znf,zct]
 have h1':(t.kd:Int)=1:=by omega
 obtain ⟨m,hm,c5⟩:=zxr ps (by omega) t.tx (s4.adv n2).next pv (s8.adv n3) (ho.ext x03).rd (a8.adv hn3).mem (a8.adv hn3).lt
 have x05:Ext st ((s8.adv n3).adv m):=x03.trans (.advR _ hm)
 by_cases hk:t.tx∈ps.map (·.fd)
 ·rw [if_neg (fun x=>x.2 hk)]
  rw [zdt hk] at c5
  refine ⟨(s8.adv n3).adv m,zbO _ _ st ?_,x05.keepB hB,h.ext x05,ha.ext x05,ho.ext x05⟩
  simp only [zbN,c1,zob,k4,e4',c2,k1,e8,c3,k0,zdt h1',znt,zcf,zaw,zad,Nat.zero_add,l4,c5,zai,zct]
 rw [if_pos ⟨h1,hk⟩]
 rw [zdf hk] at c5
 have hl1:=hl.tail (by omega)
 obtain ⟨e,u,rfl⟩:=hl1.lin.ne
 have q8:=(a8.adv hn3).adv hm
 have l16:((s8.adv n3).adv m).ld (s4.adv n2).next 0=some (.string (mkS t.tx)):=q8.ld
 obtain ⟨s17,e17,a17,m17,_⟩:=((a48.adv hn3).adv hm).sto (k:=0) (vs:=[.string (mkS t.tx)]) (row':=prRow ⟨t.tx,t.col,⟨[],0,0⟩⟩) rfl rfl
 have hj1:B≤(st.adv n1).next:=zlt hB hn1
 have p17:=(h.ext x05).modI m17 (by omega)
 have la17:=(ha.ext x05).mod m17 (by simp;omega)
 have o17:=(ho.ext x05)
 have K17:Keep B [b,lb] st s17:=(x05.keepB hB).thenI m17 (zlt hB x05.next) (.inl hj1)
 have o17:Own B s17 pv (rowsF prRow ps) 5 ps.length:=by
  refine (ho.ext x05).mod m17 (fun j k l' q hv hm'=>?_)
  have hj:j=(st.adv n1).next:=by simpa using hm'
  obtain ⟨_,⟨ev,_⟩ | ⟨i',ev,_,_,_,hi'⟩⟩:=ho
  ·rw [ev] at hv;cases hv
  ·rw [ev] at hv;cases hv
   have:st.next≤(st.adv n1).next:=hn1
   omega
 have l17:s17.ld b 1=some (.int .i64 i):=p17.blk.ld
 obtain ⟨s24,e24,p24,m24,_⟩:=p17.move (i+1)
 have la24:=la17.mod m24 (by simp;omega)
 have a24:=a17.mod m24 (by simp;omega)
 have nx17:B≤s17.next:=zlt hB K17.next
 have K24:=K17.thenI m24 nx17 (.inr (by simp))
 have o24:=o17.modLt m24 (by simp;omega)
 have hw:=zaX hisz
 obtain ⟨s25,c25,m25,p25⟩:=zjO p24 hl1.head [61]
 have c25':cc 49 [ptr b 0,.string ⟨#[61]⟩] s24=some (.bool (zaM e [61]),s25):=c25
 have la25:=la24.mod m25 (by simp;omega)
 have a25:=a24.mod m25 (by simp;omega)
 have nx24:B≤s24.next:=zlt hB K24.next
 have K25:=K24.thenI m25 nx24 (.inr (by simp))
 have o25:=o24.modLt m25 (by simp;omega)
 simp only
 by_cases he:zaM e [61]=true
 case neg=>
  have he':zaM e [61]=false:=Bool.eq_false_iff.2 he
  rw [he'] at c25'
  rw [if_neg he] at p25
  rw [if_neg he]
  refine ⟨s25,zbO _ _ st ?_,K25,p25,la25,o25⟩
  simp only [zbN,c1,zob,k4,e4',c2,k1,e8,c3,k0,zdt h1',znt,zcf,zaw,zad,Nat.zero_add,l4,c5,zai,l16,zac,e17,l17,zaa,hw,e24,c25',znf,zct]
 rw [he] at c25'
 rw [if_pos he] at p25
 rw [if_pos he]
 have hl2:=hl1.tail (by have:=zc1 he;omega)
 have nx25:B≤s25.next:=zlt hB K25.next
 have hval:=zqM p25 hl2
 cases hx:zeC u with
 | error o=>
   rw [hx] at hval
   obtain ⟨w,s27,c27,m27,p27⟩:=hval
   have la27:=la25.mod m27 (by simp;omega)
   have a27:=a25.mod m27 (by simp;omega)
   have K27:=K25.thenI m27 nx25 (.inr (by simp))
   have o27:=o25.modLt m27 (by simp;omega)
   obtain ⟨s30,e30,a30,m30,_⟩:=a27.stV (k:=2) (n:=3) (zaG (valRow w)) rfl rfl (row':=prRow ⟨t.tx,t.col,w⟩) rfl
   have la30:=la27.mod m30 (by simp;omega)
   have nx27:B≤s27.next:=zlt hB K27.next
   have K30:=K27.thenI m30 nx27 (.inl hj1)
   have p30:=p27.modI m30 (by omega)
   have o30:Own B s30 pv (rowsF prRow ps) 5 ps.length:=by
    refine o27.mod m30 (fun j k l' q hv hm'=>?_)
    have hj:j=(st.adv n1).next:=by simpa using hm'
    obtain ⟨_,⟨ev,_⟩ | ⟨i',ev,_,_,_,hi'⟩⟩:=ho
    ·rw [ev] at hv;cases hv
    ·rw [ev] at hv;cases hv
     have:st.next≤(st.adv n1).next:=hn1
     omega
   refine ⟨s30,zbO _ _ st ?_,K30,by have e':i+1+1+o=i+(2+o):=by omega
                                    rw [← e'];exact p30,la30,o30⟩
   simp only [zbN,c1,zob,k4,e4',c2,k1,e8,c3,k0,zdt h1',znt,zcf,zaw,zad,Nat.zero_add,l4,c5,zai,l16,zac,e17,l17,zaa,hw,e24,c25',c27,zan,List.getElem?_toArray,zgs,zgz,e30,znf,zct]
 | ok y=>
   obtain ⟨x,n⟩:=y
   rw [hx] at hval
   obtain ⟨s27,c27,m27,p27⟩:=hval
   have la27:=la25.mod m27 (by simp;omega)
   have a27:=a25.mod m27 (by simp;omega)
   have K27:=K25.thenI m27 nx25 (.inr (by simp))
   have o27:=o25.modLt m27 (by simp;omega)
   obtain ⟨s30,e30,a30,m30,_⟩:=a27.stV (k:=2) (n:=3) (zaG (valRow x)) rfl rfl (row':=prRow ⟨t.tx,t.col,x⟩) rfl
   have la30:=la27.mod m30 (by simp;omega)
   have nx27:B≤s27.next:=zlt hB K27.next
   have K30:=K27.thenI m30 nx27 (.inl hj1)
   have p30:=p27.modI m30 (by omega)
   have o30:Own B s30 pv (rowsF prRow ps) 5 ps.length:=by
    refine o27.mod m30 (fun j k l' q hv hm'=>?_)
    have hj:j=(st.adv n1).next:=by simpa using hm'
    obtain ⟨_,⟨ev,_⟩ | ⟨i',ev,_,_,_,hi'⟩⟩:=ho
    ·rw [ev] at hv;cases hv
    ·rw [ev] at hv;cases hv
     have:st.next≤(st.adv n1).next:=hn1
     omega
   have l33:s30.ld lb 4=some pv:=la30.ld
   have l34:s30.ldN (st.adv n1).next 0 5=some (.agg (prRow ⟨t.tx,t.col,x⟩).toArray):=a30.ldN rfl
   have hc35:zaW (.agg (prRow ⟨t.tx,t.col,x⟩).toArray) 5=some (prRow ⟨t.tx,t.col,x⟩):=zjG rfl
   have nx30:B≤s30.next:=zlt hB K30.next
   obtain ⟨pv',s37,g1,g2,g3⟩:=o30.pushK nx30 (by rw [K30.lim];exact hlim) (row:=prRow ⟨t.tx,t.col,x⟩) rfl (by omega) rfl (bt:=56) (by omega) (by omega)
   have la37:=la30.keepB (g3 []) hlB (by simp)
   have p37:=p30.keepB (g3 []) (by omega) (by simp)
   have K37:=K30.then (g3 _)
   obtain ⟨s40,e40,a40,m40,_⟩:=la37.stV (k:=4) (n:=1) g2.cell.1 rfl (by simp [g2.cell.2]) (row':=[w0,w1,w2,w3,pv']) rfl
   have nx37:B≤s37.next:=zlt hB K37.next
   have K40:=K37.thenI m40 nx37 (.inr (by simp))
   have p40:=p37.modI m40 hbl
   have o40:=g2.modLt m40 (by simp;omega)
   refine ⟨s40,pv',zbO _ _ st ?_,K40,by have e':i+1+1+n=i+(2+n):=by omega
                                        rw [← e'];exact p40,a40,?_⟩
   ·simp only [zbN,c1,zob,k4,e4',c2,k1,e8,c3,k0,zdt h1',znt,zcf,zaw,zad,Nat.zero_add,l4,c5,zai,l16,zac,e17,l17,zaa,hw,e24,c25',c27,zan,List.getElem?_toArray,zgs,zgz,e30,l33,l34,hc35,List.append_nil,g1,e40]
   ·rw [zcj,zdz,List.length_append];exact o40
end Go.Proofs.YtcplfckncandkaaGreatDoorE
namespace Go.Proofs.YtcplfckncandkaaGreatDoorE
open Go Go.E Go.Proofs
theorem LineAt.go {us:List (Nat×Tok)} {i ln n:Nat} {l:List Tok} (h:LineAt us i ln l) (hn:Lin (l.drop n)):LineAt us (i+n) ln (l.drop n):=by
 have hlt:n<l.length:=by
  obtain ⟨t,r,e⟩:=hn.ne
  have:=congrArg List.length e
  simp at this
  omega
 refine ⟨?_,hn,fun t ht=>h.ok t (List.mem_of_mem_drop ht)⟩
 obtain ⟨rest,hr⟩:=h.drop
 refine ⟨rest,?_⟩
 rw [← List.drop_drop,hr,List.drop_append_of_le_length (by simp;omega),List.map_drop]
theorem zoJ {S:List Nat} {B:Nat} {st st':SS} {pv:Value} {c:List Value} {z n j:Nat} (ho:Own B st pv c z n) (m:Mod [j] st st') (hj:j<B∨st.next≤j):Own B st' pv c z n:=by
 refine ho.mod m (fun k k' l' q hv hm'=>?_)
 have hk:k=j:=by simpa using hm'
 obtain ⟨_,⟨ev,_⟩ | ⟨i',ev,_,_,hbi,hi'⟩⟩:=ho
 ·rw [ev] at hv;cases hv
 ·rw [ev] at hv;cases hv;omega
def zqN (B b lb j2:Nat) (w0 w1 w2 w3 v:Value) (us:List (Nat×Tok)) (i e:Nat) (ps:List Pr) (st:SS) (r:Option (Nat×List Value×SS)):Except Nat (List Pr)→Prop
 | .ok qs=>∃ st' pv',r=some (0,[ptr j2 0,ptr lb 0],st')∧Keep B [b,lb] st st'∧PAt st' b v us e∧At st' lb [w0,w1,w2,w3,pv']∧Own B st' pv' (rowsF prRow (ps++qs)) 5 (ps++qs).length
 | .error o=>∃ st' row,r=some (1,[ptr j2 0,.bool false],st')∧Keep B [b,lb,j2] st st'∧PAt st' b v us (i+o)∧At st' j2 row∧row.length=5∧row.all one=true
theorem ztg [Sym] {ln lb B b j2:Nat} {v w0 w1 w2 w3:Value} {us:List (Nat×Tok)} (hbj:b<j2) (hjl:j2<lb) (hlB:lb<B) (hw:one w0=true∧one w1=true∧one w2=true∧one w3=true):∀ (k i:Nat) (l:List Tok) (ps:List Pr) (pv:Value) (st:SS),l.length≤k→ps.length+k≤1099511627776/8→PAt st b v us i→LineAt us i ln l→
  At st lb [w0,w1,w2,w3,pv]→(∃ r2,At st j2 r2∧r2.length=5)→B≤st.next→Own B st pv (rowsF prRow ps) 5 ps.length→
  zqN B b lb j2 w0 w1 w2 w3 v us i (i+(l.length-1)) ps st (zaH 17 [ptr b 0,ptr j2 0,ptr lb 0] st) (zbx k (ps.map (·.fd)) l):=by
 intro k
 induction k with
 | zero=>
   intro i l ps pv st hk _ h hl
   obtain ⟨t,r,rfl⟩:=hl.lin.ne
   simp at hk
 | succ k ih=>
   intro i l ps pv st hk hps h hl ha hj2 hB ho
   obtain ⟨t,r,rfl⟩:=hl.lin.ne
   obtain ⟨n1,hn1,c1⟩:=zcy h.has hl.head
   have k0:=(zcL (ln:=ln) (t:=t)).1
   have x1:Ext st (st.adv n1):=.advR st hn1
   unfold zbx
   by_cases h0:t.kd=0
   ·rw [if_pos h0]
    have hr:=hl.lin.last h0
    subst hr
    have h0':(t.kd:Int)=0:=by omega
    refine ⟨st.adv n1,pv,zcD _ _ _ st ?_,x1.keepB hB,by simpa using h.ext x1,ha.ext x1,by simpa using ho.ext x1⟩
    simp only [zce,c1,zob,k0,zdt h0',znt,zcf]
   ·rw [if_neg h0]
    have h0':¬ (t.kd:Int)=0:=by omega
    have hp:=zxs (h.ext x1) hl (ha.ext x1) (by omega) hlB (zlt hB hn1) (by omega) (ho.ext x1)
    have hlin:=zpm (seen:=ps.map (·.fd)) hl.lin
    cases hx:pairT (ps.map (·.fd)) (t::r) with
    | error o=>
      rw [hx] at hp
      obtain ⟨s3,c3,K3,p3,a3,o3⟩:=hp
      have K3':Keep B [b,lb] st s3:=(x1.keepB hB).then K3
      obtain ⟨r2,a2,l2⟩:=hj2
      have a23:=a2.keepB K3' (by omega) (by simp;omega)
      obtain ⟨s8,f1,f2,f3,f4,f5⟩:=zcx (n:=5) a23 l2 a3 rfl (by simp [hw,o3.cell.2])
      have nx3:B≤s3.next:=zlt hB K3'.next
      refine ⟨s8,[w0,w1,w2,w3,pv],zcD _ _ _ st ?_,(K3'.mono (zlr _) (fun j hj _=>by simp at hj ⊢;omega)).thenI f4 nx3 (.inr (by simp)),p3.modI f4 hbj,f5,rfl,by simp [hw,o3.cell.2]⟩
      simp only [zce,c1,zob,k0,zdf h0',znf,zct,c3,zai,zad,f1,f2]
    | ok y=>
      obtain ⟨p,n⟩:=y
      rw [hx] at hp hlin
      obtain ⟨s3,pv',c3,K3,p3,a3,o3⟩:=hp
      simp only at hlin
      have K3':Keep B [b,lb] st s3:=(x1.keepB hB).then K3
      have hnl:n<(t::r).length:=by
       obtain ⟨t',r',e⟩:=hlin.1.ne
       have:=congrArg List.length e
       simp at this ⊢
       omega
      have hj23:∃ r2,At s3 j2 r2∧r2.length=5:=by
       obtain ⟨r2,a2,l2⟩:=hj2
       exact ⟨r2,a2.keepB K3' (by omega) (by simp;omega),l2⟩
      have next:=ih (i+n) ((t::r).drop n) (ps++[p]) pv' s3 (by rw [List.length_drop];omega) (by simp;omega) p3 (hl.go hlin.1) a3 hj23 (zlt hB K3'.next) o3
      have hend:i+n+(((t::r).drop n).length-1)=i+((t::r).length-1):=by rw [List.length_drop];omega
      rw [hend,List.map_append] at next
      have step:∀ y,zaH 17 [ptr b 0,ptr j2 0,ptr lb 0] s3=some y→zaH 17 [ptr b 0,ptr j2 0,ptr lb 0] st=some y:=fun y hy=>by
       refine zcD _ _ _ st ?_
       simp only [zce,c1,zob,k0,zdf h0',znf,zct,c3,zai,znt,zcf]
       exact hy
      simp only
      have next':zqN B b lb j2 w0 w1 w2 w3 v us (i+n) (i+((t::r).length-1)) (ps++[p]) s3 (zaH 17 [ptr b 0,ptr j2 0,ptr lb 0] s3) (zbx k (ps.map (·.fd)++[p.fd]) ((t::r).drop n)):=next
      cases hz:zbx k (ps.map (·.fd)++[p.fd]) ((t::r).drop n) with
      | error o=>
        rw [hz] at next'
        obtain ⟨st',row,d1,d2,d3,d4,d5,d6⟩:=next'
        exact ⟨st',row,step _ d1,(K3'.mono (zlr _) (fun j hj _=>by simp at hj ⊢;omega)).then d2,by rw [Nat.add_assoc] at d3;exact d3,d4,d5,d6⟩
      | ok qs=>
        rw [hz] at next'
        obtain ⟨st',pv2,d1,d2,d3,d4,d5⟩:=next'
        exact ⟨st',pv2,step _ d1,K3'.then d2,d3,d4,by simpa using d5⟩
def ArgsR (B b lb j2:Nat) (w0 w1 w2 w4 v:Value) (us:List (Nat×Tok)) (i e:Nat) (vs:List Val) (st:SS) (r:Option (Nat×List Value×SS)):Except Nat (List Val)→Prop
 | .ok qs=>∃ st' av',r=some (0,[ptr j2 0,ptr lb 0],st')∧Keep B [b,lb] st st'∧PAt st' b v us e∧At st' lb [w0,w1,w2,av',w4]∧Own B st' av' (rowsF valRow (vs++qs)) 3 (vs++qs).length
 | .error o=>∃ st' row,r=some (1,[ptr j2 0,.bool false],st')∧Keep B [b,lb,j2] st st'∧PAt st' b v us (i+o)∧At st' j2 row∧row.length=5∧row.all one=true
theorem zuz [Sym] {ln lb B b j2:Nat} {v w0 w1 w2 w4:Value} {us:List (Nat×Tok)} (hbj:b<j2) (hjl:j2<lb) (hlB:lb<B) (hw:one w0=true∧one w1=true∧one w2=true∧one w4=true):∀ (k i:Nat) (l:List Tok) (vs:List Val) (av:Value) (st:SS),l.length≤k→vs.length+k≤1099511627776/8→PAt st b v us i→LineAt us i ln l→
  At st lb [w0,w1,w2,av,w4]→(∃ r2,At st j2 r2∧r2.length=5)→B≤st.next→Own B st av (rowsF valRow vs) 3 vs.length→
  ArgsR B b lb j2 w0 w1 w2 w4 v us i (i+(l.length-1)) vs st (zaH 11 [ptr b 0,ptr j2 0,ptr lb 0] st) (zdJ k l):=by
 intro k
 induction k with
 | zero=>
   intro i l vs av st hk _ h hl
   obtain ⟨t,r,rfl⟩:=hl.lin.ne
   simp at hk
 | succ k ih=>
   intro i l vs av st hk hvs h hl ha hj2 hB ho
   obtain ⟨t,r,rfl⟩:=hl.lin.ne
   obtain ⟨n1,hn1,c1⟩:=zcy h.has hl.head
   have k0:=(zcL (ln:=ln) (t:=t)).1
   have x1:Ext st (st.adv n1):=.advR st hn1
   have hlim:st.lim≤B:=by have:=ha.2.2;omega
   unfold zdJ
   by_cases h0:t.kd=0
   ·rw [if_pos h0]
    have hr:=hl.lin.last h0
    subst hr
    have h0':(t.kd:Int)=0:=by omega
    refine ⟨st.adv n1,av,zcC _ _ _ st ?_,x1.keepB hB,by simpa using h.ext x1,ha.ext x1,by simpa using ho.ext x1⟩
    simp only [zcd,c1,zob,k0,zdt h0',znt,zcf]
   ·rw [if_neg h0]
    have h0':¬ (t.kd:Int)=0:=by omega
    have hp:=zqM (h.ext x1) hl
    have hlin:=zkR hl.lin
    have nx1:B≤(st.adv n1).next:=zlt hB hn1
    cases hx:zeC (t::r) with
    | error o=>
      rw [hx] at hp
      obtain ⟨w,s3,c3,m3,p3⟩:=hp
      have K3:Keep B [b,lb] st s3:=(x1.keepB hB).thenI m3 nx1 (.inr (by simp))
      have nx3:B≤s3.next:=zlt hB K3.next
      obtain ⟨s7,e7,a7,x7,_⟩:=zaV (st:=s3) p3.ll (r:=Z3) (zaG (valRow w)) (n:=3) rfl rfl rfl
      have K7:=K3.thenX x7 nx3
      have nx7:B≤s7.next:=zlt hB K7.next
      obtain ⟨r2,a2,l2⟩:=hj2
      have a27:=a2.keepB K7 (by omega) (by simp;omega)
      have la7:At s7 lb [w0,w1,w2,av,w4]:=(((ha.ext x1).mod m3 (by simp;omega))).ext x7
      have o7:=((ho.ext x1).modLt m3 (by simp;omega)).ext x7
      obtain ⟨s8,f1,f2,f3,f4,f5⟩:=zcx (n:=5) a27 l2 la7 rfl (by simp [hw,o7.cell.2])
      refine ⟨s8,[w0,w1,w2,av,w4],zcC _ _ _ st ?_,(K7.mono (zlr _) (fun j hj _=>by simp at hj ⊢;omega)).thenI f4 nx7 (.inr (by simp)),(p3.ext x7).modI f4 hbj,f5,rfl,by simp [hw,o7.cell.2]⟩
      simp only [zcd,c1,zob,k0,zdf h0',znf,zct,c3,zan,List.getElem?_toArray,zgs,zgz,zai,e7,zad,f1,f2]
    | ok y=>
      obtain ⟨x,n⟩:=y
      rw [hx] at hp hlin
      obtain ⟨s3,c3,m3,p3⟩:=hp
      simp only at hlin
      have K3:Keep B [b,lb] st s3:=(x1.keepB hB).thenI m3 nx1 (.inr (by simp))
      have nx3:B≤s3.next:=zlt hB K3.next
      obtain ⟨s7,e7,a7,x7,_⟩:=zaV (st:=s3) p3.ll (r:=Z3) (zaG (valRow x)) (n:=3) rfl rfl rfl
      have K7:=K3.thenX x7 nx3
      have nx7:B≤s7.next:=zlt hB K7.next
      have la7:At s7 lb [w0,w1,w2,av,w4]:=(((ha.ext x1).mod m3 (by simp;omega))).ext x7
      have o7:=((ho.ext x1).modLt m3 (by simp;omega)).ext x7
      have l13:s7.ld lb 3=some av:=la7.ld
      have l14:s7.ldN s3.next 0 3=some (.agg (valRow x).toArray):=a7.ldN rfl
      have hc15:zaW (.agg (valRow x).toArray) 3=some (valRow x):=zjG rfl
      obtain ⟨av',s17,g1,g2,g3⟩:=o7.pushK nx7 (by rw [K7.lim];exact hlim) (row:=valRow x) rfl (by omega) rfl (bt:=32) (by omega) (by omega)
      have la17:=la7.keepB (g3 []) hlB (by simp)
      have p17:=(p3.ext x7).keepB (g3 []) (by omega) (by simp)
      have K17:=K7.then (g3 _)
      obtain ⟨s19,e19,a19,m19,_⟩:=la17.stV (k:=3) (n:=1) g2.cell.1 rfl (by simp [g2.cell.2]) (row':=[w0,w1,w2,av',w4]) rfl
      have nx17:B≤s17.next:=zlt hB K17.next
      have K19:=K17.thenI m19 nx17 (.inr (by simp))
      have p19:=p17.modI m19 (by omega)
      have o19:=g2.modLt m19 (by simp;omega)
      have o19':Own B s19 av' (rowsF valRow (vs++[x])) 3 (vs++[x]).length:=by rw [zcj,zdz,List.length_append];exact o19
      have hnl:n<(t::r).length:=by
       obtain ⟨t',r',e⟩:=hlin.1.ne
       have:=congrArg List.length e
       simp at this ⊢
       omega
      have hj23:∃ r2,At s19 j2 r2∧r2.length=5:=by
       obtain ⟨r2,a2,l2⟩:=hj2
       exact ⟨r2,a2.keepB K19 (by omega) (by simp;omega),l2⟩
      have next:=ih (i+n) ((t::r).drop n) (vs++[x]) av' s19 (by rw [List.length_drop];omega) (by simp;omega) p19 (hl.go hlin.1) a19 hj23 (zlt hB K19.next) o19'
      have hend:i+n+(((t::r).drop n).length-1)=i+((t::r).length-1):=by rw [List.length_drop];omega
      rw [hend] at next
      have step:∀ y,zaH 11 [ptr b 0,ptr j2 0,ptr lb 0] s19=some y→zaH 11 [ptr b 0,ptr j2 0,ptr lb 0] st=some y:=fun y hy=>by
       refine zcC _ _ _ st ?_
       simp only [zcd,c1,zob,k0,zdf h0',znf,zct,c3,zan,List.getElem?_toArray,zgs,zgz,zai,znt,zcf,e7,zad,l13,l14,hc15,List.append_nil,g1,e19]
       exact hy
      simp only
      cases hz:zdJ k ((t::r).drop n) with
      | error o=>
        rw [hz] at next
        obtain ⟨st',row,d1,d2,d3,d4,d5,d6⟩:=next
        exact ⟨st',row,step _ d1,(K19.mono (zlr _) (fun j hj _=>by simp at hj ⊢;omega)).then d2,by rw [Nat.add_assoc] at d3;exact d3,d4,d5,d6⟩
      | ok qs=>
        rw [hz] at next
        obtain ⟨st',pv2,d1,d2,d3,d4,d5⟩:=next
        exact ⟨st',pv2,step _ d1,K19.then d2,d3,d4,by simpa using d5⟩
noncomputable def zgc (cf:zak) (lf:zab) (p':Value) (j2 lb:Nat) (s:SS):Option (Value×SS):=
 (cf 49 [p',.string ⟨#[46]⟩] s).bind fun a=>
  ((some a.1).bind asB).bind fun b=>
  cond b (
   (cf 50 [p'] a.2).bind fun c=>
   ((zan c.1 0).bind asS).bind fun d=>
   ((zan c.1 1).bind asB).bind fun e=>
   (c.2.st lb 2 [.string d]).bind fun f=>
   cond (!e) (
    (f.ldN lb 0 5).bind fun g=>
    (f.stV j2 0 5 g).bind fun h=>
    (h.rdN j2 0 5).bind fun i=>
    some (.tuple #[i,.bool false],h)) (
    (lf 11 [p',ptr j2 0,ptr lb 0] f).bind fun j=>
    cond (Nat.beq j.1 0) (
     (j.2.1[0]?).bind fun k=>
     (j.2.1[1]?).bind fun l=>
     (addr? l).bind fun m=>
     (j.2.2.ldN m.1 m.2 5).bind fun n=>
     (addr? k).bind fun o=>
     (j.2.2.stV o.1 o.2 5 n).bind fun p=>
     (addr? k).bind fun q=>
     (p.rdN q.1 q.2 5).bind fun r=>
     some (.tuple #[r,.bool true],p)) (
     (j.2.1[0]?).bind fun t=>
     ((j.2.1[1]?).bind asB).bind fun u=>
     (addr? t).bind fun v=>
     (j.2.2.rdN v.1 v.2 5).bind fun w=>
     some (.tuple #[w,.bool u],j.2.2)))) (
   (lf 17 [p',ptr j2 0,ptr lb 0] a.2).bind fun x=>
   cond (Nat.beq x.1 0) (
    (x.2.1[0]?).bind fun y=>
    (x.2.1[1]?).bind fun z=>
    (addr? z).bind fun A=>
    (x.2.2.ldN A.1 A.2 5).bind fun B=>
    (addr? y).bind fun C=>
    (x.2.2.stV C.1 C.2 5 B).bind fun D=>
    (addr? y).bind fun E=>
    (D.rdN E.1 E.2 5).bind fun F=>
    some (.tuple #[F,.bool true],D)) (
    (x.2.1[0]?).bind fun G=>
    ((x.2.1[1]?).bind asB).bind fun H=>
    (addr? G).bind fun I=>
    (x.2.2.rdN I.1 I.2 5).bind fun J=>
    some (.tuple #[J,.bool H],x.2.2)))
def zoK (ln:Nat) (x:PLine) (av pv:Value):Value:=.agg #[.int .i64 ln,.string (mkS x.lab),.string (mkS x.dir),av,pv]
def zhM (B b:Nat) (v:Value) (us:List (Nat×Tok)) (i e ln:Nat) (st:SS) (r:Option (Value×SS)):Except Nat PLine→Prop
 | .ok x=>∃ st' av pv,r=some (.tuple #[zoK ln x av pv,.bool true],st')∧Keep B [b] st st'∧PAt st' b v us e∧Own B st' av (rowsF valRow x.args) 3 x.args.length∧Own B st' pv (rowsF prRow x.prs) 5 x.prs.length
 | .error o=>∃ (st':SS) (row:List Value),r=some (.tuple #[.agg row.toArray,.bool false],st')∧Keep B [b] st st'∧PAt st' b v us (i+o)∧row.length=5∧row.all one=true
theorem zsa [Sym] {ln lb b j2 i B:Nat} {v:Value} {us:List (Nat×Tok)} {l:List Tok} {lab:List UInt8} {s:SS} (hBj:B≤j2) (hbB:b<B) (hjl:j2<lb) (hls:lb<s.next) (hsz:l.length≤1099511627776/8) (h:PAt s b v us i) (hl:LineAt us i ln l)
  (ha:At s lb [.int .i64 ln,.string (mkS lab),.string ⟨#[]⟩,.slice none 0 0,.slice none 0 0]) (hj2:∃ r2,At s j2 r2∧r2.length=5):
  zhM B b v us i (i+(l.length-1)) ln s (zgc cc zaH (ptr b 0) j2 lb s) (zdj lab l):=by
 obtain ⟨t,r,rfl⟩:=hl.lin.ne
 have hb0:Nat.beq 0 0=true:=rfl
 have hb1:Nat.beq 1 0=false:=rfl
 have hBs:B≤s.next:=by omega
 have hbj:b<j2:=by omega
 obtain ⟨s23,c23,m23,p23⟩:=zjO h hl.head [46]
 have c23':cc 49 [ptr b 0,.string ⟨#[46]⟩] s=some (.bool (zaM t [46]),s23):=c23
 have a23:=ha.mod m23 (by simp;omega)
 have hj23:∃ r2,At s23 j2 r2∧r2.length=5:=by obtain ⟨r2,a,l2⟩:=hj2;exact ⟨r2,a.mod m23 (by simp;omega),l2⟩
 have K23:Keep B [b] s s23:=m23.keepB hBs
 have nx23:=m23.next
 rw [zeD]
 by_cases hs:zaM t [46]=true
 ·rw [hs] at c23'
  rw [if_pos hs] at p23
  rw [if_pos hs]
  have hl1:=hl.tail (by have:=zc1 hs;omega)
  obtain ⟨d,u,rfl⟩:=hl1.lin.ne
  obtain ⟨s25,c25,m25,p25⟩:=zr7 p23 hl1.head
  have a25:=a23.mod m25 (by simp;omega)
  have hj25:∃ r2,At s25 j2 r2∧r2.length=5:=by obtain ⟨r2,a,l2⟩:=hj23;exact ⟨r2,a.mod m25 (by simp;omega),l2⟩
  have K25:=K23.thenM m25 (by omega)
  have nx25:=m25.next
  simp only
  by_cases hd:d.kd=1
  ·rw [if_pos hd,zdt hd] at c25
   rw [if_pos hd] at p25
   rw [if_pos hd]
   have hl2:=hl1.tail (by omega)
   obtain ⟨s28,e28,a28,m28,n28⟩:=a25.sto (k:=2) (vs:=[.string (mkS d.tx)]) (row':=[.int .i64 ln,.string (mkS lab),.string (mkS d.tx),.slice none 0 0,.slice none 0 0]) rfl rfl
   have hj28:∃ r2,At s28 j2 r2∧r2.length=5:=by obtain ⟨r2,a,l2⟩:=hj25;exact ⟨r2,a.mod m28 (by simp;omega),l2⟩
   have p28:=p25.modI m28 (by omega)
   have K28:=K25.thenI m28 (by omega) (.inl (by omega))
   have hloop:=zuz (B:=s28.next) hbj hjl (by omega) ⟨rfl,rfl,rfl,rfl⟩ u.length (i+1+1) u [] (.slice none 0 0) s28 (zlr _) (by simp at hsz ⊢;omega) p28 hl2 a28 hj28 (zlr _) (Own.nil _ _ _)
   cases hx:zdJ u.length u with
   | error o=>
     rw [hx] at hloop
     obtain ⟨s32,row,d1,d2,d3,d4,d5,d6⟩:=hloop
     have hr:=d4.rdN d5
     refine ⟨s32,row,?_,(K28.then (d2.mono (by omega) (fun j hj hlt=>by simp at hj ⊢;omega))),(by rw [show i+(2+o)=i+1+1+o by omega];exact d3),d5,d6⟩
     simp only [zgc,c23',zob,zai,zct,c25,zan,List.getElem?_toArray,zgs,zgz,zac,e28,znt,zcf,d1,hb1,zad,hr]
   | ok vs=>
     rw [hx] at hloop
     obtain ⟨s32,av',d1,d2,d3,d4,d5⟩:=hloop
     obtain ⟨r2,a2,l2⟩:=hj28
     have a232:=a2.keepB d2 (by have:=a28.lt;omega) (by simp;omega)
     obtain ⟨s38,f1,f2,f3,f4,f5⟩:=zcx (n:=5) a232 l2 d4 rfl (by simp only [List.all_cons,List.all_nil,d5.cell.2];rfl)
     have K32:Keep B [b] s s32:=K28.then (d2.mono (by omega) (fun j hj hlt=>by simp at hj ⊢;omega))
     have nx32:=d2.next
     refine ⟨s38,av',.slice none 0 0,?_,K32.thenI f4 (by omega) (.inl hBj),?_,((zoJ (S:=[]) d5 f4 (.inl (by have:=a28.lt;omega))).low (by omega)),Own.nil _ _ _⟩
     ·simp only [zgc,c23',zob,zai,zct,c25,zan,List.getElem?_toArray,zgs,zgz,zac,e28,znt,zcf,d1,hb0,zad,f1,f2,f3]
      rfl
     ·have e':i+1+1+(u.length-1)=i+((t::d::u).length-1):=by
       obtain ⟨z1,z2,rfl⟩:=hl2.lin.ne
       simp;omega
      rw [← e'];exact d3.modI f4 hbj
  ·rw [if_neg hd,zdf hd] at c25
   rw [if_neg hd] at p25
   rw [if_neg hd]
   obtain ⟨s28,e28,a28,m28,n28⟩:=a25.sto (k:=2) (vs:=[.string (mkS [])]) (row':=[.int .i64 ln,.string (mkS lab),.string (mkS []),.slice none 0 0,.slice none 0 0]) rfl rfl
   obtain ⟨r2,a2,l2⟩:=hj25
   have a228:=a2.mod m28 (by simp;omega)
   obtain ⟨s30,f1,f2,f3,f4,f5⟩:=zcx (n:=5) a228 l2 a28 rfl rfl
   have K28:=K25.thenI m28 (by omega) (.inl (by omega))
   refine ⟨s30,[.int .i64 ln,.string (mkS lab),.string (mkS []),.slice none 0 0,.slice none 0 0],?_,K28.thenI f4 (by omega) (.inl hBj),(p25.modI m28 (by omega)).modI f4 hbj,rfl,rfl⟩
   simp only [zgc,c23',zob,zai,zct,c25,zan,List.getElem?_toArray,zgs,zgz,zac,e28,znf,f1,f2,f3]
 ·have hs':zaM t [46]=false:=Bool.eq_false_iff.2 hs
  rw [hs'] at c23'
  rw [if_neg hs] at p23
  rw [if_neg hs]
  have hloop:=ztg (B:=s23.next) hbj hjl (by omega) ⟨rfl,rfl,rfl,rfl⟩ (t::r).length i (t::r) [] (.slice none 0 0) s23 (zlr _) (by simp at hsz ⊢;omega) p23 hl a23 hj23 (zlr _) (Own.nil _ _ _)
  have hloop':zqN s23.next b lb j2 (.int .i64 ln) (.string (mkS lab)) (.string ⟨#[]⟩) (.slice none 0 0) v us i (i+((t::r).length-1)) [] s23 (zaH 17 [ptr b 0,ptr j2 0,ptr lb 0] s23) (zbx (t::r).length [] (t::r)):=hloop
  cases hx:zbx (t::r).length [] (t::r) with
  | error o=>
    rw [hx] at hloop'
    obtain ⟨s32,row,d1,d2,d3,d4,d5,d6⟩:=hloop'
    have hr:=d4.rdN d5
    refine ⟨s32,row,?_,(K23.then (d2.mono (by omega) (fun j hj hlt=>by simp at hj ⊢;omega))),d3,d5,d6⟩
    simp only [zgc,c23',zob,zai,zcf,d1,hb1,zad,hr,zgs,zgz]
  | ok ps=>
    rw [hx] at hloop'
    obtain ⟨s32,pv',d1,d2,d3,d4,d5⟩:=hloop'
    obtain ⟨r2,a2,l2⟩:=hj23
    have a232:=a2.keepB d2 (by have:=a23.lt;omega) (by simp;omega)
    obtain ⟨s38,f1,f2,f3,f4,f5⟩:=zcx (n:=5) a232 l2 d4 rfl (by simp only [List.all_cons,List.all_nil,d5.cell.2];rfl)
    have K32:Keep B [b] s s32:=K23.then (d2.mono (by omega) (fun j hj hlt=>by simp at hj ⊢;omega))
    have nx32:=d2.next
    refine ⟨s38,.slice none 0 0,pv',?_,K32.thenI f4 (by omega) (.inl hBj),d3.modI f4 hbj,Own.nil _ _ _,((zoJ (S:=[]) d5 f4 (.inl (by have:=a23.lt;omega))).low (by omega))⟩
    simp only [zgc,c23',zob,zai,zcf,d1,hb0,zct,zad,f1,f2,f3,zgs,zgz]
    rfl
end Go.Proofs.YtcplfckncandkaaGreatDoorE
namespace Go.Proofs.YtcplfckncandkaaGreatDoorE
open Go Go.E Go.Proofs
theorem zhM.to {B b i e ln:Nat} {v:Value} {us:List (Nat×Tok)} {st s:SS} {r r':Option (Value×SS)} {x:Except Nat PLine} (h:zhM B b v us i e ln s r x) (K:Keep B [b] st s) (hr:∀ y,r=some y→r'=some y):zhM B b v us i e ln st r' x:=by
 cases x with
 | ok x=>obtain ⟨st',av,pv,a,k,c⟩:=h;exact ⟨st',av,pv,hr _ a,K.then k,c⟩
 | error o=>obtain ⟨st',row,a,k,c⟩:=h;exact ⟨st',row,hr _ a,K.then k,c⟩
def offE (d:Nat):Except Nat PLine→Except Nat PLine
 | .error o=>.error (d+o)
 | .ok x=>.ok x
theorem zhM.off {B b i d e ln:Nat} {v:Value} {us:List (Nat×Tok)} {s:SS} {r:Option (Value×SS)} {x:Except Nat PLine} (h:zhM B b v us (i+d) e ln s r x):zhM B b v us i e ln s r (offE d x):=by
 cases x with
 | ok x=>exact h
 | error o=>obtain ⟨st',row,a,k,c,dd⟩:=h;exact ⟨st',row,a,k,by rw [← Nat.add_assoc];exact c,dd⟩
abbrev L5:List Value:=[.int .i64 0,.string ⟨#[]⟩,.string ⟨#[]⟩,.slice none 0 0,.slice none 0 0]
theorem zk5 (t:Tok):zaM t [58]=(decide ((t.kd:Int)=3)&&decide (t.tx=[58])):=by
 unfold zaM
 congr 1
 by_cases h:t.kd=3
 ·have:(t.kd:Int)=3:=by omega
  rw [zdt h,zdt this]
 ·have:¬ (t.kd:Int)=3:=by omega
  rw [zdf h,zdf this]
theorem zwc [Sym] {st:SS} {ln b i:Nat} {v:Value} {us:List (Nat×Tok)} {l:List Tok} (hsz:l.length≤1099511627776/8) (h:PAt st b v us i) (hl:LineAt us i ln l):
  zhM st.next b v us i (i+(l.length-1)) ln st (cc 31 [ptr b 0] st) (readT l):=by
 obtain ⟨t,r,rfl⟩:=hl.lin.ne
 have hisz:=LineAt.sz h hl
 have hb:=h.blk.lt
 have a1:At (st.new (.cells L5 0)) st.next L5:=At.new h.ll L5
 have x1:Ext st (st.new (.cells L5 0)):=(Ext.refl st).new _
 obtain ⟨n1,hn1,c1⟩:=zcy (h.ext x1).has hl.head
 have hn1':st.next+1≤n1:=hn1
 obtain ⟨s5,e5,a5,x5,_⟩:=zkI (st:=(st.new (.cells L5 0)).adv n1) (zlt h.ll (by simp;omega)) (r:=L5) (row:=[.int .i64 ln,.string (mkS []),.string ⟨#[]⟩,.slice none 0 0,.slice none 0 0]) rfl rfl
 have e5':(((st.new (.cells L5 0)).adv n1).new (.cells L5 0)).st ((st.new (.cells L5 0)).adv n1).next 0 [.int .i64 ln,.string ⟨#[]⟩,.string ⟨#[]⟩,.slice none 0 0,.slice none 0 0]=some s5:=e5
 have x05:Ext st s5:=x1.trans ((Ext.advR _ hn1).trans x5)
 have b5:=(a1.adv hn1).ext x5
 have p5:=h.ext x05
 have k3:=(zcL (ln:=ln) (t:=t)).2.2.1
 have k0:=(zcL (ln:=ln) (t:=t)).1
 have k1:=(zcL (ln:=ln) (t:=t)).2.1
 obtain ⟨u,hu,hread⟩:∃ u,us[if t.kd=0 then i else i+1]?=some (ln,u)∧((t.kd=1∧zaM u [58]=true∧∃ r',r=u::r')∨(¬ (t.kd=1∧zaM u [58]=true)∧readT (t::r)=zdj [] (t::r))):=by
  by_cases h0:t.kd=0
  ·have hr:=hl.lin.last h0
   subst hr
   exact ⟨t,by rw [if_pos h0];exact hl.head,.inr ⟨fun x=>by omega,rfl⟩⟩
  ·have hl1:=hl.tail h0
   obtain ⟨u,r',rfl⟩:=hl1.lin.ne
   refine ⟨u,by rw [if_neg h0];exact hl1.head,?_⟩
   by_cases hc:t.kd=1∧zaM u [58]=true
   ·exact .inl ⟨hc.1,hc.2,r',rfl⟩
   ·exact .inr ⟨hc,by rw [zib,if_neg hc]⟩
 obtain ⟨n2,hn2,c2⟩:=zxf p5.has hl.head hu
 obtain ⟨s8,e8,a8,x8,_⟩:=zaV (st:=s5.adv n2) (zlt (x05.ll h.ll) hn2) (r:=Z5) (zaG (za6 ln u)) (n:=5) rfl rfl rfl
 have x08:Ext st s8:=x05.trans ((Ext.advR _ hn2).trans x8)
 obtain ⟨n3,hn3,c3⟩:=zcy (h.ext x08).has hl.head
 have x58:Ext s5 (s8.adv n3):=((Ext.advR _ hn2).trans x8).trans (.advR _ hn3)
 have x09:Ext st (s8.adv n3):=x05.trans x58
 have p9:=h.ext x09
 have a9:=a5.ext x58
 have b9:=b5.ext x58
 have q9:=a8.ext (Ext.advR _ hn3)
 have l0:(s8.adv n3).ld (s5.adv n2).next 0=some (.int .i64 u.kd):=q9.ld
 have l1:(s8.adv n3).ld (s5.adv n2).next 1=some (.string (mkS u.tx)):=q9.ld
 have hlb:st.next<((st.new (.cells L5 0)).adv n1).next:=by simp;omega
 rcases hread with ⟨hk,hc,r',rfl⟩ | ⟨hc,hread⟩
 ·
  have hoff:readT (t::u::r')=offE 2 (zdj t.tx r'):=by
   rw [zib,if_pos ⟨hk,hc⟩]
   cases zdj t.tx r'<;>rfl
  rw [hoff]
  rw [zk5,zae,decide_eq_true_eq,decide_eq_true_eq] at hc
  have hk':(t.kd:Int)=1:=by omega
  have hl2:=(hl.tail (by omega)).tail (by omega)
  obtain ⟨n4,hn4,c4⟩:=zcy p9.has hl.head
  have x010:Ext st ((s8.adv n3).adv n4):=x09.trans (.advR _ hn4)
  obtain ⟨s15,e15,a15,m15,_⟩:=(a9.adv hn4).sto (k:=1) (vs:=[.string (mkS t.tx)]) (row':=[.int .i64 ln,.string (mkS t.tx),.string ⟨#[]⟩,.slice none 0 0,.slice none 0 0]) rfl rfl
  have p15:=(h.ext x010).modI m15 (by omega)
  have b15:=(b9.adv hn4).mod m15 (by simp;omega)
  have M15:Mod [b] st s15:=(Mod.ofExt x010).thenI m15 (.inl (by omega))
  have l18:s15.ld b 1=some (.int .i64 i):=p15.blk.ld
  have hw:IntKind.wrap .i64 ((i:Int)+2)=((i+2:Nat):Int):=wrapI hisz (k:=2) (by omega)
  obtain ⟨s22,e22,p22,m22,n22⟩:=p15.move (i+2)
  have a22:=a15.mod m22 (by simp;omega)
  have b22:=b15.mod m22 (by simp;omega)
  have M22:=M15.then m22
  have ht:=zsa (B:=st.next) (zlr _) hb hlb a22.lt (by simp at hsz ⊢;omega) p22 hl2 a22 ⟨_,b22,rfl⟩
  have hend:i+2+(r'.length-1)=i+((t::u::r').length-1):=by
   obtain ⟨z1,z2,rfl⟩:=hl2.lin.ne
   simp;omega
  rw [hend] at ht
  refine zhM.to (zhM.off (d:=2) ht) (M22.keepB (zlr _)) fun y hy=>?_
  refine zfq _ st ?_
  have hq:eqT (mkS u.tx) ⟨#[58]⟩=true:=by
   have:eqT (mkS u.tx) (mkS [58])=decide (u.tx=[58]):=zcW _ _
   rw [zdt hc.2] at this;exact this
  simp only [zck,c1,zob,k3,e5',c2,e8,c3,k0,zdt hk',zct,l0,l1,zaa,zac,zdt hc.1,hq,c4,k1,e15,zaw,zad,Nat.zero_add,l18,hw,e22]
  exact hy
 ·rw [hread]
  have ht:=zsa (B:=st.next) (s:=s8.adv n3) (zlr _) hb hlb a9.lt hsz p9 hl a9 ⟨_,b9,rfl⟩
  refine zhM.to ht (x09.keepB (zlr _)) fun y hy=>?_
  refine zfq _ st ?_
  by_cases hk:t.kd=1
  ·have hk':(t.kd:Int)=1:=by omega
   by_cases h3:(u.kd:Int)=3
   ·have hx:¬ u.tx=[58]:=fun e=>hc ⟨hk,by rw [zk5,zdt h3,zdt e];rfl⟩
    have hq:eqT (mkS u.tx) ⟨#[58]⟩=false:=by
     have:eqT (mkS u.tx) (mkS [58])=decide (u.tx=[58]):=zcW _ _
     rw [zdf hx] at this;exact this
    simp only [zck,c1,zob,k3,e5',c2,e8,c3,k0,zdt hk',zct,l0,l1,zaa,zac,zdt h3,hq,zcf]
    exact hy
   ·simp only [zck,c1,zob,k3,e5',c2,e8,c3,k0,zdt hk',zct,l0,zaa,zdf h3,zcf]
    exact hy
  ·have hk':¬ (t.kd:Int)=1:=by omega
   simp only [zck,c1,zob,k3,e5',c2,e8,c3,k0,zdf hk',zcf]
   exact hy
theorem zuA {lab:List UInt8} {l:List Tok} {x:PLine} (h:zdj lab l=.ok x):x.lab=lab:=by
 cases l with
 | nil=>cases h
 | cons t r=>
   rw [zeD] at h
   repeat' (split at h)
   all_goals first
    | (cases h;done)
    | (cases h;rfl)
theorem zwd {k:Nat} {seen:List (List UInt8)} {t:Tok} {r:List Tok} {ps:List Pr} (hk:t.kd≠0) (h:zbx (k+1) seen (t::r)=.ok ps):ps≠[]:=by
 unfold zbx at h
 rw [if_neg hk] at h
 cases hx:pairT seen (t::r) with
 | error o=>rw [hx] at h;cases h
 | ok y=>
   obtain ⟨p,n⟩:=y
   rw [hx] at h
   simp only at h
   cases hz:zbx k (seen++[p.fd]) ((t::r).drop n) with
   | error o=>rw [hz] at h;cases h
   | ok qs=>rw [hz] at h;cases h;simp
theorem zuB {l:List Tok} {x:PLine} (hl:Lin l) (hok:∀ t∈l,TokOk t) (h:readT l=.ok x):(x.lab≠[]∨x.dir≠[]∨x.prs≠[])↔1<l.length:=by
 obtain ⟨t,r,rfl⟩:=hl.ne
 cases r with
 | nil=>
   have h0:t.kd=0:=by
    rcases hl with h | h
    ·exact h.1
    ·exact h.2.elim
   have hs:zaM t [46]=false:=by simp [zaM,h0]
   have h':zdj [] [t]=.ok x:=h
   rw [zeD,hs] at h'
   have e:zbx [t].length [] [t]=.ok []:=by
    show zbx 1 [] [t]=_
    unfold zbx
    rw [if_pos h0]
   rw [e] at h'
   cases h'
   simp
 | cons s r=>
   have hk:t.kd≠0:=by
    rcases hl with h | h
    ·exact absurd h.2 (by simp)
    ·exact h.1
   refine ⟨fun _=>by simp,fun _=>?_⟩
   rw [zib] at h
   split at h
   ·rename_i hc
    cases hx:zdj t.tx r with
    | error o=>rw [hx] at h;cases h
    | ok y=>
      rw [hx] at h;cases h
      left
      rw [zuA hx]
      exact (hok t (List.mem_cons_self ..)).tx hc.1
   ·rw [zeD] at h
    split at h
    ·rename_i hs
     have hl1:=hl.tail hk
     simp only at h
     split at h
     ·rename_i hd
      split at h
      ·cases h
      ·cases h
       exact .inr (.inl ((hok s (by simp)).tx hd))
     ·cases h
    ·split at h
     ·cases h
     ·rename_i ps hp
      cases h
      exact .inr (.inr (zwd hk hp))
end Go.Proofs.YtcplfckncandkaaGreatDoorE
namespace Go.Proofs.YtcplfckncandkaaGreatDoorE
open Go Go.E Go.Proofs
def RdB (st:SS) (lo hi:Nat) (v:Value) (c:List Value) (z n:Nat):Prop:=Rd st v c z n∧∀ j k l q,v=.slice (some ⟨j,k,none⟩) l q→lo<j∧j<hi
theorem Own.rdB {B lo hi:Nat} {st:SS} {v:Value} {c:List Value} {z n:Nat} (h:Own B st v c z n) (hlo:lo<B) (hhi:st.next≤hi):RdB st lo hi v c z n:=by
 refine ⟨h.rd,fun j k l q hv=>?_⟩
 obtain ⟨_,⟨ev,_⟩ | ⟨i',ev,_,_,hbi,hi'⟩⟩:=h
 ·rw [ev] at hv;cases hv
 ·rw [ev] at hv;cases hv;omega
theorem RdB.go {st st':SS} {lo hi hi':Nat} {v:Value} {c:List Value} {z n:Nat} (h:RdB st lo hi v c z n) (hh:hi≤hi') (hn:st.next≤st'.next) (hk:∀ j,j<st.next→lo<j→j<hi→st'.mem.get j=st.mem.get j):RdB st' lo hi' v c z n:=by
 obtain ⟨⟨h1,h2⟩,h3⟩:=h
 refine ⟨⟨h1,h2.imp id ?_⟩,fun j k l q hv=>by have:=h3 j k l q hv;omega⟩
 rintro ⟨i,cap,e,⟨z',hm⟩,hi⟩
 have:=h3 i 0 n cap e
 exact ⟨i,cap,e,⟨z',(hk i hi this.1 this.2).trans hm⟩,zll hi hn⟩
abbrev Item:=PLine×Value×Value
def lnRow (x:Item):List Value:=[.int .i64 x.1.ln,.string (mkS x.1.lab),.string (mkS x.1.dir),x.2.1,x.2.2]
theorem zuC (x:Item):(lnRow x).length=5:=rfl
def ItB (st:SS) (lo hi:Nat) (x:Item):Prop:=RdB st lo hi x.2.1 (rowsF valRow x.1.args) 3 x.1.args.length∧RdB st lo hi x.2.2 (rowsF prRow x.1.prs) 5 x.1.prs.length
structure Coll (st:SS) (lo m B:Nat) (v:Value) (its:List Item):Prop where
 own:Own B st v (rowsF lnRow its) 5 its.length
 blk:∀ j k l q,v=.slice (some ⟨j,k,none⟩) l q→m≤j
 it:∀ x∈its,ItB st lo m x
 lo:lo<B
 le:m≤st.next
def zk6 (st:SS) (v:Value) (xs:List PLine):Prop:=∃ its:List Item,its.map (·.1)=xs∧Rd st v (rowsF lnRow its) 5 its.length∧
 ∀ x∈its,Rd st x.2.1 (rowsF valRow x.1.args) 3 x.1.args.length∧Rd st x.2.2 (rowsF prRow x.1.prs) 5 x.1.prs.length
theorem zk6.ext {st st':SS} {v:Value} {xs:List PLine} (h:zk6 st v xs) (x:Ext st st'):zk6 st' v xs:=by
 obtain ⟨its,a,b,c⟩:=h
 exact ⟨its,a,b.ext x,fun y hy=>⟨(c y hy).1.ext x,(c y hy).2.ext x⟩⟩
theorem Coll.lines {st:SS} {lo m B:Nat} {v:Value} {its:List Item} (h:Coll st lo m B v its):zk6 st v (its.map (·.1)):=⟨its,rfl,h.own.rd,fun x hx=>⟨(h.it x hx).1.1,(h.it x hx).2.1⟩⟩
theorem Coll.keep {st st':SS} {lo m B:Nat} {v:Value} {its:List Item} (h:Coll st lo m B v its) (k:Keep st.next [lo] st st'):Coll st' lo m B v its:=by
 refine ⟨?_,h.blk,fun x hx=>?_,h.lo,zlt h.le k.next⟩
 ·obtain ⟨h1,h2⟩:=h.own
  refine ⟨h1,h2.imp id ?_⟩
  rintro ⟨i,e,h0,hm,hb,hi⟩
  exact ⟨i,e,h0,(k.keep i hi (by have:=h.lo;simp;omega)).trans hm,hb,zll hi k.next⟩
 ·obtain ⟨h1,h2⟩:=h.it x hx
  exact ⟨h1.go (zlr _) k.next fun j hj h1 h2=>k.keep j hj (by simp;omega),h2.go (zlr _) k.next fun j hj h1 h2=>k.keep j hj (by simp;omega)⟩
theorem Coll.ext {st st':SS} {lo m B:Nat} {v:Value} {its:List Item} (h:Coll st lo m B v its) (x:Ext st st'):Coll st' lo m B v its:=h.keep (x.keepB (zlr _))
theorem Coll.push {st:SS} {lo m B:Nat} {v:Value} {its:List Item} (h:Coll st lo m B v its) (x:Item) (hB:B≤st.next) (hl:st.lim≤B) (hn:its.length≤1099511627776/8)
  (ho1:one x.2.1=true) (ho2:one x.2.2=true) (h1:RdB st lo st.next x.2.1 (rowsF valRow x.1.args) 3 x.1.args.length) (h2:RdB st lo st.next x.2.2 (rowsF prRow x.1.prs) 5 x.1.prs.length)
  (hne1:∀ j k l q k' l' q',v=.slice (some ⟨j,k,none⟩) l q→x.2.1≠.slice (some ⟨j,k',none⟩) l' q') (hne2:∀ j k l q k' l' q',v=.slice (some ⟨j,k,none⟩) l q→x.2.2≠.slice (some ⟨j,k',none⟩) l' q'):
  ∃ v' st',(st.new (.cells (lnRow x) 5)).app 5 88 v (.slice (some ⟨st.next,0,none⟩) 1 1)=some (v',st')∧Coll st' lo st.next B v' (its++[x])∧∀ S,Keep B S st st':=by
 obtain ⟨k,st',g1,gk,g2,g3,g4,g5⟩:=h.own.pushN hB hl (zuC x) (by omega) (by simp only [lnRow,List.all_cons,List.all_nil,ho1,ho2];rfl) (bt:=88) (by omega) (by omega)
 have kept:∀ j,j<st.next→(∀ k l q,v≠.slice (some ⟨j,k,none⟩) l q)→st'.mem.get j=st.mem.get j:=fun j hj hv=>g5 j hj fun q=>hv 0 q q
 refine ⟨_,st',g1,⟨?_,?_,?_,h.lo,g4⟩,fun S=>⟨g4,g3,fun j hj _=>kept j (by omega) fun k l q hv=>?_⟩⟩
 ·rw [zcj,zdz,List.length_append];exact g2
 ·intro j k' l q hv;cases hv;exact gk
 ·intro y hy
  rcases List.mem_append.1 hy with hy | hy
  ·obtain ⟨i1,i2⟩:=h.it y hy
   exact ⟨i1.go h.le g4 fun j hj _ hjm=>kept j hj fun k l q hv=>by have:=h.blk j k l q hv;omega,i2.go h.le g4 fun j hj _ hjm=>kept j hj fun k l q hv=>by have:=h.blk j k l q hv;omega⟩
  ·have:y=x:=by simpa using hy
   subst this
   refine ⟨?_,?_⟩
   ·obtain ⟨⟨c1,c2⟩,c3⟩:=h1
    refine ⟨⟨c1,c2.imp id ?_⟩,c3⟩
    rintro ⟨i,cap,e,⟨z',hm⟩,hi⟩
    exact ⟨i,cap,e,⟨z',(kept i hi fun k l q hv=>hne1 i k l q 0 _ cap hv e).trans hm⟩,zll hi g4⟩
   ·obtain ⟨⟨c1,c2⟩,c3⟩:=h2
    refine ⟨⟨c1,c2.imp id ?_⟩,c3⟩
    rintro ⟨i,cap,e,⟨z',hm⟩,hi⟩
    exact ⟨i,cap,e,⟨z',(kept i hi fun k l q hv=>hne2 i k l q 0 _ cap hv e).trans hm⟩,zll hi g4⟩
 ·obtain ⟨_,⟨ev,_⟩ | ⟨i',ev,_,_,hbi,hi'⟩⟩:=h.own
  ·rw [ev] at hv;cases hv
  ·rw [ev] at hv;cases hv;omega
theorem zuD (k:Nat) (ts:List Tok) (r:List (List Tok)):flat k (ts::r)=ts.map (fun t=>(k+1,t))++flat (k+1) r:=rfl
theorem zuE {us:List (Nat×Tok)} {i k:Nat} {ts:List Tok} {r:List (List Tok)} (h:us.drop i=flat k (ts::r)):us.drop (i+ts.length)=flat (k+1) r:=by
 rw [← List.drop_drop,h,zuD]
 rw [List.drop_append_of_le_length (by simp),List.drop_of_length_le (by simp),List.nil_append]
def znW (B lo b0:Nat) (st:SS) (its:List Item) (r:Option (Nat×List Value×SS)):Except (Nat×Nat) (List PLine)→Prop
 | .ok xs=>∃ v st' m its',r=some (0,[ptr b0 0,v],st')∧Keep B [lo] st st'∧its'.map (·.1)=its.map (·.1)++xs∧Coll st' lo m B v its'
 | .error e=>∃ st',r=some (1,[.slice none 0 0,ptr b0 0,.int .i64 4],st')∧Keep B [lo,b0] st st'∧At st' b0 [.int .i64 e.1,.int .i64 e.2]
theorem znW.to {B lo b0:Nat} {st s:SS} {its its':List Item} {x:PLine} {c:Bool} {r r':Option (Nat×List Value×SS)} {y:Except (Nat×Nat) (List PLine)} (h:znW B lo b0 s its' r y) (K:Keep B [lo] st s) (hr:∀ z,r=some z→r'=some z) (hi:its'.map (·.1)=its.map (·.1)++(if c=true then [x] else [])):
  znW B lo b0 st its r' (match y with
   | .error e=>.error e
   | .ok xs=>.ok (if c=true then x::xs else xs)):=by
 cases y with
 | error e=>
   obtain ⟨st',a,k,d⟩:=h
   exact ⟨st',hr _ a,(K.mono (zlr _) (fun j hj _=>by simp at hj ⊢;omega)).then k,d⟩
 | ok xs=>
   obtain ⟨v,st',m,its2,a,k,d,e⟩:=h
   refine ⟨v,st',m,its2,hr _ a,K.then k,?_,e⟩
   rw [d,hi]
   cases c<;>simp
theorem zth [Sym] {lo b0 B:Nat} {v:Value} {us:List (Nat×Tok)} (hb0:b0<lo) (hloB:lo<B) (hus:us.length≤1099511627776/64):∀ (tss:List (List Tok)) (i k m:Nat) (out:Value) (its:List Item) (st:SS),us.drop i=flat k tss→i≤us.length→(∀ ts∈tss,Lin ts∧∀ t∈ts,TokOk t)→
  PAt st lo v us i→Coll st lo m B out its→(∃ r,At st b0 r∧r.length=2)→B≤st.next→its.length≤i→
  znW B lo b0 st its (zbG 6 [ptr b0 0,v,ptr lo 0,out] st) (zdr k tss):=by
 intro tss
 induction tss with
 | nil=>
   intro i k m out its st hd hi hok h hc ha hB hn
   have hil:i=us.length:=by
    have:us.drop i=[]:=hd
    rw [List.drop_eq_nil_iff] at this;omega
   have hlv:(lenV v).bind (asI .i64)=some (us.length:Int):=by rw [h.rd.len];rfl
   have l1:st.ld lo 1=some (.int .i64 i):=h.blk.ld
   have hlt:¬ (i:Int)<(us.length:Int):=by omega
   refine ⟨out,st,m,its,zc2 _ v _ out st ?_,.refl _,by simp,hc⟩
   simp only [zbY,zaw,zad,zob,Nat.zero_add,l1,zaa,hlv,zdf hlt,zcf]
 | cons ts r ih=>
   intro i k m out its st hd hi hok h hc ha hB hn
   obtain ⟨hlin,htok⟩:=hok ts (List.mem_cons_self ..)
   have hl:LineAt us i (k+1) ts:=⟨⟨flat (k+1) r,hd⟩,hlin,htok⟩
   have hlen:i+ts.length≤us.length:=by
    have:=congrArg List.length hd
    unfold flat at this
    simp at this
    omega
   have hpos:0<ts.length:=by obtain ⟨t,u,rfl⟩:=hlin.ne;simp
   have hlt:(i:Int)<(us.length:Int):=by omega
   have hlv:(lenV v).bind (asI .i64)=some (us.length:Int):=by rw [h.rd.len];rfl
   have l1:st.ld lo 1=some (.int .i64 i):=h.blk.ld
   have hline:=zwc (by omega) h hl
   have hlim:st.lim≤B:=by have:=h.blk.2.2;omega
   unfold zdr
   cases hx:readT ts with
   | error o=>
     rw [hx] at hline
     obtain ⟨s5,row,c5,K5,p5,hrow,hrow1⟩:=hline
     have hoff:=zuo ts hlin o hx
     obtain ⟨t,ht⟩:∃ t,ts[o]?=some t:=⟨_,zge hoff⟩
     have hu:us[i+o]?=some (k+1,t):=by
      obtain ⟨rest,hr⟩:=hl.drop
      have:=congrArg (·[o]?) hr
      simp only [List.getElem?_drop] at this
      rw [this,List.getElem?_append_left (by simp;omega),List.getElem?_map,ht]
      rfl
     obtain ⟨s9,e9,a9,x9,_⟩:=zaV (st:=s5) p5.ll (r:=L5) (zaG row) (n:=5) hrow hrow1 rfl
     have p9:=p5.ext x9
     obtain ⟨n1,hn1,c1⟩:=zcy p9.has hu
     have x1:Ext s9 (s9.adv n1):=.advR _ hn1
     obtain ⟨n2,hn2,c2⟩:=zcy (p9.ext x1).has hu
     have x2:Ext s9 ((s9.adv n1).adv n2):=x1.trans (.advR _ hn2)
     obtain ⟨ra,aa,hra⟩:=ha
     have aa2:=((aa.keepB K5 aa.lt (by simp;omega)).ext x9).ext x2
     obtain ⟨s15,e15,a15,m15,_⟩:=aa2.sto (k:=0) (vs:=[.int .i64 ((k+1:Nat):Int),.int .i64 t.col]) (row':=[.int .i64 ((k+1:Nat):Int),.int .i64 t.col]) rfl (by rw [zbu (by simp;omega)];simp [hra])
     have k3:=(zcL (ln:=k+1) (t:=t)).2.2.1
     have k4:=(zcL (ln:=k+1) (t:=t)).2.2.2
     have hcol:zsO ts o=t.col:=by unfold zsO;rw [ht];rfl
     have K5':Keep B [lo,b0] st s5:=K5.mono hB (fun j hj _=>by simp at hj ⊢;omega)
     have nx5:B≤s5.next:=zlt hB K5'.next
     have nx9:B≤s9.next:=zlt nx5 x9.next
     refine ⟨s15,zc2 _ v _ out st ?_,((K5'.thenX x9 nx5).thenX x2 nx9).thenI m15 (zlt nx9 x2.next) (.inr (by simp)),by rw [hcol];exact a15⟩
     simp only [zbY,zaw,zad,zob,Nat.zero_add,l1,zaa,hlv,zdt hlt,zct,c5,zan,List.getElem?_toArray,zgs,zgz,zai,e9,znf,c1,k3,c2,k4,e15]
   | ok x=>
     rw [hx] at hline
     obtain ⟨s5,av,pv,c5,K5,p5,o1,o2⟩:=hline
     have hkept:=zuB hlin htok hx
     obtain ⟨s9,e9,a9,x9,_⟩:=zaV (st:=s5) p5.ll (r:=L5) (zaG [.int .i64 ((k+1:Nat):Int),.string (mkS x.lab),.string (mkS x.dir),av,pv]) (n:=5) rfl (by simp only [List.all_cons,List.all_nil,o1.cell.2,o2.cell.2];rfl) rfl
     have e9':(s5.new (.cells L5 0)).stV s5.next 0 5 (zoK (k+1) x av pv)=some s9:=e9
     have p9:=p5.ext x9
     have hend:i+(ts.length-1)+1=i+ts.length:=by omega
     have l18:s9.ld lo 1=some (.int .i64 ((i+(ts.length-1):Nat):Int)):=p9.blk.ld
     have hw:IntKind.wrap .i64 (((i+(ts.length-1):Nat):Int)+1)=((i+ts.length:Nat):Int):=by rw [zaX (by omega),hend]
     obtain ⟨s22,e22,p22,m22,n22⟩:=p9.move (i+ts.length)
     have hlo5:lo<s5.next:=p5.blk.lt
     have a22:=a9.mod m22 (by simp;omega)
     have K9:Keep st.next [lo] st s9:=K5.thenX x9 K5.next
     have K22:Keep st.next [lo] st s22:=K9.thenI m22 (zlt K5.next x9.next) (.inr (by simp))
     have hc22:=hc.keep K22
     have nx22:B≤s22.next:=zlt hB K22.next
     have ha22:∃ r,At s22 b0 r∧r.length=2:=by
      obtain ⟨ra,aa,hra⟩:=ha
      exact ⟨ra,aa.keepB K22 aa.lt (by simp;omega),hra⟩
     have hd':=zuE hd
     have hok':∀ ts∈r,Lin ts∧∀ t∈ts,TokOk t:=fun q hq=>hok q (List.mem_cons_of_mem _ hq)
     have l23:s22.ld s5.next 1=some (.string (mkS x.lab)):=a22.ld
     have l28:s22.ld s5.next 2=some (.string (mkS x.dir)):=a22.ld
     have l33:s22.ld s5.next 4=some pv:=a22.ld
     have hq1:eqT (mkS x.lab) ⟨#[]⟩=decide (x.lab=[]):=zd1 _
     have hq2:eqT (mkS x.dir) ⟨#[]⟩=decide (x.dir=[]):=zd1 _
     have hlp:(lenV pv).bind (asI .i64)=some (x.prs.length:Int):=by rw [o2.len];rfl
     by_cases hkp:1<ts.length
     ·
      have w1:RdB s22 lo s22.next av (rowsF valRow x.args) 3 x.args.length:=by
       refine (Own.rdB o1 (lo:=lo) (hi:=s5.next) h.blk.lt (zlr _)).go (by have:=x9.next;omega) (by have:=x9.next;omega) fun j hj h1 _=>?_
       rw [m22.keep j (by have:=x9.next;omega) (by simp;omega),x9.keep j hj]
      have w2:RdB s22 lo s22.next pv (rowsF prRow x.prs) 5 x.prs.length:=by
       refine (Own.rdB o2 (lo:=lo) (hi:=s5.next) h.blk.lt (zlr _)).go (by have:=x9.next;omega) (by have:=x9.next;omega) fun j hj h1 _=>?_
       rw [m22.keep j (by have:=x9.next;omega) (by simp;omega),x9.keep j hj]
      have hnew:∀ w:Value,(∀ j k l q,w=.slice (some ⟨j,k,none⟩) l q→st.next≤j)→∀ j k l q k' l' q',out=.slice (some ⟨j,k,none⟩) l q→w≠.slice (some ⟨j,k',none⟩) l' q':=by
       intro w hw j k l q k' l' q' ho he
       have h1:=hw j k' l' q' he
       obtain ⟨_,⟨ev,_⟩ | ⟨i',ev,_,_,hbi,hi'⟩⟩:=hc.own
       ·rw [ev] at ho;cases ho
       ·rw [ev] at ho;cases ho;omega
      have hown:∀ {w:Value} {c:List Value} {z n:Nat},Own st.next s5 w c z n→∀ j k l q,w=.slice (some ⟨j,k,none⟩) l q→st.next≤j:=by
       intro w c z n ho j k l q hv
       obtain ⟨_,⟨ev,_⟩ | ⟨i',ev,_,_,hbi,hi'⟩⟩:=ho
       ·rw [ev] at hv;cases hv
       ·rw [ev] at hv;cases hv;exact hbi
      obtain ⟨out',s27,g1,g2,g3⟩:=hc22.push ({ x with ln:=k+1 },av,pv) nx22 (by rw [K22.lim];exact hlim) (by omega) o1.cell.2 o2.cell.2 w1 w2 (hnew av (hown o1)) (hnew pv (hown o2))
      have g1':(s22.new (.cells ([.int .i64 ((k+1:Nat):Int),.string (mkS x.lab),.string (mkS x.dir),av,pv]++[]) 5)).app 5 88 out (.slice (some ⟨s22.next,0,none⟩) 1 1)=some (out',s27):=g1
      have K27:Keep B [lo] st s27:=(K22.mono hB (fun _ hj _=>hj)).then (g3 _)
      have ha27:∃ r,At s27 b0 r∧r.length=2:=by
       obtain ⟨ra,aa,hra⟩:=ha22
       exact ⟨ra,aa.keepB (g3 []) (by omega) (by simp),hra⟩
      have next:=ih (i+ts.length) (k+1) s22.next out' (its++[({ x with ln:=k+1 },av,pv)]) s27 hd' (by omega) hok' (p22.keepB (g3 []) hloB (by simp)) g2 ha27 (zlt hB K27.next) (by simp;omega)
      have l24:s22.ldN s5.next 0 5=some (.agg [.int .i64 ((k+1:Nat):Int),.string (mkS x.lab),.string (mkS x.dir),av,pv].toArray):=a22.ldN rfl
      have hc25:zaW (.agg [.int .i64 ((k+1:Nat):Int),.string (mkS x.lab),.string (mkS x.dir),av,pv].toArray) 5=some [.int .i64 ((k+1:Nat):Int),.string (mkS x.lab),.string (mkS x.dir),av,pv]:=cells5 _ _ _ _ _
      have step:∀ z,zbG 6 [ptr b0 0,v,ptr lo 0,out'] s27=some z→zbG 6 [ptr b0 0,v,ptr lo 0,out] st=some z:=fun z hz=>by
       refine zc2 _ v _ out st ?_
       by_cases h1:x.lab=[]
       ·by_cases h2:x.dir=[]
        ·have h3:x.prs≠[]:=by
          rcases hkept.2 hkp with h | h | h
          ·exact absurd h1 h
          ·exact absurd h2 h
          ·exact h
         have h4:(0:Int)<(x.prs.length:Int):=by
          have:=List.length_pos_iff.2 h3
          omega
         simp only [zbY,zaw,zad,zob,Nat.zero_add,l1,zaa,hlv,zdt hlt,zct,c5,zan,List.getElem?_toArray,zgs,zgz,zai,e9',znt,zcf,l18,hw,e22,l23,zac,hq1,zdt h1,l28,hq2,zdt h2,l33,hlp,zdt h4,l24,hc25,g1']
         exact hz
        ·simp only [zbY,zaw,zad,zob,Nat.zero_add,l1,zaa,hlv,zdt hlt,zct,c5,zan,List.getElem?_toArray,zgs,zgz,zai,e9',znt,zcf,l18,hw,e22,l23,zac,hq1,zdt h1,l28,hq2,zdf h2,znf,l24,hc25,g1']
         exact hz
       ·simp only [zbY,zaw,zad,zob,Nat.zero_add,l1,zaa,hlv,zdt hlt,zct,c5,zan,List.getElem?_toArray,zgs,zgz,zai,e9',znt,zcf,l18,hw,e22,l23,zac,hq1,zdf h1,znf,l24,hc25,g1']
        exact hz
      simp only
      cases hy:zdr (k+1) r with
      | error e=>
        rw [hy] at next
        obtain ⟨st',a,k',d⟩:=next
        exact ⟨st',step _ a,(K27.mono (zlr _) (fun j hj _=>by simp at hj ⊢;omega)).then k',d⟩
      | ok xs=>
        rw [hy] at next
        obtain ⟨v2,st',m',its2,a,k',d,e⟩:=next
        refine ⟨v2,st',m',its2,step _ a,K27.then k',?_,e⟩
        rw [d];simp [hkp]
     ·have hnone:¬ (x.lab≠[]∨x.dir≠[]∨x.prs≠[]):=fun hh=>hkp (hkept.1 hh)
      have h1:x.lab=[]:=Classical.byContradiction fun hh=>hnone (.inl hh)
      have h2:x.dir=[]:=Classical.byContradiction fun hh=>hnone (.inr (.inl hh))
      have h3:x.prs=[]:=Classical.byContradiction fun hh=>hnone (.inr (.inr hh))
      have h4:¬ (0:Int)<(x.prs.length:Int):=by rw [h3];simp
      have K22':Keep B [lo] st s22:=K22.mono hB (fun _ hj _=>hj)
      have next:=ih (i+ts.length) (k+1) m out its s22 hd' (by omega) hok' p22 hc22 ha22 nx22 (by omega)
      have step:∀ z,zbG 6 [ptr b0 0,v,ptr lo 0,out] s22=some z→zbG 6 [ptr b0 0,v,ptr lo 0,out] st=some z:=fun z hz=>by
       refine zc2 _ v _ out st ?_
       simp only [zbY,zaw,zad,zob,Nat.zero_add,l1,zaa,hlv,zdt hlt,zct,c5,zan,List.getElem?_toArray,zgs,zgz,zai,e9',znt,zcf,l18,hw,e22,l23,zac,hq1,zdt h1,l28,hq2,zdt h2,l33,hlp,zdf h4]
       exact hz
      simp only
      cases hy:zdr (k+1) r with
      | error e=>
        rw [hy] at next
        obtain ⟨st',a,k',d⟩:=next
        exact ⟨st',step _ a,(K22'.mono (zlr _) (fun j hj _=>by simp at hj ⊢;omega)).then k',d⟩
      | ok xs=>
        rw [hy] at next
        obtain ⟨v2,st',m',its2,a,k',d,e⟩:=next
        refine ⟨v2,st',m',its2,step _ a,K22'.then k',?_,e⟩
        rw [d];simp [hkp]
theorem zuF (ps:List (List UInt8)) (i:Nat) (tss:List (List Tok)) (h:zc0 i ps=.ok tss):tss.length=ps.length:=by
 induction ps generalizing i tss with
 | nil=>cases h;rfl
 | cons p r ih=>
   unfold zc0 at h
   cases hx:zcZ p with
   | error c=>rw [hx] at h;cases h
   | ok ts=>
     rw [hx] at h
     cases hy:zc0 (i+1) r with
     | error e=>rw [hy] at h;cases h
     | ok us=>rw [hy] at h;cases h;simp [ih _ _ hy]
def ParR (st:SS) (r:Option (Value×SS)):Except (Nat×Nat) (List PLine)→Prop
 | .ok xs=>∃ v st',r=some (.tuple #[v,zbs (0,0),.int .i64 0],st')∧Ext st st'∧zk6 st' v xs
 | .error e=>∃ st',r=some (.tuple #[.slice none 0 0,zbs e,.int .i64 4],st')∧Ext st st'
theorem zwe [Sym] {st:SS} (hg:Gd st) (hl:st.lim≤st.next) (s:ByteArray) (hs:s.size≤65536):ParR st (cc 15 [.string s] st) (zfa (bl s)):=by
 have a1:At (st.new (.cells [.int .i64 0,.int .i64 0] 0)) st.next [.int .i64 0,.int .i64 0]:=At.new hl _
 have x1:Ext st (st.new (.cells [.int .i64 0,.int .i64 0] 0)):=(Ext.refl st).new _
 have hlex:=lex_ok (hg.ext x1) (x1.ll hl) s (by omega)
 have hlx:lexT (bl s)=match zc0 0 (pieces 10 (bl s)) with
  | .error e=>.error e
  | .ok tss=>.ok (flat 0 tss):=zsP _ _
 unfold zfa
 have hb0:Nat.beq 0 0=true:=rfl
 have hb1:Nat.beq 1 0=false:=rfl
 cases hy:zc0 0 (pieces 10 (bl s)) with
 | error e=>
   rw [hy] at hlx
   rw [hlx] at hlex
   obtain ⟨s2,c2,x2⟩:=hlex
   have c2':cc 30 [.string s] (st.new (.cells [.int .i64 0,.int .i64 0] 0))=some (.tuple #[.slice none 0 0,zbs e,.int .i64 4],s2):=c2
   obtain ⟨s7,e7,a7,x7,_⟩:=zaV (st:=s2) ((x1.trans x2).ll hl) (r:=[.int .i64 0,.int .i64 0]) (v:=zbs e) (row:=[.int .i64 e.1,.int .i64 e.2]) (n:=2) rfl rfl rfl rfl
   have a17:=(a1.ext x2).ext x7
   obtain ⟨s9,f1,f2,f3,f4,f5⟩:=zcx (n:=2) a17 rfl a7 rfl rfl
   have h40:decide ((4:Int)=0)=false:=rfl
   refine ⟨s9,zfB s st ?_,((Mod.ofExt (S:=[st.next]) ((x1.trans x2).trans x7)).then f4).fresh (by simp)⟩
   simp only [zfA,c2',zob,zan,List.getElem?_toArray,zgs,zgz,zaa,e7,h40,znf,zct,f1,f2,f3]
   rfl
 | ok tss=>
   rw [hy] at hlx
   have hlen:=zvY _ _ hlx
   rw [zaQ] at hlen
   have hlen2:(s.size+1)*(s.size+1)≤65537*65537:=Nat.mul_le_mul (by omega) (by omega)
   rw [hlx] at hlex
   obtain ⟨v,s2,c2,x2,o2⟩:=hlex
   have c2':cc 30 [.string s] (st.new (.cells [.int .i64 0,.int .i64 0] 0))=some (.tuple #[v,zbs (0,0),.int .i64 0],s2):=c2
   obtain ⟨s7,e7,a7,x7,_⟩:=zaV (st:=s2) ((x1.trans x2).ll hl) (r:=[.int .i64 0,.int .i64 0]) (v:=zbs (0,0)) (row:=[.int .i64 0,.int .i64 0]) (n:=2) rfl rfl rfl rfl
   have x07:=(x1.trans x2).trans x7
   have hc11:zaW v 1=some [v]:=by unfold zaW;obtain ⟨_,⟨rfl,_⟩ | ⟨i,rfl,_⟩⟩:=o2<;>rfl
   have hrow:(Value.agg ⟨spl [.slice none 0 0,.int .i64 0] 0 [v]⟩:Value).cells.toList=[v,.int .i64 0]:=by simp [spl,Value.cells]
   have ab:At (s7.new (.cells [v,.int .i64 0] 0)) s7.next [v,.int .i64 0]:=At.new (x07.ll hl) _
   have x12:Ext s7 (s7.new (.cells [v,.int .i64 0] 0)):=(Ext.refl s7).new _
   have hsn:st.next<s7.next:=by have:=x2.next;have:=x7.next;simp at*;omega
   have hp:PAt (s7.new (.cells [v,.int .i64 0] 0)) s7.next v (flat 0 tss) 0:=by
    refine ⟨ab,((o2.rd.ext x7).ext x12),fun j k l q hv=>?_,by omega,(x07.trans x12).ll hl⟩
    obtain ⟨_,⟨ev,_⟩ | ⟨i',ev,_,_,hbi,hi'⟩⟩:=o2
    ·rw [ev] at hv;cases hv
    ·rw [ev] at hv;cases hv
     have:=x7.next
     omega
   have hloop:=zth (lo:=s7.next) (b0:=st.next) (B:=s7.next+1) hsn (by omega) (by omega) tss 0 0 s7.next (.slice none 0 0) [] (s7.new (.cells [v,.int .i64 0] 0)) (by simp) (by omega) (zv0 _ _ _ hy) hp
    ⟨Own.nil _ _ _,fun j k l q hv=>(by cases hv),fun x hx=>(by cases hx),by omega,by simp⟩ ⟨_,(((a1.ext x2).ext x7).ext x12),rfl⟩ (by simp) (by simp)
   show ParR st _ (zdr 0 tss)
   cases hz:zdr 0 tss with
   | error e=>
     rw [hz] at hloop
     obtain ⟨s13,d1,d2,d3⟩:=hloop
     have hr:=d3.rdN (n:=2) rfl
     have x13:Ext st s13:=((Mod.ofExt (S:=[s7.next,st.next]) (x07.trans x12)).then (d2.mod (by simp))).fresh (by simp;omega)
     refine ⟨s13,zfB s st ?_,x13⟩
     simp only [zfA,c2',zob,zan,List.getElem?_toArray,zgs,zgz,zaa,e7,decide_true,znt,zcf,hc11,hrow,d1,hb1,zad,hr]
     rfl
   | ok xs=>
     rw [hz] at hloop
     obtain ⟨w,s13,m,its,d1,d2,d3,d4⟩:=hloop
     have a13:=(((a1.ext x2).ext x7).ext x12).keepB d2 (by omega) (by simp;omega)
     obtain ⟨s17,e17,a17,m17,n17⟩:=a13.sto (k:=0) (vs:=[.int .i64 0,.int .i64 0]) (row':=[.int .i64 0,.int .i64 0]) rfl rfl
     have hr:=a17.rdN (n:=2) rfl
     have d4':Coll s17 s7.next m (s7.next+1) w its:=by
      refine ⟨zoJ (S:=[]) d4.own m17 (.inl (by omega)),d4.blk,fun x hx=>?_,d4.lo,by rw [n17];exact d4.le⟩
      obtain ⟨i1,i2⟩:=d4.it x hx
      exact ⟨i1.go (zlr _) m17.next fun j hj h1 h2=>m17.keep j hj (by simp;omega),i2.go (zlr _) m17.next fun j hj h1 h2=>m17.keep j hj (by simp;omega)⟩
     have x17:Ext st s17:=(((Mod.ofExt (S:=[s7.next,st.next]) (x07.trans x12)).then ((d2.mod (by simp)).mono (by simp))).thenI m17 (.inr (by simp))).fresh (by simp;omega)
     refine ⟨w,s17,zfB s st ?_,x17,?_⟩
     ·simp only [zfA,c2',zob,zan,List.getElem?_toArray,zgs,zgz,zaa,e7,decide_true,znt,zcf,hc11,hrow,d1,hb0,zct,zad,e17,hr]
      rfl
     ·have:=d4'.lines
      rw [d3] at this
      simpa using this
end Go.Proofs.YtcplfckncandkaaGreatDoorE
namespace Go.Proofs.YtcplfckncandkaaGreatDoorE
open Go Go.E Go.Proofs
structure RT (st:SS) (v:Value) (us:List (Nat×Tok)) (hi:Nat):Prop where
 rd:Rd st v (rowsL us) 5 us.length
 vb:∀ j k l q,v=.slice (some ⟨j,k,none⟩) l q→j<hi
 sz:us.length≤1099511627776/8
section
variable {S : List Nat} {st st' : SS} {v : Value} {us : List (Nat × Tok)} {hi B : Nat}
theorem RT.keepB (h:RT st v us hi) (k:Keep B S st st') (hB:hi≤B) (hS:∀ j,j∈S→hi≤j):RT st' v us hi:=by
 refine ⟨?_,h.vb,h.sz⟩
 obtain ⟨h1,h2⟩:=h.rd
 refine ⟨h1,h2.imp id ?_⟩
 rintro ⟨j,cap,e,⟨z',hm⟩,hj⟩
 have hjb:=h.vb j 0 _ cap e
 exact ⟨j,cap,e,⟨z',(k.keep j (by omega) (fun hx=>by have:=hS j hx;omega)).trans hm⟩,zll hj k.next⟩
theorem RT.ext (h:RT st v us hi) (x:Ext st st'):RT st' v us hi:=⟨h.rd.ext x,h.vb,h.sz⟩
theorem RT.at' (h:RT st v us hi) {i:Nat} {t:Nat×Tok} (ht:us[i]?=some t):∃ p,zau v (i:Int) 5=some p∧∀ s:SS,RT s v us hi→
  s.ld p.1 p.2=some (.int .i64 t.2.kd)∧s.ld p.1 (p.2+1)=some (.string (mkS t.2.tx))∧s.ld p.1 (p.2+2)=some (.int .i64 t.2.nm)∧s.ld p.1 (p.2+3)=some (.int .i64 t.1)∧s.ld p.1 (p.2+4)=some (.int .i64 t.2.col):=by
 have hlt:(i:Int)<(us.length:Int):=by have:=(List.getElem?_eq_some_iff.1 ht).1;omega
 obtain ⟨p,a1,_,_⟩:=h.rd.load (j:=(i:Int)) (by omega) hlt (zia us i t ht) rfl
 refine ⟨p,a1,fun s hs=>?_⟩
 obtain ⟨q,b1,_,b3⟩:=hs.rd.load (j:=(i:Int)) (by omega) hlt (zia us i t ht) rfl
 rw [a1] at b1
 cases b1
 exact ⟨b3 0 (by omega),b3 1 (by omega),b3 2 (by omega),b3 3 (by omega),b3 4 (by omega)⟩
theorem RT.len (h:RT st v us hi):(lenV v).bind (asI .i64)=some (us.length:Int):=by rw [h.rd.len];rfl
end
def RdR (B ln:Nat) (i:Nat) (st:SS) (r:Option (Value×SS)):Except Nat PLine→Prop
 | .ok x=>∃ st' av pv,r=some (.tuple #[zoK ln x av pv,.int .i64 (-1)],st')∧Keep B [] st st'∧Own B st' av (rowsF valRow x.args) 3 x.args.length∧Own B st' pv (rowsF prRow x.prs) 5 x.prs.length
 | .error o=>∃ (st':SS) (row:List Value),r=some (.tuple #[.agg row.toArray,.int .i64 ((i+o:Nat):Int)],st')∧Keep B [] st st'∧row.length=5∧row.all one=true
theorem RdR.to {B ln i:Nat} {st s:SS} {r r':Option (Value×SS)} {x:Except Nat PLine} (h:RdR B ln i s r x) (K:Keep B [] st s) (hr:∀ y,r=some y→r'=some y):RdR B ln i st r' x:=by
 cases x with
 | ok x=>obtain ⟨st',av,pv,a,k,c⟩:=h;exact ⟨st',av,pv,hr _ a,K.then k,c⟩
 | error o=>obtain ⟨st',row,a,k,c⟩:=h;exact ⟨st',row,hr _ a,K.then k,c⟩
theorem RdR.off {B ln d:Nat} {st:SS} {r:Option (Value×SS)} {x:Except Nat PLine} (h:RdR B ln d st r x):RdR B ln 0 st r (offE d x):=by
 cases x with
 | ok x=>exact h
 | error o=>obtain ⟨st',row,a,k,c⟩:=h;exact ⟨st',row,by rw [Nat.zero_add];exact a,k,c⟩
end Go.Proofs.YtcplfckncandkaaGreatDoorE
namespace Go.Proofs.YtcplfckncandkaaGreatDoorE
open Go Go.E Go.Proofs
theorem Keep.toExt {B:Nat} {a b:SS} (h:Keep B [] a b) (hB:a.next≤B):Ext a b:=(h.mod hB).toExt
end Go.Proofs.YtcplfckncandkaaGreatDoorE
namespace Go.Proofs.YtcplfckncandkaaGreatDoorE
set_option maxRecDepth 20000
open Go Go.E Go.Proofs
noncomputable def zcS (cf:zak) (lf:zab) (b':Value) (name':ByteArray) (x':Int) (st:SS):Option (Value×SS):=
 (zaj b').bind fun a=>
 (addr? a).bind fun b=>
 (st.ld b.1 (b.2+1)).bind fun c=>
 (st.mapF c name').bind fun d=>
 zfw d (
 cond (eqT name' ⟨#[]⟩) (
 some (.bool false,st)) (
 (zaj b').bind fun e=>
 (addr? e).bind fun f=>
 (st.ld f.1 (f.2+1)).bind fun g=>
 (st.mapP g name' (.int .i64 x')).bind fun h=>
 some (.bool true,h))) (fun i=>
 ((zan (.tuple #[i,.bool true]) 0).bind (asI .i64)).bind fun j=>
 some (.bool false,st))
noncomputable abbrev ziC:zab:=lS Tryz.prog Lk0 Tryz.f33 zav
theorem ziD:Lk0.func 33=some (33,Tryz.f33):=by kernel_rfl
theorem zdh [Sym] (b':Value) (name':ByteArray) (x':Int) (st:SS) {r:Value×SS} (h:zcS cc ziC b' name' x' st=some r):cc 33 [b',.string name',.int .i64 x'] st=some r:=
 zaf (li:=zav) zah zal ziD rfl (fun _=>rfl) (.trans (by kernel_rfl) h)
noncomputable def zam (cf:zak) (lf:zab) (b':Value) (l':Value) (st:SS):Option (Value×SS):=
 let a:SS:=st.new (.cells (l':Value).cells.toList 0)
 (a.ld st.next 3).bind fun b=>
 ((lenV b).bind (asI .i64)).bind fun c=>
 cond (decide (c=0)) (
 some (.bool false,a)) (
 (a.ld st.next 3).bind fun d=>
 (zau d 0 3).bind fun e=>
 (a.ldN e.1 e.2 3).bind fun f=>
 let g:SS:=a.new (.cells [.string ⟨#[]⟩,.int .i64 0,.int .i64 0] 0)
 (g.stV a.next 0 3 f).bind fun h=>
 ((h.ld a.next 0).bind asS).bind fun i=>
 ((h.ld st.next 2).bind asS).bind fun j=>
 cond (eqT j ⟨#[111,114,103]⟩) (
 cond (!(eqT i ⟨#[]⟩)) (
 some (.bool false,h)) (
 (h.ld st.next 3).bind fun k=>
 ((lenV k).bind (asI .i64)).bind fun l=>
 cond (decide (1<l)) (
 some (.bool false,h)) (
 ((h.ld a.next 1).bind (asI .i64)).bind fun m=>
 (zaj b').bind fun n=>
 (addr? n).bind fun o=>
 ((h.ld o.1 o.2).bind (asI .i64)).bind fun p=>
 cond (decide (m<p)) (
 some (.bool false,h)) (
 ((h.ld a.next 1).bind (asI .i64)).bind fun q=>
 cond (decide (2048<q)) (
 some (.bool false,h)) (
 ((h.ld a.next 1).bind (asI .i64)).bind fun r=>
 (zaj b').bind fun s=>
 (addr? s).bind fun t=>
 (h.st t.1 t.2 [.int .i64 r]).bind fun u=>
 some (.bool true,u)))))) (
 cond (eqT j ⟨#[97,108,105,103,110]⟩) (
 cond (!(eqT i ⟨#[]⟩)) (
 some (.bool false,h)) (
 (h.ld st.next 3).bind fun v=>
 ((lenV v).bind (asI .i64)).bind fun w=>
 cond (decide (1<w)) (
 some (.bool false,h)) (
 ((h.ld a.next 1).bind (asI .i64)).bind fun x=>
 cond (decide (x<1)) (
 some (.bool false,h)) (
 ((h.ld a.next 1).bind (asI .i64)).bind fun y=>
 cond (decide (2048<y)) (
 some (.bool false,h)) (
 (zaj b').bind fun z=>
 (addr? z).bind fun A=>
 ((h.ld A.1 A.2).bind (asI .i64)).bind fun B=>
 ((h.ld a.next 1).bind (asI .i64)).bind fun C=>
 let D:Int:=IntKind.wrap .i64 (B+C)
 let E:Int:=IntKind.wrap .i64 (D-1)
 ((h.ld a.next 1).bind (asI .i64)).bind fun F=>
 ((aI .quo .i64 E F).bind (asI .i64)).bind fun G=>
 ((h.ld a.next 1).bind (asI .i64)).bind fun H=>
 let I:Int:=IntKind.wrap .i64 (G*H)
 (zaj b').bind fun J=>
 (addr? J).bind fun K=>
 (h.st K.1 K.2 [.int .i64 I]).bind fun L=>
 (zaj b').bind fun M=>
 (addr? M).bind fun N=>
 ((L.ld N.1 N.2).bind (asI .i64)).bind fun O=>
 some (.bool (decide (O≤2048)),L)))))) (
 cond (eqT j ⟨#[115,101,116]⟩) (
 (h.ld st.next 3).bind fun P=>
 ((lenV P).bind (asI .i64)).bind fun Q=>
 cond (decide (Q=2)) (
 cond (!(eqT i ⟨#[]⟩)) (
 ((h.ld a.next 1).bind (asI .i64)).bind fun R=>
 cond (decide (R=0)) (
 (h.ld st.next 3).bind fun S=>
 (zau S 1 3).bind fun T=>
 ((h.ld T.1 T.2).bind asS).bind fun U=>
 cond (eqT U ⟨#[]⟩) (
 ((h.ld a.next 0).bind asS).bind fun V=>
 (h.ld st.next 3).bind fun W=>
 (zau W 1 3).bind fun X=>
 ((h.ld X.1 (X.2+1)).bind (asI .i64)).bind fun Y=>
 (cf 33 [b',.string V,.int .i64 Y] h).bind fun Z=>
 ((some Z.1).bind asB).bind fun aA=>
 some (.bool aA,Z.2)) (
 some (.bool false,h))) (
 some (.bool false,h))) (
 some (.bool false,h))) (
 some (.bool false,h))) (
 cond (eqT j ⟨#[101,110,116,114,121]⟩) (
 cond (eqT i ⟨#[]⟩) (
 some (.bool false,h)) (
 (h.ld st.next 3).bind fun aB=>
 ((lenV aB).bind (asI .i64)).bind fun aC=>
 cond (decide (1<aC)) (
 some (.bool false,h)) (
 ((h.ld a.next 1).bind (asI .i64)).bind fun aD=>
 cond (!(decide (aD=0))) (
 some (.bool false,h)) (
 (zaj b').bind fun aE=>
 (addr? aE).bind fun aF=>
 (h.ld aF.1 (aF.2+4)).bind fun aG=>
 (cf 53 [aG,.func (.func 54) #[] #[ptr a.next 0]] h).bind fun aH=>
 ((some aH.1).bind asB).bind fun aJ=>
 cond aJ (
 some (.bool false,aH.2)) (
 (zaj b').bind fun aK=>
 (addr? aK).bind fun aL=>
 (aH.2.ld aL.1 (aL.2+4)).bind fun aM=>
 (aH.2.ldN a.next 0 3).bind fun aN=>
 (zaW aN 3).bind fun aO=>
 let aP:SS:=aH.2.new (.cells (aO++([])) 3)
 (aP.app 3 32 aM (.slice (some ⟨aH.2.next,0,none⟩) 1 1)).bind fun aQ=>
 (zaj b').bind fun aR=>
 (addr? aR).bind fun aS=>
 (aQ.2.stV aS.1 (aS.2+4) 1 aQ.1).bind fun aT=>
 (zaj b').bind fun aU=>
 (addr? aU).bind fun aV=>
 (aT.ld aV.1 (aV.2+3)).bind fun aW=>
 ((aT.ld st.next 0).bind (asI .i64)).bind fun aX=>
 ((aT.ld a.next 2).bind (asI .i64)).bind fun aY=>
 let aZ:SS:=aT.new (.cells ([.int .i64 aX,.int .i64 aY]) 2)
 (aZ.app 2 16 aW (.slice (some ⟨aT.next,0,none⟩) 1 1)).bind fun bA=>
 (zaj b').bind fun bB=>
 (addr? bB).bind fun bC=>
 (bA.2.stV bC.1 (bC.2+3) 1 bA.1).bind fun bD=>
 some (.bool true,bD)))))) (
 some (.bool false,h))))))
noncomputable abbrev zeg:zab:=lS Tryz.prog Lk0 Tryz.f34 zav
theorem zg7:Lk0.func 34=some (34,Tryz.f34):=by kernel_rfl
theorem zaY [Sym] (b':Value) (l':Value) (st:SS) {r:Value×SS} (h:zam cc zeg b' l' st=some r):cc 34 [b',l'] st=some r:=
 zaf (li:=zav) zah zal zg7 rfl (fun _=>rfl) (.trans (by kernel_rfl) h)
noncomputable def zbP (cf:zak) (lf:zab) (b':Value) (l':Value) (st:SS):Option (Value×SS):=
 let a:SS:=st.new (.cells (l':Value).cells.toList 0)
 ((a.ld st.next 1).bind asS).bind fun b=>
 cond (!(eqT b ⟨#[]⟩)) (
 ((a.ld st.next 1).bind asS).bind fun c=>
 (zaj b').bind fun d=>
 (addr? d).bind fun e=>
 ((a.ld e.1 e.2).bind (asI .i64)).bind fun f=>
 (cf 33 [b',.string c,.int .i64 f] a).bind fun g=>
 ((some g.1).bind asB).bind fun h=>
 cond (!h) (
 some (.bool false,g.2)) (
 ((g.2.ld st.next 2).bind asS).bind fun i=>
 cond (!(eqT i ⟨#[]⟩)) (
 (g.2.ldN st.next 0 5).bind fun j=>
 (cf 34 [b',j] g.2).bind fun k=>
 ((some k.1).bind asB).bind fun l=>
 some (.bool l,k.2)) (
 (g.2.ld st.next 4).bind fun m=>
 ((lenV m).bind (asI .i64)).bind fun n=>
 cond (decide (n=0)) (
 some (.bool true,g.2)) (
 (zaj b').bind fun o=>
 (addr? o).bind fun p=>
 (g.2.ld p.1 (p.2+2)).bind fun q=>
 (zaj b').bind fun r=>
 (addr? r).bind fun s=>
 ((g.2.ld s.1 s.2).bind (asI .i64)).bind fun t=>
 (g.2.ldN st.next 0 5).bind fun u=>
 (zaW u 5).bind fun v=>
 (zaW (.agg ⟨spl [.int .i64 t,.int .i64 0,.string ⟨#[]⟩,.string ⟨#[]⟩,.slice none 0 0,.slice none 0 0] 1 v⟩) 6).bind fun w=>
 let x:SS:=g.2.new (.cells (w++([])) 6)
 (x.app 6 96 q (.slice (some ⟨g.2.next,0,none⟩) 1 1)).bind fun y=>
 (zaj b').bind fun z=>
 (addr? z).bind fun A=>
 (y.2.stV A.1 (A.2+2) 1 y.1).bind fun B=>
 (zaj b').bind fun C=>
 (addr? C).bind fun D=>
 ((B.ld D.1 D.2).bind (asI .i64)).bind fun E=>
 let F:Int:=IntKind.wrap .i64 (E+1)
 (zaj b').bind fun G=>
 (addr? G).bind fun H=>
 (B.st H.1 H.2 [.int .i64 F]).bind fun I=>
 (zaj b').bind fun J=>
 (addr? J).bind fun K=>
 ((I.ld K.1 K.2).bind (asI .i64)).bind fun L=>
 some (.bool (decide (L≤2048)),I))))) (
 ((a.ld st.next 2).bind asS).bind fun M=>
 cond (!(eqT M ⟨#[]⟩)) (
 (a.ldN st.next 0 5).bind fun N=>
 (cf 34 [b',N] a).bind fun O=>
 ((some O.1).bind asB).bind fun P=>
 some (.bool P,O.2)) (
 (a.ld st.next 4).bind fun Q=>
 ((lenV Q).bind (asI .i64)).bind fun R=>
 cond (decide (R=0)) (
 some (.bool true,a)) (
 (zaj b').bind fun S=>
 (addr? S).bind fun T=>
 (a.ld T.1 (T.2+2)).bind fun U=>
 (zaj b').bind fun V=>
 (addr? V).bind fun W=>
 ((a.ld W.1 W.2).bind (asI .i64)).bind fun X=>
 (a.ldN st.next 0 5).bind fun Y=>
 (zaW Y 5).bind fun Z=>
 (zaW (.agg ⟨spl [.int .i64 X,.int .i64 0,.string ⟨#[]⟩,.string ⟨#[]⟩,.slice none 0 0,.slice none 0 0] 1 Z⟩) 6).bind fun aA=>
 let aB:SS:=a.new (.cells (aA++([])) 6)
 (aB.app 6 96 U (.slice (some ⟨a.next,0,none⟩) 1 1)).bind fun aC=>
 (zaj b').bind fun aD=>
 (addr? aD).bind fun aE=>
 (aC.2.stV aE.1 (aE.2+2) 1 aC.1).bind fun aF=>
 (zaj b').bind fun aG=>
 (addr? aG).bind fun aH=>
 ((aF.ld aH.1 aH.2).bind (asI .i64)).bind fun aI=>
 let aJ:Int:=IntKind.wrap .i64 (aI+1)
 (zaj b').bind fun aK=>
 (addr? aK).bind fun aL=>
 (aF.st aL.1 aL.2 [.int .i64 aJ]).bind fun aM=>
 (zaj b').bind fun aN=>
 (addr? aN).bind fun aO=>
 ((aM.ld aO.1 aO.2).bind (asI .i64)).bind fun aP=>
 some (.bool (decide (aP≤2048)),aM))))
noncomputable abbrev zdw:zab:=lS Tryz.prog Lk0 Tryz.f16 zav
theorem zi8:Lk0.func 16=some (16,Tryz.f16):=by kernel_rfl
theorem zbQ [Sym] (b':Value) (l':Value) (st:SS) {r:Value×SS} (h:zbP cc zdw b' l' st=some r):cc 16 [b',l'] st=some r:=
 zaf (li:=zav) zah zal zi8 rfl (fun _=>rfl) (.trans (by kernel_rfl) h)
noncomputable def zb7 (cf:zak) (lf:zab) (b':Value) (field':ByteArray) (v':Value) (st:SS):Option (Value×SS):=
 let a:SS:=(st.ro st.next).new (.cells (v':Value).cells.toList 0)
 ((a.ld ((st.ro st.next).next) 0).bind asS).bind fun b=>
 cond (eqT b ⟨#[]⟩) (
 ((a.ld ((st.ro st.next).next) 1).bind (asI .i64)).bind fun c=>
 some (.tuple #[.int .i64 c,.bool true],st.adv a.next)) (
 (cf 77 [.string field'] (a.ro a.next)).bind fun d=>
 (((d.2.ro a.lim).ld ((st.ro st.next).next) 0).bind asS).bind fun e=>
 (cf 76 [d.1,.string e] (d.2.ro a.lim)).bind fun f=>
 ((some f.1).bind (asI .i64)).bind fun g=>
 cond (decide (0≤g)) (
 ((f.2.ld ((st.ro st.next).next) 1).bind (asI .i64)).bind fun h=>
 let i:Int:=IntKind.wrap .i64 (g+h)
 some (.tuple #[.int .i64 i,.bool true],st.adv f.2.next)) (
 (zaj b').bind fun j=>
 (addr? j).bind fun k=>
 (f.2.ld k.1 (k.2+1)).bind fun l=>
 ((f.2.ld ((st.ro st.next).next) 0).bind asS).bind fun m=>
 (f.2.mapF l m).bind fun n=>
 zfw n (
 ((f.2.ld ((st.ro st.next).next) 1).bind (asI .i64)).bind fun o=>
 let p:Int:=IntKind.wrap .i64 (0+o)
 some (.tuple #[.int .i64 p,.bool false],st.adv f.2.next)) (fun q=>
 ((zan (.tuple #[q,.bool true]) 0).bind (asI .i64)).bind fun r=>
 ((f.2.ld ((st.ro st.next).next) 1).bind (asI .i64)).bind fun s=>
 let t:Int:=IntKind.wrap .i64 (r+s)
 some (.tuple #[.int .i64 t,.bool true],st.adv f.2.next))))
noncomputable abbrev ziE:zab:=lS Tryz.prog Lk0 Tryz.f56 zav
theorem ziF:Lk0.func 56=some (56,Tryz.f56):=by kernel_rfl
theorem zcg [Sym] (b':Value) (field':ByteArray) (v':Value) (st:SS) {r:Value×SS} (h:zb7 cc ziE b' field' v' st=some r):cc 56 [b',.string field',v'] st=some r:=
 zaf (li:=zav) zah zal ziF rfl (fun _=>rfl) (.trans (by kernel_rfl) h)
def zeN:LoopI:=⟨[(0,.any),(4,.any),(6,.any),(13,.any),(14,.int .i64),(15,.int .i64)],[(.exit 0,[(4,.any),(6,.any)]),(.ret,[(4,.any),(5,.int .i64)])]⟩
def ze4 (n:Nat):Option LoopI:=cond (Nat.beq n 3) (some zeN) (none)
noncomputable def zd7 (cf:zak) (lf:zab) (b':Value) (l':Value) (st:SS):Option (Value×SS):=
 let a:SS:=(st.ro st.next).new (.cells (l':Value).cells.toList 0)
 let b:SS:=a.new (.cells [.int .i64 0,.int .i64 0,.int .i64 0,.int .i64 0,.int .i64 0,.int .i64 0,.int .i64 0,.int .i64 0,.int .i64 0,.int .i64 0,.int .i64 0,.int .i64 0] 0)
 let c:SS:=b.new (.cells [.int .i64 0,.int .i64 0,.int .i64 0,.int .i64 0,.int .i64 0,.int .i64 0,.int .i64 0,.int .i64 0,.int .i64 0,.int .i64 0,.int .i64 0,.int .i64 0] 0)
 (c.ld ((st.ro st.next).next) 4).bind fun d=>
 ((lenV d).bind (asI .i64)).bind fun e=>
 (lf 3 [b',ptr a.next 0,ptr b.next 0,d,.int .i64 e,.int .i64 0] c).bind fun f=>
 cond (Nat.beq f.1 0) (
 (f.2.1[0]?).bind fun g=>
 (f.2.1[1]?).bind fun h=>
 (addr? h).bind fun i=>
 (f.2.2.ldN i.1 i.2 12).bind fun j=>
 (addr? g).bind fun k=>
 (f.2.2.stV k.1 k.2 12 j).bind fun l=>
 (addr? g).bind fun m=>
 (l.rdN m.1 m.2 12).bind fun n=>
 cond (flat3 (.tuple #[n,.int .i64 0])) (some (.tuple #[n,.int .i64 0],st.adv l.next)) none) (
 (f.2.1[0]?).bind fun o=>
 ((f.2.1[1]?).bind (asI .i64)).bind fun p=>
 (addr? o).bind fun q=>
 (f.2.2.rdN q.1 q.2 12).bind fun r=>
 cond (flat3 (.tuple #[r,.int .i64 p])) (some (.tuple #[r,.int .i64 p],st.adv f.2.2.next)) none)
noncomputable abbrev zaS:zab:=lS Tryz.prog Lk0 Tryz.f35 ze4
theorem ziG:Lk0.func 35=some (35,Tryz.f35):=by kernel_rfl
theorem ze5 [Sym] (b':Value) (l':Value) (st:SS) {r:Value×SS} (h:zd7 cc zaS b' l' st=some r):cc 35 [b',l'] st=some r:=
 zaf (li:=ze4) zah zal ziG rfl (fun _=>rfl) (.trans (by kernel_rfl) h)
noncomputable def zbo (cf:zak) (lf:zab) (b':Value) (t4':Value) (w':Value) (t13':Value) (t14':Int) (t15':Int) (st:SS):Option (Nat×List Value×SS):=
 cond (decide (t15'<t14')) (
 (zau t13' t15' 5).bind fun a=>
 (st.ldN a.1 a.2 5).bind fun b=>
 let c:SS:=st.new (.cells [.string ⟨#[]⟩,.int .i64 0,.string ⟨#[]⟩,.int .i64 0,.int .i64 0] 0)
 (c.stV st.next 0 5 b).bind fun d=>
 ((d.ld st.next 0).bind asS).bind fun e=>
 (cf 55 [.string e] d).bind fun f=>
 ((some f.1).bind (asI .i64)).bind fun g=>
 cond (decide (g=0)) (
 (addr? w').bind fun h=>
 (f.2.ldN h.1 h.2 12).bind fun i=>
 ((f.2.ld st.next 1).bind (asI .i64)).bind fun j=>
 cond (zbJ (ptr st.next 1) t4') (
 (addr? t4').bind fun k=>
 (f.2.stV k.1 k.2 12 i).bind fun l=>
 some (1,[t4',.int .i64 j],l)) (
 none)) (
 ((f.2.ld st.next 0).bind asS).bind fun m=>
 (f.2.ldN st.next 2 3).bind fun n=>
 (cf 56 [b',.string m,n] f.2).bind fun o=>
 ((zan o.1 0).bind (asI .i64)).bind fun p=>
 ((zan o.1 1).bind asB).bind fun q=>
 (addr? w').bind fun r=>
 (o.2.ldN r.1 r.2 12).bind fun s=>
 ((o.2.ld st.next 0).bind asS).bind fun t=>
 (cf 57 [s,.string t,.int .i64 p] o.2).bind fun u=>
 (zan u.1 0).bind fun v=>
 ((zan u.1 1).bind (asI .i64)).bind fun w=>
 (addr? w').bind fun x=>
 (u.2.stV x.1 x.2 12 v).bind fun y=>
 cond (!q) (
 (addr? w').bind fun z=>
 (y.ldN z.1 z.2 12).bind fun A=>
 ((y.ld st.next 4).bind (asI .i64)).bind fun B=>
 cond (zbJ (ptr st.next 4) t4') (
 (addr? t4').bind fun C=>
 (y.stV C.1 C.2 12 A).bind fun D=>
 some (1,[t4',.int .i64 B],D)) (
 none)) (
 cond (!(decide (w=0))) (
 (addr? w').bind fun E=>
 (y.ldN E.1 E.2 12).bind fun F=>
 ((y.ld st.next 4).bind (asI .i64)).bind fun G=>
 cond (zbJ (ptr st.next 4) t4') (
 (addr? t4').bind fun H=>
 (y.stV H.1 H.2 12 F).bind fun I=>
 some (1,[t4',.int .i64 G],I)) (
 none)) (
 let J:Int:=IntKind.wrap .i64 (t15'+1)
 lf 3 [b',t4',w',t13',.int .i64 t14',.int .i64 J] y)))) (
 some (0,[t4',w'],st))
theorem zbr [Sym] (b':Value) (t4':Value) (w':Value) (t13':Value) (t14':Int) (t15':Int) (st:SS) {r:Nat×List Value×SS} (h:zbo cc zaS b' t4' w' t13' t14' t15' st=some r):zaS 3 [b',t4',w',t13',.int .i64 t14',.int .i64 t15'] st=some r:=
 zay zah zal (key:=3) (I:=zeN) rfl (by kernel_rfl) (by kernel_rfl) rfl rfl (.trans (by kernel_rfl) h)
def znX:LoopI:=⟨[(0,.any),(1,.str),(7,.int .i64),(8,.int .i64)],[(.exit 0,[]),(.ret,[(4,.int .i64)])]⟩
def zpq (n:Nat):Option LoopI:=cond (Nat.beq n 2) (some znX) (none)
noncomputable def zuG (cf:zak) (lf:zab) (s':Value) (v':ByteArray) (st:SS):Option (Value×SS):=
 ((lenV s').bind (asI .i64)).bind fun a=>
 (lf 2 [s',.string v',.int .i64 a,.int .i64 0] (st.ro st.next)).bind fun b=>
 cond (Nat.beq b.1 0) (
 some (.int .i64 (-1),st.adv b.2.2.next)) (
 ((b.2.1[0]?).bind (asI .i64)).bind fun c=>
 some (.int .i64 c,st.adv b.2.2.next))
noncomputable abbrev zgx:zab:=lS Tryz.prog Lk0 Tryz.f76 zpq
theorem zuH:Lk0.func 76=some (76,Tryz.f76):=by kernel_rfl
theorem zuI [Sym] (s':Value) (v':ByteArray) (st:SS) {r:Value×SS} (h:zuG cc zgx s' v' st=some r):cc 76 [s',.string v'] st=some r:=
 zaf (li:=zpq) zah zal zuH rfl (fun _=>rfl) (.trans (by kernel_rfl) h)
noncomputable def zij (cf:zak) (lf:zab) (s':Value) (v':ByteArray) (t7':Int) (t8':Int) (st:SS):Option (Nat×List Value×SS):=
 cond (decide (t8'<t7')) (
 (zau s' t8' 1).bind fun a=>
 ((st.ld a.1 a.2).bind asS).bind fun b=>
 cond (eqT v' b) (
 some (1,[.int .i64 t8'],st)) (
 let c:Int:=IntKind.wrap .i64 (t8'+1)
 lf 2 [s',.string v',.int .i64 t7',.int .i64 c] st)) (
 some (0,[],st))
theorem zk7 [Sym] (s':Value) (v':ByteArray) (t7':Int) (t8':Int) (st:SS) {r:Nat×List Value×SS} (h:zij cc zgx s' v' t7' t8' st=some r):zgx 2 [s',.string v',.int .i64 t7',.int .i64 t8'] st=some r:=
 zay zah zal (key:=2) (I:=znX) rfl (by kernel_rfl) (by kernel_rfl) rfl rfl (.trans (by kernel_rfl) h)
noncomputable def zoL (cf:zak) (lf:zab) (s':Value) (q':Nat) (st:SS):Option (Value×SS):=
 (cf 74 [s',.func (.func 54) #[] #[ptr q' 0]] (st.ro st.next)).bind fun a=>
 ((some a.1).bind (asI .i64)).bind fun b=>
 some (.bool (decide (0≤b)),st.adv a.2.next)
noncomputable abbrev zti:zab:=lS Tryz.prog Lk0 Tryz.f53 zav
theorem ztj:Lk0.func 53=some (53,Tryz.f53):=by kernel_rfl
theorem ztk [Sym] (s':Value) (q':Nat) (st:SS) {r:Value×SS} (h:zoL cc zti s' q' st=some r):cc 53 [s',.func (.func 54) #[] #[ptr q' 0]] st=some r:=
 zaf (li:=zav) zah zal ztj rfl (fun _=>rfl) (.trans (by kernel_rfl) h)
def znY:LoopI:=⟨[(0,.any),(1,.any),(7,.int .i64),(8,.int .i64)],[(.exit 0,[]),(.ret,[(4,.int .i64)])]⟩
def zpr (n:Nat):Option LoopI:=cond (Nat.beq n 2) (some znY) (none)
noncomputable def zqO (cf:zak) (lf:zab) (s':Value) (q':Nat) (st:SS):Option (Value×SS):=
 ((lenV s').bind (asI .i64)).bind fun a=>
 (lf 2 [s',.func (.func 54) #[] #[ptr q' 0],.int .i64 a,.int .i64 0] (st.ro st.next)).bind fun b=>
 cond (Nat.beq b.1 0) (
 some (.int .i64 (-1),st.adv b.2.2.next)) (
 ((b.2.1[0]?).bind (asI .i64)).bind fun c=>
 some (.int .i64 c,st.adv b.2.2.next))
noncomputable abbrev zgy:zab:=lS Tryz.prog Lk0 Tryz.f74 zpr
theorem zuJ:Lk0.func 74=some (74,Tryz.f74):=by kernel_rfl
theorem zps [Sym] (s':Value) (q':Nat) (st:SS) {r:Value×SS} (h:zqO cc zgy s' q' st=some r):cc 74 [s',.func (.func 54) #[] #[ptr q' 0]] st=some r:=
 zaf (li:=zpr) zah zal zuJ rfl (fun _=>rfl) (.trans (by kernel_rfl) h)
noncomputable def zik (cf:zak) (lf:zab) (s':Value) (q':Nat) (t7':Int) (t8':Int) (st:SS):Option (Nat×List Value×SS):=
 cond (decide (t8'<t7')) (
 (zau s' t8' 3).bind fun a=>
 (st.ldN a.1 a.2 3).bind fun b=>
 (cf 54 [b,ptr q' 0] st).bind fun c=>
 ((some c.1).bind asB).bind fun d=>
 cond d (
 some (1,[.int .i64 t8'],c.2)) (
 let e:Int:=IntKind.wrap .i64 (t8'+1)
 lf 2 [s',.func (.func 54) #[] #[ptr q' 0],.int .i64 t7',.int .i64 e] c.2)) (
 some (0,[],st))
theorem zhN [Sym] (s':Value) (q':Nat) (t7':Int) (t8':Int) (st:SS) {r:Nat×List Value×SS} (h:zik cc zgy s' q' t7' t8' st=some r):zgy 2 [s',.func (.func 54) #[] #[ptr q' 0],.int .i64 t7',.int .i64 t8'] st=some r:=
 zay zah zal (key:=2) (I:=znY) rfl (by kernel_rfl) (by kernel_rfl) rfl rfl (.trans (by kernel_rfl) h)
noncomputable def valEq (cf:zak) (lf:zab) (v':Value) (x1':Value) (st:SS):Option (Value×SS):=
 let a:SS:=(st.ro st.next).new (.cells (v':Value).cells.toList 0)
 ((a.ld ((st.ro st.next).next) 0).bind asS).bind fun b=>
 (addr? x1').bind fun c=>
 ((a.ld c.1 c.2).bind asS).bind fun d=>
 some (.bool (eqT b d),st.adv a.next)
noncomputable abbrev zwf:zab:=lS Tryz.prog Lk0 Tryz.f54 zav
theorem zwg:Lk0.func 54=some (54,Tryz.f54):=by kernel_rfl
theorem zwh [Sym] (v':Value) (x1':Value) (st:SS) {r:Value×SS} (h:valEq cc zwf v' x1' st=some r):cc 54 [v',x1'] st=some r:=
 zaf (li:=zav) zah zal zwg rfl (fun _=>rfl) (.trans (by kernel_rfl) h)
end Go.Proofs.YtcplfckncandkaaGreatDoorE
namespace Go.Proofs.YtcplfckncandkaaGreatDoorE
open Go Go.E Go.Proofs
abbrev Nms:=List (List UInt8×Int)
def zb1 (l:Nms) (n:List UInt8):Option Int:=(l.find? fun x=>decide (n=x.1)).map (·.2)
structure Lay where
 pl:Nat
 nms:Nms
 wds:List (Nat×PLine)
 ents:List (Val×Nat×Nat)
def Lay.define (l:Lay) (n:List UInt8) (x:Int):Option Lay:=if (zb1 l.nms n).isSome=true∨n=[] then none else some { l with nms:=l.nms++[(n,x)] }
def zcv (l:Lay) (x:PLine):Option Lay:=match x.args with
 | []=>none
 | v::r=>
   if x.dir=[111,114,103] then (if v.nm=[]∧r=[]∧(l.pl:Int)≤v.x∧v.x≤2048 then some { l with pl:=v.x.toNat } else none)
   else if x.dir=[97,108,105,103,110] then (if v.nm=[]∧r=[]∧1≤v.x∧v.x≤2048∧(l.pl+v.x.toNat-1)/v.x.toNat*v.x.toNat≤2048 then some { l with pl:=(l.pl+v.x.toNat-1)/v.x.toNat*v.x.toNat } else none)
   else if x.dir=[115,101,116] then (match r with
    | [y]=>if v.nm≠[]∧v.x=0∧y.nm=[] then l.define v.nm y.x else none
    | _=>none)
   else if x.dir=[101,110,116,114,121] then (if v.nm≠[]∧r=[]∧v.x=0∧(l.ents.any fun e=>decide (e.1.nm=v.nm))=false then some { l with ents:=l.ents++[(v,x.ln,v.col)] } else none)
   else none
def zil (l:Lay) (x:PLine):Option Lay:=
 (if x.lab=[] then some l else l.define x.lab l.pl).bind fun l=>
 if x.dir≠[] then zcv l x
 else if x.prs=[] then some l
 else if l.pl+1≤2048 then some { l with pl:=l.pl+1,wds:=l.wds++[(l.pl,x)] } else none
def zgd (l:Nms) (f:List UInt8) (v:Val):Option Int:=
 if v.nm=[] then some v.x else
 if 0≤inT (namesT f) v.nm then some (inT (namesT f) v.nm+v.x) else (zb1 l v.nm).map (·+v.x)
def zbe (l:Nms) (w:Wd):List Pr→Wd×Nat
 | []=>(w,0)
 | p::r=>if zg5 p.fd=0 then (w,p.col) else match zgd l p.fd p.v with
   | none=>(w,p.v.col)
   | some x=>if (zbV w p.fd x).2=0 then zbe l (zbV w p.fd x).1 r else (w,p.v.col)
def nmM (l:Nms):List (ByteArray×Value):=l.map fun x=>(mkS x.1,.int .i64 x.2)
theorem zmV (l:Nms) (k:List UInt8):zd9 (mkS k) (nmM l)=(zb1 l k).map (.int .i64):=by
 induction l with
 | nil=>rfl
 | cons x r ih=>
   show cond (eqT (mkS k) (mkS x.1)) _ (zd9 (mkS k) (nmM r))=_
   unfold zb1
   rw [zcW,List.find?_cons]
   by_cases h:k=x.1
   ·rw [zdt h];rfl
   ·rw [zdf h]
    exact ih
theorem zxt (l:Nms) (k:List UInt8) (x:Int) (h:zb1 l k=none):zfb (mkS k) (.int .i64 x) (nmM l)=nmM (l++[(k,x)]):=by
 induction l with
 | nil=>rfl
 | cons y r ih=>
   unfold zb1 at h
   rw [List.find?_cons] at h
   show cond (eqT (mkS k) (mkS y.1)) _ _=_
   rw [zcW]
   by_cases hk:k=y.1
   ·rw [zdt hk] at h;cases h
   ·rw [zdf hk] at h ⊢
    show (mkS y.1,Value.int .i64 y.2)::zfb (mkS k) (.int .i64 x) (nmM r)=_
    rw [ih h];rfl
theorem define_ok [Sym] (b i:Nat) (p vw ve vv:Value) (l:Nms) (n:List UInt8) (x:Int) (st:SS) (hb:At st b [p,.map (some i),vw,ve,vv]) (hi:st.mem.get i=some (.map (nmM l))) (hlt:i<st.next) (hlim:st.lim≤i):
  (if (zb1 l n).isSome=true∨n=[] then cc 33 [ptr b 0,.string (mkS n),.int .i64 x] st=some (.bool false,st)
   else ∃ st',cc 33 [ptr b 0,.string (mkS n),.int .i64 x] st=some (.bool true,st')∧Mod [i] st st'∧st'.next=st.next∧st'.mem.get i=some (.map (nmM (l++[(n,x)])))):=by
 have h1:zaj (ptr b 0)=some (ptr b 0):=rfl
 have l1:st.ld b (0+1)=some (.map (some i)):=hb.ld
 have m1:st.mapF (.map (some i)) (mkS n)=some ((zb1 l n).map (.int .i64)):=by
  unfold SS.mapF
  simp only [hi,zob,zmV]
 cases hf:zb1 l n with
 | some y=>
   rw [hf] at m1
   rw [if_pos (.inl rfl)]
   refine zdh _ _ _ st ?_
   simp only [zcS,h1,zob,zad,l1,m1,Option.map_some,zfw]
   rfl
 | none=>
   rw [hf] at m1
   by_cases hn:n=[]
   ·subst hn
    rw [if_pos (.inr rfl)]
    have he:eqT (mkS []) ⟨#[]⟩=true:=rfl
    refine zdh _ _ _ st ?_
    simp only [zcS,h1,zob,zad,l1,m1,Option.map_none,zfw,he,zct]
   ·rw [if_neg (by rintro (h | h);cases h;exact hn h)]
    have he:eqT (mkS n) ⟨#[]⟩=false:=by rw [zd1];exact zdf hn
    have m2:st.mapP (.map (some i)) (mkS n) (.int .i64 x)=some (st.set i (some (.map (nmM (l++[(n,x)]))))):=by
     unfold SS.mapP
     have:Nat.ble st.lim i=true:=by rwa [Nat.ble_eq]
     simp only [this,zct,hi,zob,zxt l n x hf]
    refine ⟨st.set i (some (.map (nmM (l++[(n,x)])))),zdh _ _ _ st ?_,⟨zlr _,rfl,fun j hj hS=>SS.set_old (by simpa using hS)⟩,rfl,by simp⟩
    simp only [zcS,h1,zob,zad,l1,m1,Option.map_none,zfw,he,zcf,m2]
end Go.Proofs.YtcplfckncandkaaGreatDoorE
namespace Go.Proofs.YtcplfckncandkaaGreatDoorE
open Go Go.E Go.Proofs
theorem zuK [Sym] (l:List (List UInt8)) (hl:l.length≤1099511627776) (s:ByteArray) (v:Value) (st:SS) (hv:Rd st v (strs l) 1 l.length):∀ (r:List (List UInt8)) (i:Nat),l.drop i=r→i≤l.length→
  zgx 2 [v,.string s,.int .i64 l.length,.int .i64 i] st=some (match r.findIdx? (fun x=>decide (x=bl s)) with | none=>(0,[],st) | some k=>(1,[.int .i64 ((i+k:Nat):Int)],st)):=by
 intro r
 induction r with
 | nil=>
   intro i hd hi
   have hlen:=congrArg List.length hd
   rw [List.length_drop] at hlen
   have h:¬ (i:Int)<(l.length:Int):=by simp at hlen;omega
   refine zk7 _ _ _ _ st ?_
   simp only [zij,zdf h,zcf,List.findIdx?_nil]
 | cons p r ih=>
   intro i hd hi
   have hlen:=congrArg List.length hd
   rw [List.length_drop,List.length_cons] at hlen
   have h:(i:Int)<(l.length:Int):=by omega
   have hgp:l[i]?=some p:=by
    have:=List.getElem?_drop (xs:=l) (i:=i) (j:=0)
    rw [hd] at this
    simpa using this.symm
   have hd':l.drop (i+1)=r:=by rw [← List.drop_drop,hd];rfl
   obtain ⟨q,b1,_,b3⟩:=hv.load (j:=(i:Int)) (by omega) h (strs_get _ i p hgp) rfl
   have b3':st.ld q.1 q.2=some (.string (mkS p)):=by simpa using b3 0 (by omega)
   refine zk7 _ _ _ _ st ?_
   have hw:=zaX (i:=i) (by omega)
   by_cases hp:p=bl s
   ·have he:eqT s (mkS p)=true:=by rw [zhx,zbI];exact zdt hp.symm
    simp only [zij,zdt h,zct,b1,b3',zob,zac,he,List.findIdx?_cons,zdt hp,if_true]
    rfl
   ·have he:eqT s (mkS p)=false:=by rw [zhx,zbI];exact zdf (fun h=>hp h.symm)
    have:=ih (i+1) hd' (by omega)
    simp only [zij,zdt h,zct,b1,b3',zob,zac,he,zcf,hw,List.findIdx?_cons,zdf hp]
    rw [this]
    cases r.findIdx? (fun x=>decide (x=bl s)) with
    | none=>rfl
    | some k=>simp;omega
theorem zxu [Sym] (l:List (List UInt8)) (hl:l.length≤1099511627776) (s:ByteArray) (v:Value) (st:SS) (hv:Rd st v (strs l) 1 l.length):cc 76 [v,.string s] st=some (.int .i64 (inT l (bl s)),st.adv st.next):=by
 have h:=zuK l hl s v (st.ro st.next) hv l 0 rfl (Nat.zero_le _)
 have h':zgx 2 [v,.string s,.int .i64 l.length,.int .i64 0] (st.ro st.next)=_:=h
 refine zuI v s st ?_
 simp only [zuG,hv.len,zob,zaa]
 rw [h',zob]
 unfold inT
 cases l.findIdx? (fun x=>decide (x=bl s)) with
 | none=>rfl
 | some k=>simp
theorem znZ (f:List UInt8):(namesT f).length≤64:=by
 unfold namesT
 repeat' split
 all_goals decide+kernel
theorem inT_le (l:List (List UInt8)) (s:List UInt8): -1≤inT l s∧inT l s≤l.length:=by
 unfold inT
 cases h:l.findIdx? (fun x=>decide (x=s)) with
 | none=>simp
 | some k=>
   have:=(List.findIdx?_eq_some_iff_getElem.1 h).1
   simp only
   omega
def NmsOk (l:Nms):Prop:=∀ x∈l, -4294967296≤x.2∧x.2≤4294967296
theorem zuL {l:Nms} {n:List UInt8} {x:Int} (h:zb1 l n=some x):∃ y∈l,y.2=x:=by
 unfold zb1 at h
 simp only [zmi] at h
 obtain ⟨y,hy,rfl⟩:=h
 exact ⟨y,List.mem_of_find?_eq_some hy,rfl⟩
def numR:Option Int→Int→Value
 | some x,_=>.tuple #[.int .i64 x,.bool true]
 | none,y=>.tuple #[.int .i64 y,.bool false]
theorem ztl [Sym] (b i:Nat) (p vw ve vv:Value) (l:Nms) (hl:NmsOk l) (f:List UInt8) (v:Val) (h0: -4294967296≤v.x) (h1:v.x≤4294967296) (st:SS) (hg:Gd st) (hb:st.mem.get b=some (.cells [p,.map (some i),vw,ve,vv] 0)) (hbl:b<st.next) (hi:st.mem.get i=some (.map (nmM l))) (hlt:i<st.next):
  ∃ n,st.next≤n∧cc 56 [ptr b 0,.string (mkS f),.agg (valRow v).toArray] st=some (numR (zgd l f v) v.x,st.adv n):=by
 have x1:Ext (st.ro st.next) ((st.ro st.next).new (.cells (valRow v) 0)):=(Ext.refl _).new _
 have hm:((st.ro st.next).new (.cells (valRow v) 0)).mem.get st.next=some (.cells (valRow v) 0):=SS.new_get (st:=st.ro st.next)
 have l0:((st.ro st.next).new (.cells (valRow v) 0)).ld st.next 0=some (.string (mkS v.nm)):=by rw [SS.ld_cells hm];rfl
 have l1:((st.ro st.next).new (.cells (valRow v) 0)).ld st.next 1=some (.int .i64 v.x):=by rw [SS.ld_cells hm];rfl
 have hn:eqT (mkS v.nm) ⟨#[]⟩=decide (v.nm=[]):=zd1 _
 by_cases hnm:v.nm=[]
 ·have hs:zgd l f v=some v.x:=by unfold zgd;rw [if_pos hnm]
  rw [hs]
  rw [zdt hnm] at hn
  refine ⟨st.next+1,by omega,zcg _ _ _ st ?_⟩
  simp only [zb7,zaG,SS.ro_next,l0,l1,zob,zac,hn,zct,zaa]
  rfl
 ·rw [zdf hnm] at hn
  have g1:Gd ((st.ro st.next).new (.cells (valRow v) 0)):=(hg.ro (n:=st.next)).ext x1
  generalize hs1:(st.ro st.next).new (.cells (valRow v) 0)=s1 at*
  have hn1:s1.next=st.next+1:=by rw [← hs1];rfl
  obtain ⟨v4,s4,c4,x4,o4⟩:=zv9 (mkS f) (s1.ro s1.next) g1.ro (zlr _)
  have x4':Ext s1 (s4.ro s1.lim):=⟨x4.next,rfl,fun j hj=>x4.keep j hj⟩
  have r4:Rd (s4.ro s1.lim) v4 (strs (namesT f)) 1 (namesT f).length:=o4.rd
  have l5:(s4.ro s1.lim).ld st.next 0=some (.string (mkS v.nm)):=by rw [SS.ld_cells (x4'.get (by omega) hm)];rfl
  have c6:=zxu (namesT f) (by have:=znZ f;omega) (mkS v.nm) v4 (s4.ro s1.lim) r4
  have x6:Ext (s4.ro s1.lim) ((s4.ro s1.lim).adv (s4.ro s1.lim).next):=(Ext.refl _).adv (zlr _)
  have hin:=inT_le (namesT f) v.nm
  have hnl:=znZ f
  have hs5:∀ k:Nat,k<s1.next→((s4.ro s1.lim).adv (s4.ro s1.lim).next).mem.get k=s1.mem.get k:=fun k hk=>(x4'.trans x6).keep k hk
  generalize hs6:(s4.ro s1.lim).adv (s4.ro s1.lim).next=s6 at*
  have hnx:st.next≤s6.next:=by rw [← hs6];have:=x4.next;simp at this ⊢;omega
  have hm6:s6.mem.get st.next=some (.cells (valRow v) 0):=(hs5 st.next (by omega)).trans hm
  have l60:s6.ld st.next 0=some (.string (mkS v.nm)):=by rw [SS.ld_cells hm6];rfl
  have l61:s6.ld st.next 1=some (.int .i64 v.x):=by rw [SS.ld_cells hm6];rfl
  by_cases hk:0≤inT (namesT f) v.nm
  ·have hs:zgd l f v=some (inT (namesT f) v.nm+v.x):=by unfold zgd;rw [if_neg hnm,if_pos hk]
   rw [hs]
   have hw:IntKind.wrap .i64 (inT (namesT f) v.nm+v.x)=inT (namesT f) v.nm+v.x:=wrap64 (by omega) (by omega)
   refine ⟨s6.next,hnx,zcg _ _ _ st ?_⟩
   simp only [zb7,zaG,SS.ro_next,hs1,l0,zob,zac,hn,zcf,c4,l5,c6,zbI,zaa,zdt hk,zct,l61,hw]
   rfl
  ·have hs:zgd l f v=(zb1 l v.nm).map (·+v.x):=by unfold zgd;rw [if_neg hnm,if_neg hk]
   rw [hs]
   have hold:∀ k:Nat,k<st.next→s6.mem.get k=st.mem.get k:=fun k hk=>by
    rw [hs5 k (by omega),← hs1,SS.new_old (by show k≠st.next;omega)];rfl
   have hnl:zaj (ptr b 0)=some (ptr b 0):=rfl
   have l7:s6.ld b (0+1)=some (.map (some i)):=by rw [SS.ld_cells ((hold b hbl).trans hb)];rfl
   have m7:s6.mapF (.map (some i)) (mkS v.nm)=some ((zb1 l v.nm).map (.int .i64)):=by
    unfold SS.mapF
    simp only [(hold i hlt).trans hi,zob,zmV]
   cases hf:zb1 l v.nm with
   | none=>
     rw [hf] at m7
     have hw:IntKind.wrap .i64 (0+v.x)=v.x:=by rw [Int.zero_add];exact wrap64 (by omega) (by omega)
     refine ⟨s6.next,hnx,zcg _ _ _ st ?_⟩
     simp only [zb7,zaG,SS.ro_next,hs1,l0,zob,zac,hn,zcf,c4,l5,c6,zbI,zaa,zdf hk,hnl,zad,l7,l60,l61,m7,Option.map_none,zfw,hw]
     rfl
   | some y=>
     rw [hf] at m7
     obtain ⟨z,hz,hzy⟩:=zuL hf
     have hb':=hl z hz
     rw [hzy] at hb'
     have hw:IntKind.wrap .i64 (y+v.x)=y+v.x:=wrap64 (by omega) (by omega)
     have ht:(zan (.tuple #[.int .i64 y,.bool true]) 0).bind (asI .i64)=some y:=rfl
     refine ⟨s6.next,hnx,zcg _ _ _ st ?_⟩
     simp only [zb7,zaG,SS.ro_next,hs1,l0,zob,zac,hn,zcf,c4,l5,c6,zbI,zaa,zdf hk,hnl,zad,l7,l60,l61,m7,Option.map_some,zfw,ht,hw]
     rfl
end Go.Proofs.YtcplfckncandkaaGreatDoorE
namespace Go.Proofs.YtcplfckncandkaaGreatDoorE
open Go Go.E Go.Proofs
theorem zcO {i j k k':Nat} (h:i≠j):zbJ (ptr i k) (ptr j k')=true:=by
 show (!Nat.beq i j)=true
 rw [zar,zdf h];rfl
theorem zaD {a b c:SS} {i:Nat} (h:Ext a b) (m:Mod [i] b c) (hi:a.next≤i):Ext a c:=((Mod.ofExt (S:=[i]) h).then m).fresh fun j hj=>by
 have:j=i:=by simpa using hj
 omega
theorem At.setW {st:SS} {b:Nat} {row:List Value} (h:At st b row) (hr:row.length=12) (w:Wd) (hw:w.length=12):∃ st',st.stV b 0 12 (wV w)=some st'∧At st' b (wRow w)∧Mod [b] st st':=by
 obtain ⟨s',e,a,m,_⟩:=h.stV (k:=0) (n:=12) (v:=wV w) (zaG _) (by rw [zbc,hw]) (zde w) (row':=wRow w) (by rw [zbu (by rw [zbc,hw,hr];exact zlr 12)];simp [zbc,hw,hr])
 exact ⟨s',e,a,m⟩
def ztm (prs:List Pr):Prop:=prs.length≤1099511627776∧∀ p∈prs,0<p.col∧0<p.v.col∧ -4294967296≤p.v.x∧p.v.x≤4294967296
theorem zmW (l:Nms):∀ (prs:List Pr) (w:Wd),(zbe l w prs).1.length=w.length
 | [],w=>rfl
 | p::r,w=>by
   unfold zbe
   split
   ·rfl
   ·split
    ·rfl
    ·split
     ·rw [zmW l r,zdg]
     ·rfl
theorem zwi [Sym] (l:Nms) (hl:NmsOk l) (prs:List Pr) (hprs:ztm prs) (b i t4 wb:Nat) (p vw ve vv v:Value) (st0:SS) (hg:Gd st0) (hb:st0.mem.get b=some (.cells [p,.map (some i),vw,ve,vv] 0)) (hbl:b<st0.next) (hi:st0.mem.get i=some (.map (nmM l))) (hlt:i<st0.next)
  (hv:Rd st0 v (rowsF prRow prs) 5 prs.length) (hne:t4≠wb) (h4:st0.next≤t4) (hw0:st0.next≤wb):∀ (k j:Nat) (w:Wd) (st:SS),prs.length=k+j→w.length=12→Ext st0 st→st.lim≤st0.next→At st wb (wRow w)→At st t4 Z12→
  ∃ st',Ext st0 st'∧((zbe l w (prs.drop j)).2=0∧zaS 3 [ptr b 0,ptr t4 0,ptr wb 0,v,.int .i64 prs.length,.int .i64 j] st=some (0,[ptr t4 0,ptr wb 0],st')∧At st' wb (wRow (zbe l w (prs.drop j)).1)∧At st' t4 Z12∨
   0<(zbe l w (prs.drop j)).2∧zaS 3 [ptr b 0,ptr t4 0,ptr wb 0,v,.int .i64 prs.length,.int .i64 j] st=some (1,[ptr t4 0,.int .i64 (zbe l w (prs.drop j)).2],st')∧∃ u:Wd,u.length=12∧At st' t4 (wRow u)):=by
 intro k
 induction k with
 | zero=>
   intro j w st hk hw he hlm aw a4
   have h:¬ (j:Int)<(prs.length:Int):=by omega
   rw [List.drop_of_length_le (by omega)]
   refine ⟨st,he,.inl ⟨rfl,zbr _ _ _ _ _ _ st ?_,aw,a4⟩⟩
   simp only [zbo,zdf h,zcf]
 | succ k ih=>
   intro j w st hk hw he hlm aw a4
   have h:(j:Int)<(prs.length:Int):=by omega
   obtain ⟨q,hq⟩:∃ q,prs[j]?=some q:=⟨_,zge (by omega)⟩
   obtain ⟨x,b1,b2,_⟩:=(hv.ext he).load (j:=(j:Int)) (by omega) h (zaU zpp prs j q hq) rfl
   have b2':st.ldN x.1 x.2 5=some (.agg (prRow q).toArray):=b2
   obtain ⟨q1,q2,q3,q4⟩:=hprs.2 q (zmg hq)
   have hlmn:st.lim≤st.next:=zlt hlm he.next
   obtain ⟨s4,e4,a5,x4,n4⟩:=zaV (st:=st) hlmn (r:=prRow ⟨[],0,⟨[],0,0⟩⟩) (row:=prRow q) (v:=.agg (prRow q).toArray) (zaG _) rfl rfl rfl
   have e4':(st.new (.cells [.string ⟨#[]⟩,.int .i64 0,.string ⟨#[]⟩,.int .i64 0,.int .i64 0] 0)).stV st.next 0 5 (.agg (prRow q).toArray)=some s4:=e4
   have he4:Ext st0 s4:=he.trans x4
   obtain ⟨n6,hn6,c6⟩:=zxm q.fd s4 (hg.ext he4)
   have x6:Ext s4 (s4.adv n6):=(Ext.refl _).adv hn6
   have he6:=he4.trans x6
   have a56:=a5.ext x6
   have aw6:=(aw.ext x4).ext x6
   have a46:=(a4.ext x4).ext x6
   have l0:s4.ld st.next 0=some (.string (mkS q.fd)):=a5.ld
   have hd:=drop_cons hq
   have hE:zbe l w (prs.drop j)=if zg5 q.fd=0 then (w,q.col) else match zgd l q.fd q.v with
    | none=>(w,q.v.col)
    | some x=>if (zbV w q.fd x).2=0 then zbe l (zbV w q.fd x).1 (prs.drop (j+1)) else (w,q.v.col):=by rw [hd];rfl
   have hpne:st.next≠t4:=by have:=a4.lt;omega
   by_cases hbt:zg5 q.fd=0
   ·rw [if_pos hbt] at hE
    rw [hE]
    have hz:((zg5 q.fd:Nat):Int)=0:=by omega
    obtain ⟨s12,e12,a12,m12⟩:=At.setW a46 rfl w hw
    have l9:=aw6.ldN (n:=12) (by rw [zbc,hw])
    have l9':(s4.adv n6).ldN wb 0 12=some (wV w):=l9
    have l10:(s4.adv n6).ld st.next 1=some (.int .i64 q.col):=a56.ld
    refine ⟨s12,zaD he6 m12 h4,.inr ⟨q1,zbr _ _ _ _ _ _ st ?_,w,hw,a12⟩⟩
    simp only [zbo,zdt h,zct,b1,b2',e4',l0,c6,zob,zac,zaa,zdt hz,zad,l9',l10,zcO hpne,e12]
   ·rw [if_neg hbt] at hE
    have hz:¬ ((zg5 q.fd:Nat):Int)=0:=by omega
    have l13:(s4.adv n6).ld st.next 0=some (.string (mkS q.fd)):=a56.ld
    have l14:(s4.adv n6).ldN st.next 2 3=some (.agg (valRow q.v).toArray):=a56.ldC rfl
    obtain ⟨n15,hn15,c15⟩:=ztl b i p vw ve vv l hl q.fd q.v q3 q4 (s4.adv n6) (hg.ext he6) (he6.get hbl hb) (zll hbl he6.next) (he6.get hlt hi) (zll hlt he6.next)
    have x15:Ext (s4.adv n6) ((s4.adv n6).adv n15):=(Ext.refl _).adv hn15
    have he15:=he6.trans x15
    have a515:=a56.ext x15
    have aw15:=aw6.ext x15
    have a415:=a46.ext x15
    have l19:((s4.adv n6).adv n15).ldN wb 0 12=some (wV w):=aw15.ldN (by rw [zbc,hw])
    have l20:((s4.adv n6).adv n15).ld st.next 0=some (.string (mkS q.fd)):=a515.ld
    have step:∀ (y:Int),∃ n21 s25,((s4.adv n6).adv n15).next≤n21∧cc 57 [wV w,.string (mkS q.fd),.int .i64 y] ((s4.adv n6).adv n15)=some (.tuple #[wV (zbV w q.fd y).1,.int .i64 (zbV w q.fd y).2],((s4.adv n6).adv n15).adv n21)∧
      (((s4.adv n6).adv n15).adv n21).stV wb 0 12 (wV (zbV w q.fd y).1)=some s25∧Ext st0 s25∧At s25 wb (wRow (zbV w q.fd y).1)∧At s25 t4 Z12∧s25.ld st.next 4=some (.int .i64 q.v.col)∧s25.lim≤st0.next:=by
     intro y
     obtain ⟨n21,hn21,c21⟩:=set_ok w hw q.fd y ((s4.adv n6).adv n15) (hg.ext he15)
     have x21:Ext ((s4.adv n6).adv n15) (((s4.adv n6).adv n15).adv n21):=(Ext.refl _).adv hn21
     obtain ⟨s25,e25,a25,m25⟩:=At.setW (aw15.ext x21) (by rw [zbc,hw]) (zbV w q.fd y).1 (by rw [zdg,hw])
     have hpw:st.next≠wb:=by have:=aw.lt;omega
     have a55:=(a515.ext x21).mod m25 (by simpa using hpw)
     have hx25:Ext st0 s25:=zaD (he15.trans x21) m25 hw0
     exact ⟨n21,s25,hn21,c21,e25,hx25,a25,(a415.ext x21).mod m25 (by simpa using hne),a55.ld,by rw [hx25.lim,← he.lim];exact hlm⟩
    have ht0:∀ (a:Value) (z:Int),zan (.tuple #[a,.int .i64 z]) 0=some a:=fun _ _=>rfl
    have ht1:∀ (a:Value) (z:Int),(zan (.tuple #[a,.int .i64 z]) 1).bind (asI .i64)=some z:=fun _ _=>rfl
    have hn0:∀ (y:Int) (c:Bool),(zan (.tuple #[.int .i64 y,.bool c]) 0).bind (asI .i64)=some y:=fun _ _=>rfl
    have hn1:∀ (y:Int) (c:Bool),(zan (.tuple #[.int .i64 y,.bool c]) 1).bind asB=some c:=fun _ _=>rfl
    cases hnum:zgd l q.fd q.v with
    | none=>
      rw [hnum] at hE c15
      rw [hE]
      obtain ⟨n21,s25,hn21,c21,e25,hx25,aw25,a425,l28,hlm25⟩:=step q.v.x
      obtain ⟨s30,e30,a30,m30⟩:=At.setW a425 rfl (zbV w q.fd q.v.x).1 (by rw [zdg,hw])
      have l27:s25.ldN wb 0 12=some (wV (zbV w q.fd q.v.x).1):=aw25.ldN (by rw [zbc,zdg,hw])
      refine ⟨s30,zaD hx25 m30 h4,.inr ⟨q2,zbr _ _ _ _ _ _ st ?_,_,by rw [zdg,hw],a30⟩⟩
      have c15':cc 56 [ptr b 0,.string (mkS q.fd),.agg (valRow q.v).toArray] (s4.adv n6)=some (.tuple #[.int .i64 q.v.x,.bool false],(s4.adv n6).adv n15):=c15
      simp only [zbo,zdt h,zct,b1,b2',e4',l0,c6,zob,zac,zaa,zdf hz,zcf,l13,l14,c15',hn0,hn1,zad,l19,l20,c21,ht0,ht1,e25,znf,l27,l28,zcO hpne,e30]
    | some y=>
      rw [hnum] at hE c15
      simp only at hE
      obtain ⟨n21,s25,hn21,c21,e25,hx25,aw25,a425,l28,hlm25⟩:=step y
      have c15':cc 56 [ptr b 0,.string (mkS q.fd),.agg (valRow q.v).toArray] (s4.adv n6)=some (.tuple #[.int .i64 y,.bool true],(s4.adv n6).adv n15):=c15
      have hw1:=zaX (i:=j) (by have:=hprs.1;omega)
      by_cases hs:(zbV w q.fd y).2=0
      ·rw [if_pos hs] at hE
       rw [hE]
       obtain ⟨s',f1,f2⟩:=ih (j+1) (zbV w q.fd y).1 s25 (by omega) (by rw [zdg,hw]) hx25 hlm25 aw25 a425
       have go:∀ r,zaS 3 [ptr b 0,ptr t4 0,ptr wb 0,v,.int .i64 prs.length,.int .i64 ((j+1:Nat):Int)] s25=some r→zaS 3 [ptr b 0,ptr t4 0,ptr wb 0,v,.int .i64 prs.length,.int .i64 j] st=some r:=fun r hr=>by
        refine zbr _ _ _ _ _ _ st ?_
        simp only [zbo,zdt h,zct,b1,b2',e4',l0,c6,zob,zac,zaa,zdf hz,zcf,l13,l14,c15',hn0,hn1,zad,l19,l20,c21,ht0,ht1,e25,znt,zdt hs,hw1]
        exact hr
       refine ⟨s',f1,?_⟩
       rcases f2 with ⟨g1,g2,g3,g4⟩ | ⟨g1,g2,g3⟩
       ·exact .inl ⟨g1,go _ g2,g3,g4⟩
       ·exact .inr ⟨g1,go _ g2,g3⟩
      ·rw [if_neg hs] at hE
       rw [hE]
       obtain ⟨s30,e30,a30,m30⟩:=At.setW a425 rfl (zbV w q.fd y).1 (by rw [zdg,hw])
       have l27:s25.ldN wb 0 12=some (wV (zbV w q.fd y).1):=aw25.ldN (by rw [zbc,zdg,hw])
       refine ⟨s30,zaD hx25 m30 h4,.inr ⟨q2,zbr _ _ _ _ _ _ st ?_,_,by rw [zdg,hw],a30⟩⟩
       simp only [zbo,zdt h,zct,b1,b2',e4',l0,c6,zob,zac,zaa,zdf hz,zcf,l13,l14,c15',hn0,hn1,zad,l19,l20,c21,ht0,ht1,e25,znt,zdf hs,znf,l27,l28,zcO hpne,e30]
def zaE:Wd:=List.replicate 12 0
theorem zuM:wRow zaE=Z12:=rfl
theorem zuN [Sym] (l:Nms) (hl:NmsOk l) (x:Item) (hprs:ztm x.1.prs) (b i:Nat) (p vw ve vv:Value) (st:SS) (hg:Gd st) (hb:st.mem.get b=some (.cells [p,.map (some i),vw,ve,vv] 0)) (hbl:b<st.next) (hi:st.mem.get i=some (.map (nmM l))) (hlt:i<st.next)
  (hv:Rd st x.2.2 (rowsF prRow x.1.prs) 5 x.1.prs.length):
  ∃ n u,st.next≤n∧u.length=12∧((zbe l zaE x.1.prs).2=0→u=(zbe l zaE x.1.prs).1)∧cc 35 [ptr b 0,.agg (lnRow x).toArray] st=some (.tuple #[wV u,.int .i64 (zbe l zaE x.1.prs).2],st.adv n):=by
 have x1:Ext (st.ro st.next) ((st.ro st.next).new (.cells (lnRow x) 0)):=(Ext.refl _).new _
 have a2:At (((st.ro st.next).new (.cells (lnRow x) 0)).new (.cells Z12 0)) (st.next+1) Z12:=At.new (st:=(st.ro st.next).new (.cells (lnRow x) 0)) (by simp) _
 have x2:Ext ((st.ro st.next).new (.cells (lnRow x) 0)) (((st.ro st.next).new (.cells (lnRow x) 0)).new (.cells Z12 0)):=(Ext.refl _).new _
 have a3:At ((((st.ro st.next).new (.cells (lnRow x) 0)).new (.cells Z12 0)).new (.cells Z12 0)) (st.next+2) Z12:=At.new (st:=((st.ro st.next).new (.cells (lnRow x) 0)).new (.cells Z12 0)) (by simp;omega) _
 have x3:Ext (((st.ro st.next).new (.cells (lnRow x) 0)).new (.cells Z12 0)) ((((st.ro st.next).new (.cells (lnRow x) 0)).new (.cells Z12 0)).new (.cells Z12 0)):=(Ext.refl _).new _
 have he:=x1.trans (x2.trans x3)
 have l4:((((st.ro st.next).new (.cells (lnRow x) 0)).new (.cells Z12 0)).new (.cells Z12 0)).ld st.next 4=some x.2.2:=by
  have hm:((((st.ro st.next).new (.cells (lnRow x) 0)).new (.cells Z12 0)).new (.cells Z12 0)).mem.get st.next=some (.cells (lnRow x) 0):=(x2.trans x3).get (by simp) (SS.new_get (st:=st.ro st.next))
  rw [SS.ld_cells hm];rfl
 have hv':Rd (st.ro st.next) x.2.2 (rowsF prRow x.1.prs) 5 x.1.prs.length:=hv
 obtain ⟨s',f1,f2⟩:=zwi l hl x.1.prs hprs b i (st.next+1) (st.next+2) p vw ve vv x.2.2 (st.ro st.next) hg.ro hb hbl hi hlt hv' (by omega) (by simp) (by simp) x.1.prs.length 0 zaE _ (by omega) rfl he (by simp) a3 (a2.ext x3)
 rw [List.drop_zero] at f2
 have hlen:(lenV x.2.2).bind (asI .i64)=some (x.1.prs.length:Int):=by rw [hv.len];rfl
 have b0:Nat.beq 0 0=true:=rfl
 have b1:Nat.beq 1 0=false:=rfl
 have hn1:((st.ro st.next).new (.cells (lnRow x) 0)).next=st.next+1:=rfl
 have hn2:(((st.ro st.next).new (.cells (lnRow x) 0)).new (.cells Z12 0)).next=st.next+2:=rfl
 have hnx:=f1.next
 simp only [SS.ro_next] at hnx
 have hel:=zmW l x.1.prs zaE
 rcases f2 with ⟨g1,g2,g3,g4⟩ | ⟨g1,g2,u,g3,g4⟩
 ·have g2':zaS 3 [ptr b 0,ptr (st.next+1) 0,ptr (st.next+2) 0,x.2.2,.int .i64 x.1.prs.length,.int .i64 0] ((((st.ro st.next).new (.cells (lnRow x) 0)).new (.cells Z12 0)).new (.cells Z12 0))=_:=g2
  obtain ⟨s12,e12,a12,m12⟩:=At.setW g4 rfl (zbe l zaE x.1.prs).1 (by rw [hel];rfl)
  have l10:s'.ldN (st.next+2) 0 12=some (wV (zbe l zaE x.1.prs).1):=g3.ldN (by rw [zbc,hel];rfl)
  have l14:s12.rdN (st.next+1) 0 12=some (wV (zbe l zaE x.1.prs).1):=a12.rdN (by rw [zbc,hel];rfl)
  have hz:=znR (zbe l zaE x.1.prs).1 0
  refine ⟨s12.next,_,by have:=m12.next;omega,by rw [hel];rfl,fun _=>rfl,ze5 _ _ st ?_⟩
  rw [g1]
  simp only [zd7,zaG,SS.ro_next,hn1,hn2,l4,zob,hlen,g2',b0,zct,zgs,zgz,zad,l10,e12,l14,hz]
  rfl
 ·have g2':zaS 3 [ptr b 0,ptr (st.next+1) 0,ptr (st.next+2) 0,x.2.2,.int .i64 x.1.prs.length,.int .i64 0] ((((st.ro st.next).new (.cells (lnRow x) 0)).new (.cells Z12 0)).new (.cells Z12 0))=_:=g2
  have l18:s'.rdN (st.next+1) 0 12=some (wV u):=g4.rdN (by rw [zbc,g3])
  have hz:=znR u (zbe l zaE x.1.prs).2
  refine ⟨s'.next,u,hnx,g3,fun h=>by omega,ze5 _ _ st ?_⟩
  simp only [zd7,zaG,SS.ro_next,hn1,hn2,l4,zob,hlen,g2',b1,zcf,zgs,zgz,zad,zaa,l18,hz,zct]
end Go.Proofs.YtcplfckncandkaaGreatDoorE
namespace Go.Proofs.YtcplfckncandkaaGreatDoorE
open Go Go.E Go.Proofs
theorem zwj [Sym] (p:Val) (f:Val) (q:Nat) (st:SS) (hq:st.mem.get q=some (.cells (valRow f) 0)) (hlt:q<st.next):∃ n,st.next≤n∧cc 54 [.agg (valRow p).toArray,ptr q 0] st=some (.bool (decide (p.nm=f.nm)),st.adv n):=by
 refine ⟨st.next+1,by omega,zwh _ _ st ?_⟩
 have l0:((st.ro st.next).new (.cells (valRow p) 0)).ld st.next 0=some (.string (mkS p.nm)):=by
  have hm:((st.ro st.next).new (.cells (valRow p) 0)).mem.get st.next=some (.cells (valRow p) 0):=SS.new_get (st:=st.ro st.next)
  rw [SS.ld_cells hm];rfl
 have l1:((st.ro st.next).new (.cells (valRow p) 0)).ld q 0=some (.string (mkS f.nm)):=by
  rw [SS.ld_cells (c:=valRow f) (z:=0) (by rw [SS.new_old (by simp;omega)];exact hq)];rfl
 simp only [valEq,zaG,SS.ro_next,l0,zob,zac,zad,l1,zcW]
 rfl
theorem ztn [Sym] (ps:List Val) (hsz:ps.length≤1099511627776) (f:Val) (q:Nat) (v:Value) (st0:SS) (hv:Rd st0 v (rowsF valRow ps) 3 ps.length) (hq:st0.mem.get q=some (.cells (valRow f) 0)) (hlt:q<st0.next):
  ∀ (k j:Nat) (st:SS),ps.length=k+j→Ext st0 st→∃ e vs st',zgy 2 [v,.func (.func 54) #[] #[ptr q 0],.int .i64 ps.length,.int .i64 j] st=some (e,vs,st')∧Ext st0 st'∧
   ((e=0∧vs=[]∧((ps.drop j).any fun x=>decide (x.nm=f.nm))=false)∨(e=1∧((ps.drop j).any fun x=>decide (x.nm=f.nm))=true∧∃ m:Nat,vs=[.int .i64 m])):=by
 intro k
 induction k with
 | zero=>
   intro j st hk he
   refine ⟨0,[],st,zhN v q _ _ st ?_,he,.inl ⟨rfl,rfl,?_⟩⟩
   ·have:¬ (j:Int)<(ps.length:Int):=by omega
    simp only [zik,zdf this,zcf]
   ·rw [List.drop_of_length_le (by omega)];rfl
 | succ k ih=>
   intro j st hk he
   obtain ⟨p,hp⟩:∃ p,ps[j]?=some p:=⟨_,zge (by omega)⟩
   have hjl:(j:Int)<(ps.length:Int):=by omega
   obtain ⟨x,b1,b2,_⟩:=(hv.ext he).load (j:=(j:Int)) (by omega) hjl (zaU ztf ps j p hp) rfl
   obtain ⟨n,hn,c1⟩:=zwj p f q st (he.get hlt hq) (zll hlt he.next)
   have b2':st.ldN x.1 x.2 3=some (.agg (valRow p).toArray):=b2
   have hd:=drop_cons hp
   have hw:=zaX (i:=j) (by omega)
   by_cases hf:p.nm=f.nm
   ·refine ⟨1,[.int .i64 j],st.adv n,zhN v q _ _ st ?_,he.adv (by have:=he.next;omega),.inr ⟨rfl,?_,j,rfl⟩⟩
    ·rw [zdt hf] at c1
     simp only [zik,zdt hjl,zct,b1,zob,b2',c1,zai]
    ·rw [hd,List.any_cons,zdt hf];rfl
   ·obtain ⟨e,vs,st',d1,d2,d3⟩:=ih (j+1) (st.adv n) (by omega) (he.adv (by have:=he.next;omega))
    rw [zdf hf] at c1
    refine ⟨e,vs,st',zhN v q _ _ st ?_,d2,?_⟩
    ·simp only [zik,zdt hjl,zct,b1,zob,b2',c1,zai,zcf,hw]
     exact d1
    ·rw [hd,List.any_cons,zdf hf,Bool.false_or]
     exact d3
theorem zwk [Sym] (ps:List Val) (hsz:ps.length≤1099511627776) (f:Val) (q:Nat) (v:Value) (st:SS) (hv:Rd st v (rowsF valRow ps) 3 ps.length) (hq:st.mem.get q=some (.cells (valRow f) 0)) (hlt:q<st.next):
  ∃ n,st.next≤n∧cc 53 [v,.func (.func 54) #[] #[ptr q 0]] st=some (.bool (ps.any fun x=>decide (x.nm=f.nm)),st.adv n):=by
 obtain ⟨e,vs,st',d1,d2,d3⟩:=ztn ps hsz f q v ((st.ro st.next).ro (st.ro st.next).next) hv hq hlt ps.length 0 ((st.ro st.next).ro (st.ro st.next).next) (by omega) (.refl _)
 have d1':zgy 2 [v,.func (.func 54) #[] #[ptr q 0],.int .i64 ps.length,.int .i64 0] ((st.ro st.next).ro (st.ro st.next).next)=some (e,vs,st'):=d1
 have hlen:(lenV v).bind (asI .i64)=some (ps.length:Int):=by rw [hv.len];rfl
 rw [List.drop_zero] at d3
 have hnx:=d2.next
 simp at hnx
 refine ⟨st'.next,hnx,ztk _ _ st ?_⟩
 rcases d3 with ⟨rfl,rfl,e3⟩ | ⟨rfl,e2,m,rfl⟩
 ·have c:cc 74 [v,.func (.func 54) #[] #[ptr q 0]] (st.ro st.next)=some (.int .i64 (-1),(st.ro st.next).adv st'.next):=by
   refine zps _ _ _ ?_
   have hb0:Nat.beq 0 0=true:=rfl
   simp only [zqO,hlen,zob,d1',hb0,zct]
  have h0:¬ (0:Int)≤ -1:=by omega
  rw [e3]
  simp only [zoL,c,zob,zaa,zdf h0]
  rfl
 ·have c:cc 74 [v,.func (.func 54) #[] #[ptr q 0]] (st.ro st.next)=some (.int .i64 m,(st.ro st.next).adv st'.next):=by
   refine zps _ _ _ ?_
   have hb0:Nat.beq 1 0=false:=rfl
   simp only [zqO,hlen,zob,d1',hb0,zcf,zgz,zaa]
  have h0:(0:Int)≤(m:Int):=by omega
  rw [e2]
  simp only [zoL,c,zob,zaa,zdt h0]
  rfl
end Go.Proofs.YtcplfckncandkaaGreatDoorE
namespace Go.Proofs.YtcplfckncandkaaGreatDoorE
open Go Go.E Go.Proofs
def blkOf:Value→Option Nat
 | .slice (some ⟨j,_,none⟩) _ _=>some j
 | _=>none
abbrev WItem:=Nat×Item
def wdRow (x:WItem):List Value:=.int .i64 x.1::lnRow x.2
def entRow (x:Val×Nat×Nat):List Value:=[.int .i64 x.2.1,.int .i64 x.2.2]
def bldRow (pl i:Nat) (vw ve vv:Value):List Value:=[.int .i64 pl,.map (some i),vw,ve,vv]
structure Bld (st0 st:SS) (B b i:Nat) (vw ve vv:Value) (l:Lay) (its:List WItem):Prop where
 ext:Ext st0 st
 ll:st0.lim≤st0.next
 row:At st b (bldRow l.pl i vw ve vv)
 mp:st.mem.get i=some (.map (nmM l.nms))
 b0:st0.next≤b
 i0:st0.next≤i
 bB:b<B
 iB:i<B
 ne:b≠i
 BN:B≤st.next
 ow:Own B st vw (rowsF wdRow its) 6 its.length
 oe:Own B st ve (rowsF entRow l.ents) 2 l.ents.length
 ov:Own B st vv (rowsF valRow (l.ents.map (·.1))) 3 l.ents.length
 d1:∀ j,blkOf vw=some j→blkOf ve≠some j∧blkOf vv≠some j
 d2:∀ j,blkOf ve=some j→blkOf vv≠some j
 wds:its.map (fun x=>(x.1,x.2.1))=l.wds
 itr:∀ x∈its,Rd st0 x.2.2.1 (rowsF valRow x.2.1.args) 3 x.2.1.args.length∧Rd st0 x.2.2.2 (rowsF prRow x.2.1.prs) 5 x.2.1.prs.length
structure Frm (b i:Nat) (vw:Value) (st st':SS):Prop where
 next:st.next≤st'.next
 lim:st'.lim=st.lim
 keep:∀ j,j<st.next→j≠b→j≠i→blkOf vw≠some j→st'.mem.get j=st.mem.get j
theorem Frm.trans {b i:Nat} {vw:Value} {x y z:SS} (h:Frm b i vw x y) (k:Frm b i vw y z):Frm b i vw x z:=⟨zlt h.next k.next,k.lim.trans h.lim,fun j a1 a2 a3 a4=>(k.keep j (zll a1 h.next) a2 a3 a4).trans (h.keep j a1 a2 a3 a4)⟩
theorem Frm.mod {b i:Nat} {vw:Value} {S:List Nat} {x y:SS} (m:Mod S x y) (hS:∀ j,j∈S→j=b∨j=i):Frm b i vw x y:=⟨m.next,m.lim,fun j a1 a2 a3 _=>m.keep j a1 fun e=>(hS j e).elim a2 a3⟩
theorem Frm.ext {b i:Nat} {vw:Value} {x y:SS} (m:Ext x y):Frm b i vw x y:=⟨m.next,m.lim,fun j a1 _ _ _=>m.keep j a1⟩
section
variable {st0 st st' : SS} {B b i : Nat} {vw ve vv : Value} {l : Lay} {its : List WItem}
theorem Bld.then (h:Bld st0 st B b i vw ve vv l its) (x:Ext st st'):Bld st0 st' B b i vw ve vv l its:=
 { h with ext:=h.ext.trans x,row:=h.row.ext x,mp:=x.get (by have:=h.iB;have:=h.BN;omega) h.mp,BN:=zlt h.BN x.next,ow:=h.ow.ext x,oe:=h.oe.ext x,ov:=h.ov.ext x }
theorem Bld.placeM (h:Bld st0 st B b i vw ve vv l its) (p:Nat):∃ st',st.st b 0 [.int .i64 p]=some st'∧Bld st0 st' B b i vw ve vv { l with pl:=p } its∧Mod [b] st st':=by
 obtain ⟨s',e,a,m,_⟩:=h.row.sto (k:=0) (vs:=[.int .i64 p]) (row':=bldRow p i vw ve vv) rfl rfl
 have hx:Ext st0 s':=zaD h.ext m h.b0
 refine ⟨s',e,{ h with ext:=hx,row:=a,mp:=m.get (by have:=h.iB;have:=h.BN;omega) (by simpa using Ne.symm h.ne) h.mp,BN:=zlt h.BN m.next,ow:=h.ow.modLt m ?_,oe:=h.oe.modLt m ?_,ov:=h.ov.modLt m ?_ },m⟩
 all_goals
  intro j hj
  have:j=b:=by simpa using hj
  have:=h.bB
  omega
theorem Bld.place (h:Bld st0 st B b i vw ve vv l its) (p:Nat):∃ st',st.st b 0 [.int .i64 p]=some st'∧Bld st0 st' B b i vw ve vv { l with pl:=p } its:=let ⟨s,e,k,_⟩:=h.placeM p;⟨s,e,k⟩
theorem Bld.define [Sym] (h:Bld st0 st B b i vw ve vv l its) (n:List UInt8) (x:Int):
  match l.define n x with
  | none=>cc 33 [ptr b 0,.string (mkS n),.int .i64 x] st=some (.bool false,st)
  | some l'=>∃ st',cc 33 [ptr b 0,.string (mkS n),.int .i64 x] st=some (.bool true,st')∧Mod [i] st st'∧Bld st0 st' B b i vw ve vv l' its:=by
 have hi:i<st.next:=by have:=h.iB;have:=h.BN;omega
 have hlim:st.lim≤i:=by rw [h.ext.lim];have:=h.ll;have:=h.i0;omega
 have hd:=define_ok b i (.int .i64 l.pl) vw ve vv l.nms n x st h.row h.mp hi hlim
 unfold Lay.define
 by_cases hc:(zb1 l.nms n).isSome=true∨n=[]
 ·rw [if_pos hc] at hd ⊢
  exact hd
 ·rw [if_neg hc] at hd ⊢
  obtain ⟨s',c,m,hn,hm⟩:=hd
  have hx:Ext st0 s':=zaD h.ext m h.i0
  refine ⟨s',c,m,{ h with ext:=hx,row:=h.row.mod m (by simpa using h.ne),mp:=hm,BN:=by rw [hn];exact h.BN,ow:=h.ow.modLt m ?_,oe:=h.oe.modLt m ?_,ov:=h.ov.modLt m ?_ }⟩
  all_goals
   intro j hj
   have:j=i:=by simpa using hj
   have:=h.iB
   omega
end
end Go.Proofs.YtcplfckncandkaaGreatDoorE
namespace Go.Proofs.YtcplfckncandkaaGreatDoorE
open Go Go.E Go.Proofs
theorem zj3 {B:Nat} {st:SS} {v:Value} {c row:List Value} {z n bt:Nat} (h:Own B st v c z n) (hb:B≤st.next) (hl:st.lim≤B) (hr:row.length=z) (hz:0<z) (h1:row.all one=true) (hs:(n+2)*bt≤2^44) (hn:n+1≤2^44):
  ∃ k s',(st.new (.cells row z)).app z bt v (.slice (some ⟨st.next,0,none⟩) 1 1)=some (.slice (some ⟨k,0,none⟩) (n+1) (n+1),s')∧st.next≤k∧Own B s' (.slice (some ⟨k,0,none⟩) (n+1) (n+1)) (c++row) z (n+1)∧s'.lim=st.lim∧st.next≤s'.next∧
   ∀ j,j<st.next→blkOf v≠some j→s'.mem.get j=st.mem.get j:=by
 obtain ⟨k,s',g1,g2,g3,g4,g5,g6⟩:=h.pushN hb hl hr hz h1 hs hn
 exact ⟨k,s',g1,g2,g3,g4,g5,fun j hj hv=>g6 j hj fun q e=>hv (by rw [e];rfl)⟩
theorem zfg {B:Nat} {st s':SS} {v:Value} {c:List Value} {z n:Nat} (h:Own B st v c z n) (hn:st.next≤s'.next) (hk:∀ j,j<st.next→blkOf v=some j→s'.mem.get j=st.mem.get j):Own B s' v c z n:=by
 obtain ⟨h1,h2⟩:=h
 refine ⟨h1,h2.imp id ?_⟩
 rintro ⟨i,e,h0,hm,hb,hi⟩
 exact ⟨i,e,h0,(hk i hi (by rw [e];rfl)).trans hm,hb,zll hi hn⟩
theorem zcz {B:Nat} {st:SS} {v:Value} {c:List Value} {z n:Nat} (h:Own B st v c z n) {j:Nat} (hj:blkOf v=some j):B≤j∧j<st.next:=by
 obtain ⟨_,⟨rfl,_⟩ | ⟨i,rfl,_,_,hb,hi⟩⟩:=h
 ·cases hj
 ·cases hj;exact ⟨hb,hi⟩
theorem zoM (k n m:Nat):(Value.slice (some ⟨k,0,none⟩) n m).cells.toList=[Value.slice (some ⟨k,0,none⟩) n m]:=rfl
section
variable {st0 st : SS} {B b i : Nat} {vw ve vv : Value} {l : Lay} {its : List WItem}
theorem Bld.word (h:Bld st0 st B b i vw ve vv l its) (x:Item) (hx:Rd st0 x.2.1 (rowsF valRow x.1.args) 3 x.1.args.length∧Rd st0 x.2.2 (rowsF prRow x.1.prs) 5 x.1.prs.length) (ho:one x.2.1=true∧one x.2.2=true) (hn:its.length≤100000):
  ∃ vw' s1 s2,(st.new (.cells (wdRow (l.pl,x)) 6)).app 6 96 vw (.slice (some ⟨st.next,0,none⟩) 1 1)=some (vw',s1)∧s1.stV b 2 1 vw'=some s2∧Bld st0 s2 B b i vw' ve vv { l with wds:=l.wds++[(l.pl,x.1)] } (its++[(l.pl,x)])∧Frm b i vw st s2:=by
 have hlB:st.lim≤B:=by rw [h.ext.lim];have:=h.ll;have:=h.b0;have:=h.bB;omega
 obtain ⟨k,s1,g1,g2,g3,g4,g5,g6⟩:=zj3 (row:=wdRow (l.pl,x)) (bt:=96) h.ow h.BN hlB rfl (by omega) (by simp only [wdRow,lnRow,List.all_cons,List.all_nil,ho.1,ho.2];rfl) (by omega) (by omega)
 have old:∀ j,j<B→s1.mem.get j=st.mem.get j:=fun j hj=>g6 j (by have:=h.BN;omega) fun e=>by have:=(zcz h.ow e).1;omega
 have row1:At s1 b (bldRow l.pl i vw ve vv):=⟨(old b h.bB).trans h.row.1,zll h.row.lt g5,by rw [g4];exact h.row.2.2⟩
 have e1:Ext st0 s1:=⟨zlt h.ext.next g5,g4.trans h.ext.lim,fun j hj=>(old j (by have:=h.b0;have:=h.bB;omega)).trans (h.ext.keep j hj)⟩
 obtain ⟨s2,e2,a2,m2,n2⟩:=row1.stV (k:=2) (n:=1) (v:=.slice (some ⟨k,0,none⟩) (its.length+1) (its.length+1)) (zoM _ _ _) rfl rfl (row':=bldRow l.pl i (.slice (some ⟨k,0,none⟩) (its.length+1) (its.length+1)) ve vv) rfl
 have mlt:∀ j,j∈[b]→j<B:=by
  intro j hj
  have e:j=b:=by simpa using hj
  rw [e]
  exact h.bB
 have hne:∀ (u:Value),(∀ j,blkOf vw=some j→blkOf u≠some j)→∀ j,j<st.next→blkOf u=some j→s1.mem.get j=st.mem.get j:=fun u hu j hj e=>g6 j hj fun e'=>hu j e' e
 refine ⟨_,s1,s2,g1,e2,{ h with ext:=zaD e1 m2 h.b0,row:=a2,mp:=m2.get (by have:=h.iB;have:=h.BN;omega) (by simpa using Ne.symm h.ne) ((old i h.iB).trans h.mp),BN:=by rw [n2];have:=h.BN;omega,ow:=?_,oe:=?_,ov:=?_,d1:=?_,wds:=?_,itr:=?_ },⟨by rw [n2];exact g5,m2.lim.trans g4,fun j a1 a2 a3 a4=>(m2.keep j (zll a1 g5) (by simpa using a2)).trans (g6 j a1 a4)⟩⟩
 ·rw [zcj,zdz,List.length_append];exact g3.modLt m2 mlt
 ·exact (zfg h.oe g5 (hne ve fun j e=>(h.d1 j e).1)).modLt m2 mlt
 ·exact (zfg h.ov g5 (hne vv fun j e=>(h.d1 j e).2)).modLt m2 mlt
 ·intro j hj
  cases hj
  exact ⟨fun e=>by have:=(zcz h.oe e).2;omega,fun e=>by have:=(zcz h.ov e).2;omega⟩
 ·simp only [List.map_append,h.wds];rfl
 ·intro y hy
  rcases List.mem_append.1 hy with hy | hy
  ·exact h.itr y hy
  ·have:y=(l.pl,x):=by simpa using hy
   subst this
   exact hx
theorem Bld.entry (h:Bld st0 st B b i vw ve vv l its) (x:Val) (ln col:Nat) (hn:l.ents.length≤100000):
  ∃ vv' s1 s2 ve' s3 s4,(st.new (.cells (valRow x) 3)).app 3 32 vv (.slice (some ⟨st.next,0,none⟩) 1 1)=some (vv',s1)∧s1.stV b 4 1 vv'=some s2∧s2.ld b 3=some ve∧Ext st0 s2∧(∀ j,j<st.next→blkOf vv≠some j→j≠b→s2.mem.get j=st.mem.get j)∧
   (s2.new (.cells (entRow (x,ln,col)) 2)).app 2 16 ve (.slice (some ⟨s2.next,0,none⟩) 1 1)=some (ve',s3)∧s3.stV b 3 1 ve'=some s4∧Bld st0 s4 B b i vw ve' vv' { l with ents:=l.ents++[(x,ln,col)] } its:=by
 have hlB:st.lim≤B:=by rw [h.ext.lim];have:=h.ll;have:=h.b0;have:=h.bB;omega
 have ov:=h.ov
 rw [show (l.ents.length)=(l.ents.map (·.1)).length by simp] at ov
 obtain ⟨k,s1,g1,g2,g3,g4,g5,g6⟩:=zj3 (row:=valRow x) (bt:=32) ov h.BN hlB rfl (by omega) rfl (by simp;omega) (by simp;omega)
 have old:∀ j,j<B→s1.mem.get j=st.mem.get j:=fun j hj=>g6 j (by have:=h.BN;omega) fun e=>by have:=(zcz h.ov e).1;omega
 have row1:At s1 b (bldRow l.pl i vw ve vv):=⟨(old b h.bB).trans h.row.1,zll h.row.lt g5,by rw [g4];exact h.row.2.2⟩
 have e1:Ext st0 s1:=⟨zlt h.ext.next g5,g4.trans h.ext.lim,fun j hj=>(old j (by have:=h.b0;have:=h.bB;omega)).trans (h.ext.keep j hj)⟩
 generalize hV:(Value.slice (some ⟨k,0,none⟩) ((l.ents.map (·.1)).length+1) ((l.ents.map (·.1)).length+1))=V at*
 have hVc:V.cells.toList=[V]∧one V=true∧blkOf V=some k:=by rw [← hV];exact ⟨rfl,rfl,rfl⟩
 obtain ⟨s2,e2,a2,m2,n2⟩:=row1.stV (k:=4) (n:=1) (v:=V) hVc.1 rfl (by simp [hVc.2.1]) (row':=bldRow l.pl i vw ve V) rfl
 have mlt:∀ j,j∈[b]→j<B:=by
  intro j hj
  have e:j=b:=by simpa using hj
  rw [e]
  exact h.bB
 have ow2:Own B s2 vw (rowsF wdRow its) 6 its.length:=(zfg h.ow g5 fun j hj e=>g6 j hj (h.d1 j e).2).modLt m2 mlt
 have oe2:Own B s2 ve (rowsF entRow l.ents) 2 l.ents.length:=(zfg h.oe g5 fun j hj e=>g6 j hj (h.d2 j e)).modLt m2 mlt
 have ov2:=g3.modLt m2 mlt
 have x2:Ext st0 s2:=zaD e1 m2 h.b0
 have BN2:B≤s2.next:=by rw [n2];have:=h.BN;omega
 have hlB2:s2.lim≤B:=by rw [x2.lim];have:=h.ll;have:=h.b0;have:=h.bB;omega
 obtain ⟨k2,s3,q1,q2,q3,q4,q5,q6⟩:=zj3 (row:=entRow (x,ln,col)) (bt:=16) oe2 BN2 hlB2 rfl (by omega) rfl (by omega) (by omega)
 have old2:∀ j,j<B→s3.mem.get j=s2.mem.get j:=fun j hj=>q6 j (by omega) fun e=>by have:=(zcz oe2 e).1;omega
 have row3:At s3 b (bldRow l.pl i vw ve V):=⟨(old2 b h.bB).trans a2.1,zll a2.lt q5,by rw [q4];exact a2.2.2⟩
 have x3:Ext st0 s3:=⟨zlt x2.next q5,q4.trans x2.lim,fun j hj=>(old2 j (by have:=h.b0;have:=h.bB;omega)).trans (x2.keep j hj)⟩
 obtain ⟨s4,e4,a4,m4,n4⟩:=row3.stV (k:=3) (n:=1) (v:=.slice (some ⟨k2,0,none⟩) (l.ents.length+1) (l.ents.length+1)) (zoM _ _ _) rfl rfl (row':=bldRow l.pl i vw (.slice (some ⟨k2,0,none⟩) (l.ents.length+1) (l.ents.length+1)) V) rfl
 have hk2:blkOf V≠some k2:=fun e=>by have:=(zcz ov2 e).2;omega
 refine ⟨V,s1,s2,_,s3,s4,g1,e2,a2.ld,x2,fun j hj hv hb=>(m2.keep j (by omega) (by simpa using hb)).trans (g6 j hj hv),q1,e4,{ h with ext:=zaD x3 m4 h.b0,row:=a4,mp:=m4.get (by have:=h.iB;omega) (by simpa using Ne.symm h.ne) ((old2 i h.iB).trans (m2.get (by have:=h.iB;have:=h.BN;omega) (by simpa using Ne.symm h.ne) ((old i h.iB).trans h.mp))),BN:=by rw [n4];omega,ow:=?_,oe:=?_,ov:=?_,d1:=?_,d2:=?_ }⟩
 ·exact (zfg ow2 q5 fun j hj e=>q6 j hj (h.d1 j e).1).modLt m4 mlt
 ·rw [zcj,zdz,List.length_append];exact q3.modLt m4 mlt
 ·have:=(zfg ov2 q5 fun j hj e=>q6 j hj fun e'=>by
   have hj2:=(zcz h.oe e').2
   rw [hVc.2.2] at e
   cases e
   omega).modLt m4 mlt
  have e5:(l.ents++[(x,ln,col)]).map (·.1)=l.ents.map (·.1)++[x]:=by simp
  have e6:(l.ents++[(x,ln,col)]).length=(l.ents.map (·.1)).length+1:=by simp
  show Own B s4 V (rowsF valRow ((l.ents++[(x,ln,col)]).map (·.1))) 3 (l.ents++[(x,ln,col)]).length
  rw [e5,e6,zcj,zdz]
  exact this
 ·intro j hj
  refine ⟨fun e=>?_,fun e=>?_⟩
  ·cases e
   have:=(zcz ow2 hj).2
   omega
  ·rw [hVc.2.2] at e
   cases e
   have:=(zcz h.ow hj).2
   omega
 ·intro j hj e
  cases hj
  exact hk2 e
end
end Go.Proofs.YtcplfckncandkaaGreatDoorE
namespace Go.Proofs.YtcplfckncandkaaGreatDoorE
open Go Go.E Go.Proofs
theorem zwl {p n:Nat} (hp:p≤4096) (h1:1≤n) (h2:n≤2048):((IntKind.wrap .i64 (IntKind.wrap .i64 ((p:Int)+(n:Int))-1)).tdiv (n:Int))=(((p+n-1)/n:Nat):Int):=by
 rw [wrap64 (n:=(p:Int)+(n:Int)) (by omega) (by omega),wrap64 (by omega) (by omega)]
 have e:(p:Int)+(n:Int)-1=((p+n-1:Nat):Int):=by omega
 rw [e]
 exact (Int.ofNat_tdiv _ _).symm
theorem zqP {p n:Nat} (hp:p≤4096) (h1:1≤n) (h2:n≤2048):(p+n-1)/n*n≤8192:=by
 have:=Nat.div_mul_le_self (p+n-1) n
 omega
def zuO (l:Lay) (v:Val) (r:List Val):Option Lay:=match r with
 | [y]=>if v.nm≠[]∧v.x=0∧y.nm=[] then l.define v.nm y.x else none
 | _=>none
theorem zwm {l:Lay} {x:PLine} {v:Val} {r:List Val} (h:x.args=v::r) (d1:¬ x.dir=[111,114,103]) (d2:¬ x.dir=[97,108,105,103,110]) (d3:x.dir=[115,101,116]):zcv l x=zuO l v r:=by
 unfold zcv
 rw [h]
 simp only
 rw [if_neg d1,if_neg d2,if_pos d3]
 rfl
theorem zqQ [Sym] {st0 st:SS} {B b i:Nat} {vw ve vv:Value} {l:Lay} {its:List WItem} (h:Bld st0 st B b i vw ve vv l its) (x:Item) (hx:Rd st0 x.2.1 (rowsF valRow x.1.args) 3 x.1.args.length) (hpl:l.pl≤4096) (hn:l.ents.length≤100000)
  (hsz:x.1.args.length≤100000):
  match zcv l x.1 with
  | none=>∃ st',cc 34 [ptr b 0,.agg (lnRow x).toArray] st=some (.bool false,st')∧Frm b i vw st st'
  | some l'=>∃ st' ve' vv',cc 34 [ptr b 0,.agg (lnRow x).toArray] st=some (.bool true,st')∧Bld st0 st' B b i vw ve' vv' l' its:=by
 have hlm:st.lim≤st.next:=by rw [h.ext.lim];have:=h.ll;have:=h.ext.next;omega
 have x1:Ext st (st.new (.cells (lnRow x) 0)):=(Ext.refl st).new _
 have a1:At (st.new (.cells (lnRow x) 0)) st.next (lnRow x):=At.new hlm _
 have l3:(st.new (.cells (lnRow x) 0)).ld st.next 3=some x.2.1:=a1.ld
 have hr1:Rd (st.new (.cells (lnRow x) 0)) x.2.1 (rowsF valRow x.1.args) 3 x.1.args.length:=(hx.ext h.ext).ext x1
 have hlen:(lenV x.2.1).bind (asI .i64)=some (x.1.args.length:Int):=by rw [hx.len];rfl
 have hnl:zaj (ptr b 0)=some (ptr b 0):=rfl
 cases hargs:x.1.args with
 | nil=>
   have hd:zcv l x.1=none:=by unfold zcv;rw [hargs]
   rw [hd]
   rw [hargs] at hlen
   refine ⟨_,zaY _ _ st (r:=(.bool false,st.new (.cells (lnRow x) 0))) ?_,.ext x1⟩
   have h0:((([]:List Val).length:Nat):Int)=0:=rfl
   simp only [zam,zaG,l3,hlen,zob,zdt h0,zct]
 | cons v r=>
   rw [hargs] at hlen hr1 hsz
   obtain ⟨q5,b1,b2,_⟩:=hr1.load (j:=(0:Int)) (by omega) (by first | (simp;done) | (simp;omega)) (row:=valRow v) rfl rfl
   have b2':(st.new (.cells (lnRow x) 0)).ldN q5.1 q5.2 3=some (.agg (valRow v).toArray):=b2
   obtain ⟨s8,e8,a8,x8,n8⟩:=zaV (st:=st.new (.cells (lnRow x) 0)) (by first | (simp;done) | (simp;omega)) (r:=valRow ⟨[],0,0⟩) (row:=valRow v) (v:=.agg (valRow v).toArray) (zaG _) rfl rfl rfl
   have e8':((st.new (.cells (lnRow x) 0)).new (.cells [.string ⟨#[]⟩,.int .i64 0,.int .i64 0] 0)).stV (st.new (.cells (lnRow x) 0)).next 0 3 (.agg (valRow v).toArray)=some s8:=e8
   have a18:=a1.ext x8
   have h8:=h.then (x1.trans x8)
   have m8:Frm b i vw st s8:=.ext (x1.trans x8)
   have hn1:¬ (((v::r).length:Nat):Int)=0:=by first | (simp;done) | (simp;omega)
   have l9:s8.ld (st.new (.cells (lnRow x) 0)).next 0=some (.string (mkS v.nm)):=a8.ld
   have l91:s8.ld (st.new (.cells (lnRow x) 0)).next 1=some (.int .i64 v.x):=a8.ld
   have l92:s8.ld (st.new (.cells (lnRow x) 0)).next 2=some (.int .i64 v.col):=a8.ld
   have l10:s8.ld st.next 2=some (.string (mkS x.1.dir)):=a18.ld
   have l11:s8.ld st.next 3=some x.2.1:=a18.ld
   have lpl:s8.ld b 0=some (.int .i64 l.pl):=h8.row.ld
   have hnm:eqT (mkS v.nm) ⟨#[]⟩=decide (v.nm=[]):=zd1 _
   have hlr:decide (1<(((v::r).length:Nat):Int))=decide (r≠[]):=by
    cases r with
    | nil=>rfl
    | cons a t=>rw [zdt (by simp;omega),zdt (by simp)]
   have fl:∀ st',zam cc zeg (ptr b 0) (.agg (lnRow x).toArray) st=some (.bool false,st')→Frm b i vw st st'→zcv l x.1=none→
     match zcv l x.1 with
     | none=>∃ st',cc 34 [ptr b 0,.agg (lnRow x).toArray] st=some (.bool false,st')∧Frm b i vw st st'
     | some l'=>∃ st' ve' vv',cc 34 [ptr b 0,.agg (lnRow x).toArray] st=some (.bool true,st')∧Bld st0 st' B b i vw ve' vv' l' its:=fun st' hc hfr hdn=>by
    rw [hdn];exact ⟨st',zaY _ _ st hc,hfr⟩
   by_cases d1:x.1.dir=[111,114,103]
   ·have q1:eqT (mkS x.1.dir) ⟨#[111,114,103]⟩=true:=zdt d1
    have hd:zcv l x.1=if v.nm=[]∧r=[]∧(l.pl:Int)≤v.x∧v.x≤2048 then some { l with pl:=v.x.toNat } else none:=by unfold zcv;rw [hargs];simp only;rw [if_pos d1]
    by_cases c1:v.nm=[]
    ·by_cases c2:r=[]
     ·by_cases c3:v.x<(l.pl:Int)
      ·refine fl s8 ?_ m8 (by rw [hd,if_neg (fun hh=>by omega)])
       simp only [zam,zaG,l3,hlen,zob,zdf hn1,zcf,b1,b2',e8',l9,l10,l11,zac,q1,zct,hnm,zdt c1,znt,hlr,zdf (show ¬ r≠[] from fun hh=>hh c2),l91,zaa,hnl,zad,lpl,zdt c3]
      ·by_cases c4:2048<v.x
       ·refine fl s8 ?_ m8 (by rw [hd,if_neg (fun hh=>by omega)])
        simp only [zam,zaG,l3,hlen,zob,zdf hn1,zcf,b1,b2',e8',l9,l10,l11,zac,q1,zct,hnm,zdt c1,znt,hlr,zdf (show ¬ r≠[] from fun hh=>hh c2),l91,zaa,hnl,zad,lpl,zdf c3,zdt c4]
       ·rw [hd,if_pos ⟨c1,c2,by omega,by omega⟩]
        obtain ⟨s21,e21,h21⟩:=h8.place v.x.toNat
        have ez:((v.x.toNat:Nat):Int)=v.x:=by omega
        rw [ez] at e21
        refine ⟨s21,ve,vv,zaY _ _ st ?_,h21⟩
        simp only [zam,zaG,l3,hlen,zob,zdf hn1,zcf,b1,b2',e8',l9,l10,l11,zac,q1,zct,hnm,zdt c1,znt,hlr,zdf (show ¬ r≠[] from fun hh=>hh c2),l91,zaa,hnl,zad,lpl,zdf c3,zdf c4,e21]
     ·refine fl s8 ?_ m8 (by rw [hd,if_neg (fun hh=>c2 hh.2.1)])
      simp only [zam,zaG,l3,hlen,zob,zdf hn1,zcf,b1,b2',e8',l9,l10,l11,zac,zaa,q1,zct,hnm,zdt c1,znt,hlr,zdt (show r≠[] from c2)]
    ·refine fl s8 ?_ m8 (by rw [hd,if_neg (fun hh=>c1 hh.1)])
     simp only [zam,zaG,l3,hlen,zob,zdf hn1,zcf,b1,b2',e8',l9,l10,l11,zac,zaa,q1,zct,hnm,zdf c1,znf]
   have n1:eqT (mkS x.1.dir) ⟨#[111,114,103]⟩=false:=zdf d1
   by_cases d2:x.1.dir=[97,108,105,103,110]
   ·have q1:eqT (mkS x.1.dir) ⟨#[97,108,105,103,110]⟩=true:=zdt d2
    have hd:zcv l x.1=if v.nm=[]∧r=[]∧1≤v.x∧v.x≤2048∧(l.pl+v.x.toNat-1)/v.x.toNat*v.x.toNat≤2048 then some { l with pl:=(l.pl+v.x.toNat-1)/v.x.toNat*v.x.toNat } else none:=by unfold zcv;rw [hargs];simp only;rw [if_neg d1,if_pos d2]
    by_cases c1:v.nm=[]
    ·by_cases c2:r=[]
     ·have c2':=zdf (show ¬ r≠[] from fun hh=>hh c2)
      by_cases c3:v.x<1
      ·refine fl s8 ?_ m8 (by rw [hd,if_neg (fun hh=>by omega)])
       simp only [zam,zaG,l3,hlen,zob,zdf hn1,zcf,b1,b2',e8',l9,l10,l11,zac,zaa,n1,q1,zct,hnm,zdt c1,znt,hlr,c2',l91,zdt c3]
      ·by_cases c4:2048<v.x
       ·refine fl s8 ?_ m8 (by rw [hd,if_neg (fun hh=>by omega)])
        simp only [zam,zaG,l3,hlen,zob,zdf hn1,zcf,b1,b2',e8',l9,l10,l11,zac,zaa,n1,q1,zct,hnm,zdt c1,znt,hlr,c2',l91,zdf c3,zdt c4]
       ·have ez:((v.x.toNat:Nat):Int)=v.x:=by omega
        have hz:¬ (v.x=0):=by omega
        have e33:(aI .quo .i64 (IntKind.wrap .i64 (IntKind.wrap .i64 ((l.pl:Int)+v.x)-1)) v.x).bind (asI .i64)=some (((l.pl+v.x.toNat-1)/v.x.toNat:Nat):Int):=by
         have:=zwl (p:=l.pl) (n:=v.x.toNat) hpl (by omega) (by omega)
         rw [ez] at this
         simp only [aI,zdf hz,zcf,zob,zaa,this]
         have hle:=zqP (p:=l.pl) (n:=v.x.toNat) hpl (by omega) (by omega)
         have h1:(l.pl+v.x.toNat-1)/v.x.toNat≤(l.pl+v.x.toNat-1)/v.x.toNat*v.x.toNat:=Nat.le_mul_of_pos_right _ (by omega)
         have h0':=Int.natCast_nonneg ((l.pl+v.x.toNat-1)/v.x.toNat)
         have h1':(((l.pl+v.x.toNat-1)/v.x.toNat:Nat):Int)≤8192:=Int.ofNat_le.2 (zlt h1 hle)
         rw [wrap64 (Int.le_trans (by decide) h0') (Int.le_trans h1' (by decide))]
        have hle:=zqP (p:=l.pl) (n:=v.x.toNat) hpl (by omega) (by omega)
        have e35:IntKind.wrap .i64 ((((l.pl+v.x.toNat-1)/v.x.toNat:Nat):Int)*v.x)=(((l.pl+v.x.toNat-1)/v.x.toNat*v.x.toNat:Nat):Int):=by
         rw [← ez]
         simp only [Int.toNat_natCast]
         rw [← Int.natCast_mul]
         exact wrap64 (by omega) (by omega)
        obtain ⟨s38,e38,h38,m38⟩:=h8.placeM ((l.pl+v.x.toNat-1)/v.x.toNat*v.x.toNat)
        have l41:s38.ld b 0=some (.int .i64 (((l.pl+v.x.toNat-1)/v.x.toNat*v.x.toNat:Nat):Int)):=h38.row.ld
        by_cases c5:(l.pl+v.x.toNat-1)/v.x.toNat*v.x.toNat≤2048
        ·rw [hd,if_pos ⟨c1,c2,by omega,by omega,c5⟩]
         have c5':(((l.pl+v.x.toNat-1)/v.x.toNat*v.x.toNat:Nat):Int)≤2048:=by omega
         refine ⟨s38,ve,vv,zaY _ _ st ?_,h38⟩
         simp only [zam,zaG,l3,hlen,zob,zdf hn1,zcf,b1,b2',e8',l9,l10,l11,zac,zaa,n1,q1,zct,hnm,zdt c1,znt,hlr,c2',l91,zdf c3,zdf c4,hnl,zad,lpl,e33,e35,e38,l41,zdt c5']
        ·have c5':¬ (((l.pl+v.x.toNat-1)/v.x.toNat*v.x.toNat:Nat):Int)≤2048:=by omega
         refine fl s38 ?_ (m8.trans (.mod m38 (by simp))) (by rw [hd,if_neg (fun hh=>c5 hh.2.2.2.2)])
         simp only [zam,zaG,l3,hlen,zob,zdf hn1,zcf,b1,b2',e8',l9,l10,l11,zac,zaa,n1,q1,zct,hnm,zdt c1,znt,hlr,c2',l91,zdf c3,zdf c4,hnl,zad,lpl,e33,e35,e38,l41,zdf c5']
     ·refine fl s8 ?_ m8 (by rw [hd,if_neg (fun hh=>c2 hh.2.1)])
      simp only [zam,zaG,l3,hlen,zob,zdf hn1,zcf,b1,b2',e8',l9,l10,l11,zac,zaa,n1,q1,zct,hnm,zdt c1,znt,hlr,zdt (show r≠[] from c2)]
    ·refine fl s8 ?_ m8 (by rw [hd,if_neg (fun hh=>c1 hh.1)])
     simp only [zam,zaG,l3,hlen,zob,zdf hn1,zcf,b1,b2',e8',l9,l10,l11,zac,zaa,n1,q1,zct,hnm,zdf c1,znf]
   have n2:eqT (mkS x.1.dir) ⟨#[97,108,105,103,110]⟩=false:=zdf d2
   have hr8:Rd s8 x.2.1 (rowsF valRow (v::r)) 3 (v::r).length:=hr1.ext x8
   by_cases d3:x.1.dir=[115,101,116]
   ·have q1:eqT (mkS x.1.dir) ⟨#[115,101,116]⟩=true:=zdt d3
    have hd:zcv l x.1=zuO l v r:=zwm hargs d1 d2 d3
    have no:(∀ y,r≠[y])→¬ ((((v::r).length:Nat):Int)=2)∧zcv l x.1=none:=fun hr=>by
     rw [hd]
     match r,hr with
     | [],_=>exact ⟨by simp,rfl⟩
     | [y],hr=>exact absurd rfl (hr y)
     | _::_::_,_=>exact ⟨by simp;omega,rfl⟩
    by_cases hy:∃ y,r=[y]
    ·obtain ⟨y,rfl⟩:=hy
     have hd:zcv l x.1=if v.nm≠[]∧v.x=0∧y.nm=[] then l.define v.nm y.x else none:=hd
     have h2:(((([v,y]:List Val).length:Nat)):Int)=2:=rfl
     by_cases c1:v.nm=[]
     ·refine fl s8 ?_ m8 (by rw [hd,if_neg (fun hh=>hh.1 c1)])
      simp only [zam,zaG,l3,hlen,zob,zdf hn1,zcf,b1,b2',e8',l9,l10,l11,zac,zaa,n1,n2,q1,zct,hnm,zdt h2,zdt c1,znt]
     ·by_cases c2:v.x=0
      ·obtain ⟨p46,t1,_,t3⟩:=hr8.load (j:=(1:Int)) (by omega) (by rw [h2];omega) (row:=valRow y) rfl rfl
       have t30:s8.ld p46.1 p46.2=some (.string (mkS y.nm)):=t3 0 (by omega)
       have t31:s8.ld p46.1 (p46.2+1)=some (.int .i64 y.x):=t3 1 (by omega)
       have hy0:eqT (mkS y.nm) ⟨#[]⟩=decide (y.nm=[]):=zd1 _
       by_cases c3:y.nm=[]
       ·have hd':zcv l x.1=l.define v.nm y.x:=by rw [hd,if_pos ⟨c1,c2,c3⟩]
        have hdef:=h8.define v.nm y.x
        rw [hd']
        cases hdf:l.define v.nm y.x with
        | none=>
          rw [hdf] at hdef
          simp only at hdef
          refine ⟨s8,zaY _ _ st ?_,m8⟩
          simp only [zam,zaG,l3,hlen,zob,zdf hn1,zcf,b1,b2',e8',l9,l10,l11,zac,zaa,n1,n2,q1,zct,hnm,zdt h2,zdf c1,znf,l91,zdt c2,t1,t30,t31,hy0,zdt c3,hdef,zai]
        | some l'=>
          rw [hdf] at hdef
          obtain ⟨s9,c9,_,h9⟩:=hdef
          refine ⟨s9,ve,vv,zaY _ _ st ?_,h9⟩
          simp only [zam,zaG,l3,hlen,zob,zdf hn1,zcf,b1,b2',e8',l9,l10,l11,zac,zaa,n1,n2,q1,zct,hnm,zdt h2,zdf c1,znf,l91,zdt c2,t1,t30,t31,hy0,zdt c3,c9,zai]
       ·refine fl s8 ?_ m8 (by rw [hd,if_neg (fun hh=>c3 hh.2.2)])
        simp only [zam,zaG,l3,hlen,zob,zdf hn1,zcf,b1,b2',e8',l9,l10,l11,zac,zaa,n1,n2,q1,zct,hnm,zdt h2,zdf c1,znf,l91,zdt c2,t1,t30,hy0,zdf c3]
      ·refine fl s8 ?_ m8 (by rw [hd,if_neg (fun hh=>c2 hh.2.1)])
       simp only [zam,zaG,l3,hlen,zob,zdf hn1,zcf,b1,b2',e8',l9,l10,l11,zac,zaa,n1,n2,q1,zct,hnm,zdt h2,zdf c1,znf,l91,zdf c2]
    ·obtain ⟨h2,hdn⟩:=no fun y e=>hy ⟨y,e⟩
     refine fl s8 ?_ m8 hdn
     simp only [zam,zaG,l3,hlen,zob,zdf hn1,zcf,b1,b2',e8',l9,l10,l11,zac,zaa,n1,n2,q1,zct,hnm,zdf h2]
   ·have n3:eqT (mkS x.1.dir) ⟨#[115,101,116]⟩=false:=zdf d3
    by_cases d4:x.1.dir=[101,110,116,114,121]
    ·have q1:eqT (mkS x.1.dir) ⟨#[101,110,116,114,121]⟩=true:=zdt d4
     have hd:zcv l x.1=if v.nm≠[]∧r=[]∧v.x=0∧(l.ents.any fun e=>decide (e.1.nm=v.nm))=false then some { l with ents:=l.ents++[(v,x.1.ln,v.col)] } else none:=by unfold zcv;rw [hargs];simp only;rw [if_neg d1,if_neg d2,if_neg d3,if_pos d4]
     by_cases c1:v.nm=[]
     ·refine fl s8 ?_ m8 (by rw [hd,if_neg (fun hh=>hh.1 c1)])
      simp only [zam,zaG,l3,hlen,zob,zdf hn1,zcf,b1,b2',e8',l9,l10,l11,zac,zaa,n1,n2,n3,q1,zct,hnm,zdt c1]
     by_cases c2:r=[]
     ·have c2':=zdf (show ¬ r≠[] from fun hh=>hh c2)
      by_cases c3:v.x=0
      ·have l59:s8.ld b (0+4)=some vv:=h8.row.ld
       obtain ⟨n60,hn60,c60⟩:=zwk (l.ents.map (·.1)) (by simp;omega) v (st.new (.cells (lnRow x) 0)).next vv s8 (by have:=h8.ov.rd;simpa using this) a8.mem a8.lt
       have hany:((l.ents.map (·.1)).any fun x=>decide (x.nm=v.nm))=l.ents.any fun e=>decide (e.1.nm=v.nm):=by rw [List.any_map];rfl
       rw [hany] at c60
       cases ha:l.ents.any fun e=>decide (e.1.nm=v.nm) with
       | true=>
         rw [ha] at c60
         refine fl (s8.adv n60) ?_ (m8.trans (.ext ((Ext.refl _).adv hn60))) (by rw [hd,if_neg (fun hh=>by rw [ha] at hh;cases hh.2.2.2)])
         simp only [zam,zaG,l3,hlen,zob,zdf hn1,zcf,b1,b2',e8',l9,l10,l11,zac,zaa,n1,n2,n3,q1,zct,hnm,zdf c1,hlr,c2',l91,zdt c3,znt,hnl,zad,l59,c60,zai]
       | false=>
         rw [ha] at c60
         rw [hd,if_pos ⟨c1,c2,c3,ha⟩]
         have x60:Ext s8 (s8.adv n60):=(Ext.refl _).adv hn60
         obtain ⟨vv',s1,s2,ve',s3,s4,g1,g2,g3,g4,g5,g6,g7,g8⟩:=(h8.then x60).entry v x.1.ln v.col hn
         have l64:(s8.adv n60).ld b (0+4)=some vv:=(h8.then x60).row.ld
         have l65:(s8.adv n60).ldN (st.new (.cells (lnRow x) 0)).next 0 3=some (.agg (valRow v).toArray):=(a8.ext x60).ldN rfl
         have e66:zaW (.agg (valRow v).toArray) 3=some (valRow v):=rfl
         have g2':s1.stV b (0+4) 1 vv'=some s2:=g2
         have g3':s2.ld b (0+3)=some ve:=g3
         have g6':(s2.new (.cells ([.int .i64 x.1.ln,.int .i64 v.col]) 2)).app 2 16 ve (.slice (some ⟨s2.next,0,none⟩) 1 1)=some (ve',s3):=g6
         have g7':s3.stV b (0+3) 1 ve'=some s4:=g7
         have hv0:∀ j,blkOf vv=some j→j<st.next:=fun j e=>(zcz h.ov e).2
         have hbn:=h.row.lt
         have m75:=(g5 st.next (a18.ext x60).lt (fun e=>by have:=hv0 _ e;omega) (by omega)).trans (a18.ext x60).mem
         have m76:=(g5 (st.new (.cells (lnRow x) 0)).next (a8.ext x60).lt (fun e=>by have:=hv0 _ e;simp at this;omega) (by simp;omega)).trans (a8.ext x60).mem
         have l75:s2.ld st.next 0=some (.int .i64 x.1.ln):=by rw [SS.ld_cells m75];rfl
         have l76:s2.ld (st.new (.cells (lnRow x) 0)).next 2=some (.int .i64 v.col):=by rw [SS.ld_cells m76];rfl
         refine ⟨s4,ve',vv',zaY _ _ st ?_,g8⟩
         simp only [zam,zaG,l3,hlen,zob,zdf hn1,zcf,b1,b2',e8',l9,l10,l11,zac,zaa,n1,n2,n3,q1,zct,hnm,zdf c1,hlr,c2',l91,zdt c3,znt,hnl,zad,l59,c60,zai,l64,l65,e66,List.append_nil,g1,g2',g3',l75,l76,g6',g7']
      ·refine fl s8 ?_ m8 (by rw [hd,if_neg (fun hh=>c3 hh.2.2.1)])
       simp only [zam,zaG,l3,hlen,zob,zdf hn1,zcf,b1,b2',e8',l9,l10,l11,zac,zaa,n1,n2,n3,q1,zct,hnm,zdf c1,hlr,c2',l91,zdf c3,znf]
     ·refine fl s8 ?_ m8 (by rw [hd,if_neg (fun hh=>c2 hh.2.1)])
      simp only [zam,zaG,l3,hlen,zob,zdf hn1,zcf,b1,b2',e8',l9,l10,l11,zac,zaa,n1,n2,n3,q1,zct,hnm,zdf c1,hlr,zdt (show r≠[] from c2)]
    ·have n4:eqT (mkS x.1.dir) ⟨#[101,110,116,114,121]⟩=false:=zdf d4
     refine fl s8 ?_ m8 (by unfold zcv;rw [hargs];simp only;rw [if_neg d1,if_neg d2,if_neg d3,if_neg d4])
     simp only [zam,zaG,l3,hlen,zob,zdf hn1,zcf,b1,b2',e8',l9,l10,zac,n1,n2,n3,n4]
end Go.Proofs.YtcplfckncandkaaGreatDoorE
namespace Go.Proofs.YtcplfckncandkaaGreatDoorE
open Go Go.E Go.Proofs
theorem zwn (n:Nat) (x:Item):zaW (.agg ⟨spl [.int .i64 n,.int .i64 0,.string ⟨#[]⟩,.string ⟨#[]⟩,.slice none 0 0,.slice none 0 0] 1 (lnRow x)⟩) 6=some (wdRow (n,x)):=rfl
theorem Bld.rest [Sym] {st0 st:SS} {B b i:Nat} {vw ve vv:Value} {l:Lay} {its:List WItem} (h:Bld st0 st B b i vw ve vv l its) (x:Item) (hx:Rd st0 x.2.1 (rowsF valRow x.1.args) 3 x.1.args.length∧Rd st0 x.2.2 (rowsF prRow x.1.prs) 5 x.1.prs.length)
  (ho:one x.2.1=true∧one x.2.2=true) (hpl:l.pl≤2048) (hni:its.length≤100000):
  ∃ vw' s1 s2 s3,(st.new (.cells (wdRow (l.pl,x)) 6)).app 6 96 vw (.slice (some ⟨st.next,0,none⟩) 1 1)=some (vw',s1)∧s1.stV b 2 1 vw'=some s2∧s2.ld b 0=some (.int .i64 l.pl)∧s2.st b 0 [.int .i64 ((l.pl+1:Nat):Int)]=some s3∧s3.ld b 0=some (.int .i64 ((l.pl+1:Nat):Int))∧
   Bld st0 s3 B b i vw' ve vv { l with pl:=l.pl+1,wds:=l.wds++[(l.pl,x.1)] } (its++[(l.pl,x)])∧Frm b i vw st s3:=by
 obtain ⟨vw',s1,s2,g1,g2,g3,g6⟩:=h.word x hx ho hni
 obtain ⟨s3,g4,g5,g7⟩:=g3.placeM (l.pl+1)
 exact ⟨vw',s1,s2,s3,g1,g2,g3.row.ld,g4,g5.row.ld,g5,g6.trans (.mod g7 (by simp))⟩
noncomputable def zg8 [Sym] (b':Value) (a:Nat) (s:SS):Option (Value×SS):=
 ((s.ld a 2).bind asS).bind fun b=>
  cond (!(eqT b ⟨#[]⟩)) (
   (s.ldN a 0 5).bind fun c=>
   (cc 34 [b',c] s).bind fun d=>
   ((some d.1).bind asB).bind fun e=>
   some (.bool e,d.2)) (
   (s.ld a 4).bind fun f=>
   ((lenV f).bind (asI .i64)).bind fun g=>
   cond (decide (g=0)) (
    some (.bool true,s)) (
    (zaj b').bind fun h=>
    (addr? h).bind fun i=>
    (s.ld i.1 (i.2+2)).bind fun j=>
    (zaj b').bind fun k=>
    (addr? k).bind fun l=>
    ((s.ld l.1 l.2).bind (asI .i64)).bind fun m=>
    (s.ldN a 0 5).bind fun n=>
    (zaW n 5).bind fun o=>
    (zaW (.agg ⟨spl [.int .i64 m,.int .i64 0,.string ⟨#[]⟩,.string ⟨#[]⟩,.slice none 0 0,.slice none 0 0] 1 o⟩) 6).bind fun p=>
    let q:SS:=s.new (.cells (p++([])) 6)
    (q.app 6 96 j (.slice (some ⟨s.next,0,none⟩) 1 1)).bind fun r=>
    (zaj b').bind fun t=>
    (addr? t).bind fun u=>
    (r.2.stV u.1 (u.2+2) 1 r.1).bind fun v=>
    (zaj b').bind fun w=>
    (addr? w).bind fun x=>
    ((v.ld x.1 x.2).bind (asI .i64)).bind fun y=>
    let z:Int:=IntKind.wrap .i64 (y+1)
    (zaj b').bind fun A=>
    (addr? A).bind fun B=>
    (v.st B.1 B.2 [.int .i64 z]).bind fun C=>
    (zaj b').bind fun D=>
    (addr? D).bind fun E=>
    ((C.ld E.1 E.2).bind (asI .i64)).bind fun F=>
    some (.bool (decide (F≤2048)),C)))
def zg9 (l:Lay) (x:PLine):Option Lay:=if x.dir≠[] then zcv l x else if x.prs=[] then some l else if l.pl+1≤2048 then some { l with pl:=l.pl+1,wds:=l.wds++[(l.pl,x)] } else none
theorem zsb [Sym] {st0 s:SS} {B b i a:Nat} {vw ve vv:Value} {l:Lay} {its:List WItem} (h:Bld st0 s B b i vw ve vv l its) (x:Item) (ha:At s a (lnRow x)) (hx:Rd st0 x.2.1 (rowsF valRow x.1.args) 3 x.1.args.length∧Rd st0 x.2.2 (rowsF prRow x.1.prs) 5 x.1.prs.length)
  (ho:one x.2.1=true∧one x.2.2=true) (hpl:l.pl≤2048) (hn:l.ents.length≤100000) (hni:its.length≤100000) (hsz:x.1.args.length≤100000):
  match zg9 l x.1 with
  | none=>∃ st',zg8 (ptr b 0) a s=some (.bool false,st')∧Frm b i vw s st'
  | some l'=>∃ st' vw' ve' vv' its',zg8 (ptr b 0) a s=some (.bool true,st')∧Bld st0 st' B b i vw' ve' vv' l' its'∧its'.length≤its.length+1:=by
 have l2:s.ld a 2=some (.string (mkS x.1.dir)):=ha.ld
 have l4:s.ld a 4=some x.2.2:=ha.ld
 have l5:s.ldN a 0 5=some (.agg (lnRow x).toArray):=ha.ldN rfl
 have hd0:eqT (mkS x.1.dir) ⟨#[]⟩=decide (x.1.dir=[]):=zd1 _
 unfold zg9
 by_cases c1:x.1.dir=[]
 ·rw [if_neg (fun hh=>hh c1)]
  have hlen:(lenV x.2.2).bind (asI .i64)=some (x.1.prs.length:Int):=by rw [hx.2.len];rfl
  by_cases c2:x.1.prs=[]
  ·rw [if_pos c2]
   have h0:(x.1.prs.length:Int)=0:=by rw [c2];rfl
   refine ⟨s,vw,ve,vv,its,?_,h,by omega⟩
   simp only [zg8,l2,l4,zob,zac,hd0,zdt c1,znt,zcf,hlen,zdt h0,zct]
  ·rw [if_neg c2]
   have h0:¬ (x.1.prs.length:Int)=0:=fun e=>c2 (List.length_eq_zero_iff.1 (by omega))
   obtain ⟨vw',s1,s2,s3,g1,g2,g3,g4,g5,g6,g7⟩:=h.rest x hx ho hpl hni
   have hnl:zaj (ptr b 0)=some (ptr b 0):=rfl
   have lw:s.ld b (0+2)=some vw:=h.row.ld
   have lp:s.ld b 0=some (.int .i64 l.pl):=h.row.ld
   have e5:zaW (.agg (lnRow x).toArray) 5=some (lnRow x):=rfl
   have e6:=zwn l.pl x
   have g2':s1.stV b (0+2) 1 vw'=some s2:=g2
   have hw1:=zaX (i:=l.pl) (by omega)
   have run:zg8 (ptr b 0) a s=some (.bool (decide (((l.pl+1:Nat):Int)≤2048)),s3):=by
    simp only [zg8,l2,l4,l5,zob,zac,zaa,hd0,zdt c1,znt,zcf,hlen,zdf h0,hnl,zad,lw,lp,e5,e6,List.append_nil,g1,g2',g3,hw1,g4,g5]
   by_cases c3:l.pl+1≤2048
   ·rw [if_pos c3]
    have c3':((l.pl+1:Nat):Int)≤2048:=by omega
    exact ⟨s3,vw',ve,vv,_,by rw [run,zdt c3'],g6,by simp⟩
   ·rw [if_neg c3]
    have c3':¬ ((l.pl+1:Nat):Int)≤2048:=by omega
    exact ⟨s3,by rw [run,zdf c3'],g7⟩
 ·rw [if_pos c1]
  have hdir:=zqQ h x hx.1 (by omega) hn hsz
  cases hd:zcv l x.1 with
  | none=>
    rw [hd] at hdir
    obtain ⟨st',c,hfr⟩:=hdir
    refine ⟨st',?_,hfr⟩
    simp only [zg8,l2,l5,zob,zac,hd0,zdf c1,znf,zct,c,zai]
  | some l'=>
    rw [hd] at hdir
    obtain ⟨st',ve',vv',c,hb⟩:=hdir
    refine ⟨st',vw,ve',vv',its,?_,hb,by omega⟩
    simp only [zg8,l2,l5,zob,zac,hd0,zdf c1,znf,zct,c,zai]
theorem zmX (l:Lay) (x:PLine):zil l x=(if x.lab=[] then some l else l.define x.lab l.pl).bind fun l=>zg9 l x:=rfl
theorem zrG {l l':Lay} {n:List UInt8} {x:Int} (h:l.define n x=some l'):l'.pl=l.pl∧l'.ents=l.ents:=by
 unfold Lay.define at h
 split at h
 ·cases h
 ·cases h;exact ⟨rfl,rfl⟩
theorem zwo [Sym] {st0 st:SS} {B b i:Nat} {vw ve vv:Value} {l:Lay} {its:List WItem} (h:Bld st0 st B b i vw ve vv l its) (x:Item) (hx:Rd st0 x.2.1 (rowsF valRow x.1.args) 3 x.1.args.length∧Rd st0 x.2.2 (rowsF prRow x.1.prs) 5 x.1.prs.length)
  (ho:one x.2.1=true∧one x.2.2=true) (hpl:l.pl≤2048) (hn:l.ents.length≤100000) (hni:its.length≤100000) (hsz:x.1.args.length≤100000):
  match zil l x.1 with
  | none=>∃ st',cc 16 [ptr b 0,.agg (lnRow x).toArray] st=some (.bool false,st')∧Frm b i vw st st'
  | some l'=>∃ st' vw' ve' vv' its',cc 16 [ptr b 0,.agg (lnRow x).toArray] st=some (.bool true,st')∧Bld st0 st' B b i vw' ve' vv' l' its'∧its'.length≤its.length+1:=by
 have hlm:st.lim≤st.next:=by rw [h.ext.lim];have:=h.ll;have:=h.ext.next;omega
 have x1:Ext st (st.new (.cells (lnRow x) 0)):=(Ext.refl st).new _
 have a1:At (st.new (.cells (lnRow x) 0)) st.next (lnRow x):=At.new hlm _
 have l1:(st.new (.cells (lnRow x) 0)).ld st.next 1=some (.string (mkS x.1.lab)):=a1.ld
 have hlb:eqT (mkS x.1.lab) ⟨#[]⟩=decide (x.1.lab=[]):=zd1 _
 have h1:=h.then x1
 rw [zmX]
 by_cases c1:x.1.lab=[]
 ·rw [if_pos c1,zob]
  have e:zbP cc zdw (ptr b 0) (.agg (lnRow x).toArray) st=zg8 (ptr b 0) st.next (st.new (.cells (lnRow x) 0)):=by
   simp only [zbP,zaG,l1,zob,zac,hlb,zdt c1,znt,zcf]
   rfl
  have hr:=zsb h1 x a1 hx ho hpl hn hni hsz
  cases hl:zg9 l x.1 with
  | none=>
    rw [hl] at hr
    obtain ⟨st',c,hfr⟩:=hr
    exact ⟨st',zbQ _ _ st (e.trans c),(Frm.ext x1).trans hfr⟩
  | some l'=>
    rw [hl] at hr
    obtain ⟨st',vw',ve',vv',its',c,r⟩:=hr
    exact ⟨st',vw',ve',vv',its',zbQ _ _ st (e.trans c),r⟩
 ·rw [if_neg c1]
  have lp:(st.new (.cells (lnRow x) 0)).ld b 0=some (.int .i64 l.pl):=h1.row.ld
  have hnl:zaj (ptr b 0)=some (ptr b 0):=rfl
  have hdef:=h1.define x.1.lab l.pl
  cases hd:l.define x.1.lab l.pl with
  | none=>
    rw [hd] at hdef
    simp only at hdef
    refine ⟨_,zbQ _ _ st (r:=(.bool false,st.new (.cells (lnRow x) 0))) ?_,.ext x1⟩
    simp only [zbP,zaG,l1,zob,zac,zaa,hlb,zdf c1,znf,zct,hnl,zad,lp,hdef,zai]
  | some l1'=>
    rw [hd] at hdef
    obtain ⟨s2,c2,m2,h2⟩:=hdef
    rw [zob]
    obtain ⟨e1,e2⟩:=zrG hd
    have a2:At s2 st.next (lnRow x):=a1.mod m2 (by have:=h.iB;have:=h.BN;simp;omega)
    have e:zbP cc zdw (ptr b 0) (.agg (lnRow x).toArray) st=zg8 (ptr b 0) st.next s2:=by
     simp only [zbP,zaG,l1,zob,zac,zaa,hlb,zdf c1,znf,zct,hnl,zad,lp,c2,zai,znt,zcf]
     rfl
    have hr:=zsb h2 x a2 hx ho (by omega) (by rw [e2];exact hn) hni hsz
    cases hl:zg9 l1' x.1 with
    | none=>
      rw [hl] at hr
      obtain ⟨st',c,hfr⟩:=hr
      exact ⟨st',zbQ _ _ st (e.trans c),((Frm.ext x1).trans (.mod m2 (by simp))).trans hfr⟩
    | some l'=>
      rw [hl] at hr
      obtain ⟨st',vw',ve',vv',its',c,r⟩:=hr
      exact ⟨st',vw',ve',vv',its',zbQ _ _ st (e.trans c),r⟩
end Go.Proofs.YtcplfckncandkaaGreatDoorE
namespace Go.Proofs.YtcplfckncandkaaGreatDoorE
open Go Go.E Go.Proofs
def VOk (v:Val):Prop:=0<v.col∧ -2147483648≤v.x∧v.x≤2147483647
def POk (p:Pr):Prop:=0<p.col∧VOk p.v
structure LineOk (M:Nat) (x:PLine):Prop where
 args:∀ v∈x.args,VOk v
 prs:∀ p∈x.prs,POk p
 sa:x.args.length≤M
 sp:x.prs.length≤M
def zj4 (t:Tok):Prop:=TokOk t∧0<t.col
theorem zuP (k col:Nat) (l:List UInt8) (ts:List Tok) (h:zd6 k col l=.ok ts):∀ t∈ts,0<t.col:=by
 induction k generalizing col l ts with
 | zero=>cases h;intro t ht;cases ht
 | succ k ih=>
   unfold zd6 at h
   split at h
   ·cases h;intro t ht;cases ht
   ·exact ih _ _ _ h
   ·rename_i kd n x hs
    cases hx:zd6 k (col+n) (l.drop n) with
    | error e=>rw [hx] at h;cases h
    | ok us=>
      rw [hx] at h;cases h
      intro t ht
      rcases List.mem_cons.1 ht with rfl | ht
      ·exact Nat.succ_pos _
      ·exact ih _ _ _ hx t ht
   ·cases h
theorem zwp {p:List UInt8} {ts:List Tok} (h:zcZ p=.ok ts):∀ t∈ts,zj4 t:=fun t ht=>by
 refine ⟨(zqA h).2 t ht,?_⟩
 unfold zcZ at h
 split at h
 ·rename_i us hu
  cases h
  rcases List.mem_append.1 ht with ht | ht
  ·exact zuP _ _ _ _ hu t ht
  ·have:t=zf5 p:=by simpa using ht
   subst this
   exact Nat.succ_pos _
 ·cases h
theorem zpt {α:Type} {n:Nat} {l:List α} {x:α} (h:x∈l.drop n):x∈l:=List.mem_of_mem_drop h
theorem zsc {l:List Tok} (hl:∀ t∈l,zj4 t) {v:Val} {n:Nat} (h:zeC l=.ok (v,n)):VOk v:=by
 cases l with
 | nil=>cases h
 | cons t r=>
   rw [zg0] at h
   have ht:=hl t (by simp)
   have n0:=ht.1.nm0
   have n1:=ht.1.nm1
   split at h
   ·cases h;exact ⟨ht.2,by show -2147483648≤t.nm;omega,by show t.nm≤2147483647;omega⟩
   ·split at h
    ·cases r with
     | nil=>cases h
     | cons s u=>
       simp only at h
       split at h
       ·cases u with
        | nil=>cases h
        | cons m w=>
          simp only at h
          have hm:=(hl m (by simp)).1
          have m0:=hm.nm0
          have m1:=hm.nm1
          split at h
          ·cases h;exact ⟨ht.2,by show -2147483648≤m.nm;omega,by show m.nm≤2147483647;omega⟩
          ·cases h
       ·split at h
        ·cases u with
         | nil=>cases h
         | cons m w=>
           simp only at h
           have hm:=(hl m (by simp)).1
           have m0:=hm.nm0
           have m1:=hm.nm1
           split at h
           ·cases h;exact ⟨ht.2,by show -2147483648≤ -m.nm;omega,by show -m.nm≤2147483647;omega⟩
           ·cases h
        ·cases h;exact ⟨ht.2,by show (-2147483648:Int)≤0;omega,by show (0:Int)≤2147483647;omega⟩
    ·cases h
theorem zxv (k:Nat) (l:List Tok) (hl:∀ t∈l,zj4 t) (vs:List Val) (h:zdJ k l=.ok vs):(∀ v∈vs,VOk v)∧vs.length≤k:=by
 induction k generalizing l vs with
 | zero=>cases h;exact ⟨fun v hv=>(by cases hv),zlr _⟩
 | succ k ih=>
   cases l with
   | nil=>cases h;exact ⟨fun v hv=>(by cases hv),by simp⟩
   | cons t r=>
     unfold zdJ at h
     split at h
     ·cases h;exact ⟨fun v hv=>(by cases hv),by simp⟩
     ·cases hx:zeC (t::r) with
      | error o=>rw [hx] at h;cases h
      | ok y=>
        obtain ⟨v,n⟩:=y
        rw [hx] at h
        simp only at h
        cases hy:zdJ k ((t::r).drop n) with
        | error o=>rw [hy] at h;cases h
        | ok us=>
          rw [hy] at h;cases h
          obtain ⟨h1,h2⟩:=ih _ (fun q hq=>hl q (zpt hq)) us hy
          refine ⟨fun w hw=>?_,by simp;omega⟩
          rcases List.mem_cons.1 hw with rfl | hw
          ·exact zsc hl hx
          ·exact h1 w hw
theorem zxw {seen:List (List UInt8)} {l:List Tok} (hl:∀ t∈l,zj4 t) {p:Pr} {n:Nat} (h:pairT seen l=.ok (p,n)):POk p:=by
 cases l with
 | nil=>cases h
 | cons t r=>
   rw [zjK] at h
   split at h
   ·cases r with
    | nil=>cases h
    | cons e u=>
      simp only at h
      split at h
      ·cases hx:zeC u with
       | error o=>rw [hx] at h;cases h
       | ok y=>
         obtain ⟨v,m⟩:=y
         rw [hx] at h;cases h
         exact ⟨(hl t (by simp)).2,zsc (fun q hq=>hl q (by simp [hq])) hx⟩
      ·cases h
   ·cases h
theorem zwq (k:Nat) (seen:List (List UInt8)) (l:List Tok) (hl:∀ t∈l,zj4 t) (ps:List Pr) (h:zbx k seen l=.ok ps):(∀ p∈ps,POk p)∧ps.length≤k:=by
 induction k generalizing seen l ps with
 | zero=>cases h;exact ⟨fun v hv=>(by cases hv),zlr _⟩
 | succ k ih=>
   cases l with
   | nil=>cases h;exact ⟨fun v hv=>(by cases hv),by simp⟩
   | cons t r=>
     unfold zbx at h
     split at h
     ·cases h;exact ⟨fun v hv=>(by cases hv),by simp⟩
     ·cases hx:pairT seen (t::r) with
      | error o=>rw [hx] at h;cases h
      | ok y=>
        obtain ⟨p,n⟩:=y
        rw [hx] at h
        simp only at h
        cases hy:zbx k (seen++[p.fd]) ((t::r).drop n) with
        | error o=>rw [hy] at h;cases h
        | ok us=>
          rw [hy] at h;cases h
          obtain ⟨h1,h2⟩:=ih _ _ (fun q hq=>hl q (zpt hq)) us hy
          refine ⟨fun w hw=>?_,by simp;omega⟩
          rcases List.mem_cons.1 hw with rfl | hw
          ·exact zxw hl hx
          ·exact h1 w hw
theorem zoN {M:Nat} (lab:List UInt8) (l:List Tok) (hl:∀ t∈l,zj4 t) (hM:l.length≤M) (x:PLine) (h:zdj lab l=.ok x):LineOk M x:=by
 cases l with
 | nil=>cases h
 | cons t r=>
   rw [zeD] at h
   split at h
   ·cases r with
    | nil=>cases h
    | cons d u=>
      simp only at h
      split at h
      ·cases hx:zdJ u.length u with
       | error o=>rw [hx] at h;cases h
       | ok vs=>
         rw [hx] at h;cases h
         obtain ⟨h1,h2⟩:=zxv _ _ (fun q hq=>hl q (by simp [hq])) vs hx
         simp only [List.length_cons] at hM
         exact ⟨h1,fun p hp=>(by cases hp),by show vs.length≤M;omega,by simp⟩
      ·cases h
   ·cases hx:zbx (t::r).length [] (t::r) with
    | error o=>rw [hx] at h;cases h
    | ok ps=>
      rw [hx] at h;cases h
      obtain ⟨h1,h2⟩:=zwq _ _ _ hl ps hx
      exact ⟨fun p hp=>(by cases hp),h1,by simp,by show ps.length≤M;omega⟩
theorem zxx {M:Nat} (l:List Tok) (hl:∀ t∈l,zj4 t) (hM:l.length≤M) (x:PLine) (h:readT l=.ok x):LineOk M x:=by
 unfold readT at h
 split at h
 ·rename_i t s r
  split at h
  ·split at h
   ·cases h
   ·rename_i y hy
    cases h
    simp only [List.length_cons] at hM
    exact zoN _ _ (fun q hq=>hl q (by simp [hq])) (by omega) _ hy
  ·exact zoN _ _ hl hM _ h
 ·exact zoN _ _ hl hM _ h
theorem zuQ {M:Nat} (tss:List (List Tok)) (i:Nat) (hl:∀ ts∈tss,(∀ t∈ts,zj4 t)∧ts.length≤M) (xs:List PLine) (h:zdr i tss=.ok xs):(∀ x∈xs,LineOk M x∧0<x.ln)∧xs.length≤tss.length:=by
 induction tss generalizing i xs with
 | nil=>cases h;exact ⟨fun v hv=>(by cases hv),zlr _⟩
 | cons ts r ih=>
   unfold zdr at h
   cases hx:readT ts with
   | error o=>rw [hx] at h;cases h
   | ok x=>
     rw [hx] at h
     simp only at h
     cases hy:zdr (i+1) r with
     | error e=>rw [hy] at h;cases h
     | ok ys=>
       rw [hy] at h;cases h
       obtain ⟨h1,h2⟩:=ih (i+1) (fun q hq=>hl q (by simp [hq])) ys hy
       obtain ⟨g1,g2⟩:=hl ts (by simp)
       have hv:=zxx ts g1 g2 x hx
       split
       ·refine ⟨fun w hw=>?_,by simp;omega⟩
        rcases List.mem_cons.1 hw with rfl | hw
        ·exact ⟨⟨hv.args,hv.prs,hv.sa,hv.sp⟩,Nat.succ_pos _⟩
        ·exact h1 w hw
       ·exact ⟨h1,by simp;omega⟩
theorem zxy (ps:List (List UInt8)) (M i:Nat) (hM:∀ p∈ps,p.length+1≤M) (tss:List (List Tok)) (h:zc0 i ps=.ok tss):∀ ts∈tss,(∀ t∈ts,zj4 t)∧ts.length≤M:=by
 induction ps generalizing i tss with
 | nil=>cases h;intro ts hts;cases hts
 | cons p r ih=>
   unfold zc0 at h
   cases hx:zcZ p with
   | error c=>rw [hx] at h;cases h
   | ok ts=>
     rw [hx] at h
     cases hy:zc0 (i+1) r with
     | error e=>rw [hy] at h;cases h
     | ok us=>
       rw [hy] at h;cases h
       intro ts' ht
       rcases List.mem_cons.1 ht with rfl | ht
       ·exact ⟨zwp hx,zlt (zpl p _ hx) (hM p (by simp))⟩
       ·exact ih _ (fun q hq=>hM q (by simp [hq])) _ hy ts' ht
theorem zlq {l:List UInt8} {xs:List PLine} (h:zfa l=.ok xs):(∀ x∈xs,LineOk (l.length+1) x∧0<x.ln)∧xs.length≤l.length+1:=by
 unfold zfa at h
 cases hy:zc0 0 (pieces 10 l) with
 | error e=>rw [hy] at h;cases h
 | ok tss=>
   rw [hy] at h
   obtain ⟨h1,h2⟩:=zuQ tss 0 (zxy _ (l.length+1) _ (fun p hp=>by have:=zjJ 10 l p hp;omega) tss hy) xs h
   exact ⟨h1,zlt h2 (by rw [zuF _ _ _ hy];exact pieces_len 10 l)⟩
def zeS (l:Lay):List PLine→Except (Nat×Nat) Lay
 | []=>.ok l
 | x::r=>match zil l x with
   | none=>.error (x.ln,1)
   | some l'=>zeS l' r
def zdL:Lay:=⟨0,[],[],[]⟩
structure LayOk (M:Nat) (l:Lay):Prop where
 pl:l.pl≤2048
 nms:NmsOk l.nms
 ris:l.wds.Pairwise fun a b=>a.1<b.1
 lt:∀ x∈l.wds,x.1<l.pl
 prs:∀ x∈l.wds,LineOk M x.2∧x.2.prs≠[]∧0<x.2.ln
 ent:∀ e∈l.ents,e.1.nm≠[]∧0<e.2.1∧0<e.2.2
theorem zi9 (M:Nat):LayOk M zdL:=⟨by decide,fun x hx=>(by cases hx),List.Pairwise.nil,fun x hx=>(by cases hx),fun x hx=>(by cases hx),fun x hx=>(by cases hx)⟩
theorem Lay.define_ok {M:Nat} {l l':Lay} (h:LayOk M l) {n:List UInt8} {x:Int} (hx: -4294967296≤x∧x≤4294967296) (hd:l.define n x=some l'):LayOk M l'∧l'.pl=l.pl∧l'.ents=l.ents∧l'.wds=l.wds:=by
 unfold Lay.define at hd
 split at hd
 ·cases hd
 ·cases hd
  refine ⟨{ h with nms:=fun y hy=>?_ },rfl,rfl,rfl⟩
  rcases List.mem_append.1 hy with hy | hy
  ·exact h.nms y hy
  ·have:y=(n,x):=by simpa using hy
   subst this
   exact hx
theorem LayOk.place {M:Nat} {l:Lay} (h:LayOk M l) {p:Nat} (h1:l.pl≤p) (h2:p≤2048):LayOk M { l with pl:=p }:={ h with pl:=h2,lt:=fun x hx=>zll (h.lt x hx) h1 }
theorem zwr {p n:Nat} (hn:1≤n):p≤(p+n-1)/n*n:=by
 have h1:=Nat.div_add_mod (p+n-1) n
 have h2:=Nat.mod_lt (p+n-1) (show 0<n by omega)
 have h3:n*((p+n-1)/n)=(p+n-1)/n*n:=Nat.mul_comm _ _
 omega
theorem zxz {M:Nat} {l l':Lay} (h:LayOk M l) {x:PLine} (hx:LineOk M x) (h0:0<x.ln) (hd:zcv l x=some l'):LayOk M l'∧l'.ents.length≤l.ents.length+1:=by
 unfold zcv at hd
 cases ha:x.args with
 | nil=>rw [ha] at hd;cases hd
 | cons v r=>
   rw [ha] at hd
   simp only at hd
   have hv:=hx.args v (by rw [ha];simp)
   split at hd
   ·split at hd
    ·rename_i hc
     cases hd
     exact ⟨h.place (by omega) (by omega),by simp⟩
    ·cases hd
   ·split at hd
    ·split at hd
     ·rename_i hc
      cases hd
      exact ⟨h.place (zwr (by omega)) hc.2.2.2.2,by simp⟩
     ·cases hd
    ·split at hd
     ·split at hd
      ·rename_i y
       split at hd
       ·have hy:=hx.args y (by rw [ha];simp)
        obtain ⟨g1,g2,g3,g4⟩:=Lay.define_ok h (by have:=hy.2;omega) hd
        exact ⟨g1,by rw [g3];omega⟩
       ·cases hd
      ·cases hd
     ·split at hd
      ·split at hd
       ·rename_i hc
        cases hd
        refine ⟨{ h with ent:=fun e he=>?_ },by simp⟩
        rcases List.mem_append.1 he with he | he
        ·exact h.ent e he
        ·have:e=(v,x.ln,v.col):=by simpa using he
         subst this
         exact ⟨hc.1,h0,hv.1⟩
       ·cases hd
      ·cases hd
theorem zqR {M:Nat} {l l':Lay} (h:LayOk M l) {x:PLine} (hx:LineOk M x) (h0:0<x.ln) (hd:zil l x=some l'):LayOk M l'∧l'.ents.length≤l.ents.length+1:=by
 rw [zmX] at hd
 have hlab:∃ l1,(if x.lab=[] then some l else l.define x.lab l.pl)=some l1∧LayOk M l1∧l1.ents=l.ents∧zg9 l1 x=some l':=by
  cases hc:(if x.lab=[] then some l else l.define x.lab l.pl) with
  | none=>rw [hc] at hd;cases hd
  | some l1=>
    rw [hc] at hd
    refine ⟨l1,rfl,?_⟩
    split at hc
    ·cases hc;exact ⟨h,rfl,hd⟩
    ·have:=h.pl
     obtain ⟨g1,g2,g3,g4⟩:=Lay.define_ok h (by omega) hc
     exact ⟨g1,g3,hd⟩
 obtain ⟨l1,_,h1,h2,h3⟩:=hlab
 rw [← h2]
 unfold zg9 at h3
 split at h3
 ·exact zxz h1 hx h0 h3
 ·split at h3
  ·cases h3;exact ⟨h1,by omega⟩
  ·split at h3
   ·rename_i hp hpl
    cases h3
    refine ⟨⟨hpl,h1.nms,?_,fun y hy=>?_,fun y hy=>?_,h1.ent⟩,by simp⟩
    ·show List.Pairwise _ (l1.wds++[(l1.pl,x)])
     rw [List.pairwise_append]
     refine ⟨h1.ris,List.pairwise_singleton _ _,fun a ha b hb=>?_⟩
     have:b=(l1.pl,x):=by simpa using hb
     subst this
     exact h1.lt a ha
    ·show y.1<l1.pl+1
     rcases List.mem_append.1 hy with hy | hy
     ·have:=h1.lt y hy;omega
     ·have:y=(l1.pl,x):=by simpa using hy
      subst this
      exact Nat.lt_succ_self _
    ·rcases List.mem_append.1 hy with hy | hy
     ·exact h1.prs y hy
     ·have:y=(l1.pl,x):=by simpa using hy
      subst this
      exact ⟨hx,hp,h0⟩
   ·cases h3
theorem zls {M:Nat} (xs:List PLine) (l l':Lay) (h:LayOk M l) (hx:∀ x∈xs,LineOk M x∧0<x.ln) (hd:zeS l xs=.ok l'):LayOk M l'∧l'.ents.length≤l.ents.length+xs.length:=by
 induction xs generalizing l with
 | nil=>cases hd;exact ⟨h,by simp⟩
 | cons x r ih=>
   unfold zeS at hd
   cases hc:zil l x with
   | none=>rw [hc] at hd;cases hd
   | some l1=>
     rw [hc] at hd
     obtain ⟨g1,g2⟩:=zqR h (hx x (by simp)).1 (hx x (by simp)).2 hc
     obtain ⟨g3,g4⟩:=ih l1 g1 (fun y hy=>hx y (by simp [hy])) hd
     exact ⟨g3,by simp;omega⟩
theorem LayOk.wlen {M:Nat} {l:Lay} (h:LayOk M l):l.wds.length≤l.pl:=by
 have key:∀ (w:List (Nat×PLine)) (a p:Nat),a≤p→w.Pairwise (fun a b=>a.1<b.1)→(∀ x∈w,a≤x.1∧x.1<p)→w.length+a≤p:=by
  intro w
  induction w with
  | nil=>intro a p h _ _;simpa using h
  | cons x r ih=>
    intro a p h h1 h2
    rw [List.pairwise_cons] at h1
    have hx:=h2 x (by simp)
    have:=ih (x.1+1) p (by omega) h1.2 fun y hy=>⟨h1.1 y hy,(h2 y (by simp [hy])).2⟩
    simp only [List.length_cons]
    omega
 have:=key l.wds 0 l.pl (Nat.zero_le _) h.ris fun x hx=>⟨Nat.zero_le _,h.lt x hx⟩
 omega
def sizeT (l:Lay):Nat:=match l.wds.getLast? with | none=>0 | some x=>x.1+1
def zbR (nms:Nms) (N:Nat):List (Nat×PLine)→List Wd→Except (Nat×Nat) (List Wd)
 | [],ws=>.ok ws
 | x::r,ws=>if (zbe nms zaE x.2.prs).2≠0 then .error (x.2.ln,(zbe nms zaE x.2.prs).2)
   else if ((zbq ((zbe nms zaE x.2.prs).1.getD 8 0) ((zbe nms zaE x.2.prs).1.getD 10 0) x.1).any fun t=>decide ((N:Int)<t.1+t.2))=true then .error (x.2.ln,((x.2.prs.head?).map (·.col)).getD 0)
   else zbR nms N r (ws.set x.1 (zbe nms zaE x.2.prs).1)
def zdk (nms:Nms) (N:Nat):List (Val×Nat×Nat)→Except (Nat×Nat) (List (List UInt8×Int))
 | []=>.ok []
 | e::r=>match zb1 nms e.1.nm with
   | none=>.error e.2
   | some x=>if x<0∨(N:Int)≤x then .error e.2 else match zdk nms N r with
     | .error z=>.error z
     | .ok es=>.ok ((e.1.nm,x)::es)
def zgf (l:Lay):Except (Nat×Nat) (List Wd×List (List UInt8×Int)):=match zbR l.nms (sizeT l) l.wds (List.replicate (sizeT l) zaE) with
 | .error z=>.error z
 | .ok ws=>match zdk l.nms (sizeT l) l.ents with
   | .error z=>.error z
   | .ok es=>.ok (ws,es)
def zeT (t:List UInt8):Except (Nat×Nat) (List Wd×List (List UInt8×Int)):=match zfa t with
 | .error z=>.error z
 | .ok xs=>match zeS zdL xs with
   | .error z=>.error z
   | .ok l=>zgf l
theorem zj5 {M:Nat} {l:Lay} (h:LayOk M l):(∀ x∈l.wds,x.1<sizeT l)∧sizeT l≤2048:=by
 unfold sizeT
 cases hg:l.wds.getLast? with
 | none=>
   have:l.wds=[]:=List.getLast?_eq_none_iff.1 hg
   rw [this]
   exact ⟨fun x hx=>(by cases hx),by simp⟩
 | some y=>
   obtain ⟨w,hw⟩:=List.getLast?_eq_some_iff.1 hg
   have hris:=h.ris
   rw [hw,List.pairwise_append] at hris
   have hy:=h.lt y (by rw [hw];simp)
   have hp:=h.pl
   refine ⟨fun x hx=>?_,by simp only;omega⟩
   rw [hw] at hx
   simp only
   rcases List.mem_append.1 hx with hx | hx
   ·have:=hris.2.2 x hx y (by simp);omega
   ·have:x=y:=by simpa using hx
    subst this
    omega
def zhO (w:Wd):Prop:=w.length=12∧zc8 w=true
theorem zpu {w:Wd}:zc8 w=true↔∀ k,k<12→fitsT (w.getD k 0) (zax k)=true:=by
 unfold zc8
 rw [List.all_eq_true]
 exact ⟨fun h k hk=>h k (List.mem_range.2 hk),fun h k hk=>h k (List.mem_range.1 hk)⟩
theorem zuR {w:Wd} (hw:w.length=12) (hg:zc8 w=true) (f:List UInt8) (x:Int) (h:(zbV w f x).2=0):zc8 (zbV w f x).1=true:=by
 rw [zpu] at hg ⊢
 intro k hk
 unfold zbV at h ⊢
 cases hf:zfH f with
 | none=>rw [hf] at h;cases h
 | some i=>
   rw [hf] at h
   simp only at h
   obtain ⟨_,_,_,hi⟩:=zmT hf
   show fitsT ((if fitsT x (zax i)=true then (w.set i x,(0:Int)) else (w,1)).1.getD k 0) _=true
   by_cases hfit:fitsT x (zax i)=true
   ·rw [if_pos hfit]
    by_cases hki:k=i
    ·subst hki
     rw [List.getD_eq_getElem?_getD,List.getElem?_set_self (by omega)]
     exact hfit
    ·rw [List.getD_eq_getElem?_getD,List.getElem?_set_ne (fun e=>hki e.symm),← List.getD_eq_getElem?_getD]
     exact hg k hk
   ·rw [if_neg hfit] at h
    cases h
theorem zuS (nms:Nms) (prs:List Pr) (w:Wd) (hw:w.length=12) (hg:zc8 w=true):zc8 (zbe nms w prs).1=true:=by
 induction prs generalizing w with
 | nil=>exact hg
 | cons p r ih=>
   unfold zbe
   split
   ·exact hg
   ·split
    ·exact hg
    ·split
     ·rename_i h;exact ih _ (by rw [zdg,hw]) (zuR hw hg _ _ h)
     ·exact hg
theorem zqS:zhO zaE:=⟨rfl,by decide+kernel⟩
theorem zsd (nms:Nms) (prs:List Pr):zhO (zbe nms zaE prs).1:=⟨by rw [zmW];rfl,zuS nms prs zaE rfl zqS.2⟩
end Go.Proofs.YtcplfckncandkaaGreatDoorE
namespace Go.Proofs.YtcplfckncandkaaGreatDoorE
open Go Go.E Go.Proofs
structure OL where
 v:Value
 c:List Value
 z:Nat
 n:Nat
structure Owns (B:Nat) (st:SS) (L:List OL):Prop where
 own:∀ (k:Nat) o,L[k]?=some o→Own B st o.v o.c o.z o.n
 dis:∀ (k m:Nat) a b j,L[k]?=some a→L[m]?=some b→blkOf a.v=some j→blkOf b.v=some j→k=m
section
variable {B : Nat} {st st' : SS} {L : List OL}
theorem Owns.ext (h:Owns B st L) (x:Ext st st'):Owns B st' L:=⟨fun k o e=>(h.own k o e).ext x,h.dis⟩
theorem Owns.modLt {S:List Nat} (h:Owns B st L) (m:Mod S st st') (hS:∀ j,j∈S→j<B):Owns B st' L:=⟨fun k o e=>(h.own k o e).modLt m hS,h.dis⟩
theorem Owns.push (h:Owns B st L) {k:Nat} {v:Value} {c row:List Value} {z n bt:Nat} (hk:L[k]?=some ⟨v,c,z,n⟩) (hb:B≤st.next) (hl:st.lim≤B) (hr:row.length=z) (hz:0<z) (h1:row.all one=true) (hs:(n+2)*bt≤2^44) (hn:n+1≤2^44):
  ∃ j s',(st.new (.cells row z)).app z bt v (.slice (some ⟨st.next,0,none⟩) 1 1)=some (.slice (some ⟨j,0,none⟩) (n+1) (n+1),s')∧Owns B s' (L.set k ⟨.slice (some ⟨j,0,none⟩) (n+1) (n+1),c++row,z,n+1⟩)∧Keep B [] st s':=by
 obtain ⟨j,s',g1,g2,g3,g4,g5,g6⟩:=zj3 (row:=row) (bt:=bt) (h.own k _ hk) hb hl hr hz h1 hs hn
 have hlt:k<L.length:=(List.getElem?_eq_some_iff.1 hk).1
 have hget:∀ m o,(L.set k ⟨.slice (some ⟨j,0,none⟩) (n+1) (n+1),c++row,z,n+1⟩)[m]?=some o→(m=k∧o=⟨.slice (some ⟨j,0,none⟩) (n+1) (n+1),c++row,z,n+1⟩)∨(m≠k∧L[m]?=some o):=fun m o ho=>by
  by_cases hm:m=k
  ·subst hm
   rw [List.getElem?_set_self hlt] at ho
   cases ho;exact .inl ⟨rfl,rfl⟩
  ·rw [List.getElem?_set_ne (fun e=>hm e.symm)] at ho
   exact .inr ⟨hm,ho⟩
 refine ⟨j,s',g1,⟨fun m o ho=>?_,fun m1 m2 a b q h1 h2 q1 q2=>?_⟩,⟨g5,g4,fun i hi _=>g6 i (by omega) fun e=>by have:=(zcz (h.own k _ hk) e).1;omega⟩⟩
 ·rcases hget m o ho with ⟨_,rfl⟩ | ⟨hm,ho⟩
  ·exact g3
  ·exact zfg (h.own m o ho) g5 fun i hi e=>g6 i hi fun e'=>hm (h.dis m k _ _ i ho hk e e')
 ·rcases hget m1 a h1 with ⟨e1,rfl⟩ | ⟨e1,h1⟩<;>rcases hget m2 b h2 with ⟨e2,rfl⟩ | ⟨e2,h2⟩
  ·rw [e1,e2]
  ·cases q1
   have:=(zcz (h.own m2 _ h2) q2).2
   omega
  ·cases q2
   have:=(zcz (h.own m1 _ h1) q1).2
   omega
  ·exact h.dis m1 m2 a b q h1 h2 q1 q2
end
end Go.Proofs.YtcplfckncandkaaGreatDoorE
