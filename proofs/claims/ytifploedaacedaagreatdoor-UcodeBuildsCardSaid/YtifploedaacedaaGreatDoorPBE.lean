/- Parts of the proof of UcodeBuilds, packed by a program: an evaluator over the given code, functions as plain texts, their laws. -/
import Derived.Test.YtifploedaacedaaGreatDoorPBD
set_option linter.unusedVariables false
set_option linter.unusedSimpArgs false
namespace Go.Proofs.YtifploedaacedaaGreatDoorE
set_option maxRecDepth 20000
open Go Go.E Go.Proofs
noncomputable def Y0 (cf:fQ) (lf:eX) (b':Value) (name':ByteArray) (x':Int) (st:SS):Option (Value×SS):=
 (fG b').bind fun a=>
 (aj a).bind fun b=>
 (st.ld b.1 (b.2+1)).bind fun c=>
 (st.zU c name').bind fun d=>
 EL d (
 cond (fA name' ⟨#[]⟩) (
 some (.bool false,st)) (
 (fG b').bind fun e=>
 (aj e).bind fun f=>
 (st.ld f.1 (f.2+1)).bind fun g=>
 (st.Gp g name' (.int .i64 x')).bind fun h=>
 some (.bool true,h))) (fun i=>
 ((fM (.tuple #[i,.bool true]) 0).bind (ay .i64)).bind fun j=>
 some (.bool false,st))
noncomputable abbrev zkq:eX:=lS Tryz.prog Lk0 Tryz.f70 lQ
theorem zkr:Lk0.func 70=some (70,Tryz.f70):=by kernel_rfl
theorem zem [Sym] (b':Value) (name':ByteArray) (x':Int) (st:SS) {r:Value×SS} (h:Y0 cc zkq b' name' x' st=some r):cc 70 [b',.string name',.int .i64 x'] st=some r:=
 mF (li:=lQ) gu gy zkr rfl (fun _=>rfl) (.trans (by kernel_rfl) h)
noncomputable def zD (cf:fQ) (lf:eX) (b':Value) (l':Value) (st:SS):Option (Value×SS):=
 let a:SS:=st.new (.cells (l':Value).cells.toList 0)
 (a.ld st.next 3).bind fun b=>
 ((lenV b).bind (ay .i64)).bind fun c=>
 cond (decide (c=0)) (
 some (.bool false,a)) (
 (a.ld st.next 3).bind fun d=>
 (fK d 0 3).bind fun e=>
 (a.eF e.1 e.2 3).bind fun f=>
 let g:SS:=a.new (.cells [.string ⟨#[]⟩,.int .i64 0,.int .i64 0] 0)
 (g.eH a.next 0 3 f).bind fun h=>
 ((h.ld a.next 0).bind asS).bind fun i=>
 ((h.ld st.next 2).bind asS).bind fun j=>
 cond (fA j ⟨#[111,114,103]⟩) (
 cond (!(fA i ⟨#[]⟩)) (
 some (.bool false,h)) (
 (h.ld st.next 3).bind fun k=>
 ((lenV k).bind (ay .i64)).bind fun l=>
 cond (decide (1<l)) (
 some (.bool false,h)) (
 ((h.ld a.next 1).bind (ay .i64)).bind fun m=>
 (fG b').bind fun n=>
 (aj n).bind fun o=>
 ((h.ld o.1 o.2).bind (ay .i64)).bind fun p=>
 cond (decide (m<p)) (
 some (.bool false,h)) (
 ((h.ld a.next 1).bind (ay .i64)).bind fun q=>
 cond (decide (2048<q)) (
 some (.bool false,h)) (
 ((h.ld a.next 1).bind (ay .i64)).bind fun r=>
 (fG b').bind fun s=>
 (aj s).bind fun t=>
 (h.st t.1 t.2 [.int .i64 r]).bind fun u=>
 some (.bool true,u)))))) (
 cond (fA j ⟨#[97,108,105,103,110]⟩) (
 cond (!(fA i ⟨#[]⟩)) (
 some (.bool false,h)) (
 (h.ld st.next 3).bind fun v=>
 ((lenV v).bind (ay .i64)).bind fun w=>
 cond (decide (1<w)) (
 some (.bool false,h)) (
 ((h.ld a.next 1).bind (ay .i64)).bind fun x=>
 cond (decide (x<1)) (
 some (.bool false,h)) (
 ((h.ld a.next 1).bind (ay .i64)).bind fun y=>
 cond (decide (2048<y)) (
 some (.bool false,h)) (
 (fG b').bind fun z=>
 (aj z).bind fun A=>
 ((h.ld A.1 A.2).bind (ay .i64)).bind fun B=>
 ((h.ld a.next 1).bind (ay .i64)).bind fun C=>
 let D:Int:=IntKind.wrap .i64 (B+C)
 let E:Int:=IntKind.wrap .i64 (D-1)
 ((h.ld a.next 1).bind (ay .i64)).bind fun F=>
 ((aI .quo .i64 E F).bind (ay .i64)).bind fun G=>
 ((h.ld a.next 1).bind (ay .i64)).bind fun H=>
 let I:Int:=IntKind.wrap .i64 (G*H)
 (fG b').bind fun J=>
 (aj J).bind fun K=>
 (h.st K.1 K.2 [.int .i64 I]).bind fun L=>
 (fG b').bind fun M=>
 (aj M).bind fun N=>
 ((L.ld N.1 N.2).bind (ay .i64)).bind fun O=>
 some (.bool (decide (O≤2048)),L)))))) (
 cond (fA j ⟨#[115,101,116]⟩) (
 (h.ld st.next 3).bind fun P=>
 ((lenV P).bind (ay .i64)).bind fun Q=>
 cond (decide (Q=2)) (
 cond (!(fA i ⟨#[]⟩)) (
 ((h.ld a.next 1).bind (ay .i64)).bind fun R=>
 cond (decide (R=0)) (
 (h.ld st.next 3).bind fun S=>
 (fK S 1 3).bind fun T=>
 ((h.ld T.1 T.2).bind asS).bind fun U=>
 cond (fA U ⟨#[]⟩) (
 ((h.ld a.next 0).bind asS).bind fun V=>
 (h.ld st.next 3).bind fun W=>
 (fK W 1 3).bind fun X=>
 ((h.ld X.1 (X.2+1)).bind (ay .i64)).bind fun Y=>
 (cf 70 [b',.string V,.int .i64 Y] h).bind fun Z=>
 ((some Z.1).bind lF).bind fun aA=>
 some (.bool aA,Z.2)) (
 some (.bool false,h))) (
 some (.bool false,h))) (
 some (.bool false,h))) (
 some (.bool false,h))) (
 cond (fA j ⟨#[101,110,116,114,121]⟩) (
 cond (fA i ⟨#[]⟩) (
 some (.bool false,h)) (
 (h.ld st.next 3).bind fun aB=>
 ((lenV aB).bind (ay .i64)).bind fun aC=>
 cond (decide (1<aC)) (
 some (.bool false,h)) (
 ((h.ld a.next 1).bind (ay .i64)).bind fun aD=>
 cond (!(decide (aD=0))) (
 some (.bool false,h)) (
 (fG b').bind fun aE=>
 (aj aE).bind fun aF=>
 (h.ld aF.1 (aF.2+4)).bind fun aG=>
 (cf 96 [aG,.func (.func 97) #[] #[ptr a.next 0]] h).bind fun aH=>
 ((some aH.1).bind lF).bind fun aJ=>
 cond aJ (
 some (.bool false,aH.2)) (
 (fG b').bind fun aK=>
 (aj aK).bind fun aL=>
 (aH.2.ld aL.1 (aL.2+4)).bind fun aM=>
 (aH.2.eF a.next 0 3).bind fun aN=>
 (nX aN 3).bind fun aO=>
 let aP:SS:=aH.2.new (.cells (aO++([])) 3)
 (aP.app 3 32 aM (.slice (some ⟨aH.2.next,0,none⟩) 1 1)).bind fun aQ=>
 (fG b').bind fun aR=>
 (aj aR).bind fun aS=>
 (aQ.2.eH aS.1 (aS.2+4) 1 aQ.1).bind fun aT=>
 (fG b').bind fun aU=>
 (aj aU).bind fun aV=>
 (aT.ld aV.1 (aV.2+3)).bind fun aW=>
 ((aT.ld st.next 0).bind (ay .i64)).bind fun aX=>
 ((aT.ld a.next 2).bind (ay .i64)).bind fun aY=>
 let aZ:SS:=aT.new (.cells ([.int .i64 aX,.int .i64 aY]) 2)
 (aZ.app 2 16 aW (.slice (some ⟨aT.next,0,none⟩) 1 1)).bind fun bA=>
 (fG b').bind fun bB=>
 (aj bB).bind fun bC=>
 (bA.2.eH bC.1 (bC.2+3) 1 bA.1).bind fun bD=>
 some (.bool true,bD)))))) (
 some (.bool false,h))))))
noncomputable abbrev zfq:eX:=lS Tryz.prog Lk0 Tryz.f71 lQ
theorem ziU:Lk0.func 71=some (71,Tryz.f71):=by kernel_rfl
theorem OH [Sym] (b':Value) (l':Value) (st:SS) {r:Value×SS} (h:zD cc zfq b' l' st=some r):cc 71 [b',l'] st=some r:=
 mF (li:=lQ) gu gy ziU rfl (fun _=>rfl) (.trans (by kernel_rfl) h)
noncomputable def RZ (cf:fQ) (lf:eX) (b':Value) (l':Value) (st:SS):Option (Value×SS):=
 let a:SS:=st.new (.cells (l':Value).cells.toList 0)
 ((a.ld st.next 1).bind asS).bind fun b=>
 cond (!(fA b ⟨#[]⟩)) (
 ((a.ld st.next 1).bind asS).bind fun c=>
 (fG b').bind fun d=>
 (aj d).bind fun e=>
 ((a.ld e.1 e.2).bind (ay .i64)).bind fun f=>
 (cf 70 [b',.string c,.int .i64 f] a).bind fun g=>
 ((some g.1).bind lF).bind fun h=>
 cond (!h) (
 some (.bool false,g.2)) (
 ((g.2.ld st.next 2).bind asS).bind fun i=>
 cond (!(fA i ⟨#[]⟩)) (
 (g.2.eF st.next 0 5).bind fun j=>
 (cf 71 [b',j] g.2).bind fun k=>
 ((some k.1).bind lF).bind fun l=>
 some (.bool l,k.2)) (
 (g.2.ld st.next 4).bind fun m=>
 ((lenV m).bind (ay .i64)).bind fun n=>
 cond (decide (n=0)) (
 some (.bool true,g.2)) (
 (fG b').bind fun o=>
 (aj o).bind fun p=>
 (g.2.ld p.1 (p.2+2)).bind fun q=>
 (fG b').bind fun r=>
 (aj r).bind fun s=>
 ((g.2.ld s.1 s.2).bind (ay .i64)).bind fun t=>
 (g.2.eF st.next 0 5).bind fun u=>
 (nX u 5).bind fun v=>
 (nX (.agg ⟨spl [.int .i64 t,.int .i64 0,.string ⟨#[]⟩,.string ⟨#[]⟩,.slice none 0 0,.slice none 0 0] 1 v⟩) 6).bind fun w=>
 let x:SS:=g.2.new (.cells (w++([])) 6)
 (x.app 6 96 q (.slice (some ⟨g.2.next,0,none⟩) 1 1)).bind fun y=>
 (fG b').bind fun z=>
 (aj z).bind fun A=>
 (y.2.eH A.1 (A.2+2) 1 y.1).bind fun B=>
 (fG b').bind fun C=>
 (aj C).bind fun D=>
 ((B.ld D.1 D.2).bind (ay .i64)).bind fun E=>
 let F:Int:=IntKind.wrap .i64 (E+1)
 (fG b').bind fun G=>
 (aj G).bind fun H=>
 (B.st H.1 H.2 [.int .i64 F]).bind fun I=>
 (fG b').bind fun J=>
 (aj J).bind fun K=>
 ((I.ld K.1 K.2).bind (ay .i64)).bind fun L=>
 some (.bool (decide (L≤2048)),I))))) (
 ((a.ld st.next 2).bind asS).bind fun M=>
 cond (!(fA M ⟨#[]⟩)) (
 (a.eF st.next 0 5).bind fun N=>
 (cf 71 [b',N] a).bind fun O=>
 ((some O.1).bind lF).bind fun P=>
 some (.bool P,O.2)) (
 (a.ld st.next 4).bind fun Q=>
 ((lenV Q).bind (ay .i64)).bind fun R=>
 cond (decide (R=0)) (
 some (.bool true,a)) (
 (fG b').bind fun S=>
 (aj S).bind fun T=>
 (a.ld T.1 (T.2+2)).bind fun U=>
 (fG b').bind fun V=>
 (aj V).bind fun W=>
 ((a.ld W.1 W.2).bind (ay .i64)).bind fun X=>
 (a.eF st.next 0 5).bind fun Y=>
 (nX Y 5).bind fun Z=>
 (nX (.agg ⟨spl [.int .i64 X,.int .i64 0,.string ⟨#[]⟩,.string ⟨#[]⟩,.slice none 0 0,.slice none 0 0] 1 Z⟩) 6).bind fun aA=>
 let aB:SS:=a.new (.cells (aA++([])) 6)
 (aB.app 6 96 U (.slice (some ⟨a.next,0,none⟩) 1 1)).bind fun aC=>
 (fG b').bind fun aD=>
 (aj aD).bind fun aE=>
 (aC.2.eH aE.1 (aE.2+2) 1 aC.1).bind fun aF=>
 (fG b').bind fun aG=>
 (aj aG).bind fun aH=>
 ((aF.ld aH.1 aH.2).bind (ay .i64)).bind fun aI=>
 let aJ:Int:=IntKind.wrap .i64 (aI+1)
 (fG b').bind fun aK=>
 (aj aK).bind fun aL=>
 (aF.st aL.1 aL.2 [.int .i64 aJ]).bind fun aM=>
 (fG b').bind fun aN=>
 (aj aN).bind fun aO=>
 ((aM.ld aO.1 aO.2).bind (ay .i64)).bind fun aP=>
 some (.bool (decide (aP≤2048)),aM))))
noncomputable abbrev zey:eX:=lS Tryz.prog Lk0 Tryz.f43 lQ
theorem zk8:Lk0.func 43=some (43,Tryz.f43):=by kernel_rfl
theorem UE [Sym] (b':Value) (l':Value) (st:SS) {r:Value×SS} (h:RZ cc zey b' l' st=some r):cc 43 [b',l'] st=some r:=
 mF (li:=lQ) gu gy zk8 rfl (fun _=>rfl) (.trans (by kernel_rfl) h)
noncomputable def UL (cf:fQ) (lf:eX) (b':Value) (field':ByteArray) (v':Value) (st:SS):Option (Value×SS):=
 let a:SS:=(st.ro st.next).new (.cells (v':Value).cells.toList 0)
 ((a.ld ((st.ro st.next).next) 0).bind asS).bind fun b=>
 cond (fA b ⟨#[]⟩) (
 ((a.ld ((st.ro st.next).next) 1).bind (ay .i64)).bind fun c=>
 some (.tuple #[.int .i64 c,.bool true],st.dw a.next)) (
 (cf 117 [.string field'] (a.ro a.next)).bind fun d=>
 (((d.2.ro a.lim).ld ((st.ro st.next).next) 0).bind asS).bind fun e=>
 (cf 116 [d.1,.string e] (d.2.ro a.lim)).bind fun f=>
 ((some f.1).bind (ay .i64)).bind fun g=>
 cond (decide (0≤g)) (
 ((f.2.ld ((st.ro st.next).next) 1).bind (ay .i64)).bind fun h=>
 let i:Int:=IntKind.wrap .i64 (g+h)
 some (.tuple #[.int .i64 i,.bool true],st.dw f.2.next)) (
 (fG b').bind fun j=>
 (aj j).bind fun k=>
 (f.2.ld k.1 (k.2+1)).bind fun l=>
 ((f.2.ld ((st.ro st.next).next) 0).bind asS).bind fun m=>
 (f.2.zU l m).bind fun n=>
 EL n (
 ((f.2.ld ((st.ro st.next).next) 1).bind (ay .i64)).bind fun o=>
 let p:Int:=IntKind.wrap .i64 (0+o)
 some (.tuple #[.int .i64 p,.bool false],st.dw f.2.next)) (fun q=>
 ((fM (.tuple #[q,.bool true]) 0).bind (ay .i64)).bind fun r=>
 ((f.2.ld ((st.ro st.next).next) 1).bind (ay .i64)).bind fun s=>
 let t:Int:=IntKind.wrap .i64 (r+s)
 some (.tuple #[.int .i64 t,.bool true],st.dw f.2.next))))
noncomputable abbrev zks:eX:=lS Tryz.prog Lk0 Tryz.f99 lQ
theorem zkt:Lk0.func 99=some (99,Tryz.f99):=by kernel_rfl
theorem Zh [Sym] (b':Value) (field':ByteArray) (v':Value) (st:SS) {r:Value×SS} (h:UL cc zks b' field' v' st=some r):cc 99 [b',.string field',v'] st=some r:=
 mF (li:=lQ) gu gy zkt rfl (fun _=>rfl) (.trans (by kernel_rfl) h)
def zf1:eu:=⟨[(0,.any),(4,.any),(6,.any),(13,.any),(14,.int .i64),(15,.int .i64)],[(.exit 0,[(4,.any),(6,.any)]),(.ret,[(4,.any),(5,.int .i64)])]⟩
def zgq (n:Nat):Option eu:=cond (Nat.beq n 3) (some zf1) (none)
noncomputable def zfj (cf:fQ) (lf:eX) (b':Value) (l':Value) (st:SS):Option (Value×SS):=
 let a:SS:=(st.ro st.next).new (.cells (l':Value).cells.toList 0)
 let b:SS:=a.new (.cells [.int .i64 0,.int .i64 0,.int .i64 0,.int .i64 0,.int .i64 0,.int .i64 0,.int .i64 0,.int .i64 0,.int .i64 0,.int .i64 0,.int .i64 0,.int .i64 0] 0)
 let c:SS:=b.new (.cells [.int .i64 0,.int .i64 0,.int .i64 0,.int .i64 0,.int .i64 0,.int .i64 0,.int .i64 0,.int .i64 0,.int .i64 0,.int .i64 0,.int .i64 0,.int .i64 0] 0)
 (c.ld ((st.ro st.next).next) 4).bind fun d=>
 ((lenV d).bind (ay .i64)).bind fun e=>
 (lf 3 [b',ptr a.next 0,ptr b.next 0,d,.int .i64 e,.int .i64 0] c).bind fun f=>
 cond (Nat.beq f.1 0) (
 (f.2.1[0]?).bind fun g=>
 (f.2.1[1]?).bind fun h=>
 (aj h).bind fun i=>
 (f.2.2.eF i.1 i.2 12).bind fun j=>
 (aj g).bind fun k=>
 (f.2.2.eH k.1 k.2 12 j).bind fun l=>
 (aj g).bind fun m=>
 (l.fH m.1 m.2 12).bind fun n=>
 cond (flat3 (.tuple #[n,.int .i64 0])) (some (.tuple #[n,.int .i64 0],st.dw l.next)) none) (
 (f.2.1[0]?).bind fun o=>
 ((f.2.1[1]?).bind (ay .i64)).bind fun p=>
 (aj o).bind fun q=>
 (f.2.2.fH q.1 q.2 12).bind fun r=>
 cond (flat3 (.tuple #[r,.int .i64 p])) (some (.tuple #[r,.int .i64 p],st.dw f.2.2.next)) none)
noncomputable abbrev Ky:eX:=lS Tryz.prog Lk0 Tryz.f72 zgq
theorem zku:Lk0.func 72=some (72,Tryz.f72):=by kernel_rfl
theorem zgr [Sym] (b':Value) (l':Value) (st:SS) {r:Value×SS} (h:zfj cc Ky b' l' st=some r):cc 72 [b',l'] st=some r:=
 mF (li:=zgq) gu gy zku rfl (fun _=>rfl) (.trans (by kernel_rfl) h)
noncomputable def Sr (cf:fQ) (lf:eX) (b':Value) (mD:Value) (w':Value) (zu:Value) (Io:Int) (sV:Int) (st:SS):Option (Nat×List Value×SS):=
 cond (decide (sV<Io)) (
 (fK zu sV 5).bind fun a=>
 (st.eF a.1 a.2 5).bind fun b=>
 let c:SS:=st.new (.cells [.string ⟨#[]⟩,.int .i64 0,.string ⟨#[]⟩,.int .i64 0,.int .i64 0] 0)
 (c.eH st.next 0 5 b).bind fun d=>
 ((d.ld st.next 0).bind asS).bind fun e=>
 (cf 98 [.string e] d).bind fun f=>
 ((some f.1).bind (ay .i64)).bind fun g=>
 cond (decide (g=0)) (
 (aj w').bind fun h=>
 (f.2.eF h.1 h.2 12).bind fun i=>
 ((f.2.ld st.next 1).bind (ay .i64)).bind fun j=>
 cond (vH (ptr st.next 1) mD) (
 (aj mD).bind fun k=>
 (f.2.eH k.1 k.2 12 i).bind fun l=>
 some (1,[mD,.int .i64 j],l)) (
 none)) (
 ((f.2.ld st.next 0).bind asS).bind fun m=>
 (f.2.eF st.next 2 3).bind fun n=>
 (cf 99 [b',.string m,n] f.2).bind fun o=>
 ((fM o.1 0).bind (ay .i64)).bind fun p=>
 ((fM o.1 1).bind lF).bind fun q=>
 (aj w').bind fun r=>
 (o.2.eF r.1 r.2 12).bind fun s=>
 ((o.2.ld st.next 0).bind asS).bind fun t=>
 (cf 100 [s,.string t,.int .i64 p] o.2).bind fun u=>
 (fM u.1 0).bind fun v=>
 ((fM u.1 1).bind (ay .i64)).bind fun w=>
 (aj w').bind fun x=>
 (u.2.eH x.1 x.2 12 v).bind fun y=>
 cond (!q) (
 (aj w').bind fun z=>
 (y.eF z.1 z.2 12).bind fun A=>
 ((y.ld st.next 4).bind (ay .i64)).bind fun B=>
 cond (vH (ptr st.next 4) mD) (
 (aj mD).bind fun C=>
 (y.eH C.1 C.2 12 A).bind fun D=>
 some (1,[mD,.int .i64 B],D)) (
 none)) (
 cond (!(decide (w=0))) (
 (aj w').bind fun E=>
 (y.eF E.1 E.2 12).bind fun F=>
 ((y.ld st.next 4).bind (ay .i64)).bind fun G=>
 cond (vH (ptr st.next 4) mD) (
 (aj mD).bind fun H=>
 (y.eH H.1 H.2 12 F).bind fun I=>
 some (1,[mD,.int .i64 G],I)) (
 none)) (
 let J:Int:=IntKind.wrap .i64 (sV+1)
 lf 3 [b',mD,w',zu,.int .i64 Io,.int .i64 J] y)))) (
 some (0,[mD,w'],st))
theorem UY [Sym] (b':Value) (mD:Value) (w':Value) (zu:Value) (Io:Int) (sV:Int) (st:SS) {r:Nat×List Value×SS} (h:Sr cc Ky b' mD w' zu Io sV st=some r):Ky 3 [b',mD,w',zu,.int .i64 Io,.int .i64 sV] st=some r:=
 oM gu gy (key:=3) (I:=zf1) rfl (by kernel_rfl) (by kernel_rfl) rfl rfl (.trans (by kernel_rfl) h)
def zpu:eu:=⟨[(0,.any),(1,.str),(7,.int .i64),(8,.int .i64)],[(.exit 0,[]),(.ret,[(4,.int .i64)])]⟩
def zqH (n:Nat):Option eu:=cond (Nat.beq n 2) (some zpu) (none)
noncomputable def zvM (cf:fQ) (lf:eX) (s':Value) (v':ByteArray) (st:SS):Option (Value×SS):=
 ((lenV s').bind (ay .i64)).bind fun a=>
 (lf 2 [s',.string v',.int .i64 a,.int .i64 0] (st.ro st.next)).bind fun b=>
 cond (Nat.beq b.1 0) (
 some (.int .i64 (-1),st.dw b.2.2.next)) (
 ((b.2.1[0]?).bind (ay .i64)).bind fun c=>
 some (.int .i64 c,st.dw b.2.2.next))
noncomputable abbrev Ue:eX:=lS Tryz.prog Lk0 Tryz.f116 zqH
theorem zvN:Lk0.func 116=some (116,Tryz.f116):=by kernel_rfl
theorem zvO [Sym] (s':Value) (v':ByteArray) (st:SS) {r:Value×SS} (h:zvM cc Ue s' v' st=some r):cc 116 [s',.string v'] st=some r:=
 mF (li:=zqH) gu gy zvN rfl (fun _=>rfl) (.trans (by kernel_rfl) h)
noncomputable def Yo (cf:fQ) (lf:eX) (s':Value) (v':ByteArray) (pY:Int) (sU:Int) (st:SS):Option (Nat×List Value×SS):=
 cond (decide (sU<pY)) (
 (fK s' sU 1).bind fun a=>
 ((st.ld a.1 a.2).bind asS).bind fun b=>
 cond (fA v' b) (
 some (1,[.int .i64 sU],st)) (
 let c:Int:=IntKind.wrap .i64 (sU+1)
 lf 2 [s',.string v',.int .i64 pY,.int .i64 c] st)) (
 some (0,[],st))
theorem znb [Sym] (s':Value) (v':ByteArray) (pY:Int) (sU:Int) (st:SS) {r:Nat×List Value×SS} (h:Yo cc Ue s' v' pY sU st=some r):Ue 2 [s',.string v',.int .i64 pY,.int .i64 sU] st=some r:=
 oM gu gy (key:=2) (I:=zpu) rfl (by kernel_rfl) (by kernel_rfl) rfl rfl (.trans (by kernel_rfl) h)
noncomputable def zp7 (cf:fQ) (lf:eX) (s':Value) (q':Nat) (st:SS):Option (Value×SS):=
 (cf 114 [s',.func (.func 97) #[] #[ptr q' 0]] (st.ro st.next)).bind fun a=>
 ((some a.1).bind (ay .i64)).bind fun b=>
 some (.bool (decide (0≤b)),st.dw a.2.next)
noncomputable abbrev zul:eX:=lS Tryz.prog Lk0 Tryz.f96 lQ
theorem zum:Lk0.func 96=some (96,Tryz.f96):=by kernel_rfl
theorem zun [Sym] (s':Value) (q':Nat) (st:SS) {r:Value×SS} (h:zp7 cc zul s' q' st=some r):cc 96 [s',.func (.func 97) #[] #[ptr q' 0]] st=some r:=
 mF (li:=lQ) gu gy zum rfl (fun _=>rfl) (.trans (by kernel_rfl) h)
def zpv:eu:=⟨[(0,.any),(1,.any),(7,.int .i64),(8,.int .i64)],[(.exit 0,[]),(.ret,[(4,.int .i64)])]⟩
def zqI (n:Nat):Option eu:=cond (Nat.beq n 2) (some zpv) (none)
noncomputable def zr5 (cf:fQ) (lf:eX) (s':Value) (q':Nat) (st:SS):Option (Value×SS):=
 ((lenV s').bind (ay .i64)).bind fun a=>
 (lf 2 [s',.func (.func 97) #[] #[ptr q' 0],.int .i64 a,.int .i64 0] (st.ro st.next)).bind fun b=>
 cond (Nat.beq b.1 0) (
 some (.int .i64 (-1),st.dw b.2.2.next)) (
 ((b.2.1[0]?).bind (ay .i64)).bind fun c=>
 some (.int .i64 c,st.dw b.2.2.next))
noncomputable abbrev Ud:eX:=lS Tryz.prog Lk0 Tryz.f114 zqI
theorem zvP:Lk0.func 114=some (114,Tryz.f114):=by kernel_rfl
theorem zqJ [Sym] (s':Value) (q':Nat) (st:SS) {r:Value×SS} (h:zr5 cc Ud s' q' st=some r):cc 114 [s',.func (.func 97) #[] #[ptr q' 0]] st=some r:=
 mF (li:=zqI) gu gy zvP rfl (fun _=>rfl) (.trans (by kernel_rfl) h)
noncomputable def YC (cf:fQ) (lf:eX) (s':Value) (q':Nat) (pY:Int) (sU:Int) (st:SS):Option (Nat×List Value×SS):=
 cond (decide (sU<pY)) (
 (fK s' sU 3).bind fun a=>
 (st.eF a.1 a.2 3).bind fun b=>
 (cf 97 [b,ptr q' 0] st).bind fun c=>
 ((some c.1).bind lF).bind fun d=>
 cond d (
 some (1,[.int .i64 sU],c.2)) (
 let e:Int:=IntKind.wrap .i64 (sU+1)
 lf 2 [s',.func (.func 97) #[] #[ptr q' 0],.int .i64 pY,.int .i64 e] c.2)) (
 some (0,[],st))
theorem zjs [Sym] (s':Value) (q':Nat) (pY:Int) (sU:Int) (st:SS) {r:Nat×List Value×SS} (h:YC cc Ud s' q' pY sU st=some r):Ud 2 [s',.func (.func 97) #[] #[ptr q' 0],.int .i64 pY,.int .i64 sU] st=some r:=
 oM gu gy (key:=2) (I:=zpv) rfl (by kernel_rfl) (by kernel_rfl) rfl rfl (.trans (by kernel_rfl) h)
noncomputable def MR (cf:fQ) (lf:eX) (v':Value) (x1':Value) (st:SS):Option (Value×SS):=
 let a:SS:=(st.ro st.next).new (.cells (v':Value).cells.toList 0)
 ((a.ld ((st.ro st.next).next) 0).bind asS).bind fun b=>
 (aj x1').bind fun c=>
 ((a.ld c.1 c.2).bind asS).bind fun d=>
 some (.bool (fA b d),st.dw a.next)
noncomputable abbrev zwY:eX:=lS Tryz.prog Lk0 Tryz.f97 lQ
theorem zwZ:Lk0.func 97=some (97,Tryz.f97):=by kernel_rfl
theorem zw0 [Sym] (v':Value) (x1':Value) (st:SS) {r:Value×SS} (h:MR cc zwY v' x1' st=some r):cc 97 [v',x1'] st=some r:=
 mF (li:=lQ) gu gy zwZ rfl (fun _=>rfl) (.trans (by kernel_rfl) h)
end Go.Proofs.YtifploedaacedaaGreatDoorE
namespace Go.Proofs.YtifploedaacedaaGreatDoorE
open Go Go.E Go.Proofs
abbrev vJ:=List (List UInt8×Int)
def xu (l:vJ) (n:List UInt8):Option Int:=(l.find? fun x=>decide (n=x.1)).map (·.2)
structure Lay where
 pl:Nat
 nms:vJ
 ni:List (Nat×fU)
 ents:List (Val×Nat×Nat)
def Lay.define (l:Lay) (n:List UInt8) (x:Int):Option Lay:=if (xu l.nms n).isSome=true∨n=[] then none else some { l with nms:=l.nms++[(n,x)] }
def sJ (l:Lay) (x:fU):Option Lay:=match x.args with
 | []=>none
 | v::r=>
   if x.dir=[111,114,103] then (if v.nm=[]∧r=[]∧(l.pl:Int)≤v.x∧v.x≤2048 then some { l with pl:=v.x.toNat } else none)
   else if x.dir=[97,108,105,103,110] then (if v.nm=[]∧r=[]∧1≤v.x∧v.x≤2048∧(l.pl+v.x.toNat-1)/v.x.toNat*v.x.toNat≤2048 then some { l with pl:=(l.pl+v.x.toNat-1)/v.x.toNat*v.x.toNat } else none)
   else if x.dir=[115,101,116] then (match r with
    | [y]=>if v.nm≠[]∧v.x=0∧y.nm=[] then l.define v.nm y.x else none
    | _=>none)
   else if x.dir=[101,110,116,114,121] then (if v.nm≠[]∧r=[]∧v.x=0∧(l.ents.any fun e=>decide (e.1.nm=v.nm))=false then some { l with ents:=l.ents++[(v,x.ln,v.col)] } else none)
   else none
def Hl (l:Lay) (x:fU):Option Lay:=
 (if x.lab=[] then some l else l.define x.lab l.pl).bind fun l=>
 if x.dir≠[] then sJ l x
 else if x.fC=[] then some l
 else if l.pl+1≤2048 then some { l with pl:=l.pl+1,ni:=l.ni++[(l.pl,x)] } else none
def Ba (l:vJ) (f:List UInt8) (v:Val):Option Int:=
 if v.nm=[] then some v.x else
 if 0≤inT (namesT f) v.nm then some (inT (namesT f) v.nm+v.x) else (xu l v.nm).map (·+v.x)
def ng (l:vJ) (w:Wd):List Pr→Wd×Nat
 | []=>(w,0)
 | p::r=>if Ee p.fd=0 then (w,p.col) else match Ba l p.fd p.v with
   | none=>(w,p.v.col)
   | some x=>if (pI w p.fd x).2=0 then ng l (pI w p.fd x).1 r else (w,p.v.col)
def Gm (l:vJ):List (ByteArray×Value):=l.map fun x=>(mkS x.1,.int .i64 x.2)
theorem zow (l:vJ) (k:List UInt8):ER (mkS k) (Gm l)=(xu l k).map (.int .i64):=by
 induction l with
 | nil=>rfl
 | cons x r ih=>
   show cond (fA (mkS k) (mkS x.1)) _ (ER (mkS k) (Gm r))=_
   unfold xu
   rw [DW,List.find?_cons]
   by_cases h:k=x.1
   ·rw [zdt h];rfl
   ·rw [bg h]
    exact ih
theorem zx7 (l:vJ) (k:List UInt8) (x:Int) (h:xu l k=none):Eb (mkS k) (.int .i64 x) (Gm l)=Gm (l++[(k,x)]):=by
 induction l with
 | nil=>rfl
 | cons y r ih=>
   unfold xu at h
   rw [List.find?_cons] at h
   show cond (fA (mkS k) (mkS y.1)) _ _=_
   rw [DW]
   by_cases hk:k=y.1
   ·rw [zdt hk] at h;cases h
   ·rw [bg hk] at h ⊢
    show (mkS y.1,Value.int .i64 y.2)::Eb (mkS k) (.int .i64 x) (Gm r)=_
    rw [ih h];rfl
theorem vI [Sym] (b i:Nat) (p vw ve vv:Value) (l:vJ) (n:List UInt8) (x:Int) (st:SS) (hb:At st b [p,.map (some i),vw,ve,vv]) (hi:st.mem.get i=some (.map (Gm l))) (hlt:i<st.next) (hlim:st.lim≤i):
  (if (xu l n).isSome=true∨n=[] then cc 70 [ptr b 0,.string (mkS n),.int .i64 x] st=some (.bool false,st)
   else ∃ st',cc 70 [ptr b 0,.string (mkS n),.int .i64 x] st=some (.bool true,st')∧Mod [i] st st'∧st'.next=st.next∧st'.mem.get i=some (.map (Gm (l++[(n,x)])))):=by
 have h1:fG (ptr b 0)=some (ptr b 0):=rfl
 have l1:st.ld b (0+1)=some (.map (some i)):=hb.ld
 have m1:st.zU (.map (some i)) (mkS n)=some ((xu l n).map (.int .i64)):=by
  unfold SS.zU
  simp only [hi,bf,zow]
 cases hf:xu l n with
 | some y=>
   rw [hf] at m1
   rw [if_pos (.inl rfl)]
   refine zem _ _ _ st ?_
   simp only [Y0,h1,bf,fZ,l1,m1,Option.map_some,EL]
   rfl
 | none=>
   rw [hf] at m1
   by_cases hn:n=[]
   ·subst hn
    rw [if_pos (.inr rfl)]
    have he:fA (mkS []) ⟨#[]⟩=true:=rfl
    refine zem _ _ _ st ?_
    simp only [Y0,h1,bf,fZ,l1,m1,Option.map_none,EL,he,cu]
   ·rw [if_neg (by rintro (h | h);cases h;exact hn h)]
    have he:fA (mkS n) ⟨#[]⟩=false:=by rw [Ef];exact bg hn
    have m2:st.Gp (.map (some i)) (mkS n) (.int .i64 x)=some (st.set i (some (.map (Gm (l++[(n,x)]))))):=by
     unfold SS.Gp
     have:Nat.ble st.lim i=true:=by rwa [Nat.ble_eq]
     simp only [this,cu,hi,bf,zx7 l n x hf]
    refine ⟨st.set i (some (.map (Gm (l++[(n,x)])))),zem _ _ _ st ?_,⟨fF _,rfl,fun j hj hS=>SS.rC (by simpa using hS)⟩,rfl,by simp⟩
    simp only [Y0,h1,bf,fZ,l1,m1,Option.map_none,EL,he,dn,m2]
end Go.Proofs.YtifploedaacedaaGreatDoorE
namespace Go.Proofs.YtifploedaacedaaGreatDoorE
open Go Go.E Go.Proofs
theorem zvQ [Sym] (l:List (List UInt8)) (hl:l.length≤1099511627776) (s:ByteArray) (v:Value) (st:SS) (hv:Rd st v (strs l) 1 l.length):∀ (r:List (List UInt8)) (i:Nat),l.drop i=r→i≤l.length→
  Ue 2 [v,.string s,.int .i64 l.length,.int .i64 i] st=some (match r.findIdx? (fun x=>decide (x=bl s)) with | none=>(0,[],st) | some k=>(1,[.int .i64 ((i+k:Nat):Int)],st)):=by
 intro r
 induction r with
 | nil=>
   intro i hd hi
   have hlen:=congrArg List.length hd
   rw [List.length_drop] at hlen
   have h:¬ (i:Int)<(l.length:Int):=by simp at hlen;omega
   refine znb _ _ _ _ st ?_
   simp only [Yo,bg h,dn,List.findIdx?_nil]
 | cons p r ih=>
   intro i hd hi
   have hlen:=congrArg List.length hd
   rw [List.length_drop,List.length_cons] at hlen
   have h:(i:Int)<(l.length:Int):=by omega
   have BK:l[i]?=some p:=by
    have:=List.getElem?_drop (xs:=l) (i:=i) (j:=0)
    rw [hd] at this
    simpa using this.symm
   have hd':l.drop (i+1)=r:=by rw [← List.drop_drop,hd];rfl
   obtain ⟨q,b1,_,b3⟩:=hv.load (j:=(i:Int)) (by omega) h (strs_get _ i p BK) rfl
   have b3':st.ld q.1 q.2=some (.string (mkS p)):=by simpa using b3 0 (by omega)
   refine znb _ _ _ _ st ?_
   have hw:=ru (i:=i) (by omega)
   by_cases hp:p=bl s
   ·have he:fA s (mkS p)=true:=by rw [JC,vW];exact zdt hp.symm
    simp only [Yo,zdt h,cu,b1,b3',bf,fP,he,List.findIdx?_cons,zdt hp,if_true]
    rfl
   ·have he:fA s (mkS p)=false:=by rw [JC,vW];exact bg (fun h=>hp h.symm)
    have:=ih (i+1) hd' (by omega)
    simp only [Yo,zdt h,cu,b1,b3',bf,fP,he,dn,hw,List.findIdx?_cons,bg hp]
    rw [this]
    cases r.findIdx? (fun x=>decide (x=bl s)) with
    | none=>rfl
    | some k=>simp;omega
theorem zx8 [Sym] (l:List (List UInt8)) (hl:l.length≤1099511627776) (s:ByteArray) (v:Value) (st:SS) (hv:Rd st v (strs l) 1 l.length):cc 116 [v,.string s] st=some (.int .i64 (inT l (bl s)),st.dw st.next):=by
 have h:=zvQ l hl s v (st.ro st.next) hv l 0 rfl (Nat.zero_le _)
 have h':Ue 2 [v,.string s,.int .i64 l.length,.int .i64 0] (st.ro st.next)=_:=h
 refine zvO v s st ?_
 simp only [zvM,hv.len,bf,eP]
 rw [h',bf]
 unfold inT
 cases l.findIdx? (fun x=>decide (x=bl s)) with
 | none=>rfl
 | some k=>simp
theorem YG (f:List UInt8):(namesT f).length≤64:=by
 unfold namesT
 repeat' split
 all_goals decide+kernel
theorem zvR (l:List (List UInt8)) (s:List UInt8): -1≤inT l s∧inT l s≤l.length:=by
 unfold inT
 cases h:l.findIdx? (fun x=>decide (x=s)) with
 | none=>simp
 | some k=>
   have:=(List.findIdx?_eq_some_iff_getElem.1 h).1
   simp only
   omega
def BL (l:vJ):Prop:=∀ x∈l, -4294967296≤x.2∧x.2≤4294967296
theorem zvS {l:vJ} {n:List UInt8} {x:Int} (h:xu l n=some x):∃ y∈l,y.2=x:=by
 unfold xu at h
 simp only [oJ] at h
 obtain ⟨y,hy,rfl⟩:=h
 exact ⟨y,List.mem_of_find?_eq_some hy,rfl⟩
def numR:Option Int→Int→Value
 | some x,_=>.tuple #[.int .i64 x,.bool true]
 | none,y=>.tuple #[.int .i64 y,.bool false]
theorem zuo [Sym] (b i:Nat) (p vw ve vv:Value) (l:vJ) (hl:BL l) (f:List UInt8) (v:Val) (h0: -4294967296≤v.x) (h1:v.x≤4294967296) (st:SS) (hg:Gd st) (hb:st.mem.get b=some (.cells [p,.map (some i),vw,ve,vv] 0)) (hbl:b<st.next) (hi:st.mem.get i=some (.map (Gm l))) (hlt:i<st.next):
  ∃ n,st.next≤n∧cc 99 [ptr b 0,.string (mkS f),.agg (au v).toArray] st=some (numR (Ba l f v) v.x,st.dw n):=by
 have x1:Ext (st.ro st.next) ((st.ro st.next).new (.cells (au v) 0)):=(Ext.refl _).new _
 have hm:((st.ro st.next).new (.cells (au v) 0)).mem.get st.next=some (.cells (au v) 0):=SS.fV (st:=st.ro st.next)
 have l0:((st.ro st.next).new (.cells (au v) 0)).ld st.next 0=some (.string (mkS v.nm)):=by rw [SS.eU hm];rfl
 have l1:((st.ro st.next).new (.cells (au v) 0)).ld st.next 1=some (.int .i64 v.x):=by rw [SS.eU hm];rfl
 have hn:fA (mkS v.nm) ⟨#[]⟩=decide (v.nm=[]):=Ef _
 by_cases hnm:v.nm=[]
 ·have hs:Ba l f v=some v.x:=by unfold Ba;rw [if_pos hnm]
  rw [hs]
  rw [zdt hnm] at hn
  refine ⟨st.next+1,by omega,Zh _ _ _ st ?_⟩
  simp only [UL,lU,SS.fE,l0,l1,bf,fP,hn,cu,eP]
  rfl
 ·rw [bg hnm] at hn
  have g1:Gd ((st.ro st.next).new (.cells (au v) 0)):=(hg.ro (n:=st.next)).ext x1
  generalize hs1:(st.ro st.next).new (.cells (au v) 0)=s1 at*
  have hn1:s1.next=st.next+1:=by rw [← hs1];rfl
  obtain ⟨v4,s4,c4,x4,o4⟩:=zwO (mkS f) (s1.ro s1.next) g1.ro (fF _)
  have x4':Ext s1 (s4.ro s1.lim):=⟨x4.next,rfl,fun j hj=>x4.keep j hj⟩
  have r4:Rd (s4.ro s1.lim) v4 (strs (namesT f)) 1 (namesT f).length:=o4.rd
  have l5:(s4.ro s1.lim).ld st.next 0=some (.string (mkS v.nm)):=by rw [SS.eU (x4'.get (by omega) hm)];rfl
  have c6:=zx8 (namesT f) (by have:=YG f;omega) (mkS v.nm) v4 (s4.ro s1.lim) r4
  have x6:Ext (s4.ro s1.lim) ((s4.ro s1.lim).dw (s4.ro s1.lim).next):=(Ext.refl _).dw (fF _)
  have hin:=zvR (namesT f) v.nm
  have hnl:=YG f
  have hs5:∀ k:Nat,k<s1.next→((s4.ro s1.lim).dw (s4.ro s1.lim).next).mem.get k=s1.mem.get k:=fun k hk=>(x4'.trans x6).keep k hk
  generalize hs6:(s4.ro s1.lim).dw (s4.ro s1.lim).next=s6 at*
  have hnx:st.next≤s6.next:=by rw [← hs6];have:=x4.next;simp at this ⊢;omega
  have hm6:s6.mem.get st.next=some (.cells (au v) 0):=(hs5 st.next (by omega)).trans hm
  have l60:s6.ld st.next 0=some (.string (mkS v.nm)):=by rw [SS.eU hm6];rfl
  have l61:s6.ld st.next 1=some (.int .i64 v.x):=by rw [SS.eU hm6];rfl
  by_cases hk:0≤inT (namesT f) v.nm
  ·have hs:Ba l f v=some (inT (namesT f) v.nm+v.x):=by unfold Ba;rw [if_neg hnm,if_pos hk]
   rw [hs]
   have hw:IntKind.wrap .i64 (inT (namesT f) v.nm+v.x)=inT (namesT f) v.nm+v.x:=wrap64 (by omega) (by omega)
   refine ⟨s6.next,hnx,Zh _ _ _ st ?_⟩
   simp only [UL,lU,SS.fE,hs1,l0,bf,fP,hn,dn,c4,l5,c6,vW,eP,zdt hk,cu,l61,hw]
   rfl
  ·have hs:Ba l f v=(xu l v.nm).map (·+v.x):=by unfold Ba;rw [if_neg hnm,if_neg hk]
   rw [hs]
   have hold:∀ k:Nat,k<st.next→s6.mem.get k=st.mem.get k:=fun k hk=>by
    rw [hs5 k (by omega),← hs1,SS.nM (by show k≠st.next;omega)];rfl
   have hnl:fG (ptr b 0)=some (ptr b 0):=rfl
   have l7:s6.ld b (0+1)=some (.map (some i)):=by rw [SS.eU ((hold b hbl).trans hb)];rfl
   have m7:s6.zU (.map (some i)) (mkS v.nm)=some ((xu l v.nm).map (.int .i64)):=by
    unfold SS.zU
    simp only [(hold i hlt).trans hi,bf,zow]
   cases hf:xu l v.nm with
   | none=>
     rw [hf] at m7
     have hw:IntKind.wrap .i64 (0+v.x)=v.x:=by rw [Int.zero_add];exact wrap64 (by omega) (by omega)
     refine ⟨s6.next,hnx,Zh _ _ _ st ?_⟩
     simp only [UL,lU,SS.fE,hs1,l0,bf,fP,hn,dn,c4,l5,c6,vW,eP,bg hk,hnl,fZ,l7,l60,l61,m7,Option.map_none,EL,hw]
     rfl
   | some y=>
     rw [hf] at m7
     obtain ⟨z,hz,hzy⟩:=zvS hf
     have hb':=hl z hz
     rw [hzy] at hb'
     have hw:IntKind.wrap .i64 (y+v.x)=y+v.x:=wrap64 (by omega) (by omega)
     have ht:(fM (.tuple #[.int .i64 y,.bool true]) 0).bind (ay .i64)=some y:=rfl
     refine ⟨s6.next,hnx,Zh _ _ _ st ?_⟩
     simp only [UL,lU,SS.fE,hs1,l0,bf,fP,hn,dn,c4,l5,c6,vW,eP,bg hk,hnl,fZ,l7,l60,l61,m7,Option.map_some,EL,ht,hw]
     rfl
end Go.Proofs.YtifploedaacedaaGreatDoorE
namespace Go.Proofs.YtifploedaacedaaGreatDoorE
open Go Go.E Go.Proofs
theorem Gx {i j k k':Nat} (h:i≠j):vH (ptr i k) (ptr j k')=true:=by
 show (!Nat.beq i j)=true
 rw [pW,bg h];rfl
theorem pO {a b c:SS} {i:Nat} (h:Ext a b) (m:Mod [i] b c) (hi:a.next≤i):Ext a c:=((Mod.nY (S:=[i]) h).then m).fresh fun j hj=>by
 have:j=i:=by simpa using hj
 omega
theorem At.setW {st:SS} {b:Nat} {row:List Value} (h:At st b row) (hr:row.length=12) (w:Wd) (hw:w.length=12):∃ st',st.eH b 0 12 (wV w)=some st'∧At st' b (wRow w)∧Mod [b] st st':=by
 obtain ⟨s',e,a,m,_⟩:=h.eH (k:=0) (n:=12) (v:=wV w) (lU _) (by rw [rX,hw]) (FW w) (row':=wRow w) (by rw [DY (by rw [rX,hw,hr];exact fF 12)];simp [rX,hw,hr])
 exact ⟨s',e,a,m⟩
def Tf (fC:List Pr):Prop:=fC.length≤1099511627776∧∀ p∈fC,0<p.col∧0<p.v.col∧ -4294967296≤p.v.x∧p.v.x≤4294967296
theorem Ym (l:vJ):∀ (fC:List Pr) (w:Wd),(ng l w fC).1.length=w.length
 | [],w=>rfl
 | p::r,w=>by
   unfold ng
   split
   ·rfl
   ·split
    ·rfl
    ·split
     ·rw [Ym l r,EX]
     ·rfl
theorem zw1 [Sym] (l:vJ) (hl:BL l) (fC:List Pr) (BZ:Tf fC) (b i t4 wb:Nat) (p vw ve vv v:Value) (st0:SS) (hg:Gd st0) (hb:st0.mem.get b=some (.cells [p,.map (some i),vw,ve,vv] 0)) (hbl:b<st0.next) (hi:st0.mem.get i=some (.map (Gm l))) (hlt:i<st0.next)
  (hv:Rd st0 v (ak fB fC) 5 fC.length) (hne:t4≠wb) (h4:st0.next≤t4) (hw0:st0.next≤wb):∀ (k j:Nat) (w:Wd) (st:SS),fC.length=k+j→w.length=12→Ext st0 st→st.lim≤st0.next→At st wb (wRow w)→At st t4 mP→
  ∃ st',Ext st0 st'∧((ng l w (fC.drop j)).2=0∧Ky 3 [ptr b 0,ptr t4 0,ptr wb 0,v,.int .i64 fC.length,.int .i64 j] st=some (0,[ptr t4 0,ptr wb 0],st')∧At st' wb (wRow (ng l w (fC.drop j)).1)∧At st' t4 mP∨
   0<(ng l w (fC.drop j)).2∧Ky 3 [ptr b 0,ptr t4 0,ptr wb 0,v,.int .i64 fC.length,.int .i64 j] st=some (1,[ptr t4 0,.int .i64 (ng l w (fC.drop j)).2],st')∧∃ u:Wd,u.length=12∧At st' t4 (wRow u)):=by
 intro k
 induction k with
 | zero=>
   intro j w st hk hw he hlm aw a4
   have h:¬ (j:Int)<(fC.length:Int):=by omega
   rw [List.drop_of_length_le (by omega)]
   refine ⟨st,he,.inl ⟨rfl,UY _ _ _ _ _ _ st ?_,aw,a4⟩⟩
   simp only [Sr,bg h,dn]
 | succ k ih=>
   intro j w st hk hw he hlm aw a4
   have h:(j:Int)<(fC.length:Int):=by omega
   obtain ⟨q,hq⟩:∃ q,fC[j]?=some q:=⟨_,mW (by omega)⟩
   obtain ⟨x,b1,b2,_⟩:=(hv.ext he).load (j:=(j:Int)) (by omega) h (xw Yp fC j q hq) rfl
   have b2':st.eF x.1 x.2 5=some (.agg (fB q).toArray):=b2
   obtain ⟨q1,q2,q3,q4⟩:=BZ.2 q (xH hq)
   have Qq:st.lim≤st.next:=lT hlm he.next
   obtain ⟨s4,e4,a5,x4,n4⟩:=pX (st:=st) Qq (r:=fB ⟨[],0,⟨[],0,0⟩⟩) (row:=fB q) (v:=.agg (fB q).toArray) (lU _) rfl rfl rfl
   have e4':(st.new (.cells [.string ⟨#[]⟩,.int .i64 0,.string ⟨#[]⟩,.int .i64 0,.int .i64 0] 0)).eH st.next 0 5 (.agg (fB q).toArray)=some s4:=e4
   have he4:Ext st0 s4:=he.trans x4
   obtain ⟨n6,Qp,c6⟩:=zxX q.fd s4 (hg.ext he4)
   have x6:Ext s4 (s4.dw n6):=(Ext.refl _).dw Qp
   have CV:=he4.trans x6
   have a56:=a5.ext x6
   have SY:=(aw.ext x4).ext x6
   have a46:=(a4.ext x4).ext x6
   have l0:s4.ld st.next 0=some (.string (mkS q.fd)):=a5.ld
   have hd:=drop_cons hq
   have hE:ng l w (fC.drop j)=if Ee q.fd=0 then (w,q.col) else match Ba l q.fd q.v with
    | none=>(w,q.v.col)
    | some x=>if (pI w q.fd x).2=0 then ng l (pI w q.fd x).1 (fC.drop (j+1)) else (w,q.v.col):=by rw [hd];rfl
   have Cb:st.next≠t4:=by have:=a4.lt;omega
   by_cases hbt:Ee q.fd=0
   ·rw [if_pos hbt] at hE
    rw [hE]
    have hz:((Ee q.fd:Nat):Int)=0:=by omega
    obtain ⟨s12,e12,a12,m12⟩:=At.setW a46 rfl w hw
    have l9:=SY.eF (n:=12) (by rw [rX,hw])
    have l9':(s4.dw n6).eF wb 0 12=some (wV w):=l9
    have l10:(s4.dw n6).ld st.next 1=some (.int .i64 q.col):=a56.ld
    refine ⟨s12,pO CV m12 h4,.inr ⟨q1,UY _ _ _ _ _ _ st ?_,w,hw,a12⟩⟩
    simp only [Sr,zdt h,cu,b1,b2',e4',l0,c6,bf,fP,eP,zdt hz,fZ,l9',l10,Gx Cb,e12]
   ·rw [if_neg hbt] at hE
    have hz:¬ ((Ee q.fd:Nat):Int)=0:=by omega
    have A8:(s4.dw n6).ld st.next 0=some (.string (mkS q.fd)):=a56.ld
    have xC:(s4.dw n6).eF st.next 2 3=some (.agg (au q.v).toArray):=a56.ldC rfl
    obtain ⟨n15,hn15,c15⟩:=zuo b i p vw ve vv l hl q.fd q.v q3 q4 (s4.dw n6) (hg.ext CV) (CV.get hbl hb) (pz hbl CV.next) (CV.get hlt hi) (pz hlt CV.next)
    have x15:Ext (s4.dw n6) ((s4.dw n6).dw n15):=(Ext.refl _).dw hn15
    have WB:=CV.trans x15
    have WX:=a56.ext x15
    have WV:=SY.ext x15
    have a415:=a46.ext x15
    have IU:((s4.dw n6).dw n15).eF wb 0 12=some (wV w):=WV.eF (by rw [rX,hw])
    have Qe:((s4.dw n6).dw n15).ld st.next 0=some (.string (mkS q.fd)):=WX.ld
    have step:∀ (y:Int),∃ n21 Ap,((s4.dw n6).dw n15).next≤n21∧cc 100 [wV w,.string (mkS q.fd),.int .i64 y] ((s4.dw n6).dw n15)=some (.tuple #[wV (pI w q.fd y).1,.int .i64 (pI w q.fd y).2],((s4.dw n6).dw n15).dw n21)∧
      (((s4.dw n6).dw n15).dw n21).eH wb 0 12 (wV (pI w q.fd y).1)=some Ap∧Ext st0 Ap∧At Ap wb (wRow (pI w q.fd y).1)∧At Ap t4 mP∧Ap.ld st.next 4=some (.int .i64 q.v.col)∧Ap.lim≤st0.next:=by
     intro y
     obtain ⟨n21,Lc,c21⟩:=O7 w hw q.fd y ((s4.dw n6).dw n15) (hg.ext WB)
     have x21:Ext ((s4.dw n6).dw n15) (((s4.dw n6).dw n15).dw n21):=(Ext.refl _).dw Lc
     obtain ⟨Ap,e25,a25,Bf⟩:=At.setW (WV.ext x21) (by rw [rX,hw]) (pI w q.fd y).1 (by rw [EX,hw])
     have hpw:st.next≠wb:=by have:=aw.lt;omega
     have a55:=(WX.ext x21).mod Bf (by simpa using hpw)
     have hx25:Ext st0 Ap:=pO (WB.trans x21) Bf hw0
     exact ⟨n21,Ap,Lc,c21,e25,hx25,a25,(a415.ext x21).mod Bf (by simpa using hne),a55.ld,by rw [hx25.lim,← he.lim];exact hlm⟩
    have ht0:∀ (a:Value) (z:Int),fM (.tuple #[a,.int .i64 z]) 0=some a:=fun _ _=>rfl
    have ht1:∀ (a:Value) (z:Int),(fM (.tuple #[a,.int .i64 z]) 1).bind (ay .i64)=some z:=fun _ _=>rfl
    have hn0:∀ (y:Int) (c:Bool),(fM (.tuple #[.int .i64 y,.bool c]) 0).bind (ay .i64)=some y:=fun _ _=>rfl
    have hn1:∀ (y:Int) (c:Bool),(fM (.tuple #[.int .i64 y,.bool c]) 1).bind lF=some c:=fun _ _=>rfl
    cases hnum:Ba l q.fd q.v with
    | none=>
      rw [hnum] at hE c15
      rw [hE]
      obtain ⟨n21,Ap,Lc,c21,e25,hx25,LJ,LM,ED,Ns⟩:=step q.v.x
      obtain ⟨Dv,e30,a30,Ey⟩:=At.setW LM rfl (pI w q.fd q.v.x).1 (by rw [EX,hw])
      have Qc:Ap.eF wb 0 12=some (wV (pI w q.fd q.v.x).1):=LJ.eF (by rw [rX,EX,hw])
      refine ⟨Dv,pO hx25 Ey h4,.inr ⟨q2,UY _ _ _ _ _ _ st ?_,_,by rw [EX,hw],a30⟩⟩
      have LG:cc 99 [ptr b 0,.string (mkS q.fd),.agg (au q.v).toArray] (s4.dw n6)=some (.tuple #[.int .i64 q.v.x,.bool false],(s4.dw n6).dw n15):=c15
      simp only [Sr,zdt h,cu,b1,b2',e4',l0,c6,bf,fP,eP,bg hz,dn,A8,xC,LG,hn0,hn1,fZ,IU,Qe,c21,ht0,ht1,e25,nJ,Qc,ED,Gx Cb,e30]
    | some y=>
      rw [hnum] at hE c15
      simp only at hE
      obtain ⟨n21,Ap,Lc,c21,e25,hx25,LJ,LM,ED,Ns⟩:=step y
      have LG:cc 99 [ptr b 0,.string (mkS q.fd),.agg (au q.v).toArray] (s4.dw n6)=some (.tuple #[.int .i64 y,.bool true],(s4.dw n6).dw n15):=c15
      have hw1:=ru (i:=j) (by have:=BZ.1;omega)
      by_cases hs:(pI w q.fd y).2=0
      ·rw [if_pos hs] at hE
       rw [hE]
       obtain ⟨s',f1,f2⟩:=ih (j+1) (pI w q.fd y).1 Ap (by omega) (by rw [EX,hw]) hx25 Ns LJ LM
       have go:∀ r,Ky 3 [ptr b 0,ptr t4 0,ptr wb 0,v,.int .i64 fC.length,.int .i64 ((j+1:Nat):Int)] Ap=some r→Ky 3 [ptr b 0,ptr t4 0,ptr wb 0,v,.int .i64 fC.length,.int .i64 j] st=some r:=fun r hr=>by
        refine UY _ _ _ _ _ _ st ?_
        simp only [Sr,zdt h,cu,b1,b2',e4',l0,c6,bf,fP,eP,bg hz,dn,A8,xC,LG,hn0,hn1,fZ,IU,Qe,c21,ht0,ht1,e25,lY,zdt hs,hw1]
        exact hr
       refine ⟨s',f1,?_⟩
       rcases f2 with ⟨g1,g2,g3,g4⟩ | ⟨g1,g2,g3⟩
       ·exact .inl ⟨g1,go _ g2,g3,g4⟩
       ·exact .inr ⟨g1,go _ g2,g3⟩
      ·rw [if_neg hs] at hE
       rw [hE]
       obtain ⟨Dv,e30,a30,Ey⟩:=At.setW LM rfl (pI w q.fd y).1 (by rw [EX,hw])
       have Qc:Ap.eF wb 0 12=some (wV (pI w q.fd y).1):=LJ.eF (by rw [rX,EX,hw])
       refine ⟨Dv,pO hx25 Ey h4,.inr ⟨q2,UY _ _ _ _ _ _ st ?_,_,by rw [EX,hw],a30⟩⟩
       simp only [Sr,zdt h,cu,b1,b2',e4',l0,c6,bf,fP,eP,bg hz,dn,A8,xC,LG,hn0,hn1,fZ,IU,Qe,c21,ht0,ht1,e25,lY,bg hs,nJ,Qc,ED,Gx Cb,e30]
def ny:Wd:=List.replicate 12 0
theorem zvT [Sym] (l:vJ) (hl:BL l) (x:Item) (BZ:Tf x.1.fC) (b i:Nat) (p vw ve vv:Value) (st:SS) (hg:Gd st) (hb:st.mem.get b=some (.cells [p,.map (some i),vw,ve,vv] 0)) (hbl:b<st.next) (hi:st.mem.get i=some (.map (Gm l))) (hlt:i<st.next)
  (hv:Rd st x.2.2 (ak fB x.1.fC) 5 x.1.fC.length):
  ∃ n u,st.next≤n∧u.length=12∧((ng l ny x.1.fC).2=0→u=(ng l ny x.1.fC).1)∧cc 72 [ptr b 0,.agg (dh x).toArray] st=some (.tuple #[wV u,.int .i64 (ng l ny x.1.fC).2],st.dw n):=by
 have x1:Ext (st.ro st.next) ((st.ro st.next).new (.cells (dh x) 0)):=(Ext.refl _).new _
 have a2:At (((st.ro st.next).new (.cells (dh x) 0)).new (.cells mP 0)) (st.next+1) mP:=At.new (st:=(st.ro st.next).new (.cells (dh x) 0)) (by simp) _
 have x2:Ext ((st.ro st.next).new (.cells (dh x) 0)) (((st.ro st.next).new (.cells (dh x) 0)).new (.cells mP 0)):=(Ext.refl _).new _
 have a3:At ((((st.ro st.next).new (.cells (dh x) 0)).new (.cells mP 0)).new (.cells mP 0)) (st.next+2) mP:=At.new (st:=((st.ro st.next).new (.cells (dh x) 0)).new (.cells mP 0)) (by simp;omega) _
 have x3:Ext (((st.ro st.next).new (.cells (dh x) 0)).new (.cells mP 0)) ((((st.ro st.next).new (.cells (dh x) 0)).new (.cells mP 0)).new (.cells mP 0)):=(Ext.refl _).new _
 have he:=x1.trans (x2.trans x3)
 have l4:((((st.ro st.next).new (.cells (dh x) 0)).new (.cells mP 0)).new (.cells mP 0)).ld st.next 4=some x.2.2:=by
  have hm:((((st.ro st.next).new (.cells (dh x) 0)).new (.cells mP 0)).new (.cells mP 0)).mem.get st.next=some (.cells (dh x) 0):=(x2.trans x3).get (by simp) (SS.fV (st:=st.ro st.next))
  rw [SS.eU hm];rfl
 have hv':Rd (st.ro st.next) x.2.2 (ak fB x.1.fC) 5 x.1.fC.length:=hv
 obtain ⟨s',f1,f2⟩:=zw1 l hl x.1.fC BZ b i (st.next+1) (st.next+2) p vw ve vv x.2.2 (st.ro st.next) hg.ro hb hbl hi hlt hv' (by omega) (by simp) (by simp) x.1.fC.length 0 ny _ (by omega) rfl he (by simp) a3 (a2.ext x3)
 rw [List.drop_zero] at f2
 have hlen:(lenV x.2.2).bind (ay .i64)=some (x.1.fC.length:Int):=by rw [hv.len];rfl
 have b0:Nat.beq 0 0=true:=rfl
 have b1:Nat.beq 1 0=false:=rfl
 have hn1:((st.ro st.next).new (.cells (dh x) 0)).next=st.next+1:=rfl
 have hn2:(((st.ro st.next).new (.cells (dh x) 0)).new (.cells mP 0)).next=st.next+2:=rfl
 have hnx:=f1.next
 simp only [SS.fE] at hnx
 have hel:=Ym l x.1.fC ny
 rcases f2 with ⟨g1,g2,g3,g4⟩ | ⟨g1,g2,u,g3,g4⟩
 ·have g2':Ky 3 [ptr b 0,ptr (st.next+1) 0,ptr (st.next+2) 0,x.2.2,.int .i64 x.1.fC.length,.int .i64 0] ((((st.ro st.next).new (.cells (dh x) 0)).new (.cells mP 0)).new (.cells mP 0))=_:=g2
  obtain ⟨s12,e12,a12,m12⟩:=At.setW g4 rfl (ng l ny x.1.fC).1 (by rw [hel];rfl)
  have l10:s'.eF (st.next+2) 0 12=some (wV (ng l ny x.1.fC).1):=g3.eF (by rw [rX,hel];rfl)
  have xC:s12.fH (st.next+1) 0 12=some (wV (ng l ny x.1.fC).1):=a12.fH (by rw [rX,hel];rfl)
  have hz:=He (ng l ny x.1.fC).1 0
  refine ⟨s12.next,_,by have:=m12.next;omega,by rw [hel];rfl,fun _=>rfl,zgr _ _ st ?_⟩
  rw [g1]
  simp only [zfj,lU,SS.fE,hn1,hn2,l4,bf,hlen,g2',b0,cu,lN,iZ,fZ,l10,e12,xC,hz]
  rfl
 ·have g2':Ky 3 [ptr b 0,ptr (st.next+1) 0,ptr (st.next+2) 0,x.2.2,.int .i64 x.1.fC.length,.int .i64 0] ((((st.ro st.next).new (.cells (dh x) 0)).new (.cells mP 0)).new (.cells mP 0))=_:=g2
  have D7:s'.fH (st.next+1) 0 12=some (wV u):=g4.fH (by rw [rX,g3])
  have hz:=He u (ng l ny x.1.fC).2
  refine ⟨s'.next,u,hnx,g3,fun h=>by omega,zgr _ _ st ?_⟩
  simp only [zfj,lU,SS.fE,hn1,hn2,l4,bf,hlen,g2',b1,dn,lN,iZ,fZ,eP,D7,hz,cu]
end Go.Proofs.YtifploedaacedaaGreatDoorE
namespace Go.Proofs.YtifploedaacedaaGreatDoorE
open Go Go.E Go.Proofs
theorem zw2 [Sym] (p:Val) (f:Val) (q:Nat) (st:SS) (hq:st.mem.get q=some (.cells (au f) 0)) (hlt:q<st.next):∃ n,st.next≤n∧cc 97 [.agg (au p).toArray,ptr q 0] st=some (.bool (decide (p.nm=f.nm)),st.dw n):=by
 refine ⟨st.next+1,by omega,zw0 _ _ st ?_⟩
 have l0:((st.ro st.next).new (.cells (au p) 0)).ld st.next 0=some (.string (mkS p.nm)):=by
  have hm:((st.ro st.next).new (.cells (au p) 0)).mem.get st.next=some (.cells (au p) 0):=SS.fV (st:=st.ro st.next)
  rw [SS.eU hm];rfl
 have l1:((st.ro st.next).new (.cells (au p) 0)).ld q 0=some (.string (mkS f.nm)):=by
  rw [SS.eU (c:=au f) (z:=0) (by rw [SS.nM (by simp;omega)];exact hq)];rfl
 simp only [MR,lU,SS.fE,l0,bf,fP,fZ,l1,DW]
 rfl
theorem zup [Sym] (ps:List Val) (hsz:ps.length≤1099511627776) (f:Val) (q:Nat) (v:Value) (st0:SS) (hv:Rd st0 v (ak au ps) 3 ps.length) (hq:st0.mem.get q=some (.cells (au f) 0)) (hlt:q<st0.next):
  ∀ (k j:Nat) (st:SS),ps.length=k+j→Ext st0 st→∃ e vs st',Ud 2 [v,.func (.func 97) #[] #[ptr q 0],.int .i64 ps.length,.int .i64 j] st=some (e,vs,st')∧Ext st0 st'∧
   ((e=0∧vs=[]∧((ps.drop j).any fun x=>decide (x.nm=f.nm))=false)∨(e=1∧((ps.drop j).any fun x=>decide (x.nm=f.nm))=true∧∃ m:Nat,vs=[.int .i64 m])):=by
 intro k
 induction k with
 | zero=>
   intro j st hk he
   refine ⟨0,[],st,zjs v q _ _ st ?_,he,.inl ⟨rfl,rfl,?_⟩⟩
   ·have:¬ (j:Int)<(ps.length:Int):=by omega
    simp only [YC,bg this,dn]
   ·rw [List.drop_of_length_le (by omega)];rfl
 | succ k ih=>
   intro j st hk he
   obtain ⟨p,hp⟩:∃ p,ps[j]?=some p:=⟨_,mW (by omega)⟩
   have hjl:(j:Int)<(ps.length:Int):=by omega
   obtain ⟨x,b1,b2,_⟩:=(hv.ext he).load (j:=(j:Int)) (by omega) hjl (xw zug ps j p hp) rfl
   obtain ⟨n,hn,c1⟩:=zw2 p f q st (he.get hlt hq) (pz hlt he.next)
   have b2':st.eF x.1 x.2 3=some (.agg (au p).toArray):=b2
   have hd:=drop_cons hp
   have hw:=ru (i:=j) (by omega)
   by_cases hf:p.nm=f.nm
   ·refine ⟨1,[.int .i64 j],st.dw n,zjs v q _ _ st ?_,he.dw (by have:=he.next;omega),.inr ⟨rfl,?_,j,rfl⟩⟩
    ·rw [zdt hf] at c1
     simp only [YC,zdt hjl,cu,b1,bf,b2',c1,mg]
    ·rw [hd,List.any_cons,zdt hf];rfl
   ·obtain ⟨e,vs,st',d1,d2,d3⟩:=ih (j+1) (st.dw n) (by omega) (he.dw (by have:=he.next;omega))
    rw [bg hf] at c1
    refine ⟨e,vs,st',zjs v q _ _ st ?_,d2,?_⟩
    ·simp only [YC,zdt hjl,cu,b1,bf,b2',c1,mg,dn,hw]
     exact d1
    ·rw [hd,List.any_cons,bg hf,Bool.false_or]
     exact d3
theorem zw3 [Sym] (ps:List Val) (hsz:ps.length≤1099511627776) (f:Val) (q:Nat) (v:Value) (st:SS) (hv:Rd st v (ak au ps) 3 ps.length) (hq:st.mem.get q=some (.cells (au f) 0)) (hlt:q<st.next):
  ∃ n,st.next≤n∧cc 96 [v,.func (.func 97) #[] #[ptr q 0]] st=some (.bool (ps.any fun x=>decide (x.nm=f.nm)),st.dw n):=by
 obtain ⟨e,vs,st',d1,d2,d3⟩:=zup ps hsz f q v ((st.ro st.next).ro (st.ro st.next).next) hv hq hlt ps.length 0 ((st.ro st.next).ro (st.ro st.next).next) (by omega) (.refl _)
 have d1':Ud 2 [v,.func (.func 97) #[] #[ptr q 0],.int .i64 ps.length,.int .i64 0] ((st.ro st.next).ro (st.ro st.next).next)=some (e,vs,st'):=d1
 have hlen:(lenV v).bind (ay .i64)=some (ps.length:Int):=by rw [hv.len];rfl
 rw [List.drop_zero] at d3
 have hnx:=d2.next
 simp at hnx
 refine ⟨st'.next,hnx,zun _ _ st ?_⟩
 rcases d3 with ⟨rfl,rfl,e3⟩ | ⟨rfl,e2,m,rfl⟩
 ·have c:cc 114 [v,.func (.func 97) #[] #[ptr q 0]] (st.ro st.next)=some (.int .i64 (-1),(st.ro st.next).dw st'.next):=by
   refine zqJ _ _ _ ?_
   have hb0:Nat.beq 0 0=true:=rfl
   simp only [zr5,hlen,bf,d1',hb0,cu]
  have h0:¬ (0:Int)≤ -1:=by omega
  rw [e3]
  simp only [zp7,c,bf,eP,bg h0]
  rfl
 ·have c:cc 114 [v,.func (.func 97) #[] #[ptr q 0]] (st.ro st.next)=some (.int .i64 m,(st.ro st.next).dw st'.next):=by
   refine zqJ _ _ _ ?_
   have hb0:Nat.beq 1 0=false:=rfl
   simp only [zr5,hlen,bf,d1',hb0,dn,iZ,eP]
  have h0:(0:Int)≤(m:Int):=by omega
  rw [e2]
  simp only [zp7,c,bf,eP,zdt h0]
  rfl
end Go.Proofs.YtifploedaacedaaGreatDoorE
namespace Go.Proofs.YtifploedaacedaaGreatDoorE
open Go Go.E Go.Proofs
def nT:Value→Option Nat
 | .slice (some ⟨j,_,none⟩) _ _=>some j
 | _=>none
abbrev mV:=Nat×Item
def pF (x:mV):List Value:=.int .i64 x.1::dh x.2
def nP (x:Val×Nat×Nat):List Value:=[.int .i64 x.2.1,.int .i64 x.2.2]
def rG (pl i:Nat) (vw ve vv:Value):List Value:=[.int .i64 pl,.map (some i),vw,ve,vv]
structure vK (st0 st:SS) (B b i:Nat) (vw ve vv:Value) (l:Lay) (its:List mV):Prop where
 ext:Ext st0 st
 ll:st0.lim≤st0.next
 row:At st b (rG l.pl i vw ve vv)
 mp:st.mem.get i=some (.map (Gm l.nms))
 b0:st0.next≤b
 i0:st0.next≤i
 bB:b<B
 iB:i<B
 ne:b≠i
 BN:B≤st.next
 ow:Own B st vw (ak pF its) 6 its.length
 oe:Own B st ve (ak nP l.ents) 2 l.ents.length
 ov:Own B st vv (ak au (l.ents.map (·.1))) 3 l.ents.length
 d1:∀ j,nT vw=some j→nT ve≠some j∧nT vv≠some j
 d2:∀ j,nT ve=some j→nT vv≠some j
 ni:its.map (fun x=>(x.1,x.2.1))=l.ni
 KW:∀ x∈its,Rd st0 x.2.2.1 (ak au x.2.1.args) 3 x.2.1.args.length∧Rd st0 x.2.2.2 (ak fB x.2.1.fC) 5 x.2.1.fC.length
structure CG (b i:Nat) (vw:Value) (st st':SS):Prop where
 next:st.next≤st'.next
 lim:st'.lim=st.lim
 keep:∀ j,j<st.next→j≠b→j≠i→nT vw≠some j→st'.mem.get j=st.mem.get j
theorem CG.trans {b i:Nat} {vw:Value} {x y z:SS} (h:CG b i vw x y) (k:CG b i vw y z):CG b i vw x z:=⟨lT h.next k.next,k.lim.trans h.lim,fun j a1 a2 a3 a4=>(k.keep j (pz a1 h.next) a2 a3 a4).trans (h.keep j a1 a2 a3 a4)⟩
theorem CG.mod {b i:Nat} {vw:Value} {S:List Nat} {x y:SS} (m:Mod S x y) (hS:∀ j,j∈S→j=b∨j=i):CG b i vw x y:=⟨m.next,m.lim,fun j a1 a2 a3 _=>m.keep j a1 fun e=>(hS j e).elim a2 a3⟩
theorem CG.ext {b i:Nat} {vw:Value} {x y:SS} (m:Ext x y):CG b i vw x y:=⟨m.next,m.lim,fun j a1 _ _ _=>m.keep j a1⟩
section
variable {st0 st st' : SS} {B b i : Nat} {vw ve vv : Value} {l : Lay} {its : List mV}
theorem vK.then (h:vK st0 st B b i vw ve vv l its) (x:Ext st st'):vK st0 st' B b i vw ve vv l its:=
 { h with ext:=h.ext.trans x,row:=h.row.ext x,mp:=x.get (by have:=h.iB;have:=h.BN;omega) h.mp,BN:=lT h.BN x.next,ow:=h.ow.ext x,oe:=h.oe.ext x,ov:=h.ov.ext x }
theorem vK.Ew (h:vK st0 st B b i vw ve vv l its) (p:Nat):∃ st',st.st b 0 [.int .i64 p]=some st'∧vK st0 st' B b i vw ve vv { l with pl:=p } its∧Mod [b] st st':=by
 obtain ⟨s',e,a,m,_⟩:=h.row.pU (k:=0) (vs:=[.int .i64 p]) (row':=rG p i vw ve vv) rfl rfl
 have hx:Ext st0 s':=pO h.ext m h.b0
 refine ⟨s',e,{ h with ext:=hx,row:=a,mp:=m.get (by have:=h.iB;have:=h.BN;omega) (by simpa using Ne.symm h.ne) h.mp,BN:=lT h.BN m.next,ow:=h.ow.lq m ?_,oe:=h.oe.lq m ?_,ov:=h.ov.lq m ?_ },m⟩
 all_goals
  intro j hj
  have:j=b:=by simpa using hj
  have:=h.bB
  omega
theorem vK.place (h:vK st0 st B b i vw ve vv l its) (p:Nat):∃ st',st.st b 0 [.int .i64 p]=some st'∧vK st0 st' B b i vw ve vv { l with pl:=p } its:=let ⟨s,e,k,_⟩:=h.Ew p;⟨s,e,k⟩
theorem vK.define [Sym] (h:vK st0 st B b i vw ve vv l its) (n:List UInt8) (x:Int):
  match l.define n x with
  | none=>cc 70 [ptr b 0,.string (mkS n),.int .i64 x] st=some (.bool false,st)
  | some l'=>∃ st',cc 70 [ptr b 0,.string (mkS n),.int .i64 x] st=some (.bool true,st')∧Mod [i] st st'∧vK st0 st' B b i vw ve vv l' its:=by
 have hi:i<st.next:=by have:=h.iB;have:=h.BN;omega
 have hlim:st.lim≤i:=by rw [h.ext.lim];have:=h.ll;have:=h.i0;omega
 have hd:=vI b i (.int .i64 l.pl) vw ve vv l.nms n x st h.row h.mp hi hlim
 unfold Lay.define
 by_cases hc:(xu l.nms n).isSome=true∨n=[]
 ·rw [if_pos hc] at hd ⊢
  exact hd
 ·rw [if_neg hc] at hd ⊢
  obtain ⟨s',c,m,hn,hm⟩:=hd
  have hx:Ext st0 s':=pO h.ext m h.i0
  refine ⟨s',c,m,{ h with ext:=hx,row:=h.row.mod m (by simpa using h.ne),mp:=hm,BN:=by rw [hn];exact h.BN,ow:=h.ow.lq m ?_,oe:=h.oe.lq m ?_,ov:=h.ov.lq m ?_ }⟩
  all_goals
   intro j hj
   have:j=i:=by simpa using hj
   have:=h.iB
   omega
end
end Go.Proofs.YtifploedaacedaaGreatDoorE
namespace Go.Proofs.YtifploedaacedaaGreatDoorE
open Go Go.E Go.Proofs
theorem TU {B:Nat} {st:SS} {v:Value} {c row:List Value} {z n bt:Nat} (h:Own B st v c z n) (hb:B≤st.next) (hl:st.lim≤B) (hr:row.length=z) (hz:0<z) (h1:row.all one=true) (hs:(n+2)*bt≤2^44) (hn:n+1≤2^44):
  ∃ k s',(st.new (.cells row z)).app z bt v (.slice (some ⟨st.next,0,none⟩) 1 1)=some (.slice (some ⟨k,0,none⟩) (n+1) (n+1),s')∧st.next≤k∧Own B s' (.slice (some ⟨k,0,none⟩) (n+1) (n+1)) (c++row) z (n+1)∧s'.lim=st.lim∧st.next≤s'.next∧
   ∀ j,j<st.next→nT v≠some j→s'.mem.get j=st.mem.get j:=by
 obtain ⟨k,s',g1,g2,g3,g4,g5,g6⟩:=h.IG hb hl hr hz h1 hs hn
 exact ⟨k,s',g1,g2,g3,g4,g5,fun j hj hv=>g6 j hj fun q e=>hv (by rw [e];rfl)⟩
theorem Oi {B:Nat} {st s':SS} {v:Value} {c:List Value} {z n:Nat} (h:Own B st v c z n) (hn:st.next≤s'.next) (hk:∀ j,j<st.next→nT v=some j→s'.mem.get j=st.mem.get j):Own B s' v c z n:=by
 obtain ⟨h1,h2⟩:=h
 refine ⟨h1,h2.imp id ?_⟩
 rintro ⟨i,e,h0,hm,hb,hi⟩
 exact ⟨i,e,h0,(hk i hi (by rw [e];rfl)).trans hm,hb,pz hi hn⟩
theorem CZ {B:Nat} {st:SS} {v:Value} {c:List Value} {z n:Nat} (h:Own B st v c z n) {j:Nat} (hj:nT v=some j):B≤j∧j<st.next:=by
 obtain ⟨_,⟨rfl,_⟩ | ⟨i,rfl,_,_,hb,hi⟩⟩:=h
 ·cases hj
 ·cases hj;exact ⟨hb,hi⟩
theorem XP (k n m:Nat):(Value.slice (some ⟨k,0,none⟩) n m).cells.toList=[Value.slice (some ⟨k,0,none⟩) n m]:=rfl
section
variable {st0 st : SS} {B b i : Nat} {vw ve vv : Value} {l : Lay} {its : List mV}
theorem vK.word (h:vK st0 st B b i vw ve vv l its) (x:Item) (hx:Rd st0 x.2.1 (ak au x.1.args) 3 x.1.args.length∧Rd st0 x.2.2 (ak fB x.1.fC) 5 x.1.fC.length) (ho:one x.2.1=true∧one x.2.2=true) (hn:its.length≤100000):
  ∃ AY s1 s2,(st.new (.cells (pF (l.pl,x)) 6)).app 6 96 vw (.slice (some ⟨st.next,0,none⟩) 1 1)=some (AY,s1)∧s1.eH b 2 1 AY=some s2∧vK st0 s2 B b i AY ve vv { l with ni:=l.ni++[(l.pl,x.1)] } (its++[(l.pl,x)])∧CG b i vw st s2:=by
 have hlB:st.lim≤B:=by rw [h.ext.lim];have:=h.ll;have:=h.b0;have:=h.bB;omega
 obtain ⟨k,s1,g1,g2,g3,g4,g5,g6⟩:=TU (row:=pF (l.pl,x)) (bt:=96) h.ow h.BN hlB rfl (by omega) (by simp only [pF,dh,List.all_cons,List.all_nil,ho.1,ho.2];rfl) (by omega) (by omega)
 have old:∀ j,j<B→s1.mem.get j=st.mem.get j:=fun j hj=>g6 j (by have:=h.BN;omega) fun e=>by have:=(CZ h.ow e).1;omega
 have vO:At s1 b (rG l.pl i vw ve vv):=⟨(old b h.bB).trans h.row.1,pz h.row.lt g5,by rw [g4];exact h.row.2.2⟩
 have e1:Ext st0 s1:=⟨lT h.ext.next g5,g4.trans h.ext.lim,fun j hj=>(old j (by have:=h.b0;have:=h.bB;omega)).trans (h.ext.keep j hj)⟩
 obtain ⟨s2,e2,a2,m2,n2⟩:=vO.eH (k:=2) (n:=1) (v:=.slice (some ⟨k,0,none⟩) (its.length+1) (its.length+1)) (XP _ _ _) rfl rfl (row':=rG l.pl i (.slice (some ⟨k,0,none⟩) (its.length+1) (its.length+1)) ve vv) rfl
 have mlt:∀ j,j∈[b]→j<B:=by
  intro j hj
  have e:j=b:=by simpa using hj
  rw [e]
  exact h.bB
 have hne:∀ (u:Value),(∀ j,nT vw=some j→nT u≠some j)→∀ j,j<st.next→nT u=some j→s1.mem.get j=st.mem.get j:=fun u hu j hj e=>g6 j hj fun e'=>hu j e' e
 refine ⟨_,s1,s2,g1,e2,{ h with ext:=pO e1 m2 h.b0,row:=a2,mp:=m2.get (by have:=h.iB;have:=h.BN;omega) (by simpa using Ne.symm h.ne) ((old i h.iB).trans h.mp),BN:=by rw [n2];have:=h.BN;omega,ow:=?_,oe:=?_,ov:=?_,d1:=?_,ni:=?_,KW:=?_ },⟨by rw [n2];exact g5,m2.lim.trans g4,fun j a1 a2 a3 a4=>(m2.keep j (pz a1 g5) (by simpa using a2)).trans (g6 j a1 a4)⟩⟩
 ·rw [FX,FV,List.length_append];exact g3.lq m2 mlt
 ·exact (Oi h.oe g5 (hne ve fun j e=>(h.d1 j e).1)).lq m2 mlt
 ·exact (Oi h.ov g5 (hne vv fun j e=>(h.d1 j e).2)).lq m2 mlt
 ·intro j hj
  cases hj
  exact ⟨fun e=>by have:=(CZ h.oe e).2;omega,fun e=>by have:=(CZ h.ov e).2;omega⟩
 ·simp only [List.map_append,h.ni];rfl
 ·intro y hy
  rcases List.mem_append.1 hy with hy | hy
  ·exact h.KW y hy
  ·have:y=(l.pl,x):=by simpa using hy
   subst this
   exact hx
theorem vK.entry (h:vK st0 st B b i vw ve vv l its) (x:Val) (ln col:Nat) (hn:l.ents.length≤100000):
  ∃ AZ s1 s2 ve' s3 s4,(st.new (.cells (au x) 3)).app 3 32 vv (.slice (some ⟨st.next,0,none⟩) 1 1)=some (AZ,s1)∧s1.eH b 4 1 AZ=some s2∧s2.ld b 3=some ve∧Ext st0 s2∧(∀ j,j<st.next→nT vv≠some j→j≠b→s2.mem.get j=st.mem.get j)∧
   (s2.new (.cells (nP (x,ln,col)) 2)).app 2 16 ve (.slice (some ⟨s2.next,0,none⟩) 1 1)=some (ve',s3)∧s3.eH b 3 1 ve'=some s4∧vK st0 s4 B b i vw ve' AZ { l with ents:=l.ents++[(x,ln,col)] } its:=by
 have hlB:st.lim≤B:=by rw [h.ext.lim];have:=h.ll;have:=h.b0;have:=h.bB;omega
 have ov:=h.ov
 rw [show (l.ents.length)=(l.ents.map (·.1)).length by simp] at ov
 obtain ⟨k,s1,g1,g2,g3,g4,g5,g6⟩:=TU (row:=au x) (bt:=32) ov h.BN hlB rfl (by omega) rfl (by simp;omega) (by simp;omega)
 have old:∀ j,j<B→s1.mem.get j=st.mem.get j:=fun j hj=>g6 j (by have:=h.BN;omega) fun e=>by have:=(CZ h.ov e).1;omega
 have vO:At s1 b (rG l.pl i vw ve vv):=⟨(old b h.bB).trans h.row.1,pz h.row.lt g5,by rw [g4];exact h.row.2.2⟩
 have e1:Ext st0 s1:=⟨lT h.ext.next g5,g4.trans h.ext.lim,fun j hj=>(old j (by have:=h.b0;have:=h.bB;omega)).trans (h.ext.keep j hj)⟩
 generalize hV:(Value.slice (some ⟨k,0,none⟩) ((l.ents.map (·.1)).length+1) ((l.ents.map (·.1)).length+1))=V at*
 have ZE:V.cells.toList=[V]∧one V=true∧nT V=some k:=by rw [← hV];exact ⟨rfl,rfl,rfl⟩
 obtain ⟨s2,e2,a2,m2,n2⟩:=vO.eH (k:=4) (n:=1) (v:=V) ZE.1 rfl (by simp [ZE.2.1]) (row':=rG l.pl i vw ve V) rfl
 have mlt:∀ j,j∈[b]→j<B:=by
  intro j hj
  have e:j=b:=by simpa using hj
  rw [e]
  exact h.bB
 have ow2:Own B s2 vw (ak pF its) 6 its.length:=(Oi h.ow g5 fun j hj e=>g6 j hj (h.d1 j e).2).lq m2 mlt
 have oe2:Own B s2 ve (ak nP l.ents) 2 l.ents.length:=(Oi h.oe g5 fun j hj e=>g6 j hj (h.d2 j e)).lq m2 mlt
 have ov2:=g3.lq m2 mlt
 have x2:Ext st0 s2:=pO e1 m2 h.b0
 have BN2:B≤s2.next:=by rw [n2];have:=h.BN;omega
 have hlB2:s2.lim≤B:=by rw [x2.lim];have:=h.ll;have:=h.b0;have:=h.bB;omega
 obtain ⟨k2,s3,q1,q2,q3,q4,q5,q6⟩:=TU (row:=nP (x,ln,col)) (bt:=16) oe2 BN2 hlB2 rfl (by omega) rfl (by omega) (by omega)
 have PS:∀ j,j<B→s3.mem.get j=s2.mem.get j:=fun j hj=>q6 j (by omega) fun e=>by have:=(CZ oe2 e).1;omega
 have row3:At s3 b (rG l.pl i vw ve V):=⟨(PS b h.bB).trans a2.1,pz a2.lt q5,by rw [q4];exact a2.2.2⟩
 have x3:Ext st0 s3:=⟨lT x2.next q5,q4.trans x2.lim,fun j hj=>(PS j (by have:=h.b0;have:=h.bB;omega)).trans (x2.keep j hj)⟩
 obtain ⟨s4,e4,a4,m4,n4⟩:=row3.eH (k:=3) (n:=1) (v:=.slice (some ⟨k2,0,none⟩) (l.ents.length+1) (l.ents.length+1)) (XP _ _ _) rfl rfl (row':=rG l.pl i vw (.slice (some ⟨k2,0,none⟩) (l.ents.length+1) (l.ents.length+1)) V) rfl
 have hk2:nT V≠some k2:=fun e=>by have:=(CZ ov2 e).2;omega
 refine ⟨V,s1,s2,_,s3,s4,g1,e2,a2.ld,x2,fun j hj hv hb=>(m2.keep j (by omega) (by simpa using hb)).trans (g6 j hj hv),q1,e4,{ h with ext:=pO x3 m4 h.b0,row:=a4,mp:=m4.get (by have:=h.iB;omega) (by simpa using Ne.symm h.ne) ((PS i h.iB).trans (m2.get (by have:=h.iB;have:=h.BN;omega) (by simpa using Ne.symm h.ne) ((old i h.iB).trans h.mp))),BN:=by rw [n4];omega,ow:=?_,oe:=?_,ov:=?_,d1:=?_,d2:=?_ }⟩
 ·exact (Oi ow2 q5 fun j hj e=>q6 j hj (h.d1 j e).1).lq m4 mlt
 ·rw [FX,FV,List.length_append];exact q3.lq m4 mlt
 ·have:=(Oi ov2 q5 fun j hj e=>q6 j hj fun e'=>by
   have hj2:=(CZ h.oe e').2
   rw [ZE.2.2] at e
   cases e
   omega).lq m4 mlt
  have e5:(l.ents++[(x,ln,col)]).map (·.1)=l.ents.map (·.1)++[x]:=by simp
  have e6:(l.ents++[(x,ln,col)]).length=(l.ents.map (·.1)).length+1:=by simp
  show Own B s4 V (ak au ((l.ents++[(x,ln,col)]).map (·.1))) 3 (l.ents++[(x,ln,col)]).length
  rw [e5,e6,FX,FV]
  exact this
 ·intro j hj
  refine ⟨fun e=>?_,fun e=>?_⟩
  ·cases e
   have:=(CZ ow2 hj).2
   omega
  ·rw [ZE.2.2] at e
   cases e
   have:=(CZ h.ow hj).2
   omega
 ·intro j hj e
  cases hj
  exact hk2 e
end
end Go.Proofs.YtifploedaacedaaGreatDoorE
namespace Go.Proofs.YtifploedaacedaaGreatDoorE
open Go Go.E Go.Proofs
theorem zw4 {p n:Nat} (hp:p≤4096) (h1:1≤n) (h2:n≤2048):((IntKind.wrap .i64 (IntKind.wrap .i64 ((p:Int)+(n:Int))-1)).tdiv (n:Int))=(((p+n-1)/n:Nat):Int):=by
 rw [wrap64 (n:=(p:Int)+(n:Int)) (by omega) (by omega),wrap64 (by omega) (by omega)]
 have e:(p:Int)+(n:Int)-1=((p+n-1:Nat):Int):=by omega
 rw [e]
 exact (Int.ofNat_tdiv _ _).symm
theorem zr6 {p n:Nat} (hp:p≤4096) (h1:1≤n) (h2:n≤2048):(p+n-1)/n*n≤8192:=by
 have:=Nat.div_mul_le_self (p+n-1) n
 omega
def zr7 (l:Lay) (v:Val) (r:List Val):Option Lay:=match r with
 | [y]=>if v.nm≠[]∧v.x=0∧y.nm=[] then l.define v.nm y.x else none
 | _=>none
theorem zr8 {l:Lay} {x:fU} {v:Val} {r:List Val} (h:x.args=v::r) (d1:¬ x.dir=[111,114,103]) (d2:¬ x.dir=[97,108,105,103,110]) (d3:x.dir=[115,101,116]):sJ l x=zr7 l v r:=by
 unfold sJ
 rw [h]
 simp only
 rw [if_neg d1,if_neg d2,if_pos d3]
 rfl
theorem zr9 [Sym] {st0 st:SS} {B b i:Nat} {vw ve vv:Value} {l:Lay} {its:List mV} (h:vK st0 st B b i vw ve vv l its) (x:Item) (hx:Rd st0 x.2.1 (ak au x.1.args) 3 x.1.args.length) (hpl:l.pl≤4096) (hn:l.ents.length≤100000)
  (hsz:x.1.args.length≤100000):
  match sJ l x.1 with
  | none=>∃ st',cc 71 [ptr b 0,.agg (dh x).toArray] st=some (.bool false,st')∧CG b i vw st st'
  | some l'=>∃ st' ve' AZ,cc 71 [ptr b 0,.agg (dh x).toArray] st=some (.bool true,st')∧vK st0 st' B b i vw ve' AZ l' its:=by
 have hlm:st.lim≤st.next:=by rw [h.ext.lim];have:=h.ll;have:=h.ext.next;omega
 have x1:Ext st (st.new (.cells (dh x) 0)):=(Ext.refl st).new _
 have a1:At (st.new (.cells (dh x) 0)) st.next (dh x):=At.new hlm _
 have l3:(st.new (.cells (dh x) 0)).ld st.next 3=some x.2.1:=a1.ld
 have hr1:Rd (st.new (.cells (dh x) 0)) x.2.1 (ak au x.1.args) 3 x.1.args.length:=(hx.ext h.ext).ext x1
 have hlen:(lenV x.2.1).bind (ay .i64)=some (x.1.args.length:Int):=by rw [hx.len];rfl
 have hnl:fG (ptr b 0)=some (ptr b 0):=rfl
 cases hargs:x.1.args with
 | nil=>
   have hd:sJ l x.1=none:=by unfold sJ;rw [hargs]
   rw [hd]
   rw [hargs] at hlen
   refine ⟨_,OH _ _ st (r:=(.bool false,st.new (.cells (dh x) 0))) ?_,.ext x1⟩
   have h0:((([]:List Val).length:Nat):Int)=0:=rfl
   simp only [zD,lU,l3,hlen,bf,zdt h0,cu]
 | cons v r=>
   rw [hargs] at hlen hr1 hsz
   obtain ⟨q5,b1,b2,_⟩:=hr1.load (j:=(0:Int)) (by omega) (by first | (simp;done) | (simp;omega)) (row:=au v) rfl rfl
   have b2':(st.new (.cells (dh x) 0)).eF q5.1 q5.2 3=some (.agg (au v).toArray):=b2
   obtain ⟨s8,e8,a8,x8,n8⟩:=pX (st:=st.new (.cells (dh x) 0)) (by first | (simp;done) | (simp;omega)) (r:=au ⟨[],0,0⟩) (row:=au v) (v:=.agg (au v).toArray) (lU _) rfl rfl rfl
   have y8:((st.new (.cells (dh x) 0)).new (.cells [.string ⟨#[]⟩,.int .i64 0,.int .i64 0] 0)).eH (st.new (.cells (dh x) 0)).next 0 3 (.agg (au v).toArray)=some s8:=e8
   have ZP:=a1.ext x8
   have h8:=h.then (x1.trans x8)
   have m8:CG b i vw st s8:=.ext (x1.trans x8)
   have hn1:¬ (((v::r).length:Nat):Int)=0:=by first | (simp;done) | (simp;omega)
   have l9:s8.ld (st.new (.cells (dh x) 0)).next 0=some (.string (mkS v.nm)):=a8.ld
   have Fe:s8.ld (st.new (.cells (dh x) 0)).next 1=some (.int .i64 v.x):=a8.ld
   have l92:s8.ld (st.new (.cells (dh x) 0)).next 2=some (.int .i64 v.col):=a8.ld
   have l10:s8.ld st.next 2=some (.string (mkS x.1.dir)):=ZP.ld
   have tZ:s8.ld st.next 3=some x.2.1:=ZP.ld
   have VT:s8.ld b 0=some (.int .i64 l.pl):=h8.row.ld
   have hnm:fA (mkS v.nm) ⟨#[]⟩=decide (v.nm=[]):=Ef _
   have hlr:decide (1<(((v::r).length:Nat):Int))=decide (r≠[]):=by
    cases r with
    | nil=>rfl
    | cons a t=>rw [zdt (by simp;omega),zdt (by simp)]
   have fl:∀ st',zD cc zfq (ptr b 0) (.agg (dh x).toArray) st=some (.bool false,st')→CG b i vw st st'→sJ l x.1=none→
     match sJ l x.1 with
     | none=>∃ st',cc 71 [ptr b 0,.agg (dh x).toArray] st=some (.bool false,st')∧CG b i vw st st'
     | some l'=>∃ st' ve' AZ,cc 71 [ptr b 0,.agg (dh x).toArray] st=some (.bool true,st')∧vK st0 st' B b i vw ve' AZ l' its:=fun st' hc hfr hdn=>by
    rw [hdn];exact ⟨st',OH _ _ st hc,hfr⟩
   by_cases d1:x.1.dir=[111,114,103]
   ·have q1:fA (mkS x.1.dir) ⟨#[111,114,103]⟩=true:=zdt d1
    have hd:sJ l x.1=if v.nm=[]∧r=[]∧(l.pl:Int)≤v.x∧v.x≤2048 then some { l with pl:=v.x.toNat } else none:=by unfold sJ;rw [hargs];simp only;rw [if_pos d1]
    by_cases c1:v.nm=[]
    ·by_cases c2:r=[]
     ·by_cases c3:v.x<(l.pl:Int)
      ·refine fl s8 ?_ m8 (by rw [hd,if_neg (fun hh=>by omega)])
       simp only [zD,lU,l3,hlen,bf,bg hn1,dn,b1,b2',y8,l9,l10,tZ,fP,q1,cu,hnm,zdt c1,lY,hlr,bg (show ¬ r≠[] from fun hh=>hh c2),Fe,eP,hnl,fZ,VT,zdt c3]
      ·by_cases c4:2048<v.x
       ·refine fl s8 ?_ m8 (by rw [hd,if_neg (fun hh=>by omega)])
        simp only [zD,lU,l3,hlen,bf,bg hn1,dn,b1,b2',y8,l9,l10,tZ,fP,q1,cu,hnm,zdt c1,lY,hlr,bg (show ¬ r≠[] from fun hh=>hh c2),Fe,eP,hnl,fZ,VT,bg c3,zdt c4]
       ·rw [hd,if_pos ⟨c1,c2,by omega,by omega⟩]
        obtain ⟨oQ,e21,h21⟩:=h8.place v.x.toNat
        have ez:((v.x.toNat:Nat):Int)=v.x:=by omega
        rw [ez] at e21
        refine ⟨oQ,ve,vv,OH _ _ st ?_,h21⟩
        simp only [zD,lU,l3,hlen,bf,bg hn1,dn,b1,b2',y8,l9,l10,tZ,fP,q1,cu,hnm,zdt c1,lY,hlr,bg (show ¬ r≠[] from fun hh=>hh c2),Fe,eP,hnl,fZ,VT,bg c3,bg c4,e21]
     ·refine fl s8 ?_ m8 (by rw [hd,if_neg (fun hh=>c2 hh.2.1)])
      simp only [zD,lU,l3,hlen,bf,bg hn1,dn,b1,b2',y8,l9,l10,tZ,fP,eP,q1,cu,hnm,zdt c1,lY,hlr,zdt (show r≠[] from c2)]
    ·refine fl s8 ?_ m8 (by rw [hd,if_neg (fun hh=>c1 hh.1)])
     simp only [zD,lU,l3,hlen,bf,bg hn1,dn,b1,b2',y8,l9,l10,tZ,fP,eP,q1,cu,hnm,bg c1,nJ]
   have n1:fA (mkS x.1.dir) ⟨#[111,114,103]⟩=false:=bg d1
   by_cases d2:x.1.dir=[97,108,105,103,110]
   ·have q1:fA (mkS x.1.dir) ⟨#[97,108,105,103,110]⟩=true:=zdt d2
    have hd:sJ l x.1=if v.nm=[]∧r=[]∧1≤v.x∧v.x≤2048∧(l.pl+v.x.toNat-1)/v.x.toNat*v.x.toNat≤2048 then some { l with pl:=(l.pl+v.x.toNat-1)/v.x.toNat*v.x.toNat } else none:=by unfold sJ;rw [hargs];simp only;rw [if_neg d1,if_pos d2]
    by_cases c1:v.nm=[]
    ·by_cases c2:r=[]
     ·have c2':=bg (show ¬ r≠[] from fun hh=>hh c2)
      by_cases c3:v.x<1
      ·refine fl s8 ?_ m8 (by rw [hd,if_neg (fun hh=>by omega)])
       simp only [zD,lU,l3,hlen,bf,bg hn1,dn,b1,b2',y8,l9,l10,tZ,fP,eP,n1,q1,cu,hnm,zdt c1,lY,hlr,c2',Fe,zdt c3]
      ·by_cases c4:2048<v.x
       ·refine fl s8 ?_ m8 (by rw [hd,if_neg (fun hh=>by omega)])
        simp only [zD,lU,l3,hlen,bf,bg hn1,dn,b1,b2',y8,l9,l10,tZ,fP,eP,n1,q1,cu,hnm,zdt c1,lY,hlr,c2',Fe,bg c3,zdt c4]
       ·have ez:((v.x.toNat:Nat):Int)=v.x:=by omega
        have hz:¬ (v.x=0):=by omega
        have e33:(aI .quo .i64 (IntKind.wrap .i64 (IntKind.wrap .i64 ((l.pl:Int)+v.x)-1)) v.x).bind (ay .i64)=some (((l.pl+v.x.toNat-1)/v.x.toNat:Nat):Int):=by
         have:=zw4 (p:=l.pl) (n:=v.x.toNat) hpl (by omega) (by omega)
         rw [ez] at this
         simp only [aI,bg hz,dn,bf,eP,this]
         have hle:=zr6 (p:=l.pl) (n:=v.x.toNat) hpl (by omega) (by omega)
         have h1:(l.pl+v.x.toNat-1)/v.x.toNat≤(l.pl+v.x.toNat-1)/v.x.toNat*v.x.toNat:=Nat.le_mul_of_pos_right _ (by omega)
         have h0':=Int.natCast_nonneg ((l.pl+v.x.toNat-1)/v.x.toNat)
         have h1':(((l.pl+v.x.toNat-1)/v.x.toNat:Nat):Int)≤8192:=Int.ofNat_le.2 (lT h1 hle)
         rw [wrap64 (Int.le_trans (by decide) h0') (Int.le_trans h1' (by decide))]
        have hle:=zr6 (p:=l.pl) (n:=v.x.toNat) hpl (by omega) (by omega)
        have e35:IntKind.wrap .i64 ((((l.pl+v.x.toNat-1)/v.x.toNat:Nat):Int)*v.x)=(((l.pl+v.x.toNat-1)/v.x.toNat*v.x.toNat:Nat):Int):=by
         rw [← ez]
         simp only [Int.toNat_natCast]
         rw [← Int.natCast_mul]
         exact wrap64 (by omega) (by omega)
        obtain ⟨Ir,e38,h38,m38⟩:=h8.Ew ((l.pl+v.x.toNat-1)/v.x.toNat*v.x.toNat)
        have SN:Ir.ld b 0=some (.int .i64 (((l.pl+v.x.toNat-1)/v.x.toNat*v.x.toNat:Nat):Int)):=h38.row.ld
        by_cases c5:(l.pl+v.x.toNat-1)/v.x.toNat*v.x.toNat≤2048
        ·rw [hd,if_pos ⟨c1,c2,by omega,by omega,c5⟩]
         have c5':(((l.pl+v.x.toNat-1)/v.x.toNat*v.x.toNat:Nat):Int)≤2048:=by omega
         refine ⟨Ir,ve,vv,OH _ _ st ?_,h38⟩
         simp only [zD,lU,l3,hlen,bf,bg hn1,dn,b1,b2',y8,l9,l10,tZ,fP,eP,n1,q1,cu,hnm,zdt c1,lY,hlr,c2',Fe,bg c3,bg c4,hnl,fZ,VT,e33,e35,e38,SN,zdt c5']
        ·have c5':¬ (((l.pl+v.x.toNat-1)/v.x.toNat*v.x.toNat:Nat):Int)≤2048:=by omega
         refine fl Ir ?_ (m8.trans (.mod m38 (by simp))) (by rw [hd,if_neg (fun hh=>c5 hh.2.2.2.2)])
         simp only [zD,lU,l3,hlen,bf,bg hn1,dn,b1,b2',y8,l9,l10,tZ,fP,eP,n1,q1,cu,hnm,zdt c1,lY,hlr,c2',Fe,bg c3,bg c4,hnl,fZ,VT,e33,e35,e38,SN,bg c5']
     ·refine fl s8 ?_ m8 (by rw [hd,if_neg (fun hh=>c2 hh.2.1)])
      simp only [zD,lU,l3,hlen,bf,bg hn1,dn,b1,b2',y8,l9,l10,tZ,fP,eP,n1,q1,cu,hnm,zdt c1,lY,hlr,zdt (show r≠[] from c2)]
    ·refine fl s8 ?_ m8 (by rw [hd,if_neg (fun hh=>c1 hh.1)])
     simp only [zD,lU,l3,hlen,bf,bg hn1,dn,b1,b2',y8,l9,l10,tZ,fP,eP,n1,q1,cu,hnm,bg c1,nJ]
   have n2:fA (mkS x.1.dir) ⟨#[97,108,105,103,110]⟩=false:=bg d2
   have hr8:Rd s8 x.2.1 (ak au (v::r)) 3 (v::r).length:=hr1.ext x8
   by_cases d3:x.1.dir=[115,101,116]
   ·have q1:fA (mkS x.1.dir) ⟨#[115,101,116]⟩=true:=zdt d3
    have hd:sJ l x.1=zr7 l v r:=zr8 hargs d1 d2 d3
    have no:(∀ y,r≠[y])→¬ ((((v::r).length:Nat):Int)=2)∧sJ l x.1=none:=fun hr=>by
     rw [hd]
     match r,hr with
     | [],_=>exact ⟨by simp,rfl⟩
     | [y],hr=>exact absurd rfl (hr y)
     | _::_::_,_=>exact ⟨by simp;omega,rfl⟩
    by_cases hy:∃ y,r=[y]
    ·obtain ⟨y,rfl⟩:=hy
     have hd:sJ l x.1=if v.nm≠[]∧v.x=0∧y.nm=[] then l.define v.nm y.x else none:=hd
     have h2:(((([v,y]:List Val).length:Nat)):Int)=2:=rfl
     by_cases c1:v.nm=[]
     ·refine fl s8 ?_ m8 (by rw [hd,if_neg (fun hh=>hh.1 c1)])
      simp only [zD,lU,l3,hlen,bf,bg hn1,dn,b1,b2',y8,l9,l10,tZ,fP,eP,n1,n2,q1,cu,hnm,zdt h2,zdt c1,lY]
     ·by_cases c2:v.x=0
      ·obtain ⟨p46,t1,_,t3⟩:=hr8.load (j:=(1:Int)) (by omega) (by rw [h2];omega) (row:=au y) rfl rfl
       have t30:s8.ld p46.1 p46.2=some (.string (mkS y.nm)):=t3 0 (by omega)
       have t31:s8.ld p46.1 (p46.2+1)=some (.int .i64 y.x):=t3 1 (by omega)
       have hy0:fA (mkS y.nm) ⟨#[]⟩=decide (y.nm=[]):=Ef _
       by_cases c3:y.nm=[]
       ·have hd':sJ l x.1=l.define v.nm y.x:=by rw [hd,if_pos ⟨c1,c2,c3⟩]
        have hdef:=h8.define v.nm y.x
        rw [hd']
        cases hdf:l.define v.nm y.x with
        | none=>
          rw [hdf] at hdef
          simp only at hdef
          refine ⟨s8,OH _ _ st ?_,m8⟩
          simp only [zD,lU,l3,hlen,bf,bg hn1,dn,b1,b2',y8,l9,l10,tZ,fP,eP,n1,n2,q1,cu,hnm,zdt h2,bg c1,nJ,Fe,zdt c2,t1,t30,t31,hy0,zdt c3,hdef,mg]
        | some l'=>
          rw [hdf] at hdef
          obtain ⟨s9,c9,_,h9⟩:=hdef
          refine ⟨s9,ve,vv,OH _ _ st ?_,h9⟩
          simp only [zD,lU,l3,hlen,bf,bg hn1,dn,b1,b2',y8,l9,l10,tZ,fP,eP,n1,n2,q1,cu,hnm,zdt h2,bg c1,nJ,Fe,zdt c2,t1,t30,t31,hy0,zdt c3,c9,mg]
       ·refine fl s8 ?_ m8 (by rw [hd,if_neg (fun hh=>c3 hh.2.2)])
        simp only [zD,lU,l3,hlen,bf,bg hn1,dn,b1,b2',y8,l9,l10,tZ,fP,eP,n1,n2,q1,cu,hnm,zdt h2,bg c1,nJ,Fe,zdt c2,t1,t30,hy0,bg c3]
      ·refine fl s8 ?_ m8 (by rw [hd,if_neg (fun hh=>c2 hh.2.1)])
       simp only [zD,lU,l3,hlen,bf,bg hn1,dn,b1,b2',y8,l9,l10,tZ,fP,eP,n1,n2,q1,cu,hnm,zdt h2,bg c1,nJ,Fe,bg c2]
    ·obtain ⟨h2,hdn⟩:=no fun y e=>hy ⟨y,e⟩
     refine fl s8 ?_ m8 hdn
     simp only [zD,lU,l3,hlen,bf,bg hn1,dn,b1,b2',y8,l9,l10,tZ,fP,eP,n1,n2,q1,cu,hnm,bg h2]
   ·have n3:fA (mkS x.1.dir) ⟨#[115,101,116]⟩=false:=bg d3
    by_cases d4:x.1.dir=[101,110,116,114,121]
    ·have q1:fA (mkS x.1.dir) ⟨#[101,110,116,114,121]⟩=true:=zdt d4
     have hd:sJ l x.1=if v.nm≠[]∧r=[]∧v.x=0∧(l.ents.any fun e=>decide (e.1.nm=v.nm))=false then some { l with ents:=l.ents++[(v,x.1.ln,v.col)] } else none:=by unfold sJ;rw [hargs];simp only;rw [if_neg d1,if_neg d2,if_neg d3,if_pos d4]
     by_cases c1:v.nm=[]
     ·refine fl s8 ?_ m8 (by rw [hd,if_neg (fun hh=>hh.1 c1)])
      simp only [zD,lU,l3,hlen,bf,bg hn1,dn,b1,b2',y8,l9,l10,tZ,fP,eP,n1,n2,n3,q1,cu,hnm,zdt c1]
     by_cases c2:r=[]
     ·have c2':=bg (show ¬ r≠[] from fun hh=>hh c2)
      by_cases c3:v.x=0
      ·have l59:s8.ld b (0+4)=some vv:=h8.row.ld
       obtain ⟨n60,Wh,WQ⟩:=zw3 (l.ents.map (·.1)) (by simp;omega) v (st.new (.cells (dh x) 0)).next vv s8 (by have:=h8.ov.rd;simpa using this) a8.mem a8.lt
       have hany:((l.ents.map (·.1)).any fun x=>decide (x.nm=v.nm))=l.ents.any fun e=>decide (e.1.nm=v.nm):=by rw [List.any_map];rfl
       rw [hany] at WQ
       cases ha:l.ents.any fun e=>decide (e.1.nm=v.nm) with
       | true=>
         rw [ha] at WQ
         refine fl (s8.dw n60) ?_ (m8.trans (.ext ((Ext.refl _).dw Wh))) (by rw [hd,if_neg (fun hh=>by rw [ha] at hh;cases hh.2.2.2)])
         simp only [zD,lU,l3,hlen,bf,bg hn1,dn,b1,b2',y8,l9,l10,tZ,fP,eP,n1,n2,n3,q1,cu,hnm,bg c1,hlr,c2',Fe,zdt c3,lY,hnl,fZ,l59,WQ,mg]
       | false=>
         rw [ha] at WQ
         rw [hd,if_pos ⟨c1,c2,c3,ha⟩]
         have OU:Ext s8 (s8.dw n60):=(Ext.refl _).dw Wh
         obtain ⟨AZ,s1,s2,ve',s3,s4,g1,g2,g3,g4,g5,g6,g7,g8⟩:=(h8.then OU).entry v x.1.ln v.col hn
         have l64:(s8.dw n60).ld b (0+4)=some vv:=(h8.then OU).row.ld
         have l65:(s8.dw n60).eF (st.new (.cells (dh x) 0)).next 0 3=some (.agg (au v).toArray):=(a8.ext OU).eF rfl
         have e66:nX (.agg (au v).toArray) 3=some (au v):=rfl
         have g2':s1.eH b (0+4) 1 AZ=some s2:=g2
         have g3':s2.ld b (0+3)=some ve:=g3
         have g6':(s2.new (.cells ([.int .i64 x.1.ln,.int .i64 v.col]) 2)).app 2 16 ve (.slice (some ⟨s2.next,0,none⟩) 1 1)=some (ve',s3):=g6
         have g7':s3.eH b (0+3) 1 ve'=some s4:=g7
         have hv0:∀ j,nT vv=some j→j<st.next:=fun j e=>(CZ h.ov e).2
         have hbn:=h.row.lt
         have m75:=(g5 st.next (ZP.ext OU).lt (fun e=>by have:=hv0 _ e;omega) (by omega)).trans (ZP.ext OU).mem
         have m76:=(g5 (st.new (.cells (dh x) 0)).next (a8.ext OU).lt (fun e=>by have:=hv0 _ e;simp at this;omega) (by simp;omega)).trans (a8.ext OU).mem
         have l75:s2.ld st.next 0=some (.int .i64 x.1.ln):=by rw [SS.eU m75];rfl
         have l76:s2.ld (st.new (.cells (dh x) 0)).next 2=some (.int .i64 v.col):=by rw [SS.eU m76];rfl
         refine ⟨s4,ve',AZ,OH _ _ st ?_,g8⟩
         simp only [zD,lU,l3,hlen,bf,bg hn1,dn,b1,b2',y8,l9,l10,tZ,fP,eP,n1,n2,n3,q1,cu,hnm,bg c1,hlr,c2',Fe,zdt c3,lY,hnl,fZ,l59,WQ,mg,l64,l65,e66,List.append_nil,g1,g2',g3',l75,l76,g6',g7']
      ·refine fl s8 ?_ m8 (by rw [hd,if_neg (fun hh=>c3 hh.2.2.1)])
       simp only [zD,lU,l3,hlen,bf,bg hn1,dn,b1,b2',y8,l9,l10,tZ,fP,eP,n1,n2,n3,q1,cu,hnm,bg c1,hlr,c2',Fe,bg c3,nJ]
     ·refine fl s8 ?_ m8 (by rw [hd,if_neg (fun hh=>c2 hh.2.1)])
      simp only [zD,lU,l3,hlen,bf,bg hn1,dn,b1,b2',y8,l9,l10,tZ,fP,eP,n1,n2,n3,q1,cu,hnm,bg c1,hlr,zdt (show r≠[] from c2)]
    ·have n4:fA (mkS x.1.dir) ⟨#[101,110,116,114,121]⟩=false:=bg d4
     refine fl s8 ?_ m8 (by unfold sJ;rw [hargs];simp only;rw [if_neg d1,if_neg d2,if_neg d3,if_neg d4])
     simp only [zD,lU,l3,hlen,bf,bg hn1,dn,b1,b2',y8,l9,l10,fP,n1,n2,n3,n4]
end Go.Proofs.YtifploedaacedaaGreatDoorE
namespace Go.Proofs.YtifploedaacedaaGreatDoorE
open Go Go.E Go.Proofs
theorem zw5 (n:Nat) (x:Item):nX (.agg ⟨spl [.int .i64 n,.int .i64 0,.string ⟨#[]⟩,.string ⟨#[]⟩,.slice none 0 0,.slice none 0 0] 1 (dh x)⟩) 6=some (pF (n,x)):=rfl
theorem vK.rest [Sym] {st0 st:SS} {B b i:Nat} {vw ve vv:Value} {l:Lay} {its:List mV} (h:vK st0 st B b i vw ve vv l its) (x:Item) (hx:Rd st0 x.2.1 (ak au x.1.args) 3 x.1.args.length∧Rd st0 x.2.2 (ak fB x.1.fC) 5 x.1.fC.length)
  (ho:one x.2.1=true∧one x.2.2=true) (hpl:l.pl≤2048) (hni:its.length≤100000):
  ∃ AY s1 s2 s3,(st.new (.cells (pF (l.pl,x)) 6)).app 6 96 vw (.slice (some ⟨st.next,0,none⟩) 1 1)=some (AY,s1)∧s1.eH b 2 1 AY=some s2∧s2.ld b 0=some (.int .i64 l.pl)∧s2.st b 0 [.int .i64 ((l.pl+1:Nat):Int)]=some s3∧s3.ld b 0=some (.int .i64 ((l.pl+1:Nat):Int))∧
   vK st0 s3 B b i AY ve vv { l with pl:=l.pl+1,ni:=l.ni++[(l.pl,x.1)] } (its++[(l.pl,x)])∧CG b i vw st s3:=by
 obtain ⟨AY,s1,s2,g1,g2,g3,g6⟩:=h.word x hx ho hni
 obtain ⟨s3,g4,g5,g7⟩:=g3.Ew (l.pl+1)
 exact ⟨AY,s1,s2,s3,g1,g2,g3.row.ld,g4,g5.row.ld,g5,g6.trans (.mod g7 (by simp))⟩
noncomputable def JW [Sym] (b':Value) (a:Nat) (s:SS):Option (Value×SS):=
 ((s.ld a 2).bind asS).bind fun b=>
  cond (!(fA b ⟨#[]⟩)) (
   (s.eF a 0 5).bind fun c=>
   (cc 71 [b',c] s).bind fun d=>
   ((some d.1).bind lF).bind fun e=>
   some (.bool e,d.2)) (
   (s.ld a 4).bind fun f=>
   ((lenV f).bind (ay .i64)).bind fun g=>
   cond (decide (g=0)) (
    some (.bool true,s)) (
    (fG b').bind fun h=>
    (aj h).bind fun i=>
    (s.ld i.1 (i.2+2)).bind fun j=>
    (fG b').bind fun k=>
    (aj k).bind fun l=>
    ((s.ld l.1 l.2).bind (ay .i64)).bind fun m=>
    (s.eF a 0 5).bind fun n=>
    (nX n 5).bind fun o=>
    (nX (.agg ⟨spl [.int .i64 m,.int .i64 0,.string ⟨#[]⟩,.string ⟨#[]⟩,.slice none 0 0,.slice none 0 0] 1 o⟩) 6).bind fun p=>
    let q:SS:=s.new (.cells (p++([])) 6)
    (q.app 6 96 j (.slice (some ⟨s.next,0,none⟩) 1 1)).bind fun r=>
    (fG b').bind fun t=>
    (aj t).bind fun u=>
    (r.2.eH u.1 (u.2+2) 1 r.1).bind fun v=>
    (fG b').bind fun w=>
    (aj w).bind fun x=>
    ((v.ld x.1 x.2).bind (ay .i64)).bind fun y=>
    let z:Int:=IntKind.wrap .i64 (y+1)
    (fG b').bind fun A=>
    (aj A).bind fun B=>
    (v.st B.1 B.2 [.int .i64 z]).bind fun C=>
    (fG b').bind fun D=>
    (aj D).bind fun E=>
    ((C.ld E.1 E.2).bind (ay .i64)).bind fun F=>
    some (.bool (decide (F≤2048)),C)))
def Hg (l:Lay) (x:fU):Option Lay:=if x.dir≠[] then sJ l x else if x.fC=[] then some l else if l.pl+1≤2048 then some { l with pl:=l.pl+1,ni:=l.ni++[(l.pl,x)] } else none
theorem ztq [Sym] {st0 s:SS} {B b i a:Nat} {vw ve vv:Value} {l:Lay} {its:List mV} (h:vK st0 s B b i vw ve vv l its) (x:Item) (ha:At s a (dh x)) (hx:Rd st0 x.2.1 (ak au x.1.args) 3 x.1.args.length∧Rd st0 x.2.2 (ak fB x.1.fC) 5 x.1.fC.length)
  (ho:one x.2.1=true∧one x.2.2=true) (hpl:l.pl≤2048) (hn:l.ents.length≤100000) (hni:its.length≤100000) (hsz:x.1.args.length≤100000):
  match Hg l x.1 with
  | none=>∃ st',JW (ptr b 0) a s=some (.bool false,st')∧CG b i vw s st'
  | some l'=>∃ st' AY ve' AZ oP,JW (ptr b 0) a s=some (.bool true,st')∧vK st0 st' B b i AY ve' AZ l' oP∧oP.length≤its.length+1:=by
 have l2:s.ld a 2=some (.string (mkS x.1.dir)):=ha.ld
 have l4:s.ld a 4=some x.2.2:=ha.ld
 have l5:s.eF a 0 5=some (.agg (dh x).toArray):=ha.eF rfl
 have hd0:fA (mkS x.1.dir) ⟨#[]⟩=decide (x.1.dir=[]):=Ef _
 unfold Hg
 by_cases c1:x.1.dir=[]
 ·rw [if_neg (fun hh=>hh c1)]
  have hlen:(lenV x.2.2).bind (ay .i64)=some (x.1.fC.length:Int):=by rw [hx.2.len];rfl
  by_cases c2:x.1.fC=[]
  ·rw [if_pos c2]
   have h0:(x.1.fC.length:Int)=0:=by rw [c2];rfl
   refine ⟨s,vw,ve,vv,its,?_,h,by omega⟩
   simp only [JW,l2,l4,bf,fP,hd0,zdt c1,lY,dn,hlen,zdt h0,cu]
  ·rw [if_neg c2]
   have h0:¬ (x.1.fC.length:Int)=0:=fun e=>c2 (List.length_eq_zero_iff.1 (by omega))
   obtain ⟨AY,s1,s2,s3,g1,g2,g3,g4,g5,g6,g7⟩:=h.rest x hx ho hpl hni
   have hnl:fG (ptr b 0)=some (ptr b 0):=rfl
   have lw:s.ld b (0+2)=some vw:=h.row.ld
   have lp:s.ld b 0=some (.int .i64 l.pl):=h.row.ld
   have e5:nX (.agg (dh x).toArray) 5=some (dh x):=rfl
   have e6:=zw5 l.pl x
   have g2':s1.eH b (0+2) 1 AY=some s2:=g2
   have hw1:=ru (i:=l.pl) (by omega)
   have run:JW (ptr b 0) a s=some (.bool (decide (((l.pl+1:Nat):Int)≤2048)),s3):=by
    simp only [JW,l2,l4,l5,bf,fP,eP,hd0,zdt c1,lY,dn,hlen,bg h0,hnl,fZ,lw,lp,e5,e6,List.append_nil,g1,g2',g3,hw1,g4,g5]
   by_cases c3:l.pl+1≤2048
   ·rw [if_pos c3]
    have c3':((l.pl+1:Nat):Int)≤2048:=by omega
    exact ⟨s3,AY,ve,vv,_,by rw [run,zdt c3'],g6,by simp⟩
   ·rw [if_neg c3]
    have c3':¬ ((l.pl+1:Nat):Int)≤2048:=by omega
    exact ⟨s3,by rw [run,bg c3'],g7⟩
 ·rw [if_pos c1]
  have Ll:=zr9 h x hx.1 (by omega) hn hsz
  cases hd:sJ l x.1 with
  | none=>
    rw [hd] at Ll
    obtain ⟨st',c,hfr⟩:=Ll
    refine ⟨st',?_,hfr⟩
    simp only [JW,l2,l5,bf,fP,hd0,bg c1,nJ,cu,c,mg]
  | some l'=>
    rw [hd] at Ll
    obtain ⟨st',ve',AZ,c,hb⟩:=Ll
    refine ⟨st',vw,ve',AZ,its,?_,hb,by omega⟩
    simp only [JW,l2,l5,bf,fP,hd0,bg c1,nJ,cu,c,mg]
theorem Yl (l:Lay) (x:fU):Hl l x=(if x.lab=[] then some l else l.define x.lab l.pl).bind fun l=>Hg l x:=rfl
theorem zsN {l l':Lay} {n:List UInt8} {x:Int} (h:l.define n x=some l'):l'.pl=l.pl∧l'.ents=l.ents:=by
 unfold Lay.define at h
 split at h
 ·cases h
 ·cases h;exact ⟨rfl,rfl⟩
theorem zw6 [Sym] {st0 st:SS} {B b i:Nat} {vw ve vv:Value} {l:Lay} {its:List mV} (h:vK st0 st B b i vw ve vv l its) (x:Item) (hx:Rd st0 x.2.1 (ak au x.1.args) 3 x.1.args.length∧Rd st0 x.2.2 (ak fB x.1.fC) 5 x.1.fC.length)
  (ho:one x.2.1=true∧one x.2.2=true) (hpl:l.pl≤2048) (hn:l.ents.length≤100000) (hni:its.length≤100000) (hsz:x.1.args.length≤100000):
  match Hl l x.1 with
  | none=>∃ st',cc 43 [ptr b 0,.agg (dh x).toArray] st=some (.bool false,st')∧CG b i vw st st'
  | some l'=>∃ st' AY ve' AZ oP,cc 43 [ptr b 0,.agg (dh x).toArray] st=some (.bool true,st')∧vK st0 st' B b i AY ve' AZ l' oP∧oP.length≤its.length+1:=by
 have hlm:st.lim≤st.next:=by rw [h.ext.lim];have:=h.ll;have:=h.ext.next;omega
 have x1:Ext st (st.new (.cells (dh x) 0)):=(Ext.refl st).new _
 have a1:At (st.new (.cells (dh x) 0)) st.next (dh x):=At.new hlm _
 have l1:(st.new (.cells (dh x) 0)).ld st.next 1=some (.string (mkS x.1.lab)):=a1.ld
 have hlb:fA (mkS x.1.lab) ⟨#[]⟩=decide (x.1.lab=[]):=Ef _
 have h1:=h.then x1
 rw [Yl]
 by_cases c1:x.1.lab=[]
 ·rw [if_pos c1,bf]
  have e:RZ cc zey (ptr b 0) (.agg (dh x).toArray) st=JW (ptr b 0) st.next (st.new (.cells (dh x) 0)):=by
   simp only [RZ,lU,l1,bf,fP,hlb,zdt c1,lY,dn]
   rfl
  have hr:=ztq h1 x a1 hx ho hpl hn hni hsz
  cases hl:Hg l x.1 with
  | none=>
    rw [hl] at hr
    obtain ⟨st',c,hfr⟩:=hr
    exact ⟨st',UE _ _ st (e.trans c),(CG.ext x1).trans hfr⟩
  | some l'=>
    rw [hl] at hr
    obtain ⟨st',AY,ve',AZ,oP,c,r⟩:=hr
    exact ⟨st',AY,ve',AZ,oP,UE _ _ st (e.trans c),r⟩
 ·rw [if_neg c1]
  have lp:(st.new (.cells (dh x) 0)).ld b 0=some (.int .i64 l.pl):=h1.row.ld
  have hnl:fG (ptr b 0)=some (ptr b 0):=rfl
  have hdef:=h1.define x.1.lab l.pl
  cases hd:l.define x.1.lab l.pl with
  | none=>
    rw [hd] at hdef
    simp only at hdef
    refine ⟨_,UE _ _ st (r:=(.bool false,st.new (.cells (dh x) 0))) ?_,.ext x1⟩
    simp only [RZ,lU,l1,bf,fP,eP,hlb,bg c1,nJ,cu,hnl,fZ,lp,hdef,mg]
  | some l1'=>
    rw [hd] at hdef
    obtain ⟨s2,c2,m2,h2⟩:=hdef
    rw [bf]
    obtain ⟨e1,e2⟩:=zsN hd
    have a2:At s2 st.next (dh x):=a1.mod m2 (by have:=h.iB;have:=h.BN;simp;omega)
    have e:RZ cc zey (ptr b 0) (.agg (dh x).toArray) st=JW (ptr b 0) st.next s2:=by
     simp only [RZ,lU,l1,bf,fP,eP,hlb,bg c1,nJ,cu,hnl,fZ,lp,c2,mg,lY,dn]
     rfl
    have hr:=ztq h2 x a2 hx ho (by omega) (by rw [e2];exact hn) hni hsz
    cases hl:Hg l1' x.1 with
    | none=>
      rw [hl] at hr
      obtain ⟨st',c,hfr⟩:=hr
      exact ⟨st',UE _ _ st (e.trans c),((CG.ext x1).trans (.mod m2 (by simp))).trans hfr⟩
    | some l'=>
      rw [hl] at hr
      obtain ⟨st',AY,ve',AZ,oP,c,r⟩:=hr
      exact ⟨st',AY,ve',AZ,oP,UE _ _ st (e.trans c),r⟩
end Go.Proofs.YtifploedaacedaaGreatDoorE
namespace Go.Proofs.YtifploedaacedaaGreatDoorE
open Go Go.E Go.Proofs
def ZQ (v:Val):Prop:=0<v.col∧ -2147483648≤v.x∧v.x≤2147483647
def POk (p:Pr):Prop:=0<p.col∧ZQ p.v
structure pq (M:Nat) (x:fU):Prop where
 args:∀ v∈x.args,ZQ v
 fC:∀ p∈x.fC,POk p
 sa:x.args.length≤M
 sp:x.fC.length≤M
def JV (t:Tok):Prop:=vG t∧0<t.col
theorem zvU (k col:Nat) (l:List UInt8) (ts:List Tok) (h:zX k col l=.ok ts):∀ t∈ts,0<t.col:=by
 induction k generalizing col l ts with
 | zero=>cases h;intro t ht;cases ht
 | succ k ih=>
   unfold zX at h
   split at h
   ·cases h;intro t ht;cases ht
   ·exact ih _ _ _ h
   ·rename_i kd n x hs
    cases hx:zX k (col+n) (l.drop n) with
    | error e=>rw [hx] at h;cases h
    | ok us=>
      rw [hx] at h;cases h
      intro t ht
      rcases List.mem_cons.1 ht with rfl | ht
      ·exact Nat.succ_pos _
      ·exact ih _ _ _ hx t ht
   ·cases h
theorem zw7 {p:List UInt8} {ts:List Tok} (h:zJ p=.ok ts):∀ t∈ts,JV t:=fun t ht=>by
 refine ⟨(zou h).2 t ht,?_⟩
 unfold zJ at h
 split at h
 ·rename_i us hu
  cases h
  rcases List.mem_append.1 ht with ht | ht
  ·exact zvU _ _ _ _ hu t ht
  ·have:t=FI p:=by simpa using ht
   subst this
   exact Nat.succ_pos _
 ·cases h
theorem zqK {α:Type} {n:Nat} {l:List α} {x:α} (h:x∈l.drop n):x∈l:=List.mem_of_mem_drop h
theorem ztr {l:List Tok} (hl:∀ t∈l,JV t) {v:Val} {n:Nat} (h:DR l=.ok (v,n)):ZQ v:=by
 cases l with
 | nil=>cases h
 | cons t r=>
   rw [Uo] at h
   have ht:=hl t (by simp)
   have n0:=ht.1.VK
   have n1:=ht.1.VJ
   split at h
   ·cases h;exact ⟨ht.2,by show -2147483648≤t.nm;omega,by show t.nm≤2147483647;omega⟩
   ·split at h
    ·cases r with
     | nil=>cases h
     | cons s u=>
       simp only at h
       split at h
       ·cases u with
        | nil=>cases h
        | cons m w=>
          simp only at h
          have hm:=(hl m (by simp)).1
          have m0:=hm.VK
          have m1:=hm.VJ
          split at h
          ·cases h;exact ⟨ht.2,by show -2147483648≤m.nm;omega,by show m.nm≤2147483647;omega⟩
          ·cases h
       ·split at h
        ·cases u with
         | nil=>cases h
         | cons m w=>
           simp only at h
           have hm:=(hl m (by simp)).1
           have m0:=hm.VK
           have m1:=hm.VJ
           split at h
           ·cases h;exact ⟨ht.2,by show -2147483648≤ -m.nm;omega,by show -m.nm≤2147483647;omega⟩
           ·cases h
        ·cases h;exact ⟨ht.2,by show (-2147483648:Int)≤0;omega,by show (0:Int)≤2147483647;omega⟩
    ·cases h
theorem zx9 (k:Nat) (l:List Tok) (hl:∀ t∈l,JV t) (vs:List Val) (h:BP k l=.ok vs):(∀ v∈vs,ZQ v)∧vs.length≤k:=by
 induction k generalizing l vs with
 | zero=>cases h;exact ⟨fun v hv=>(by cases hv),fF _⟩
 | succ k ih=>
   cases l with
   | nil=>cases h;exact ⟨fun v hv=>(by cases hv),by simp⟩
   | cons t r=>
     unfold BP at h
     split at h
     ·cases h;exact ⟨fun v hv=>(by cases hv),by simp⟩
     ·cases hx:DR (t::r) with
      | error o=>rw [hx] at h;cases h
      | ok y=>
        obtain ⟨v,n⟩:=y
        rw [hx] at h
        simp only at h
        cases hy:BP k ((t::r).drop n) with
        | error o=>rw [hy] at h;cases h
        | ok us=>
          rw [hy] at h;cases h
          obtain ⟨h1,h2⟩:=ih _ (fun q hq=>hl q (zqK hq)) us hy
          refine ⟨fun w hw=>?_,by simp;omega⟩
          rcases List.mem_cons.1 hw with rfl | hw
          ·exact ztr hl hx
          ·exact h1 w hw
theorem zya {seen:List (List UInt8)} {l:List Tok} (hl:∀ t∈l,JV t) {p:Pr} {n:Nat} (h:pairT seen l=.ok (p,n)):POk p:=by
 cases l with
 | nil=>cases h
 | cons t r=>
   rw [YI] at h
   split at h
   ·cases r with
    | nil=>cases h
    | cons e u=>
      simp only at h
      split at h
      ·cases hx:DR u with
       | error o=>rw [hx] at h;cases h
       | ok y=>
         obtain ⟨v,m⟩:=y
         rw [hx] at h;cases h
         exact ⟨(hl t (by simp)).2,ztr (fun q hq=>hl q (by simp [hq])) hx⟩
      ·cases h
   ·cases h
theorem zw8 (k:Nat) (seen:List (List UInt8)) (l:List Tok) (hl:∀ t∈l,JV t) (ps:List Pr) (h:xJ k seen l=.ok ps):(∀ p∈ps,POk p)∧ps.length≤k:=by
 induction k generalizing seen l ps with
 | zero=>cases h;exact ⟨fun v hv=>(by cases hv),fF _⟩
 | succ k ih=>
   cases l with
   | nil=>cases h;exact ⟨fun v hv=>(by cases hv),by simp⟩
   | cons t r=>
     unfold xJ at h
     split at h
     ·cases h;exact ⟨fun v hv=>(by cases hv),by simp⟩
     ·cases hx:pairT seen (t::r) with
      | error o=>rw [hx] at h;cases h
      | ok y=>
        obtain ⟨p,n⟩:=y
        rw [hx] at h
        simp only at h
        cases hy:xJ k (seen++[p.fd]) ((t::r).drop n) with
        | error o=>rw [hy] at h;cases h
        | ok us=>
          rw [hy] at h;cases h
          obtain ⟨h1,h2⟩:=ih _ _ (fun q hq=>hl q (zqK hq)) us hy
          refine ⟨fun w hw=>?_,by simp;omega⟩
          rcases List.mem_cons.1 hw with rfl | hw
          ·exact zya hl hx
          ·exact h1 w hw
theorem zp8 {M:Nat} (lab:List UInt8) (l:List Tok) (hl:∀ t∈l,JV t) (hM:l.length≤M) (x:fU) (h:Bl lab l=.ok x):pq M x:=by
 cases l with
 | nil=>cases h
 | cons t r=>
   rw [OA] at h
   split at h
   ·cases r with
    | nil=>cases h
    | cons d u=>
      simp only at h
      split at h
      ·cases hx:BP u.length u with
       | error o=>rw [hx] at h;cases h
       | ok vs=>
         rw [hx] at h;cases h
         obtain ⟨h1,h2⟩:=zx9 _ _ (fun q hq=>hl q (by simp [hq])) vs hx
         simp only [List.length_cons] at hM
         exact ⟨h1,fun p hp=>(by cases hp),by show vs.length≤M;omega,by simp⟩
      ·cases h
   ·cases hx:xJ (t::r).length [] (t::r) with
    | error o=>rw [hx] at h;cases h
    | ok ps=>
      rw [hx] at h;cases h
      obtain ⟨h1,h2⟩:=zw8 _ _ _ hl ps hx
      exact ⟨fun p hp=>(by cases hp),h1,by simp,by show ps.length≤M;omega⟩
theorem zyb {M:Nat} (l:List Tok) (hl:∀ t∈l,JV t) (hM:l.length≤M) (x:fU) (h:oG l=.ok x):pq M x:=by
 unfold oG at h
 split at h
 ·rename_i t s r
  split at h
  ·split at h
   ·cases h
   ·rename_i y hy
    cases h
    simp only [List.length_cons] at hM
    exact zp8 _ _ (fun q hq=>hl q (by simp [hq])) (by omega) _ hy
  ·exact zp8 _ _ hl hM _ h
 ·exact zp8 _ _ hl hM _ h
theorem zvV {M:Nat} (oV:List (List Tok)) (i:Nat) (hl:∀ ts∈oV,(∀ t∈ts,JV t)∧ts.length≤M) (xs:List fU) (h:Bq i oV=.ok xs):(∀ x∈xs,pq M x∧0<x.ln)∧xs.length≤oV.length:=by
 induction oV generalizing i xs with
 | nil=>cases h;exact ⟨fun v hv=>(by cases hv),fF _⟩
 | cons ts r ih=>
   unfold Bq at h
   cases hx:oG ts with
   | error o=>rw [hx] at h;cases h
   | ok x=>
     rw [hx] at h
     simp only at h
     cases hy:Bq (i+1) r with
     | error e=>rw [hy] at h;cases h
     | ok ys=>
       rw [hy] at h;cases h
       obtain ⟨h1,h2⟩:=ih (i+1) (fun q hq=>hl q (by simp [hq])) ys hy
       obtain ⟨g1,g2⟩:=hl ts (by simp)
       have hv:=zyb ts g1 g2 x hx
       split
       ·refine ⟨fun w hw=>?_,by simp;omega⟩
        rcases List.mem_cons.1 hw with rfl | hw
        ·exact ⟨⟨hv.args,hv.fC,hv.sa,hv.sp⟩,Nat.succ_pos _⟩
        ·exact h1 w hw
       ·exact ⟨h1,by simp;omega⟩
theorem zyc (ps:List (List UInt8)) (M i:Nat) (hM:∀ p∈ps,p.length+1≤M) (oV:List (List Tok)) (h:zZ i ps=.ok oV):∀ ts∈oV,(∀ t∈ts,JV t)∧ts.length≤M:=by
 induction ps generalizing i oV with
 | nil=>cases h;intro ts hts;cases hts
 | cons p r ih=>
   unfold zZ at h
   cases hx:zJ p with
   | error c=>rw [hx] at h;cases h
   | ok ts=>
     rw [hx] at h
     cases hy:zZ (i+1) r with
     | error e=>rw [hy] at h;cases h
     | ok us=>
       rw [hy] at h;cases h
       intro ts' ht
       rcases List.mem_cons.1 ht with rfl | ht
       ·exact ⟨zw7 hx,lT (zm2 p _ hx) (hM p (by simp))⟩
       ·exact ih _ (fun q hq=>hM q (by simp [hq])) _ hy ts' ht
theorem XO {l:List UInt8} {xs:List fU} (h:Ec l=.ok xs):(∀ x∈xs,pq (l.length+1) x∧0<x.ln)∧xs.length≤l.length+1:=by
 unfold Ec at h
 cases hy:zZ 0 (pieces 10 l) with
 | error e=>rw [hy] at h;cases h
 | ok oV=>
   rw [hy] at h
   obtain ⟨h1,h2⟩:=zvV oV 0 (zyc _ (l.length+1) _ (fun p hp=>by have:=Ur 10 l p hp;omega) oV hy) xs h
   exact ⟨h1,lT h2 (by rw [zvJ _ _ _ hy];exact pieces_len 10 l)⟩
def AP (l:Lay):List fU→Except (Nat×Nat) Lay
 | []=>.ok l
 | x::r=>match Hl l x with
   | none=>.error (x.ln,1)
   | some l'=>AP l' r
def zY:Lay:=⟨0,[],[],[]⟩
structure nH (M:Nat) (l:Lay):Prop where
 pl:l.pl≤2048
 nms:BL l.nms
 ris:l.ni.Pairwise fun a b=>a.1<b.1
 lt:∀ x∈l.ni,x.1<l.pl
 fC:∀ x∈l.ni,pq M x.2∧x.2.fC≠[]∧0<x.2.ln
 ent:∀ e∈l.ents,e.1.nm≠[]∧0<e.2.1∧0<e.2.2
theorem Rt (M:Nat):nH M zY:=⟨by decide,fun x hx=>(by cases hx),List.Pairwise.nil,fun x hx=>(by cases hx),fun x hx=>(by cases hx),fun x hx=>(by cases hx)⟩
theorem Lay.vI {M:Nat} {l l':Lay} (h:nH M l) {n:List UInt8} {x:Int} (hx: -4294967296≤x∧x≤4294967296) (hd:l.define n x=some l'):nH M l'∧l'.pl=l.pl∧l'.ents=l.ents∧l'.ni=l.ni:=by
 unfold Lay.define at hd
 split at hd
 ·cases hd
 ·cases hd
  refine ⟨{ h with nms:=fun y hy=>?_ },rfl,rfl,rfl⟩
  rcases List.mem_append.1 hy with hy | hy
  ·exact h.nms y hy
  ·have:y=(n,x):=by simpa using hy
   subst this
   exact hx
theorem nH.place {M:Nat} {l:Lay} (h:nH M l) {p:Nat} (h1:l.pl≤p) (h2:p≤2048):nH M { l with pl:=p }:={ h with pl:=h2,lt:=fun x hx=>pz (h.lt x hx) h1 }
theorem zsa {p n:Nat} (hn:1≤n):p≤(p+n-1)/n*n:=by
 have h1:=Nat.div_add_mod (p+n-1) n
 have h2:=Nat.mod_lt (p+n-1) (show 0<n by omega)
 have h3:n*((p+n-1)/n)=(p+n-1)/n*n:=Nat.mul_comm _ _
 omega
theorem zyd {M:Nat} {l l':Lay} (h:nH M l) {x:fU} (hx:pq M x) (h0:0<x.ln) (hd:sJ l x=some l'):nH M l'∧l'.ents.length≤l.ents.length+1:=by
 unfold sJ at hd
 cases ha:x.args with
 | nil=>rw [ha] at hd;cases hd
 | cons v r=>
   rw [ha] at hd
   simp only at hd
   have hv:=hx.args v (by rw [ha];simp)
   split at hd
   ·split at hd
    ·rename_i hc
     cases hd
     exact ⟨h.place (by omega) (by omega),by simp⟩
    ·cases hd
   ·split at hd
    ·split at hd
     ·rename_i hc
      cases hd
      exact ⟨h.place (zsa (by omega)) hc.2.2.2.2,by simp⟩
     ·cases hd
    ·split at hd
     ·split at hd
      ·rename_i y
       split at hd
       ·have hy:=hx.args y (by rw [ha];simp)
        obtain ⟨g1,g2,g3,g4⟩:=Lay.vI h (by have:=hy.2;omega) hd
        exact ⟨g1,by rw [g3];omega⟩
       ·cases hd
      ·cases hd
     ·split at hd
      ·split at hd
       ·rename_i hc
        cases hd
        refine ⟨{ h with ent:=fun e he=>?_ },by simp⟩
        rcases List.mem_append.1 he with he | he
        ·exact h.ent e he
        ·have:e=(v,x.ln,v.col):=by simpa using he
         subst this
         exact ⟨hc.1,h0,hv.1⟩
       ·cases hd
      ·cases hd
theorem zox {M:Nat} {l l':Lay} (h:nH M l) {x:fU} (hx:pq M x) (h0:0<x.ln) (hd:Hl l x=some l'):nH M l'∧l'.ents.length≤l.ents.length+1:=by
 rw [Yl] at hd
 have hlab:∃ l1,(if x.lab=[] then some l else l.define x.lab l.pl)=some l1∧nH M l1∧l1.ents=l.ents∧Hg l1 x=some l':=by
  cases hc:(if x.lab=[] then some l else l.define x.lab l.pl) with
  | none=>rw [hc] at hd;cases hd
  | some l1=>
    rw [hc] at hd
    refine ⟨l1,rfl,?_⟩
    split at hc
    ·cases hc;exact ⟨h,rfl,hd⟩
    ·have:=h.pl
     obtain ⟨g1,g2,g3,g4⟩:=Lay.vI h (by omega) hc
     exact ⟨g1,g3,hd⟩
 obtain ⟨l1,_,h1,h2,h3⟩:=hlab
 rw [← h2]
 unfold Hg at h3
 split at h3
 ·exact zyd h1 hx h0 h3
 ·split at h3
  ·cases h3;exact ⟨h1,by omega⟩
  ·split at h3
   ·rename_i hp hpl
    cases h3
    refine ⟨⟨hpl,h1.nms,?_,fun y hy=>?_,fun y hy=>?_,h1.ent⟩,by simp⟩
    ·show List.Pairwise _ (l1.ni++[(l1.pl,x)])
     rw [List.pairwise_append]
     refine ⟨h1.ris,List.pairwise_singleton _ _,fun a ha b hb=>?_⟩
     have:b=(l1.pl,x):=by simpa using hb
     subst this
     exact h1.lt a ha
    ·show y.1<l1.pl+1
     rcases List.mem_append.1 hy with hy | hy
     ·have:=h1.lt y hy;omega
     ·have:y=(l1.pl,x):=by simpa using hy
      subst this
      exact Nat.lt_succ_self _
    ·rcases List.mem_append.1 hy with hy | hy
     ·exact h1.fC y hy
     ·have:y=(l1.pl,x):=by simpa using hy
      subst this
      exact ⟨hx,hp,h0⟩
   ·cases h3
theorem XM {M:Nat} (xs:List fU) (l l':Lay) (h:nH M l) (hx:∀ x∈xs,pq M x∧0<x.ln) (hd:AP l xs=.ok l'):nH M l'∧l'.ents.length≤l.ents.length+xs.length:=by
 induction xs generalizing l with
 | nil=>cases hd;exact ⟨h,by simp⟩
 | cons x r ih=>
   unfold AP at hd
   cases hc:Hl l x with
   | none=>rw [hc] at hd;cases hd
   | some l1=>
     rw [hc] at hd
     obtain ⟨g1,g2⟩:=zox h (hx x (by simp)).1 (hx x (by simp)).2 hc
     obtain ⟨g3,g4⟩:=ih l1 g1 (fun y hy=>hx y (by simp [hy])) hd
     exact ⟨g3,by simp;omega⟩
theorem nH.FZ {M:Nat} {l:Lay} (h:nH M l):l.ni.length≤l.pl:=by
 have key:∀ (w:List (Nat×fU)) (a p:Nat),a≤p→w.Pairwise (fun a b=>a.1<b.1)→(∀ x∈w,a≤x.1∧x.1<p)→w.length+a≤p:=by
  intro w
  induction w with
  | nil=>intro a p h _ _;simpa using h
  | cons x r ih=>
    intro a p h h1 h2
    rw [List.pairwise_cons] at h1
    have hx:=h2 x (by simp)
    have:=ih (x.1+1) p (by omega) h1.2 fun y hy=>⟨h1.1 y hy,(h2 y (by simp [hy])).2⟩
    simp only [List.length_cons]
    omega
 have:=key l.ni 0 l.pl (Nat.zero_le _) h.ris fun x hx=>⟨Nat.zero_le _,h.lt x hx⟩
 omega
def sizeT (l:Lay):Nat:=match l.ni.getLast? with | none=>0 | some x=>x.1+1
def AV (nms:vJ) (N:Nat):List (Nat×fU)→List Wd→Except (Nat×Nat) (List Wd)
 | [],ws=>.ok ws
 | x::r,ws=>if (ng nms ny x.2.fC).2≠0 then .error (x.2.ln,(ng nms ny x.2.fC).2)
   else if ((zK ((ng nms ny x.2.fC).1.getD 8 0) ((ng nms ny x.2.fC).1.getD 10 0) x.1).any fun t=>decide ((N:Int)<t.1+t.2))=true then .error (x.2.ln,((x.2.fC.head?).map (·.col)).getD 0)
   else AV nms N r (ws.set x.1 (ng nms ny x.2.fC).1)
def Bj (nms:vJ) (N:Nat):List (Val×Nat×Nat)→Except (Nat×Nat) (List (List UInt8×Int))
 | []=>.ok []
 | e::r=>match xu nms e.1.nm with
   | none=>.error e.2
   | some x=>if x<0∨(N:Int)≤x then .error e.2 else match Bj nms N r with
     | .error z=>.error z
     | .ok es=>.ok ((e.1.nm,x)::es)
def DL (l:Lay):Except (Nat×Nat) (List Wd×List (List UInt8×Int)):=match AV l.nms (sizeT l) l.ni (List.replicate (sizeT l) ny) with
 | .error z=>.error z
 | .ok ws=>match Bj l.nms (sizeT l) l.ents with
   | .error z=>.error z
   | .ok es=>.ok (ws,es)
def EM (t:List UInt8):Except (Nat×Nat) (List Wd×List (List UInt8×Int)):=match Ec t with
 | .error z=>.error z
 | .ok xs=>match AP zY xs with
   | .error z=>.error z
   | .ok l=>DL l
theorem TT {M:Nat} {l:Lay} (h:nH M l):(∀ x∈l.ni,x.1<sizeT l)∧sizeT l≤2048:=by
 unfold sizeT
 cases hg:l.ni.getLast? with
 | none=>
   have:l.ni=[]:=List.getLast?_eq_none_iff.1 hg
   rw [this]
   exact ⟨fun x hx=>(by cases hx),by simp⟩
 | some y=>
   obtain ⟨w,hw⟩:=List.getLast?_eq_some_iff.1 hg
   have hris:=h.ris
   rw [hw,List.pairwise_append] at hris
   have hy:=h.lt y (by rw [hw];simp)
   have hp:=h.pl
   refine ⟨fun x hx=>?_,by simp only;omega⟩
   rw [hw] at hx
   simp only
   rcases List.mem_append.1 hx with hx | hx
   ·have:=hris.2.2 x hx y (by simp);omega
   ·have:x=y:=by simpa using hx
    subst this
    omega
def LU (w:Wd):Prop:=w.length=12∧CP w=true
theorem zqL {w:Wd}:CP w=true↔∀ k,k<12→fitsT (w.getD k 0) (oh k)=true:=by
 unfold CP
 rw [List.all_eq_true]
 exact ⟨fun h k hk=>h k (List.mem_range.2 hk),fun h k hk=>h k (List.mem_range.1 hk)⟩
theorem zvW {w:Wd} (hw:w.length=12) (hg:CP w=true) (f:List UInt8) (x:Int) (h:(pI w f x).2=0):CP (pI w f x).1=true:=by
 rw [zqL] at hg ⊢
 intro k hk
 unfold pI at h ⊢
 cases hf:CQ f with
 | none=>rw [hf] at h;cases h
 | some i=>
   rw [hf] at h
   simp only at h
   obtain ⟨_,_,_,hi⟩:=TW hf
   show fitsT ((if fitsT x (oh i)=true then (w.set i x,(0:Int)) else (w,1)).1.getD k 0) _=true
   by_cases hfit:fitsT x (oh i)=true
   ·rw [if_pos hfit]
    by_cases hki:k=i
    ·subst hki
     rw [List.getD_eq_getElem?_getD,List.getElem?_set_self (by omega)]
     exact hfit
    ·rw [List.getD_eq_getElem?_getD,List.getElem?_set_ne (fun e=>hki e.symm),← List.getD_eq_getElem?_getD]
     exact hg k hk
   ·rw [if_neg hfit] at h
    cases h
theorem zvX (nms:vJ) (fC:List Pr) (w:Wd) (hw:w.length=12) (hg:CP w=true):CP (ng nms w fC).1=true:=by
 induction fC generalizing w with
 | nil=>exact hg
 | cons p r ih=>
   unfold ng
   split
   ·exact hg
   ·split
    ·exact hg
    ·split
     ·rename_i h;exact ih _ (by rw [EX,hw]) (zvW hw hg _ _ h)
     ·exact hg
theorem zsb:LU ny:=⟨rfl,by decide+kernel⟩
theorem zp9 (nms:vJ) (fC:List Pr):LU (ng nms ny fC).1:=⟨by rw [Ym];rfl,zvX nms fC ny rfl zsb.2⟩
end Go.Proofs.YtifploedaacedaaGreatDoorE
namespace Go.Proofs.YtifploedaacedaaGreatDoorE
open Go Go.E Go.Proofs
structure OL where
 v:Value
 c:List Value
 z:Nat
 n:Nat
structure oK (B:Nat) (st:SS) (L:List OL):Prop where
 own:∀ (k:Nat) o,L[k]?=some o→Own B st o.v o.c o.z o.n
 ZI:∀ (k m:Nat) a b j,L[k]?=some a→L[m]?=some b→nT a.v=some j→nT b.v=some j→k=m
section
variable {B : Nat} {st st' : SS} {L : List OL}
theorem oK.ext (h:oK B st L) (x:Ext st st'):oK B st' L:=⟨fun k o e=>(h.own k o e).ext x,h.ZI⟩
theorem oK.lq {S:List Nat} (h:oK B st L) (m:Mod S st st') (hS:∀ j,j∈S→j<B):oK B st' L:=⟨fun k o e=>(h.own k o e).lq m hS,h.ZI⟩
theorem oK.push (h:oK B st L) {k:Nat} {v:Value} {c row:List Value} {z n bt:Nat} (hk:L[k]?=some ⟨v,c,z,n⟩) (hb:B≤st.next) (hl:st.lim≤B) (hr:row.length=z) (hz:0<z) (h1:row.all one=true) (hs:(n+2)*bt≤2^44) (hn:n+1≤2^44):
  ∃ j s',(st.new (.cells row z)).app z bt v (.slice (some ⟨st.next,0,none⟩) 1 1)=some (.slice (some ⟨j,0,none⟩) (n+1) (n+1),s')∧oK B s' (L.set k ⟨.slice (some ⟨j,0,none⟩) (n+1) (n+1),c++row,z,n+1⟩)∧Keep B [] st s':=by
 obtain ⟨j,s',g1,g2,g3,g4,g5,g6⟩:=TU (row:=row) (bt:=bt) (h.own k _ hk) hb hl hr hz h1 hs hn
 have hlt:k<L.length:=(List.getElem?_eq_some_iff.1 hk).1
 have hget:∀ m o,(L.set k ⟨.slice (some ⟨j,0,none⟩) (n+1) (n+1),c++row,z,n+1⟩)[m]?=some o→(m=k∧o=⟨.slice (some ⟨j,0,none⟩) (n+1) (n+1),c++row,z,n+1⟩)∨(m≠k∧L[m]?=some o):=fun m o ho=>by
  by_cases hm:m=k
  ·subst hm
   rw [List.getElem?_set_self hlt] at ho
   cases ho;exact .inl ⟨rfl,rfl⟩
  ·rw [List.getElem?_set_ne (fun e=>hm e.symm)] at ho
   exact .inr ⟨hm,ho⟩
 refine ⟨j,s',g1,⟨fun m o ho=>?_,fun m1 m2 a b q h1 h2 q1 q2=>?_⟩,⟨g5,g4,fun i hi _=>g6 i (by omega) fun e=>by have:=(CZ (h.own k _ hk) e).1;omega⟩⟩
 ·rcases hget m o ho with ⟨_,rfl⟩ | ⟨hm,ho⟩
  ·exact g3
  ·exact Oi (h.own m o ho) g5 fun i hi e=>g6 i hi fun e'=>hm (h.ZI m k _ _ i ho hk e e')
 ·rcases hget m1 a h1 with ⟨e1,rfl⟩ | ⟨e1,h1⟩<;>rcases hget m2 b h2 with ⟨e2,rfl⟩ | ⟨e2,h2⟩
  ·rw [e1,e2]
  ·cases q1
   have:=(CZ (h.own m2 _ h2) q2).2
   omega
  ·cases q2
   have:=(CZ (h.own m1 _ h1) q1).2
   omega
  ·exact h.ZI m1 m2 a b q h1 h2 q1 q2
end
end Go.Proofs.YtifploedaacedaaGreatDoorE
namespace Go.Proofs.YtifploedaacedaaGreatDoorE
set_option maxRecDepth 20000
open Go Go.E Go.Proofs
def zg4:eu:=⟨[(0,.any),(2,.any),(3,.any),(4,.any),(103,.any),(104,.int .i64),(105,.int .i64)],[(.exit 4,[(2,.any),(3,.any),(4,.any)]),(.ret,[(2,.any),(3,.any)])]⟩
def zg5:eu:=⟨[(0,.any),(2,.any),(3,.any),(4,.any),(7,.any),(8,.any),(38,.any),(39,.int .i64),(40,.int .i64),(62,.any),(63,.int .i64),(64,.int .i64)],[(.exit 2,[(0,.any),(2,.any),(3,.any),(4,.any),(7,.any),(8,.any),(38,.any),(39,.int .i64),(40,.int .i64)]),(.ret,[(2,.any),(3,.any)])]⟩
def zhD:eu:=⟨[(0,.any),(2,.any),(3,.any),(4,.any),(38,.any),(39,.int .i64),(40,.int .i64)],[(.exit 0,[(0,.any),(2,.any),(3,.any),(4,.any)]),(.ret,[(2,.any),(3,.any)])]⟩
def zhP (n:Nat):Option eu:=cond (Nat.beq n 6) (some zhD) (cond (Nat.beq n 12) (some zg5) (cond (Nat.beq n 20) (some zg4) (none)))
noncomputable def UC (cf:fQ) (lf:eX) (b':Value) (st:SS):Option (Value×SS):=
 let a:SS:=st.new (.cells [.slice none 0 0,.slice none 0 0] 0)
 let b:SS:=a.new (.cells [.int .i64 0,.int .i64 0] 0)
 let c:SS:=b.new (.cells [.slice none 0 0,.slice none 0 0] 0)
 (fG b').bind fun d=>
 (aj d).bind fun e=>
 (c.ld e.1 (e.2+2)).bind fun f=>
 ((lenV f).bind (ay .i64)).bind fun g=>
 cond (decide (0<g)) (
 (fG b').bind fun h=>
 (aj h).bind fun i=>
 (c.ld i.1 (i.2+2)).bind fun j=>
 let k:Int:=IntKind.wrap .i64 (g-1)
 (fK j k 6).bind fun l=>
 ((c.ld l.1 l.2).bind (ay .i64)).bind fun m=>
 let n:Int:=IntKind.wrap .i64 (m+1)
 (EO n n 8).bind fun _=>
 let o:SS:=c.new (.cells (EU [.int .u64 0] n) 1)
 (o.st b.next 0 [.slice (some ⟨c.next,0,none⟩) ((n:Int).toNat) ((n:Int).toNat)]).bind fun p=>
 (fG b').bind fun q=>
 (aj q).bind fun r=>
 (p.ld r.1 (r.2+2)).bind fun s=>
 ((lenV s).bind (ay .i64)).bind fun t=>
 (lf 6 [b',ptr st.next 0,ptr a.next 0,ptr b.next 0,s,.int .i64 t,.int .i64 0] p).bind fun u=>
 cond (Nat.beq u.1 0) (
 (u.2.1[0]?).bind fun v=>
 (u.2.1[1]?).bind fun w=>
 (u.2.1[2]?).bind fun x=>
 (u.2.1[3]?).bind fun y=>
 (fG v).bind fun z=>
 (aj z).bind fun A=>
 (u.2.2.ld A.1 (A.2+4)).bind fun B=>
 ((lenV B).bind (ay .i64)).bind fun C=>
 (lf 20 [v,w,x,y,B,.int .i64 C,.int .i64 0] u.2.2).bind fun D=>
 cond (Nat.beq D.1 0) (
 (D.2.1[0]?).bind fun E=>
 (D.2.1[1]?).bind fun F=>
 (D.2.1[2]?).bind fun G=>
 (aj G).bind fun H=>
 (D.2.2.eF H.1 H.2 2).bind fun I=>
 (aj E).bind fun J=>
 (D.2.2.eH J.1 J.2 2 I).bind fun K=>
 (aj F).bind fun L=>
 (K.st L.1 L.2 [.int .i64 0,.int .i64 0]).bind fun M=>
 (aj E).bind fun N=>
 (M.fH N.1 N.2 2).bind fun O=>
 (aj F).bind fun P=>
 (M.fH P.1 P.2 2).bind fun Q=>
 some (.tuple #[O,Q],M)) (
 (D.2.1[0]?).bind fun R=>
 (D.2.1[1]?).bind fun S=>
 (aj R).bind fun T=>
 (D.2.2.fH T.1 T.2 2).bind fun U=>
 (aj S).bind fun V=>
 (D.2.2.fH V.1 V.2 2).bind fun W=>
 some (.tuple #[U,W],D.2.2))) (
 (u.2.1[0]?).bind fun X=>
 (u.2.1[1]?).bind fun Y=>
 (aj X).bind fun Z=>
 (u.2.2.fH Z.1 Z.2 2).bind fun aA=>
 (aj Y).bind fun aB=>
 (u.2.2.fH aB.1 aB.2 2).bind fun aC=>
 some (.tuple #[aA,aC],u.2.2))) (
 (fG b').bind fun aD=>
 (aj aD).bind fun aE=>
 (c.ld aE.1 (aE.2+2)).bind fun aF=>
 ((lenV aF).bind (ay .i64)).bind fun aG=>
 (lf 6 [b',ptr st.next 0,ptr a.next 0,ptr b.next 0,aF,.int .i64 aG,.int .i64 0] c).bind fun aH=>
 cond (Nat.beq aH.1 0) (
 (aH.2.1[0]?).bind fun aI=>
 (aH.2.1[1]?).bind fun aJ=>
 (aH.2.1[2]?).bind fun aK=>
 (aH.2.1[3]?).bind fun aL=>
 (fG aI).bind fun aM=>
 (aj aM).bind fun aN=>
 (aH.2.2.ld aN.1 (aN.2+4)).bind fun aO=>
 ((lenV aO).bind (ay .i64)).bind fun aP=>
 (lf 20 [aI,aJ,aK,aL,aO,.int .i64 aP,.int .i64 0] aH.2.2).bind fun aQ=>
 cond (Nat.beq aQ.1 0) (
 (aQ.2.1[0]?).bind fun aR=>
 (aQ.2.1[1]?).bind fun aS=>
 (aQ.2.1[2]?).bind fun aT=>
 (aj aT).bind fun aU=>
 (aQ.2.2.eF aU.1 aU.2 2).bind fun aV=>
 (aj aR).bind fun aW=>
 (aQ.2.2.eH aW.1 aW.2 2 aV).bind fun aX=>
 (aj aS).bind fun aY=>
 (aX.st aY.1 aY.2 [.int .i64 0,.int .i64 0]).bind fun aZ=>
 (aj aR).bind fun bA=>
 (aZ.fH bA.1 bA.2 2).bind fun bB=>
 (aj aS).bind fun bC=>
 (aZ.fH bC.1 bC.2 2).bind fun bD=>
 some (.tuple #[bB,bD],aZ)) (
 (aQ.2.1[0]?).bind fun bE=>
 (aQ.2.1[1]?).bind fun bF=>
 (aj bE).bind fun bG=>
 (aQ.2.2.fH bG.1 bG.2 2).bind fun bH=>
 (aj bF).bind fun bI=>
 (aQ.2.2.fH bI.1 bI.2 2).bind fun bJ=>
 some (.tuple #[bH,bJ],aQ.2.2))) (
 (aH.2.1[0]?).bind fun bK=>
 (aH.2.1[1]?).bind fun bL=>
 (aj bK).bind fun bM=>
 (aH.2.2.fH bM.1 bM.2 2).bind fun bN=>
 (aj bL).bind fun bO=>
 (aH.2.2.fH bO.1 bO.2 2).bind fun bP=>
 some (.tuple #[bN,bP],aH.2.2)))
noncomputable abbrev zo:eX:=lS Tryz.prog Lk0 Tryz.f44 zhP
theorem zmv:Lk0.func 44=some (44,Tryz.f44):=by kernel_rfl
theorem YZ [Sym] (b':Value) (st:SS) {r:Value×SS} (h:UC cc zo b' st=some r):cc 44 [b'] st=some r:=
 mF (li:=zhP) gu gy zmv rfl (fun _=>rfl) (.trans (by kernel_rfl) h)
noncomputable def UK (cf:fQ) (lf:eX) (b':Value) (t2':Value) (nC:Value) (r':Value) (tH:Value) (rZ:Int) (zQ:Int) (st:SS):Option (Nat×List Value×SS):=
 cond (decide (zQ<rZ)) (
 (fK tH zQ 6).bind fun a=>
 (st.eF a.1 a.2 6).bind fun b=>
 let c:SS:=st.new (.cells [.int .i64 0,.int .i64 0,.string ⟨#[]⟩,.string ⟨#[]⟩,.slice none 0 0,.slice none 0 0] 0)
 (c.eH st.next 0 6 b).bind fun d=>
 (d.eF st.next 1 5).bind fun e=>
 (cf 72 [b',e] d).bind fun f=>
 (fM f.1 0).bind fun g=>
 ((fM f.1 1).bind (ay .i64)).bind fun h=>
 let i:SS:=f.2.new (.cells [.int .i64 0,.int .i64 0,.int .i64 0,.int .i64 0,.int .i64 0,.int .i64 0,.int .i64 0,.int .i64 0,.int .i64 0,.int .i64 0,.int .i64 0,.int .i64 0] 0)
 (i.eH f.2.next 0 12 g).bind fun j=>
 cond (decide (0<h)) (
 ((j.ld st.next 1).bind (ay .i64)).bind fun k=>
 cond (vH (ptr st.next 1) t2') (
 (aj t2').bind fun l=>
 (j.st l.1 l.2 [.slice none 0 0,.slice none 0 0]).bind fun m=>
 (aj nC).bind fun n=>
 (m.st n.1 n.2 [.int .i64 k,.int .i64 h]).bind fun o=>
 some (1,[t2',nC],o)) (
 none)) (
 (j.eF f.2.next 0 12).bind fun p=>
 ((j.ld st.next 0).bind (ay .i64)).bind fun q=>
 (cf 62 [p,.int .i64 q] j).bind fun r=>
 ((lenV r.1).bind (ay .i64)).bind fun s=>
 (lf 12 [b',t2',nC,r',ptr st.next 0,ptr f.2.next 0,tH,.int .i64 rZ,.int .i64 zQ,r.1,.int .i64 s,.int .i64 0] r.2).bind fun t=>
 cond (Nat.beq t.1 0) (
 (t.2.1[0]?).bind fun u=>
 (t.2.1[1]?).bind fun v=>
 (t.2.1[2]?).bind fun w=>
 (t.2.1[3]?).bind fun x=>
 (t.2.1[4]?).bind fun y=>
 (t.2.1[5]?).bind fun z=>
 (t.2.1[6]?).bind fun A=>
 ((t.2.1[7]?).bind (ay .i64)).bind fun B=>
 ((t.2.1[8]?).bind (ay .i64)).bind fun C=>
 (aj x).bind fun D=>
 (t.2.2.ld D.1 D.2).bind fun E=>
 (aj y).bind fun F=>
 ((t.2.2.ld F.1 F.2).bind (ay .i64)).bind fun G=>
 (aj z).bind fun H=>
 (t.2.2.eF H.1 H.2 12).bind fun I=>
 (cf 73 [I] (t.2.2.ro t.2.2.next)).bind fun J=>
 ((fM J.1 0).bind (ay .u64)).bind fun K=>
 ((fM J.1 1).bind (ay .i64)).bind fun L=>
 (fK E G 1).bind fun M=>
 ((J.2.ro t.2.2.lim).st M.1 M.2 [.int .u64 K]).bind fun N=>
 let O:Int:=IntKind.wrap .i64 (C+1)
 lf 6 [u,v,w,x,A,.int .i64 B,.int .i64 O] N) (
 (t.2.1[0]?).bind fun P=>
 (t.2.1[1]?).bind fun Q=>
 some (1,[P,Q],t.2.2)))) (
 some (0,[b',t2',nC,r'],st))
theorem Zg [Sym] (b':Value) (t2':Value) (nC:Value) (r':Value) (tH:Value) (rZ:Int) (zQ:Int) (st:SS) {r:Nat×List Value×SS} (h:UK cc zo b' t2' nC r' tH rZ zQ st=some r):zo 6 [b',t2',nC,r',tH,.int .i64 rZ,.int .i64 zQ] st=some r:=
 oM gu gy (key:=6) (I:=zhD) rfl (by kernel_rfl) (by kernel_rfl) rfl rfl (.trans (by kernel_rfl) h)
noncomputable def Y4 (cf:fQ) (lf:eX) (b':Value) (t2':Value) (nC:Value) (r':Value) (x':Value) (w':Value) (tH:Value) (rZ:Int) (zQ:Int) (Ic:Value) (Ib:Int) (Gf:Int) (st:SS):Option (Nat×List Value×SS):=
 cond (decide (Gf<Ib)) (
 (fK Ic Gf 2).bind fun a=>
 (st.eF a.1 a.2 2).bind fun b=>
 let c:SS:=st.new (.cells [.int .i64 0,.int .i64 0] 0)
 (c.eH st.next 0 2 b).bind fun d=>
 (sQ (ptr st.next 0) 2 0 1).bind fun e=>
 ((d.ld e.1 e.2).bind (ay .i64)).bind fun f=>
 (sQ (ptr st.next 0) 2 1 1).bind fun g=>
 ((d.ld g.1 g.2).bind (ay .i64)).bind fun h=>
 let i:Int:=IntKind.wrap .i64 (f+h)
 (aj r').bind fun j=>
 (d.ld j.1 j.2).bind fun k=>
 ((lenV k).bind (ay .i64)).bind fun l=>
 cond (decide (l<i)) (
 (aj x').bind fun m=>
 ((d.ld m.1 (m.2+1)).bind (ay .i64)).bind fun n=>
 (aj x').bind fun o=>
 (d.ld o.1 (o.2+1+4)).bind fun p=>
 (fK p 0 5).bind fun q=>
 ((d.ld q.1 (q.2+1)).bind (ay .i64)).bind fun r=>
 cond (vH (ptr m.1 (m.2+1)) t2') (
 cond (vH (ptr o.1 (o.2+1+4)) t2') (
 cond (vH (ptr q.1 (q.2+1)) t2') (
 (aj t2').bind fun s=>
 (d.st s.1 s.2 [.slice none 0 0,.slice none 0 0]).bind fun t=>
 (aj nC).bind fun u=>
 (t.st u.1 u.2 [.int .i64 n,.int .i64 r]).bind fun v=>
 some (1,[t2',nC],v)) (
 none)) (
 none)) (
 none)) (
 let w:Int:=IntKind.wrap .i64 (Gf+1)
 lf 12 [b',t2',nC,r',x',w',tH,.int .i64 rZ,.int .i64 zQ,Ic,.int .i64 Ib,.int .i64 w] d)) (
 some (0,[b',t2',nC,r',x',w',tH,.int .i64 rZ,.int .i64 zQ],st))
theorem zdY [Sym] (b':Value) (t2':Value) (nC:Value) (r':Value) (x':Value) (w':Value) (tH:Value) (rZ:Int) (zQ:Int) (Ic:Value) (Ib:Int) (Gf:Int) (st:SS) {r:Nat×List Value×SS} (h:Y4 cc zo b' t2' nC r' x' w' tH rZ zQ Ic Ib Gf st=some r):zo 12 [b',t2',nC,r',x',w',tH,.int .i64 rZ,.int .i64 zQ,Ic,.int .i64 Ib,.int .i64 Gf] st=some r:=
 oM gu gy (key:=12) (I:=zg5) rfl (by kernel_rfl) (by kernel_rfl) rfl rfl (.trans (by kernel_rfl) h)
noncomputable def Sz (cf:fQ) (lf:eX) (b':Value) (t2':Value) (nC:Value) (r':Value) (Du:Value) (Dt:Int) (xP:Int) (st:SS):Option (Nat×List Value×SS):=
 cond (decide (xP<Dt)) (
 (fK Du xP 3).bind fun a=>
 (st.eF a.1 a.2 3).bind fun b=>
 let c:SS:=st.new (.cells [.string ⟨#[]⟩,.int .i64 0,.int .i64 0] 0)
 (c.eH st.next 0 3 b).bind fun d=>
 (fG b').bind fun e=>
 (aj e).bind fun f=>
 (d.ld f.1 (f.2+1)).bind fun g=>
 ((d.ld st.next 0).bind asS).bind fun h=>
 (d.zU g h).bind fun i=>
 EL i (
 (fG b').bind fun j=>
 (aj j).bind fun k=>
 (d.ld k.1 (k.2+3)).bind fun l=>
 (fK l xP 2).bind fun m=>
 (d.eF m.1 m.2 2).bind fun n=>
 cond (vH (ptr k.1 (k.2+3)) t2') (
 cond (vH (ptr m.1 m.2) t2') (
 (aj t2').bind fun o=>
 (d.st o.1 o.2 [.slice none 0 0,.slice none 0 0]).bind fun p=>
 (aj nC).bind fun q=>
 (p.eH q.1 q.2 2 n).bind fun r=>
 some (1,[t2',nC],r)) (
 none)) (
 none)) (fun s=>
 ((fM (.tuple #[s,.bool true]) 0).bind (ay .i64)).bind fun t=>
 cond (decide (t<0)) (
 (fG b').bind fun u=>
 (aj u).bind fun v=>
 (d.ld v.1 (v.2+3)).bind fun w=>
 (fK w xP 2).bind fun x=>
 (d.eF x.1 x.2 2).bind fun y=>
 cond (vH (ptr v.1 (v.2+3)) t2') (
 cond (vH (ptr x.1 x.2) t2') (
 (aj t2').bind fun z=>
 (d.st z.1 z.2 [.slice none 0 0,.slice none 0 0]).bind fun A=>
 (aj nC).bind fun B=>
 (A.eH B.1 B.2 2 y).bind fun C=>
 some (1,[t2',nC],C)) (
 none)) (
 none)) (
 (aj r').bind fun D=>
 (d.ld D.1 D.2).bind fun E=>
 ((lenV E).bind (ay .i64)).bind fun F=>
 cond (decide (F≤t)) (
 (fG b').bind fun G=>
 (aj G).bind fun H=>
 (d.ld H.1 (H.2+3)).bind fun I=>
 (fK I xP 2).bind fun J=>
 (d.eF J.1 J.2 2).bind fun K=>
 cond (vH (ptr H.1 (H.2+3)) t2') (
 cond (vH (ptr J.1 J.2) t2') (
 (aj t2').bind fun L=>
 (d.st L.1 L.2 [.slice none 0 0,.slice none 0 0]).bind fun M=>
 (aj nC).bind fun N=>
 (M.eH N.1 N.2 2 K).bind fun O=>
 some (1,[t2',nC],O)) (
 none)) (
 none)) (
 (aj r').bind fun P=>
 (d.ld P.1 (P.2+1)).bind fun Q=>
 ((d.ld st.next 0).bind asS).bind fun R=>
 let S:SS:=d.new (.cells ([.string R,.int .i64 t]) 2)
 (S.app 2 24 Q (.slice (some ⟨d.next,0,none⟩) 1 1)).bind fun T=>
 (aj r').bind fun U=>
 (T.2.eH U.1 (U.2+1) 1 T.1).bind fun V=>
 let W:Int:=IntKind.wrap .i64 (xP+1)
 lf 20 [b',t2',nC,r',Du,.int .i64 Dt,.int .i64 W] V)))) (
 some (0,[t2',nC,r'],st))
theorem U0 [Sym] (b':Value) (t2':Value) (nC:Value) (r':Value) (Du:Value) (Dt:Int) (xP:Int) (st:SS) {r:Nat×List Value×SS} (h:Sz cc zo b' t2' nC r' Du Dt xP st=some r):zo 20 [b',t2',nC,r',Du,.int .i64 Dt,.int .i64 xP] st=some r:=
 oM gu gy (key:=20) (I:=zg4) rfl (by kernel_rfl) (by kernel_rfl) rfl rfl (.trans (by kernel_rfl) h)
def ziC:eu:=⟨[(2,.any),(3,.any),(8,.any),(27,.any),(28,.int .i64),(29,.int .i64)],[(.exit 0,[(2,.any),(3,.any),(8,.any)]),(.ret,[(2,.any),(3,.any),(4,.int .i64)])]⟩
def zjv (n:Nat):Option eu:=cond (Nat.beq n 6) (some ziC) (none)
noncomputable def Ux (cf:fQ) (lf:eX) (text':ByteArray) (st:SS):Option (Value×SS):=
 let a:SS:=st.new (.cells [.slice none 0 0,.slice none 0 0] 0)
 let b:SS:=a.new (.cells [.int .i64 0,.int .i64 0] 0)
 (cf 42 [.string text'] b).bind fun c=>
 (fM c.1 0).bind fun d=>
 (fM c.1 1).bind fun e=>
 ((fM c.1 2).bind (ay .i64)).bind fun f=>
 let g:SS:=c.2.new (.cells [.int .i64 0,.int .i64 0] 0)
 (g.eH c.2.next 0 2 e).bind fun h=>
 cond (!(decide (f=0))) (
 (h.eF c.2.next 0 2).bind fun i=>
 cond (vH (ptr c.2.next 0) (ptr st.next 0)) (
 (h.st st.next 0 [.slice none 0 0,.slice none 0 0]).bind fun j=>
 (j.eH a.next 0 2 i).bind fun k=>
 (k.fH st.next 0 2).bind fun l=>
 (k.fH a.next 0 2).bind fun m=>
 some (.tuple #[l,m,.int .i64 f],k)) (
 none)) (
 let n:SS:=h.new (.map [])
 let o:SS:=n.new (.cells [.int .i64 0,.map (some h.next),.slice none 0 0,.slice none 0 0,.slice none 0 0] 0)
 ((lenV d).bind (ay .i64)).bind fun p=>
 (lf 6 [ptr st.next 0,ptr a.next 0,ptr n.next 0,d,.int .i64 p,.int .i64 0] o).bind fun q=>
 cond (Nat.beq q.1 0) (
 (q.2.1[0]?).bind fun s=>
 (q.2.1[1]?).bind fun t=>
 (q.2.1[2]?).bind fun u=>
 (cf 44 [u] q.2.2).bind fun v=>
 (fM v.1 0).bind fun w=>
 (fM v.1 1).bind fun x=>
 let y:SS:=v.2.new (.cells [.slice none 0 0,.slice none 0 0] 0)
 let z:SS:=y.new (.cells [.int .i64 0,.int .i64 0] 0)
 (z.eH v.2.next 0 2 w).bind fun A=>
 (A.eH y.next 0 2 x).bind fun B=>
 (B.eF y.next 0 2).bind fun C=>
 (((Nw Tryz.prog Lk0 97 C (.agg #[.int .i64 0,.int .i64 0])).bind fun r=>some (.bool !r)).bind lF).bind fun D=>
 cond D (
 (B.eF y.next 0 2).bind fun E=>
 cond (vH (ptr y.next 0) s) (
 (aj s).bind fun F=>
 (B.st F.1 F.2 [.slice none 0 0,.slice none 0 0]).bind fun G=>
 (aj t).bind fun H=>
 (G.eH H.1 H.2 2 E).bind fun I=>
 (aj s).bind fun J=>
 (I.fH J.1 J.2 2).bind fun K=>
 (aj t).bind fun L=>
 (I.fH L.1 L.2 2).bind fun M=>
 some (.tuple #[K,M,.int .i64 4],I)) (
 none)) (
 (B.eF v.2.next 0 2).bind fun N=>
 (aj s).bind fun O=>
 (B.eH O.1 O.2 2 N).bind fun P=>
 (aj t).bind fun Q=>
 (P.st Q.1 Q.2 [.int .i64 0,.int .i64 0]).bind fun R=>
 (aj s).bind fun S=>
 (R.fH S.1 S.2 2).bind fun T=>
 (aj t).bind fun U=>
 (R.fH U.1 U.2 2).bind fun V=>
 some (.tuple #[T,V,.int .i64 0],R))) (
 (q.2.1[0]?).bind fun W=>
 (q.2.1[1]?).bind fun X=>
 ((q.2.1[2]?).bind (ay .i64)).bind fun Y=>
 (aj W).bind fun Z=>
 (q.2.2.fH Z.1 Z.2 2).bind fun aA=>
 (aj X).bind fun aB=>
 (q.2.2.fH aB.1 aB.2 2).bind fun aC=>
 some (.tuple #[aA,aC,.int .i64 Y],q.2.2)))
noncomputable abbrev MP:eX:=lS Tryz.prog Lk0 Tryz.f16 zjv
theorem zoy:Lk0.func 16=some (16,Tryz.f16):=by kernel_rfl
theorem YU [Sym] (text':ByteArray) (st:SS) {r:Value×SS} (h:Ux cc MP text' st=some r):cc 16 [.string text'] st=some r:=
 mF (li:=zjv) gu gy zoy rfl (fun _=>rfl) (.trans (by kernel_rfl) h)
noncomputable def YV (cf:fQ) (lf:eX) (t2':Value) (nC:Value) (b':Value) (t27':Value) (Il:Int) (Gh:Int) (st:SS):Option (Nat×List Value×SS):=
 cond (decide (Gh<Il)) (
 (fK t27' Gh 5).bind fun a=>
 (st.eF a.1 a.2 5).bind fun b=>
 let c:SS:=st.new (.cells [.int .i64 0,.string ⟨#[]⟩,.string ⟨#[]⟩,.slice none 0 0,.slice none 0 0] 0)
 (c.eH st.next 0 5 b).bind fun d=>
 (d.eF st.next 0 5).bind fun e=>
 (cf 43 [b',e] d).bind fun f=>
 ((some f.1).bind lF).bind fun g=>
 cond (!g) (
 ((f.2.ld st.next 0).bind (ay .i64)).bind fun h=>
 cond (vH (ptr st.next 0) t2') (
 (aj t2').bind fun i=>
 (f.2.st i.1 i.2 [.slice none 0 0,.slice none 0 0]).bind fun j=>
 (aj nC).bind fun k=>
 (j.st k.1 k.2 [.int .i64 h,.int .i64 1]).bind fun l=>
 some (1,[t2',nC,.int .i64 4],l)) (
 none)) (
 let m:Int:=IntKind.wrap .i64 (Gh+1)
 lf 6 [t2',nC,b',t27',.int .i64 Il,.int .i64 m] f.2)) (
 some (0,[t2',nC,b'],st))
theorem zfk [Sym] (t2':Value) (nC:Value) (b':Value) (t27':Value) (Il:Int) (Gh:Int) (st:SS) {r:Nat×List Value×SS} (h:YV cc MP t2' nC b' t27' Il Gh st=some r):MP 6 [t2',nC,b',t27',.int .i64 Il,.int .i64 Gh] st=some r:=
 oM gu gy (key:=6) (I:=ziC) rfl (by kernel_rfl) (by kernel_rfl) rfl rfl (.trans (by kernel_rfl) h)
noncomputable def Zb (cf:fQ) (lf:eX) (l':Value) (name':ByteArray) (n':Int) (st:SS):Option (Value×SS):=
 (fG l').bind fun a=>
 (aj a).bind fun b=>
 (st.ld b.1 b.2).bind fun c=>
 (cf 47 [c,.string name'] st).bind fun d=>
 ((some d.1).bind (ay .i64)).bind fun e=>
 cond (decide (0≤e)) (
 some (.bool false,d.2)) (
 cond (fA name' ⟨#[]⟩) (
 some (.bool false,d.2)) (
 (fG l').bind fun f=>
 (aj f).bind fun g=>
 (d.2.ld g.1 g.2).bind fun h=>
 let i:SS:=d.2.new (.cells ([.string name']) 1)
 (i.app 1 16 h (.slice (some ⟨d.2.next,0,none⟩) 1 1)).bind fun j=>
 (fG l').bind fun k=>
 (aj k).bind fun l=>
 (j.2.eH l.1 l.2 1 j.1).bind fun m=>
 (fG l').bind fun n=>
 (aj n).bind fun o=>
 (m.ld o.1 (o.2+1)).bind fun p=>
 let q:SS:=m.new (.cells ([.int .i64 n']) 1)
 (q.app 1 8 p (.slice (some ⟨m.next,0,none⟩) 1 1)).bind fun r=>
 (fG l').bind fun s=>
 (aj s).bind fun t=>
 (r.2.eH t.1 (t.2+1) 1 r.1).bind fun u=>
 some (.bool true,u)))
noncomputable abbrev zh5:eX:=lS Tryz.prog Lk0 Tryz.f74 lQ
theorem zh6:Lk0.func 74=some (74,Tryz.f74):=by kernel_rfl
theorem zcW [Sym] (l':Value) (name':ByteArray) (n':Int) (st:SS) {r:Value×SS} (h:Zb cc zh5 l' name' n' st=some r):cc 74 [l',.string name',.int .i64 n'] st=some r:=
 mF (li:=lQ) gu gy zh6 rfl (fun _=>rfl) (.trans (by kernel_rfl) h)
def zez:eu:=⟨[(0,.any),(3,.any),(5,.int .i64),(6,.any),(184,.any),(185,.int .i64),(186,.int .i64)],[(.exit 3,[(0,.any),(3,.any),(5,.int .i64),(6,.any)]),(.ret,[(4,.bool)])]⟩
def zeA:eu:=⟨[(0,.any),(6,.any)],[(.exit 1,[(0,.any)])]⟩
def ze8 (n:Nat):Option eu:=cond (Nat.beq n 22) (some zeA) (cond (Nat.beq n 29) (some zez) (none))
noncomputable def Sv (cf:fQ) (lf:eX) (l':Value) (x':Value) (st:SS):Option (Value×SS):=
 let a:SS:=st.new (.cells (x':Value).cells.toList 0)
 ((a.ld st.next 1).bind asS).bind fun b=>
 cond (!(fA b ⟨#[]⟩)) (
 ((a.ld st.next 1).bind asS).bind fun c=>
 (fG l').bind fun d=>
 (aj d).bind fun e=>
 ((a.ld e.1 (e.2+6)).bind (ay .i64)).bind fun f=>
 (cf 74 [l',.string c,.int .i64 f] a).bind fun g=>
 ((some g.1).bind lF).bind fun h=>
 cond (!h) (
 some (.bool false,g.2)) (
 ((g.2.ld st.next 2).bind asS).bind fun i=>
 cond (fA i ⟨#[]⟩) (
 (g.2.ld st.next 4).bind fun j=>
 ((lenV j).bind (ay .i64)).bind fun k=>
 cond (decide (0<k)) (
 (fG l').bind fun l=>
 (aj l).bind fun m=>
 (g.2.ld m.1 (m.2+2)).bind fun n=>
 (g.2.eF st.next 0 5).bind fun o=>
 (nX o 5).bind fun p=>
 let q:SS:=g.2.new (.cells (p++([])) 5)
 (q.app 5 88 n (.slice (some ⟨g.2.next,0,none⟩) 1 1)).bind fun r=>
 (fG l').bind fun s=>
 (aj s).bind fun t=>
 (r.2.eH t.1 (t.2+2) 1 r.1).bind fun u=>
 (fG l').bind fun v=>
 (aj v).bind fun w=>
 (u.ld w.1 (w.2+3)).bind fun x=>
 (fG l').bind fun y=>
 (aj y).bind fun z=>
 ((u.ld z.1 (z.2+6)).bind (ay .i64)).bind fun A=>
 let B:SS:=u.new (.cells ([.int .i64 A]) 1)
 (B.app 1 8 x (.slice (some ⟨u.next,0,none⟩) 1 1)).bind fun C=>
 (fG l').bind fun D=>
 (aj D).bind fun E=>
 (C.2.eH E.1 (E.2+3) 1 C.1).bind fun F=>
 (fG l').bind fun G=>
 (aj G).bind fun H=>
 ((F.ld H.1 (H.2+6)).bind (ay .i64)).bind fun I=>
 let J:Int:=IntKind.wrap .i64 (I+1)
 (fG l').bind fun K=>
 (aj K).bind fun L=>
 (F.st L.1 (L.2+6) [.int .i64 J]).bind fun M=>
 (fG l').bind fun N=>
 (aj N).bind fun O=>
 ((M.ld O.1 (O.2+6)).bind (ay .i64)).bind fun P=>
 some (.bool (decide (P≤2048)),M)) (
 (fG l').bind fun Q=>
 (aj Q).bind fun R=>
 ((g.2.ld R.1 (R.2+6)).bind (ay .i64)).bind fun S=>
 some (.bool (decide (S≤2048)),g.2))) (
 (g.2.ld st.next 3).bind fun T=>
 ((lenV T).bind (ay .i64)).bind fun U=>
 cond (decide (U=0)) (
 some (.bool false,g.2)) (
 (g.2.ld st.next 3).bind fun V=>
 (fK V 0 3).bind fun W=>
 (g.2.eF W.1 W.2 3).bind fun X=>
 let Y:SS:=g.2.new (.cells [.string ⟨#[]⟩,.int .i64 0,.int .i64 0] 0)
 (Y.eH g.2.next 0 3 X).bind fun Z=>
 ((Z.ld st.next 2).bind asS).bind fun aA=>
 cond (fA aA ⟨#[111,114,103]⟩) (
 cond (decide (U=1)) (
 ((Z.ld g.2.next 0).bind asS).bind fun aB=>
 cond (fA aB ⟨#[]⟩) (
 ((Z.ld g.2.next 1).bind (ay .i64)).bind fun aC=>
 (fG l').bind fun aD=>
 (aj aD).bind fun aE=>
 ((Z.ld aE.1 (aE.2+6)).bind (ay .i64)).bind fun aF=>
 cond (decide (aF≤aC)) (
 ((Z.ld g.2.next 1).bind (ay .i64)).bind fun aG=>
 cond (decide (aG≤2048)) (
 ((Z.ld g.2.next 1).bind (ay .i64)).bind fun aH=>
 (fG l').bind fun aI=>
 (aj aI).bind fun aJ=>
 (Z.st aJ.1 (aJ.2+6) [.int .i64 aH]).bind fun aK=>
 some (.bool (decide (aG≤2048)),aK)) (
 some (.bool (decide (aG≤2048)),Z))) (
 some (.bool false,Z))) (
 some (.bool false,Z))) (
 some (.bool false,Z))) (
 cond (fA aA ⟨#[97,108,105,103,110]⟩) (
 cond (!(decide (U=1))) (
 some (.bool false,Z)) (
 ((Z.ld g.2.next 0).bind asS).bind fun aL=>
 cond (!(fA aL ⟨#[]⟩)) (
 some (.bool false,Z)) (
 ((Z.ld g.2.next 1).bind (ay .i64)).bind fun aM=>
 cond (decide (aM<1)) (
 some (.bool false,Z)) (
 ((Z.ld g.2.next 1).bind (ay .i64)).bind fun aN=>
 cond (decide (2048<aN)) (
 some (.bool false,Z)) (
 (lf 22 [l',ptr g.2.next 0] Z).bind fun aO=>
 (aO.2.1[0]?).bind fun aP=>
 (fG aP).bind fun aQ=>
 (aj aQ).bind fun aR=>
 ((aO.2.2.ld aR.1 (aR.2+6)).bind (ay .i64)).bind fun aS=>
 some (.bool (decide (aS≤2048)),aO.2.2)))))) (
 cond (fA aA ⟨#[115,101,116]⟩) (
 cond (decide (U=2)) (
 ((Z.ld g.2.next 0).bind asS).bind fun aT=>
 cond (!(fA aT ⟨#[]⟩)) (
 ((Z.ld g.2.next 1).bind (ay .i64)).bind fun aU=>
 cond (decide (aU=0)) (
 (Z.ld st.next 3).bind fun aV=>
 (fK aV 1 3).bind fun aW=>
 ((Z.ld aW.1 aW.2).bind asS).bind fun aX=>
 cond (fA aX ⟨#[]⟩) (
 ((Z.ld g.2.next 0).bind asS).bind fun aY=>
 (Z.ld st.next 3).bind fun aZ=>
 (fK aZ 1 3).bind fun bA=>
 ((Z.ld bA.1 (bA.2+1)).bind (ay .i64)).bind fun bB=>
 (cf 74 [l',.string aY,.int .i64 bB] Z).bind fun bC=>
 ((some bC.1).bind lF).bind fun bD=>
 some (.bool bD,bC.2)) (
 some (.bool false,Z))) (
 some (.bool false,Z))) (
 some (.bool false,Z))) (
 some (.bool false,Z))) (
 cond (fA aA ⟨#[101,110,116,114,121]⟩) (
 (fG l').bind fun bE=>
 (aj bE).bind fun bF=>
 (Z.ld bF.1 (bF.2+4)).bind fun bG=>
 ((lenV bG).bind (ay .i64)).bind fun bH=>
 (lf 29 [l',ptr st.next 0,.int .i64 U,ptr g.2.next 0,bG,.int .i64 bH,.int .i64 0] Z).bind fun bI=>
 cond (Nat.beq bI.1 0) (
 (bI.2.1[0]?).bind fun bJ=>
 (bI.2.1[1]?).bind fun bK=>
 ((bI.2.1[2]?).bind (ay .i64)).bind fun bL=>
 (bI.2.1[3]?).bind fun bM=>
 cond (!(decide (bL=1))) (
 some (.bool false,bI.2.2)) (
 (aj bM).bind fun bN=>
 ((bI.2.2.ld bN.1 bN.2).bind asS).bind fun bO=>
 cond (fA bO ⟨#[]⟩) (
 some (.bool false,bI.2.2)) (
 (aj bM).bind fun bP=>
 ((bI.2.2.ld bP.1 (bP.2+1)).bind (ay .i64)).bind fun bQ=>
 cond (!(decide (bQ=0))) (
 some (.bool false,bI.2.2)) (
 (fG bJ).bind fun bR=>
 (aj bR).bind fun bS=>
 (bI.2.2.ld bS.1 (bS.2+4)).bind fun bT=>
 (aj bM).bind fun bU=>
 (bI.2.2.eF bU.1 bU.2 3).bind fun bV=>
 (nX bV 3).bind fun bW=>
 let bX:SS:=bI.2.2.new (.cells (bW++([])) 3)
 (bX.app 3 32 bT (.slice (some ⟨bI.2.2.next,0,none⟩) 1 1)).bind fun bY=>
 (fG bJ).bind fun bZ=>
 (aj bZ).bind fun cA=>
 (bY.2.eH cA.1 (cA.2+4) 1 bY.1).bind fun cB=>
 (fG bJ).bind fun cC=>
 (aj cC).bind fun cD=>
 (cB.ld cD.1 (cD.2+5)).bind fun cE=>
 (aj bK).bind fun cF=>
 ((cB.ld cF.1 cF.2).bind (ay .i64)).bind fun cG=>
 (aj bM).bind fun cH=>
 ((cB.ld cH.1 (cH.2+2)).bind (ay .i64)).bind fun cI=>
 let cJ:SS:=cB.new (.cells ([.int .i64 cG,.int .i64 cI]) 2)
 (cJ.app 2 16 cE (.slice (some ⟨cB.next,0,none⟩) 1 1)).bind fun cK=>
 (fG bJ).bind fun cL=>
 (aj cL).bind fun cM=>
 (cK.2.eH cM.1 (cM.2+5) 1 cK.1).bind fun cN=>
 some (.bool true,cN))))) (
 ((bI.2.1[0]?).bind lF).bind fun cO=>
 some (.bool cO,bI.2.2))) (
 some (.bool false,Z))))))))) (
 ((a.ld st.next 2).bind asS).bind fun cP=>
 cond (fA cP ⟨#[]⟩) (
 (a.ld st.next 4).bind fun cQ=>
 ((lenV cQ).bind (ay .i64)).bind fun cR=>
 cond (decide (0<cR)) (
 (fG l').bind fun cS=>
 (aj cS).bind fun cT=>
 (a.ld cT.1 (cT.2+2)).bind fun cU=>
 (a.eF st.next 0 5).bind fun cV=>
 (nX cV 5).bind fun cW=>
 let cX:SS:=a.new (.cells (cW++([])) 5)
 (cX.app 5 88 cU (.slice (some ⟨a.next,0,none⟩) 1 1)).bind fun cY=>
 (fG l').bind fun cZ=>
 (aj cZ).bind fun dA=>
 (cY.2.eH dA.1 (dA.2+2) 1 cY.1).bind fun dB=>
 (fG l').bind fun dC=>
 (aj dC).bind fun dD=>
 (dB.ld dD.1 (dD.2+3)).bind fun dE=>
 (fG l').bind fun dF=>
 (aj dF).bind fun dG=>
 ((dB.ld dG.1 (dG.2+6)).bind (ay .i64)).bind fun dH=>
 let dI:SS:=dB.new (.cells ([.int .i64 dH]) 1)
 (dI.app 1 8 dE (.slice (some ⟨dB.next,0,none⟩) 1 1)).bind fun dJ=>
 (fG l').bind fun dK=>
 (aj dK).bind fun dL=>
 (dJ.2.eH dL.1 (dL.2+3) 1 dJ.1).bind fun dM=>
 (fG l').bind fun dN=>
 (aj dN).bind fun dO=>
 ((dM.ld dO.1 (dO.2+6)).bind (ay .i64)).bind fun dP=>
 let dQ:Int:=IntKind.wrap .i64 (dP+1)
 (fG l').bind fun dR=>
 (aj dR).bind fun dS=>
 (dM.st dS.1 (dS.2+6) [.int .i64 dQ]).bind fun dT=>
 (fG l').bind fun dU=>
 (aj dU).bind fun dV=>
 ((dT.ld dV.1 (dV.2+6)).bind (ay .i64)).bind fun dW=>
 some (.bool (decide (dW≤2048)),dT)) (
 (fG l').bind fun dX=>
 (aj dX).bind fun dY=>
 ((a.ld dY.1 (dY.2+6)).bind (ay .i64)).bind fun dZ=>
 some (.bool (decide (dZ≤2048)),a))) (
 (a.ld st.next 3).bind fun gA=>
 ((lenV gA).bind (ay .i64)).bind fun gB=>
 cond (decide (gB=0)) (
 some (.bool false,a)) (
 (a.ld st.next 3).bind fun gC=>
 (fK gC 0 3).bind fun gD=>
 (a.eF gD.1 gD.2 3).bind fun gE=>
 let gF:SS:=a.new (.cells [.string ⟨#[]⟩,.int .i64 0,.int .i64 0] 0)
 (gF.eH a.next 0 3 gE).bind fun gG=>
 ((gG.ld st.next 2).bind asS).bind fun gH=>
 cond (fA gH ⟨#[111,114,103]⟩) (
 cond (decide (gB=1)) (
 ((gG.ld a.next 0).bind asS).bind fun gI=>
 cond (fA gI ⟨#[]⟩) (
 ((gG.ld a.next 1).bind (ay .i64)).bind fun gJ=>
 (fG l').bind fun gK=>
 (aj gK).bind fun gL=>
 ((gG.ld gL.1 (gL.2+6)).bind (ay .i64)).bind fun gM=>
 cond (decide (gM≤gJ)) (
 ((gG.ld a.next 1).bind (ay .i64)).bind fun gN=>
 cond (decide (gN≤2048)) (
 ((gG.ld a.next 1).bind (ay .i64)).bind fun gO=>
 (fG l').bind fun gP=>
 (aj gP).bind fun gQ=>
 (gG.st gQ.1 (gQ.2+6) [.int .i64 gO]).bind fun gR=>
 some (.bool (decide (gN≤2048)),gR)) (
 some (.bool (decide (gN≤2048)),gG))) (
 some (.bool false,gG))) (
 some (.bool false,gG))) (
 some (.bool false,gG))) (
 cond (fA gH ⟨#[97,108,105,103,110]⟩) (
 cond (!(decide (gB=1))) (
 some (.bool false,gG)) (
 ((gG.ld a.next 0).bind asS).bind fun gS=>
 cond (!(fA gS ⟨#[]⟩)) (
 some (.bool false,gG)) (
 ((gG.ld a.next 1).bind (ay .i64)).bind fun gT=>
 cond (decide (gT<1)) (
 some (.bool false,gG)) (
 ((gG.ld a.next 1).bind (ay .i64)).bind fun gU=>
 cond (decide (2048<gU)) (
 some (.bool false,gG)) (
 (lf 22 [l',ptr a.next 0] gG).bind fun gV=>
 (gV.2.1[0]?).bind fun gW=>
 (fG gW).bind fun gX=>
 (aj gX).bind fun gY=>
 ((gV.2.2.ld gY.1 (gY.2+6)).bind (ay .i64)).bind fun gZ=>
 some (.bool (decide (gZ≤2048)),gV.2.2)))))) (
 cond (fA gH ⟨#[115,101,116]⟩) (
 cond (decide (gB=2)) (
 ((gG.ld a.next 0).bind asS).bind fun hA=>
 cond (!(fA hA ⟨#[]⟩)) (
 ((gG.ld a.next 1).bind (ay .i64)).bind fun hB=>
 cond (decide (hB=0)) (
 (gG.ld st.next 3).bind fun hC=>
 (fK hC 1 3).bind fun hD=>
 ((gG.ld hD.1 hD.2).bind asS).bind fun hE=>
 cond (fA hE ⟨#[]⟩) (
 ((gG.ld a.next 0).bind asS).bind fun hF=>
 (gG.ld st.next 3).bind fun hG=>
 (fK hG 1 3).bind fun hH=>
 ((gG.ld hH.1 (hH.2+1)).bind (ay .i64)).bind fun hI=>
 (cf 74 [l',.string hF,.int .i64 hI] gG).bind fun hJ=>
 ((some hJ.1).bind lF).bind fun hK=>
 some (.bool hK,hJ.2)) (
 some (.bool false,gG))) (
 some (.bool false,gG))) (
 some (.bool false,gG))) (
 some (.bool false,gG))) (
 cond (fA gH ⟨#[101,110,116,114,121]⟩) (
 (fG l').bind fun hL=>
 (aj hL).bind fun hM=>
 (gG.ld hM.1 (hM.2+4)).bind fun hN=>
 ((lenV hN).bind (ay .i64)).bind fun hO=>
 (lf 29 [l',ptr st.next 0,.int .i64 gB,ptr a.next 0,hN,.int .i64 hO,.int .i64 0] gG).bind fun hP=>
 cond (Nat.beq hP.1 0) (
 (hP.2.1[0]?).bind fun hQ=>
 (hP.2.1[1]?).bind fun hR=>
 ((hP.2.1[2]?).bind (ay .i64)).bind fun hS=>
 (hP.2.1[3]?).bind fun hT=>
 cond (!(decide (hS=1))) (
 some (.bool false,hP.2.2)) (
 (aj hT).bind fun hU=>
 ((hP.2.2.ld hU.1 hU.2).bind asS).bind fun hV=>
 cond (fA hV ⟨#[]⟩) (
 some (.bool false,hP.2.2)) (
 (aj hT).bind fun hW=>
 ((hP.2.2.ld hW.1 (hW.2+1)).bind (ay .i64)).bind fun hX=>
 cond (!(decide (hX=0))) (
 some (.bool false,hP.2.2)) (
 (fG hQ).bind fun hY=>
 (aj hY).bind fun hZ=>
 (hP.2.2.ld hZ.1 (hZ.2+4)).bind fun iA=>
 (aj hT).bind fun iB=>
 (hP.2.2.eF iB.1 iB.2 3).bind fun iC=>
 (nX iC 3).bind fun iD=>
 let iE:SS:=hP.2.2.new (.cells (iD++([])) 3)
 (iE.app 3 32 iA (.slice (some ⟨hP.2.2.next,0,none⟩) 1 1)).bind fun iF=>
 (fG hQ).bind fun iG=>
 (aj iG).bind fun iH=>
 (iF.2.eH iH.1 (iH.2+4) 1 iF.1).bind fun iI=>
 (fG hQ).bind fun iJ=>
 (aj iJ).bind fun iK=>
 (iI.ld iK.1 (iK.2+5)).bind fun iL=>
 (aj hR).bind fun iM=>
 ((iI.ld iM.1 iM.2).bind (ay .i64)).bind fun iN=>
 (aj hT).bind fun iO=>
 ((iI.ld iO.1 (iO.2+2)).bind (ay .i64)).bind fun iP=>
 let iQ:SS:=iI.new (.cells ([.int .i64 iN,.int .i64 iP]) 2)
 (iQ.app 2 16 iL (.slice (some ⟨iI.next,0,none⟩) 1 1)).bind fun iR=>
 (fG hQ).bind fun iS=>
 (aj iS).bind fun iT=>
 (iR.2.eH iT.1 (iT.2+5) 1 iR.1).bind fun iU=>
 some (.bool true,iU))))) (
 ((hP.2.1[0]?).bind lF).bind fun iV=>
 some (.bool iV,hP.2.2))) (
 some (.bool false,gG))))))))
noncomputable abbrev D6:eX:=lS Tryz.prog Lk0 Tryz.f45 ze8
theorem zix:Lk0.func 45=some (45,Tryz.f45):=by kernel_rfl
theorem zdl [Sym] (l':Value) (x':Value) (st:SS) {r:Value×SS} (h:Sv cc D6 l' x' st=some r):cc 45 [l',x'] st=some r:=
 mF (li:=ze8) gu gy zix rfl (fun _=>rfl) (.trans (by kernel_rfl) h)
noncomputable def zda (cf:fQ) (lf:eX) (l':Value) (v':Value) (st:SS):Option (Nat×List Value×SS):=
 (fG l').bind fun a=>
 (aj a).bind fun b=>
 ((st.ld b.1 (b.2+6)).bind (ay .i64)).bind fun c=>
 (aj v').bind fun d=>
 ((st.ld d.1 (d.2+1)).bind (ay .i64)).bind fun e=>
 ((aI .rem .i64 c e).bind (ay .i64)).bind fun f=>
 cond (!(decide (f=0))) (
 (fG l').bind fun g=>
 (aj g).bind fun h=>
 ((st.ld h.1 (h.2+6)).bind (ay .i64)).bind fun i=>
 let j:Int:=IntKind.wrap .i64 (i+1)
 (fG l').bind fun k=>
 (aj k).bind fun l=>
 (st.st l.1 (l.2+6) [.int .i64 j]).bind fun m=>
 lf 22 [l',v'] m) (
 some (0,[l'],st))
theorem zea [Sym] (l':Value) (v':Value) (st:SS) {r:Nat×List Value×SS} (h:zda cc D6 l' v' st=some r):D6 22 [l',v'] st=some r:=
 oM gu gy (key:=22) (I:=zeA) rfl (by kernel_rfl) (by kernel_rfl) rfl rfl (.trans (by kernel_rfl) h)
noncomputable def Ze (cf:fQ) (lf:eX) (l':Value) (x':Value) (n':Int) (v':Value) (Dn:Value) (Dl:Int) (Bz:Int) (st:SS):Option (Nat×List Value×SS):=
 cond (decide (Bz<Dl)) (
 (fK Dn Bz 3).bind fun a=>
 (st.eF a.1 a.2 3).bind fun b=>
 let c:SS:=st.new (.cells [.string ⟨#[]⟩,.int .i64 0,.int .i64 0] 0)
 (c.eH st.next 0 3 b).bind fun d=>
 ((d.ld st.next 0).bind asS).bind fun e=>
 (aj v').bind fun f=>
 ((d.ld f.1 f.2).bind asS).bind fun g=>
 cond (fA e g) (
 some (1,[.bool false],d)) (
 let h:Int:=IntKind.wrap .i64 (Bz+1)
 lf 29 [l',x',.int .i64 n',v',Dn,.int .i64 Dl,.int .i64 h] d)) (
 some (0,[l',x',.int .i64 n',v'],st))
theorem zcG [Sym] (l':Value) (x':Value) (n':Int) (v':Value) (Dn:Value) (Dl:Int) (Bz:Int) (st:SS) {r:Nat×List Value×SS} (h:Ze cc D6 l' x' n' v' Dn Dl Bz st=some r):D6 29 [l',x',.int .i64 n',v',Dn,.int .i64 Dl,.int .i64 Bz] st=some r:=
 oM gu gy (key:=29) (I:=zez) rfl (by kernel_rfl) (by kernel_rfl) rfl rfl (.trans (by kernel_rfl) h)
def zeI:eu:=⟨[(0,.any),(4,.any),(6,.any),(15,.any),(16,.int .i64),(17,.int .i64)],[(.exit 0,[(4,.any),(6,.any)]),(.ret,[(4,.any),(5,.int .i64)])]⟩
def ze9 (n:Nat):Option eu:=cond (Nat.beq n 3) (some zeI) (none)
noncomputable def zdZ (cf:fQ) (lf:eX) (l':Value) (x':Value) (st:SS):Option (Value×SS):=
 let a:SS:=(st.ro st.next).new (.cells (x':Value).cells.toList 0)
 let b:SS:=a.new (.cells [.int .i64 0,.int .i64 0,.int .i64 0,.int .i64 0,.int .i64 0,.int .i64 0,.int .i64 0,.int .i64 0,.int .i64 0,.int .i64 0,.int .i64 0,.int .i64 0] 0)
 let c:SS:=b.new (.cells [.int .i64 0,.int .i64 0,.int .i64 0,.int .i64 0,.int .i64 0,.int .i64 0,.int .i64 0,.int .i64 0,.int .i64 0,.int .i64 0,.int .i64 0,.int .i64 0] 0)
 (c.ld ((st.ro st.next).next) 4).bind fun d=>
 ((lenV d).bind (ay .i64)).bind fun e=>
 (lf 3 [l',ptr a.next 0,ptr b.next 0,d,.int .i64 e,.int .i64 0] c).bind fun f=>
 cond (Nat.beq f.1 0) (
 (f.2.1[0]?).bind fun g=>
 (f.2.1[1]?).bind fun h=>
 (aj h).bind fun i=>
 (f.2.2.eF i.1 i.2 12).bind fun j=>
 (aj g).bind fun k=>
 (f.2.2.eH k.1 k.2 12 j).bind fun l=>
 (aj g).bind fun m=>
 (l.fH m.1 m.2 12).bind fun n=>
 cond (flat3 (.tuple #[n,.int .i64 0])) (some (.tuple #[n,.int .i64 0],st.dw l.next)) none) (
 (f.2.1[0]?).bind fun o=>
 ((f.2.1[1]?).bind (ay .i64)).bind fun p=>
 (aj o).bind fun q=>
 (f.2.2.fH q.1 q.2 12).bind fun r=>
 cond (flat3 (.tuple #[r,.int .i64 p])) (some (.tuple #[r,.int .i64 p],st.dw f.2.2.next)) none)
noncomputable abbrev GL:eX:=lS Tryz.prog Lk0 Tryz.f46 ze9
theorem ziy:Lk0.func 46=some (46,Tryz.f46):=by kernel_rfl
theorem zfa [Sym] (l':Value) (x':Value) (st:SS) {r:Value×SS} (h:zdZ cc GL l' x' st=some r):cc 46 [l',x'] st=some r:=
 mF (li:=ze9) gu gy ziy rfl (fun _=>rfl) (.trans (by kernel_rfl) h)
noncomputable def OJ (cf:fQ) (lf:eX) (l':Value) (mD:Value) (w':Value) (sV:Value) (tK:Int) (vN:Int) (st:SS):Option (Nat×List Value×SS):=
 cond (decide (vN<tK)) (
 (fK sV vN 5).bind fun a=>
 (st.eF a.1 a.2 5).bind fun b=>
 let c:SS:=st.new (.cells [.string ⟨#[]⟩,.int .i64 0,.string ⟨#[]⟩,.int .i64 0,.int .i64 0] 0)
 (c.eH st.next 0 5 b).bind fun d=>
 ((d.ld st.next 0).bind asS).bind fun e=>
 (cf 75 [.string e] d).bind fun f=>
 ((some f.1).bind (ay .i64)).bind fun g=>
 cond (decide (g<0)) (
 (aj w').bind fun h=>
 (f.2.eF h.1 h.2 12).bind fun i=>
 ((f.2.ld st.next 1).bind (ay .i64)).bind fun j=>
 cond (vH (ptr st.next 1) mD) (
 (aj mD).bind fun k=>
 (f.2.eH k.1 k.2 12 i).bind fun l=>
 some (1,[mD,.int .i64 j],l)) (
 none)) (
 ((f.2.ld st.next 3).bind (ay .i64)).bind fun m=>
 ((f.2.ld st.next 2).bind asS).bind fun n=>
 cond (!(fA n ⟨#[]⟩)) (
 ((f.2.ld st.next 0).bind asS).bind fun o=>
 (cf 76 [.string o] (f.2.ro f.2.next)).bind fun p=>
 (((p.2.ro f.2.lim).ld st.next 2).bind asS).bind fun q=>
 (cf 47 [p.1,.string q] (p.2.ro f.2.lim)).bind fun r=>
 ((some r.1).bind (ay .i64)).bind fun s=>
 (fG l').bind fun t=>
 (aj t).bind fun u=>
 (r.2.ld u.1 u.2).bind fun v=>
 ((r.2.ld st.next 2).bind asS).bind fun w=>
 (cf 47 [v,.string w] r.2).bind fun x=>
 ((some x.1).bind (ay .i64)).bind fun y=>
 cond (decide (s<0)) (
 cond (decide (y<0)) (
 (aj w').bind fun z=>
 (x.2.eF z.1 z.2 12).bind fun A=>
 ((x.2.ld st.next 4).bind (ay .i64)).bind fun B=>
 cond (vH (ptr st.next 4) mD) (
 (aj mD).bind fun C=>
 (x.2.eH C.1 C.2 12 A).bind fun D=>
 some (1,[mD,.int .i64 B],D)) (
 none)) (
 cond (decide (0≤s)) (
 let E:Int:=IntKind.wrap .i64 (m+s)
 (aj w').bind fun F=>
 (x.2.eF F.1 F.2 12).bind fun G=>
 ((x.2.ld st.next 0).bind asS).bind fun H=>
 (cf 77 [G,.string H,.int .i64 E] x.2).bind fun I=>
 (fM I.1 0).bind fun J=>
 ((fM I.1 1).bind (ay .i64)).bind fun K=>
 let L:SS:=I.2.new (.cells [.int .i64 0,.int .i64 0,.int .i64 0,.int .i64 0,.int .i64 0,.int .i64 0,.int .i64 0,.int .i64 0,.int .i64 0,.int .i64 0,.int .i64 0,.int .i64 0] 0)
 (L.eH I.2.next 0 12 J).bind fun M=>
 cond (!(decide (K=0))) (
 (aj w').bind fun N=>
 (M.eF N.1 N.2 12).bind fun O=>
 ((M.ld st.next 4).bind (ay .i64)).bind fun P=>
 cond (vH (ptr st.next 4) mD) (
 (aj mD).bind fun Q=>
 (M.eH Q.1 Q.2 12 O).bind fun R=>
 some (1,[mD,.int .i64 P],R)) (
 none)) (
 (M.eF I.2.next 0 12).bind fun S=>
 (aj w').bind fun T=>
 (M.eH T.1 T.2 12 S).bind fun U=>
 let V:Int:=IntKind.wrap .i64 (vN+1)
 lf 3 [l',mD,w',sV,.int .i64 tK,.int .i64 V] U)) (
 (fG l').bind fun W=>
 (aj W).bind fun X=>
 (x.2.ld X.1 (X.2+1)).bind fun Y=>
 (fK Y y 1).bind fun Z=>
 ((x.2.ld Z.1 Z.2).bind (ay .i64)).bind fun aA=>
 let aB:Int:=IntKind.wrap .i64 (m+aA)
 (aj w').bind fun aC=>
 (x.2.eF aC.1 aC.2 12).bind fun aD=>
 ((x.2.ld st.next 0).bind asS).bind fun aE=>
 (cf 77 [aD,.string aE,.int .i64 aB] x.2).bind fun aF=>
 (fM aF.1 0).bind fun aG=>
 ((fM aF.1 1).bind (ay .i64)).bind fun aH=>
 let aI:SS:=aF.2.new (.cells [.int .i64 0,.int .i64 0,.int .i64 0,.int .i64 0,.int .i64 0,.int .i64 0,.int .i64 0,.int .i64 0,.int .i64 0,.int .i64 0,.int .i64 0,.int .i64 0] 0)
 (aI.eH aF.2.next 0 12 aG).bind fun aJ=>
 cond (!(decide (aH=0))) (
 (aj w').bind fun aK=>
 (aJ.eF aK.1 aK.2 12).bind fun aL=>
 ((aJ.ld st.next 4).bind (ay .i64)).bind fun aM=>
 cond (vH (ptr st.next 4) mD) (
 (aj mD).bind fun aN=>
 (aJ.eH aN.1 aN.2 12 aL).bind fun aO=>
 some (1,[mD,.int .i64 aM],aO)) (
 none)) (
 (aJ.eF aF.2.next 0 12).bind fun aP=>
 (aj w').bind fun aQ=>
 (aJ.eH aQ.1 aQ.2 12 aP).bind fun aR=>
 let aS:Int:=IntKind.wrap .i64 (vN+1)
 lf 3 [l',mD,w',sV,.int .i64 tK,.int .i64 aS] aR)))) (
 cond (decide (0≤s)) (
 let aT:Int:=IntKind.wrap .i64 (m+s)
 (aj w').bind fun aU=>
 (x.2.eF aU.1 aU.2 12).bind fun aV=>
 ((x.2.ld st.next 0).bind asS).bind fun aW=>
 (cf 77 [aV,.string aW,.int .i64 aT] x.2).bind fun aX=>
 (fM aX.1 0).bind fun aY=>
 ((fM aX.1 1).bind (ay .i64)).bind fun aZ=>
 let bA:SS:=aX.2.new (.cells [.int .i64 0,.int .i64 0,.int .i64 0,.int .i64 0,.int .i64 0,.int .i64 0,.int .i64 0,.int .i64 0,.int .i64 0,.int .i64 0,.int .i64 0,.int .i64 0] 0)
 (bA.eH aX.2.next 0 12 aY).bind fun bB=>
 cond (!(decide (aZ=0))) (
 (aj w').bind fun bC=>
 (bB.eF bC.1 bC.2 12).bind fun bD=>
 ((bB.ld st.next 4).bind (ay .i64)).bind fun bE=>
 cond (vH (ptr st.next 4) mD) (
 (aj mD).bind fun bF=>
 (bB.eH bF.1 bF.2 12 bD).bind fun bG=>
 some (1,[mD,.int .i64 bE],bG)) (
 none)) (
 (bB.eF aX.2.next 0 12).bind fun bH=>
 (aj w').bind fun bI=>
 (bB.eH bI.1 bI.2 12 bH).bind fun bJ=>
 let bK:Int:=IntKind.wrap .i64 (vN+1)
 lf 3 [l',mD,w',sV,.int .i64 tK,.int .i64 bK] bJ)) (
 (fG l').bind fun bL=>
 (aj bL).bind fun bM=>
 (x.2.ld bM.1 (bM.2+1)).bind fun bN=>
 (fK bN y 1).bind fun bO=>
 ((x.2.ld bO.1 bO.2).bind (ay .i64)).bind fun bP=>
 let bQ:Int:=IntKind.wrap .i64 (m+bP)
 (aj w').bind fun bR=>
 (x.2.eF bR.1 bR.2 12).bind fun bS=>
 ((x.2.ld st.next 0).bind asS).bind fun bT=>
 (cf 77 [bS,.string bT,.int .i64 bQ] x.2).bind fun bU=>
 (fM bU.1 0).bind fun bV=>
 ((fM bU.1 1).bind (ay .i64)).bind fun bW=>
 let bX:SS:=bU.2.new (.cells [.int .i64 0,.int .i64 0,.int .i64 0,.int .i64 0,.int .i64 0,.int .i64 0,.int .i64 0,.int .i64 0,.int .i64 0,.int .i64 0,.int .i64 0,.int .i64 0] 0)
 (bX.eH bU.2.next 0 12 bV).bind fun bY=>
 cond (!(decide (bW=0))) (
 (aj w').bind fun bZ=>
 (bY.eF bZ.1 bZ.2 12).bind fun cA=>
 ((bY.ld st.next 4).bind (ay .i64)).bind fun cB=>
 cond (vH (ptr st.next 4) mD) (
 (aj mD).bind fun cC=>
 (bY.eH cC.1 cC.2 12 cA).bind fun cD=>
 some (1,[mD,.int .i64 cB],cD)) (
 none)) (
 (bY.eF bU.2.next 0 12).bind fun cE=>
 (aj w').bind fun cF=>
 (bY.eH cF.1 cF.2 12 cE).bind fun cG=>
 let cH:Int:=IntKind.wrap .i64 (vN+1)
 lf 3 [l',mD,w',sV,.int .i64 tK,.int .i64 cH] cG)))) (
 (aj w').bind fun cI=>
 (f.2.eF cI.1 cI.2 12).bind fun cJ=>
 ((f.2.ld st.next 0).bind asS).bind fun cK=>
 (cf 77 [cJ,.string cK,.int .i64 m] f.2).bind fun cL=>
 (fM cL.1 0).bind fun cM=>
 ((fM cL.1 1).bind (ay .i64)).bind fun cN=>
 let cO:SS:=cL.2.new (.cells [.int .i64 0,.int .i64 0,.int .i64 0,.int .i64 0,.int .i64 0,.int .i64 0,.int .i64 0,.int .i64 0,.int .i64 0,.int .i64 0,.int .i64 0,.int .i64 0] 0)
 (cO.eH cL.2.next 0 12 cM).bind fun cP=>
 cond (!(decide (cN=0))) (
 (aj w').bind fun cQ=>
 (cP.eF cQ.1 cQ.2 12).bind fun cR=>
 ((cP.ld st.next 4).bind (ay .i64)).bind fun cS=>
 cond (vH (ptr st.next 4) mD) (
 (aj mD).bind fun cT=>
 (cP.eH cT.1 cT.2 12 cR).bind fun cU=>
 some (1,[mD,.int .i64 cS],cU)) (
 none)) (
 (cP.eF cL.2.next 0 12).bind fun cV=>
 (aj w').bind fun cW=>
 (cP.eH cW.1 cW.2 12 cV).bind fun cX=>
 let cY:Int:=IntKind.wrap .i64 (vN+1)
 lf 3 [l',mD,w',sV,.int .i64 tK,.int .i64 cY] cX)))) (
 some (0,[mD,w'],st))
theorem Sl [Sym] (l':Value) (mD:Value) (w':Value) (sV:Value) (tK:Int) (vN:Int) (st:SS) {r:Nat×List Value×SS} (h:OJ cc GL l' mD w' sV tK vN st=some r):GL 3 [l',mD,w',sV,.int .i64 tK,.int .i64 vN] st=some r:=
 oM gu gy (key:=3) (I:=zeI) rfl (by kernel_rfl) (by kernel_rfl) rfl rfl (.trans (by kernel_rfl) h)
def zeJ:eu:=⟨[(4,.any),(7,.any),(10,.any),(17,.any),(133,.any),(134,.int .i64),(135,.int .i64)],[(.exit 6,[(4,.any),(10,.any),(17,.any)]),(.ret,[(2,.any),(3,.any),(4,.any)])]⟩
def zeK:eu:=⟨[(4,.any),(7,.any),(10,.any),(11,.int .i64),(12,.any),(13,.any),(69,.any),(70,.int .i64),(71,.int .i64),(96,.any),(97,.int .i64),(98,.int .i64)],[(.exit 4,[(4,.any),(7,.any),(10,.any),(11,.int .i64),(13,.any),(69,.any),(70,.int .i64),(71,.int .i64)]),(.ret,[(2,.any),(3,.any),(4,.any)])]⟩
def zeL:eu:=⟨[(4,.any),(7,.any),(10,.any),(69,.any),(70,.int .i64),(71,.int .i64)],[(.exit 2,[(4,.any),(7,.any),(10,.any)]),(.ret,[(2,.any),(3,.any),(4,.any)])]⟩
def zfb:eu:=⟨[(4,.any),(7,.any),(32,.any),(33,.int .i64),(34,.int .i64)],[(.exit 0,[(4,.any),(7,.any)]),(.ret,[(2,.any),(3,.any),(4,.any)])]⟩
def zfr (n:Nat):Option eu:=cond (Nat.beq n 6) (some zfb) (cond (Nat.beq n 15) (some zeL) (cond (Nat.beq n 21) (some zeK) (cond (Nat.beq n 30) (some zeJ) (none))))
noncomputable def UH (cf:fQ) (lf:eX) (text':ByteArray) (st:SS):Option (Value×SS):=
 let a:SS:=st.new (.cells [.int .i64 0,.int .i64 0] 0)
 (cf 19 [.string text'] a).bind fun b=>
 (fM b.1 0).bind fun c=>
 (fM b.1 1).bind fun d=>
 let e:SS:=b.2.new (.cells [.int .i64 0,.int .i64 0] 0)
 (e.eH b.2.next 0 2 d).bind fun f=>
 (sQ (ptr b.2.next 0) 2 0 1).bind fun g=>
 ((f.ld g.1 g.2).bind (ay .i64)).bind fun h=>
 cond (decide (0<h)) (
 (f.eF b.2.next 0 2).bind fun i=>
 (f.eH st.next 0 2 i).bind fun j=>
 (j.fH st.next 0 2).bind fun k=>
 some (.tuple #[.slice none 0 0,.slice none 0 0,k],j)) (
 let l:SS:=f.new (.cells [.slice none 0 0,.slice none 0 0,.slice none 0 0,.slice none 0 0,.slice none 0 0,.slice none 0 0,.int .i64 0] 0)
 ((lenV c).bind (ay .i64)).bind fun m=>
 (lf 6 [ptr st.next 0,ptr f.next 0,c,.int .i64 m,.int .i64 0] l).bind fun n=>
 cond (Nat.beq n.1 0) (
 (n.2.1[0]?).bind fun o=>
 (n.2.1[1]?).bind fun p=>
 (fG p).bind fun q=>
 (aj q).bind fun r=>
 (n.2.2.ld r.1 (r.2+3)).bind fun s=>
 ((lenV s).bind (ay .i64)).bind fun t=>
 cond (decide (0<t)) (
 (fG p).bind fun u=>
 (aj u).bind fun v=>
 (n.2.2.ld v.1 (v.2+3)).bind fun w=>
 (fG p).bind fun x=>
 (aj x).bind fun y=>
 (n.2.2.ld y.1 (y.2+3)).bind fun z=>
 ((lenV z).bind (ay .i64)).bind fun A=>
 let B:Int:=IntKind.wrap .i64 (A-1)
 (fK w B 1).bind fun C=>
 ((n.2.2.ld C.1 C.2).bind (ay .i64)).bind fun D=>
 let E:Int:=IntKind.wrap .i64 (D+1)
 (EO E E 96).bind fun _=>
 let F:SS:=n.2.2.new (.cells (EU [.int .i64 0,.int .i64 0,.int .i64 0,.int .i64 0,.int .i64 0,.int .i64 0,.int .i64 0,.int .i64 0,.int .i64 0,.int .i64 0,.int .i64 0,.int .i64 0] E) 12)
 (fG p).bind fun G=>
 (aj G).bind fun H=>
 (F.ld H.1 (H.2+2)).bind fun I=>
 ((lenV I).bind (ay .i64)).bind fun J=>
 (lf 15 [o,p,.slice (some ⟨n.2.2.next,0,none⟩) ((E:Int).toNat) ((E:Int).toNat),I,.int .i64 J,.int .i64 0] F).bind fun K=>
 cond (Nat.beq K.1 0) (
 (K.2.1[0]?).bind fun L=>
 (K.2.1[1]?).bind fun M=>
 (K.2.1[2]?).bind fun N=>
 (fG M).bind fun O=>
 (aj O).bind fun P=>
 (K.2.2.ld P.1 (P.2+4)).bind fun Q=>
 ((lenV Q).bind (ay .i64)).bind fun R=>
 (lf 30 [L,M,N,.slice none 0 0,Q,.int .i64 R,.int .i64 0] K.2.2).bind fun S=>
 cond (Nat.beq S.1 0) (
 (S.2.1[0]?).bind fun T=>
 (S.2.1[1]?).bind fun U=>
 (S.2.1[2]?).bind fun V=>
 (aj T).bind fun W=>
 (S.2.2.st W.1 W.2 [.int .i64 0,.int .i64 0]).bind fun X=>
 (aj T).bind fun Y=>
 (X.fH Y.1 Y.2 2).bind fun Z=>
 some (.tuple #[U,V,Z],X)) (
 (S.2.1[0]?).bind fun aA=>
 (S.2.1[1]?).bind fun aB=>
 (S.2.1[2]?).bind fun aC=>
 (aj aC).bind fun aD=>
 (S.2.2.fH aD.1 aD.2 2).bind fun aE=>
 some (.tuple #[aA,aB,aE],S.2.2))) (
 (K.2.1[0]?).bind fun aF=>
 (K.2.1[1]?).bind fun aG=>
 (K.2.1[2]?).bind fun aH=>
 (aj aH).bind fun aI=>
 (K.2.2.fH aI.1 aI.2 2).bind fun aJ=>
 some (.tuple #[aF,aG,aJ],K.2.2))) (
 (fG p).bind fun aK=>
 (aj aK).bind fun aL=>
 (n.2.2.ld aL.1 (aL.2+2)).bind fun aM=>
 ((lenV aM).bind (ay .i64)).bind fun aN=>
 (lf 15 [o,p,.slice none 0 0,aM,.int .i64 aN,.int .i64 0] n.2.2).bind fun aO=>
 cond (Nat.beq aO.1 0) (
 (aO.2.1[0]?).bind fun aP=>
 (aO.2.1[1]?).bind fun aQ=>
 (aO.2.1[2]?).bind fun aR=>
 (fG aQ).bind fun aS=>
 (aj aS).bind fun aT=>
 (aO.2.2.ld aT.1 (aT.2+4)).bind fun aU=>
 ((lenV aU).bind (ay .i64)).bind fun aV=>
 (lf 30 [aP,aQ,aR,.slice none 0 0,aU,.int .i64 aV,.int .i64 0] aO.2.2).bind fun aW=>
 cond (Nat.beq aW.1 0) (
 (aW.2.1[0]?).bind fun aX=>
 (aW.2.1[1]?).bind fun aY=>
 (aW.2.1[2]?).bind fun aZ=>
 (aj aX).bind fun bA=>
 (aW.2.2.st bA.1 bA.2 [.int .i64 0,.int .i64 0]).bind fun bB=>
 (aj aX).bind fun bC=>
 (bB.fH bC.1 bC.2 2).bind fun bD=>
 some (.tuple #[aY,aZ,bD],bB)) (
 (aW.2.1[0]?).bind fun bE=>
 (aW.2.1[1]?).bind fun bF=>
 (aW.2.1[2]?).bind fun bG=>
 (aj bG).bind fun bH=>
 (aW.2.2.fH bH.1 bH.2 2).bind fun bI=>
 some (.tuple #[bE,bF,bI],aW.2.2))) (
 (aO.2.1[0]?).bind fun bJ=>
 (aO.2.1[1]?).bind fun bK=>
 (aO.2.1[2]?).bind fun bL=>
 (aj bL).bind fun bM=>
 (aO.2.2.fH bM.1 bM.2 2).bind fun bN=>
 some (.tuple #[bJ,bK,bN],aO.2.2)))) (
 (n.2.1[0]?).bind fun bO=>
 (n.2.1[1]?).bind fun bP=>
 (n.2.1[2]?).bind fun bQ=>
 (aj bQ).bind fun bR=>
 (n.2.2.fH bR.1 bR.2 2).bind fun bS=>
 some (.tuple #[bO,bP,bS],n.2.2)))
noncomputable abbrev vY:eX:=lS Tryz.prog Lk0 Tryz.f17 zfr
theorem ziX:Lk0.func 17=some (17,Tryz.f17):=by kernel_rfl
theorem Za [Sym] (text':ByteArray) (st:SS) {r:Value×SS} (h:UH cc vY text' st=some r):cc 17 [.string text'] st=some r:=
 mF (li:=zfr) gu gy ziX rfl (fun _=>rfl) (.trans (by kernel_rfl) h)
noncomputable def Y9 (cf:fQ) (lf:eX) (mD:Value) (l':Value) (Ik:Value) (tJ:Int) (rO:Int) (st:SS):Option (Nat×List Value×SS):=
 cond (decide (rO<tJ)) (
 (fK Ik rO 5).bind fun a=>
 (st.eF a.1 a.2 5).bind fun b=>
 let c:SS:=st.new (.cells [.int .i64 0,.string ⟨#[]⟩,.string ⟨#[]⟩,.slice none 0 0,.slice none 0 0] 0)
 (c.eH st.next 0 5 b).bind fun d=>
 (d.eF st.next 0 5).bind fun e=>
 (cf 45 [l',e] d).bind fun f=>
 ((some f.1).bind lF).bind fun g=>
 cond (!g) (
 ((f.2.ld st.next 0).bind (ay .i64)).bind fun h=>
 (aj mD).bind fun i=>
 (f.2.st i.1 i.2 [.int .i64 h,.int .i64 1]).bind fun j=>
 some (1,[.slice none 0 0,.slice none 0 0,mD],j)) (
 let k:Int:=IntKind.wrap .i64 (rO+1)
 lf 6 [mD,l',Ik,.int .i64 tJ,.int .i64 k] f.2)) (
 some (0,[mD,l'],st))
theorem zcX [Sym] (mD:Value) (l':Value) (Ik:Value) (tJ:Int) (rO:Int) (st:SS) {r:Nat×List Value×SS} (h:Y9 cc vY mD l' Ik tJ rO st=some r):vY 6 [mD,l',Ik,.int .i64 tJ,.int .i64 rO] st=some r:=
 oM gu gy (key:=6) (I:=zfb) rfl (by kernel_rfl) (by kernel_rfl) rfl rfl (.trans (by kernel_rfl) h)
noncomputable def UZ (cf:fQ) (lf:eX) (mD:Value) (l':Value) (words':Value) (Ah:Value) (pJ:Int) (oN:Int) (st:SS):Option (Nat×List Value×SS):=
 cond (decide (oN<pJ)) (
 (fK Ah oN 5).bind fun a=>
 (st.eF a.1 a.2 5).bind fun b=>
 let c:SS:=st.new (.cells [.int .i64 0,.string ⟨#[]⟩,.string ⟨#[]⟩,.slice none 0 0,.slice none 0 0] 0)
 (c.eH st.next 0 5 b).bind fun d=>
 (d.eF st.next 0 5).bind fun e=>
 (cf 46 [l',e] d).bind fun f=>
 (fM f.1 0).bind fun g=>
 ((fM f.1 1).bind (ay .i64)).bind fun h=>
 let i:SS:=f.2.new (.cells [.int .i64 0,.int .i64 0,.int .i64 0,.int .i64 0,.int .i64 0,.int .i64 0,.int .i64 0,.int .i64 0,.int .i64 0,.int .i64 0,.int .i64 0,.int .i64 0] 0)
 (i.eH f.2.next 0 12 g).bind fun j=>
 cond (decide (0<h)) (
 ((j.ld st.next 0).bind (ay .i64)).bind fun k=>
 (aj mD).bind fun l=>
 (j.st l.1 l.2 [.int .i64 k,.int .i64 h]).bind fun m=>
 some (1,[.slice none 0 0,.slice none 0 0,mD],m)) (
 (j.eF f.2.next 0 12).bind fun n=>
 (fG l').bind fun o=>
 (aj o).bind fun p=>
 (j.ld p.1 (p.2+3)).bind fun q=>
 (fK q oN 1).bind fun r=>
 ((j.ld r.1 r.2).bind (ay .i64)).bind fun s=>
 (cf 21 [n,.int .i64 s] j).bind fun t=>
 ((lenV t.1).bind (ay .i64)).bind fun u=>
 (lf 21 [mD,l',words',.int .i64 oN,ptr st.next 0,ptr f.2.next 0,Ah,.int .i64 pJ,.int .i64 oN,t.1,.int .i64 u,.int .i64 0] t.2).bind fun v=>
 cond (Nat.beq v.1 0) (
 (v.2.1[0]?).bind fun w=>
 (v.2.1[1]?).bind fun x=>
 (v.2.1[2]?).bind fun y=>
 ((v.2.1[3]?).bind (ay .i64)).bind fun z=>
 (v.2.1[4]?).bind fun A=>
 (v.2.1[5]?).bind fun B=>
 ((v.2.1[6]?).bind (ay .i64)).bind fun C=>
 ((v.2.1[7]?).bind (ay .i64)).bind fun D=>
 (fG x).bind fun E=>
 (aj E).bind fun F=>
 (v.2.2.ld F.1 (F.2+3)).bind fun G=>
 (fK G z 1).bind fun H=>
 ((v.2.2.ld H.1 H.2).bind (ay .i64)).bind fun I=>
 (aj A).bind fun J=>
 (v.2.2.eF J.1 J.2 12).bind fun K=>
 (fK y I 12).bind fun L=>
 (v.2.2.eH L.1 L.2 12 K).bind fun M=>
 let N:Int:=IntKind.wrap .i64 (D+1)
 lf 15 [w,x,y,B,.int .i64 C,.int .i64 N] M) (
 (v.2.1[0]?).bind fun O=>
 (v.2.1[1]?).bind fun P=>
 (v.2.1[2]?).bind fun Q=>
 some (1,[O,P,Q],v.2.2)))) (
 some (0,[mD,l',words'],st))
theorem Zn [Sym] (mD:Value) (l':Value) (words':Value) (Ah:Value) (pJ:Int) (oN:Int) (st:SS) {r:Nat×List Value×SS} (h:UZ cc vY mD l' words' Ah pJ oN st=some r):vY 15 [mD,l',words',Ah,.int .i64 pJ,.int .i64 oN] st=some r:=
 oM gu gy (key:=15) (I:=zeL) rfl (by kernel_rfl) (by kernel_rfl) rfl rfl (.trans (by kernel_rfl) h)
noncomputable def Zd (cf:fQ) (lf:eX) (mD:Value) (l':Value) (words':Value) (i':Int) (x':Value) (w':Value) (Ah:Value) (pJ:Int) (oN:Int) (Ia:Value) (H9:Int) (F5:Int) (st:SS):Option (Nat×List Value×SS):=
 cond (decide (F5<H9)) (
 (fK Ia F5 2).bind fun a=>
 (st.eF a.1 a.2 2).bind fun b=>
 let c:SS:=st.new (.cells [.int .i64 0,.int .i64 0] 0)
 (c.eH st.next 0 2 b).bind fun d=>
 (sQ (ptr st.next 0) 2 0 1).bind fun e=>
 ((d.ld e.1 e.2).bind (ay .i64)).bind fun f=>
 (sQ (ptr st.next 0) 2 1 1).bind fun g=>
 ((d.ld g.1 g.2).bind (ay .i64)).bind fun h=>
 let i:Int:=IntKind.wrap .i64 (f+h)
 ((lenV words').bind (ay .i64)).bind fun j=>
 cond (decide (j<i)) (
 (aj x').bind fun k=>
 ((d.ld k.1 k.2).bind (ay .i64)).bind fun l=>
 (aj x').bind fun m=>
 (d.ld m.1 (m.2+4)).bind fun n=>
 (fK n 0 5).bind fun o=>
 ((d.ld o.1 (o.2+1)).bind (ay .i64)).bind fun p=>
 (aj mD).bind fun q=>
 (d.st q.1 q.2 [.int .i64 l,.int .i64 p]).bind fun r=>
 some (1,[.slice none 0 0,.slice none 0 0,mD],r)) (
 let s:Int:=IntKind.wrap .i64 (F5+1)
 lf 21 [mD,l',words',.int .i64 i',x',w',Ah,.int .i64 pJ,.int .i64 oN,Ia,.int .i64 H9,.int .i64 s] d)) (
 some (0,[mD,l',words',.int .i64 i',w',Ah,.int .i64 pJ,.int .i64 oN],st))
theorem zcJ [Sym] (mD:Value) (l':Value) (words':Value) (i':Int) (x':Value) (w':Value) (Ah:Value) (pJ:Int) (oN:Int) (Ia:Value) (H9:Int) (F5:Int) (st:SS) {r:Nat×List Value×SS} (h:Zd cc vY mD l' words' i' x' w' Ah pJ oN Ia H9 F5 st=some r):vY 21 [mD,l',words',.int .i64 i',x',w',Ah,.int .i64 pJ,.int .i64 oN,Ia,.int .i64 H9,.int .i64 F5] st=some r:=
 oM gu gy (key:=21) (I:=zeK) rfl (by kernel_rfl) (by kernel_rfl) rfl rfl (.trans (by kernel_rfl) h)
noncomputable def Sj (cf:fQ) (lf:eX) (mD:Value) (l':Value) (words':Value) (entries':Value) (Dq:Value) (Dp:Int) (xO:Int) (st:SS):Option (Nat×List Value×SS):=
 cond (decide (xO<Dp)) (
 (fK Dq xO 3).bind fun a=>
 (st.eF a.1 a.2 3).bind fun b=>
 let c:SS:=st.new (.cells [.string ⟨#[]⟩,.int .i64 0,.int .i64 0] 0)
 (c.eH st.next 0 3 b).bind fun d=>
 (fG l').bind fun e=>
 (aj e).bind fun f=>
 (d.ld f.1 f.2).bind fun g=>
 ((d.ld st.next 0).bind asS).bind fun h=>
 (cf 47 [g,.string h] d).bind fun i=>
 ((some i.1).bind (ay .i64)).bind fun j=>
 cond (decide (j<0)) (
 (fG l').bind fun k=>
 (aj k).bind fun l=>
 (i.2.ld l.1 (l.2+5)).bind fun m=>
 (fK m xO 2).bind fun n=>
 (i.2.eF n.1 n.2 2).bind fun o=>
 (aj mD).bind fun p=>
 (i.2.eH p.1 p.2 2 o).bind fun q=>
 some (1,[.slice none 0 0,.slice none 0 0,mD],q)) (
 (fG l').bind fun r=>
 (aj r).bind fun s=>
 (i.2.ld s.1 (s.2+1)).bind fun t=>
 (fK t j 1).bind fun u=>
 ((i.2.ld u.1 u.2).bind (ay .i64)).bind fun v=>
 cond (decide (v<0)) (
 (fG l').bind fun w=>
 (aj w).bind fun x=>
 (i.2.ld x.1 (x.2+5)).bind fun y=>
 (fK y xO 2).bind fun z=>
 (i.2.eF z.1 z.2 2).bind fun A=>
 (aj mD).bind fun B=>
 (i.2.eH B.1 B.2 2 A).bind fun C=>
 some (1,[.slice none 0 0,.slice none 0 0,mD],C)) (
 (fG l').bind fun D=>
 (aj D).bind fun E=>
 (i.2.ld E.1 (E.2+1)).bind fun F=>
 (fK F j 1).bind fun G=>
 ((i.2.ld G.1 G.2).bind (ay .i64)).bind fun H=>
 ((lenV words').bind (ay .i64)).bind fun I=>
 cond (decide (I≤H)) (
 (fG l').bind fun J=>
 (aj J).bind fun K=>
 (i.2.ld K.1 (K.2+5)).bind fun L=>
 (fK L xO 2).bind fun M=>
 (i.2.eF M.1 M.2 2).bind fun N=>
 (aj mD).bind fun O=>
 (i.2.eH O.1 O.2 2 N).bind fun P=>
 some (1,[.slice none 0 0,.slice none 0 0,mD],P)) (
 ((i.2.ld st.next 0).bind asS).bind fun Q=>
 (fG l').bind fun R=>
 (aj R).bind fun S=>
 (i.2.ld S.1 (S.2+1)).bind fun T=>
 (fK T j 1).bind fun U=>
 ((i.2.ld U.1 U.2).bind (ay .i64)).bind fun V=>
 let W:SS:=i.2.new (.cells ([.string Q,.int .i64 V]) 2)
 (W.app 2 24 entries' (.slice (some ⟨i.2.next,0,none⟩) 1 1)).bind fun X=>
 let Y:Int:=IntKind.wrap .i64 (xO+1)
 lf 30 [mD,l',words',X.1,Dq,.int .i64 Dp,.int .i64 Y] X.2)))) (
 some (0,[mD,words',entries'],st))
theorem UW [Sym] (mD:Value) (l':Value) (words':Value) (entries':Value) (Dq:Value) (Dp:Int) (xO:Int) (st:SS) {r:Nat×List Value×SS} (h:Sj cc vY mD l' words' entries' Dq Dp xO st=some r):vY 30 [mD,l',words',entries',Dq,.int .i64 Dp,.int .i64 xO] st=some r:=
 oM gu gy (key:=30) (I:=zeJ) rfl (by kernel_rfl) (by kernel_rfl) rfl rfl (.trans (by kernel_rfl) h)
end Go.Proofs.YtifploedaacedaaGreatDoorE
namespace Go.Proofs.YtifploedaacedaaGreatDoorE
open Go Go.E Go.Proofs
theorem zqM {α:Type} {f:α→List Value} {z:Nat} (hz:∀ x,(f x).length=z) (x:α):∀ (l:List α) (k:Nat),k<l.length→(ak f l).take (k*z)++(f x++(ak f l).drop (k*z+z))=ak f (l.set k x)
 | [],k,h=>by simp at h
 | a::r,0,_=>by
   rw [Kr,List.set_cons_zero,Kr,Nat.zero_mul,List.take_zero,List.nil_append,Nat.zero_add,List.drop_append,hz,Nat.sub_self,List.drop_of_length_le (by rw [hz];exact fF _)]
   simp
 | a::r,k+1,h=>by
   have ih:=zqM hz x r k (by simpa using h)
   have e1:(k+1)*z-z=k*z:=by rw [Nat.add_mul];omega
   have e2:(k+1)*z+z-z=k*z+z:=by rw [Nat.add_mul];omega
   have e3:z≤(k+1)*z:=by rw [Nat.add_mul];omega
   rw [Kr,List.set_cons_succ,Kr,List.take_append,List.drop_append,hz,e1,e2,List.take_of_length_le (by rw [hz];exact e3),List.drop_of_length_le (by rw [hz];omega),List.nil_append,List.append_assoc,ih]
theorem zvY {α:Type} {f:α→List Value} {z:Nat} (hz:∀ x,(f x).length=z) (l:List α) (k:Nat) (x:α) (hk:k<l.length):FU (ak f l) (k*z) (f x)=some (ak f (l.set k x)):=by
 have h1:(k+1)*z≤l.length*z:=Nat.mul_le_mul_right _ hk
 rw [Nat.add_mul,Nat.one_mul] at h1
 rw [DY (by rw [hz,RF hz];exact h1),hz,zqM hz x l k hk]
theorem Own.put {b:Nat} {st:SS} {v:Value} {α:Type} {f:α→List Value} {z:Nat} (hz:∀ x,(f x).length=z) {l:List α} {n:Nat} (h:Own b st v (ak f l) z n) (hn:l.length=n) (hl:st.lim≤b) {k:Nat} (hk:k<n) (x:α) (h1:(f x).all one=true):
  ∃ i st',fK v (k:Int) z=some (i,k*z)∧b≤i∧i<st.next∧st.st i (k*z) (f x)=some st'∧(∀ u:Value,u.cells.toList=f x→st.eH i (k*z) z u=some st')∧Own b st' v (ak f (l.set k x)) z n∧Mod [i] st st'∧st'.next=st.next:=by
 obtain ⟨h2,⟨rfl,h0⟩ | ⟨i,rfl,h0,hm,hb,hi⟩⟩:=h
 ·omega
 ·have hs:=SS.mM hm (by omega) h1 (zvY hz l k x (by omega))
  refine ⟨i,_,?_,hb,hi,hs,fun u hu=>?_,⟨?_,.inr ⟨i,rfl,h0,by simp,hb,by simpa using hi⟩⟩,⟨fF _,rfl,fun j hj hS=>SS.rC (by simpa using hS)⟩,rfl⟩
  ·unfold fK
   simp [hk]
  ·unfold SS.eH
   have:u.cells.size=z:=by rw [← hz x,← hu];simp
   rw [this,hu,hs]
   simp
  ·rw [RF hz,List.length_set,hn]
def CO (w:Wd):List Value:=[.int .u64 (Gu w)]
def oU (e:List UInt8×Int):List Value:=[.string (mkS e.1),.int .i64 e.2]
abbrev NN:List Value:=[.slice none 0 0,.slice none 0 0]
abbrev Z2:List Value:=[.int .i64 0,.int .i64 0]
def D8 (N:Nat) (T:List (Int×Int)):Bool:=T.any fun t=>decide ((N:Int)<t.1+t.2)
theorem zvZ {x:Int} {n:Nat}:fitsT x n=true↔0≤x∧x<2^n:=by unfold fitsT;rw [decide_eq_true_eq]
theorem znd {s tw a:Int} (ha:0≤a∧a≤4096) (ht:0≤tw∧tw<2048):∀ t∈zK s tw a,0≤t.1∧t.1≤100000∧0≤t.2∧t.2≤100000:=by
 intro t h
 unfold zK at h
 repeat' (split at h)
 all_goals first
  | (cases h;done)
  | (simp only [List.mem_cons,List.not_mem_nil,or_false] at h
     rcases h with rfl | rfl<;>simp only<;>omega)
  | (simp only [List.mem_cons,List.not_mem_nil,or_false] at h
     subst h
     simp only
     omega)
theorem zts {w:Wd} (h:LU w):0≤w.getD 10 0∧w.getD 10 0<2048:=by
 have h1:=zqL.1 h.2 10 (by omega)
 have e:oh 10=11:=rfl
 rw [zvZ,e] at h1
 exact ⟨h1.1,by have:=h1.2;simpa using this⟩
theorem getD_some {w:Wd} {k:Nat} (h:k<w.length):w[k]?=some (w.getD k 0):=by
 rw [List.getD_eq_getElem?_getD,mW h];rfl
theorem zw9 [Sym] {base st0:SS} (hx0:Ext base st0) (hll:base.lim≤base.next) {T:List (Int×Int)} (hT:∀ t∈T,0≤t.1∧t.1≤100000∧0≤t.2∧t.2≤100000) (hTl:T.length≤10) {x:mV} {b' w' t38 v wv ev:Value} {n j:Int} {t2 t3 r xb N:Nat}
  (hN:(lenV wv).bind (ay .i64)=some (N:Int)) (hr:At st0 r [wv,ev]) (a2:At st0 t2 NN) (a3:At st0 t3 Z2) (ax:At st0 xb (pF x)) (hne:t2≠t3) (h2:base.next≤t2) (h3:base.next≤t3) (hxb:xb≠t2) (p0:Pr) (ps:List Pr) (hps:x.2.1.fC=p0::ps) (hp:Rd base x.2.2.2 (ak fB x.2.1.fC) 5 x.2.1.fC.length)
  (hv:Rd st0 v (ak Aa T) 2 T.length):∀ (k i:Nat) (s:SS),T.length=k+i→Ext st0 s→
  ∃ s',if D8 N (T.drop i)=true then zo 12 [b',ptr t2 0,ptr t3 0,ptr r 0,ptr xb 0,w',t38,.int .i64 n,.int .i64 j,v,.int .i64 T.length,.int .i64 i] s=some (1,[ptr t2 0,ptr t3 0],s')∧Ext base s'∧At s' t2 NN∧At s' t3 [.int .i64 x.2.1.ln,.int .i64 p0.col]
   else zo 12 [b',ptr t2 0,ptr t3 0,ptr r 0,ptr xb 0,w',t38,.int .i64 n,.int .i64 j,v,.int .i64 T.length,.int .i64 i] s=some (0,[b',ptr t2 0,ptr t3 0,ptr r 0,ptr xb 0,w',t38,.int .i64 n,.int .i64 j],s')∧Ext st0 s':=by
 intro k
 induction k with
 | zero=>
   intro i s hk he
   have h:¬ (i:Int)<(T.length:Int):=by omega
   rw [List.drop_of_length_le (by omega)]
   refine ⟨s,?_⟩
   rw [if_neg (by simp [D8])]
   refine ⟨zdY _ _ _ _ _ _ _ _ _ _ _ _ s ?_,he⟩
   simp only [Y4,bg h,dn]
 | succ k ih=>
   intro i s hk he
   have h:(i:Int)<(T.length:Int):=by omega
   obtain ⟨t,ht⟩:∃ t,T[i]?=some t:=⟨_,mW (by omega)⟩
   obtain ⟨q1,q2,q3,q4⟩:=hT t (xH ht)
   obtain ⟨p,b1,b2,_⟩:=(hv.ext he).load (j:=(i:Int)) (by omega) h (xw (f:=Aa) (z:=2) (fun _=>rfl) T i t ht) rfl
   have b2':s.eF p.1 p.2 2=some (.agg (Aa t).toArray):=b2
   have hlm:s.lim≤s.next:=((hx0.trans he).ll hll)
   obtain ⟨s4,e4,a4,x4,n4⟩:=pX (st:=s) hlm (r:=Z2) (row:=Aa t) (v:=.agg (Aa t).toArray) (lU _) rfl rfl rfl
   have e4':(s.new (.cells [.int .i64 0,.int .i64 0] 0)).eH s.next 0 2 (.agg (Aa t).toArray)=some s4:=e4
   have he4:=he.trans x4
   have c5:sQ (ptr s.next 0) 2 0 1=some (s.next,0):=rfl
   have c7:sQ (ptr s.next 0) 2 1 1=some (s.next,1):=rfl
   have l6:s4.ld s.next 0=some (.int .i64 t.1):=a4.ld
   have l8:s4.ld s.next 1=some (.int .i64 t.2):=a4.ld
   have V4:IntKind.wrap .i64 (t.1+t.2)=t.1+t.2:=wrap64 (by omega) (by omega)
   have tZ:s4.ld r 0=some wv:=(hr.ext he4).ld
   have hd:=drop_cons ht
   by_cases hc:(N:Int)<t.1+t.2
   ·obtain ⟨i15,z15,g1,g2,g3⟩:=hp.elem (j:=(0:Int)) (by omega) (by rw [hps];simp)
    obtain ⟨GU,f1,_,f3⟩:=((hp.ext hx0).ext he4).load (j:=(0:Int)) (by omega) (by rw [hps];simp) (row:=fB p0) (by rw [hps];rfl) rfl
    have hp17:GU.1<base.next:=by rw [g1] at f1;cases f1;exact g3
    have D7:s4.ld GU.1 (GU.2+1)=some (.int .i64 p0.col):=f3 1 (by omega)
    have xC:s4.ld xb (0+1)=some (.int .i64 x.2.1.ln):=(ax.ext he4).ld
    have Fg:s4.ld xb (0+1+4)=some x.2.2.2:=(ax.ext he4).ld
    have a24:=a2.ext he4
    have a34:=a3.ext he4
    obtain ⟨s20,e20,a20,m20,n20⟩:=a24.pU (k:=0) (vs:=NN) (row':=NN) rfl rfl
    obtain ⟨xQ,e22,a22,m22,n22⟩:=(a34.mod m20 (by simpa using hne.symm)).pU (k:=0) (vs:=[.int .i64 x.2.1.ln,.int .i64 p0.col]) (row':=[.int .i64 x.2.1.ln,.int .i64 p0.col]) rfl rfl
    refine ⟨xQ,?_⟩
    rw [if_pos (by unfold D8;rw [hd,List.any_cons,zdt hc];rfl)]
    refine ⟨zdY _ _ _ _ _ _ _ _ _ _ _ _ s ?_,pO (pO (hx0.trans he4) m20 h2) m22 h3,a20.mod m22 (by simpa using hne),a22⟩
    simp only [Y4,zdt h,cu,b1,b2',e4',c5,c7,l6,l8,bf,eP,V4,fZ,tZ,hN,zdt hc,xC,Fg,f1,D7,Gx hxb,Gx (show GU.1≠t2 by omega),e20,e22]
   ·obtain ⟨s',hs'⟩:=ih (i+1) s4 (by omega) he4
    have hw1:=ru (i:=i) (by omega)
    refine ⟨s',?_⟩
    have e:D8 N (T.drop i)=D8 N (T.drop (i+1)):=by unfold D8;rw [hd,List.any_cons,bg hc,Bool.false_or]
    rw [e]
    have go:∀ z,zo 12 [b',ptr t2 0,ptr t3 0,ptr r 0,ptr xb 0,w',t38,.int .i64 n,.int .i64 j,v,.int .i64 T.length,.int .i64 ((i+1:Nat):Int)] s4=some z→zo 12 [b',ptr t2 0,ptr t3 0,ptr r 0,ptr xb 0,w',t38,.int .i64 n,.int .i64 j,v,.int .i64 T.length,.int .i64 i] s=some z:=fun z hz=>by
     refine zdY _ _ _ _ _ _ _ _ _ _ _ _ s ?_
     simp only [Y4,zdt h,cu,b1,b2',e4',c5,c7,l6,l8,bf,eP,V4,fZ,tZ,hN,bg hc,dn,hw1]
     exact hz
    split
    ·rename_i hh
     rw [if_pos hh] at hs'
     exact ⟨go _ hs'.1,hs'.2⟩
    ·rename_i hh
     rw [if_neg hh] at hs'
     exact ⟨go _ hs'.1,hs'.2⟩
theorem zsc {M:Nat} {x:fU} (h:pq M x) (hM:M≤1099511627776):Tf x.fC:=⟨lT h.sp hM,fun p hp=>by
 obtain ⟨h1,h2,h3,h4⟩:=h.fC p hp
 exact ⟨h1,h2,by omega,by omega⟩⟩
def LayW (base:SS) (t2 t3 r N:Nat) (b' wv:Value) (res:Option (Nat×List Value×SS)):Except (Nat×Nat) (List Wd)→Prop
 | .error e=>∃ s',res=some (1,[ptr t2 0,ptr t3 0],s')∧Ext base s'∧At s' t2 NN∧At s' t3 [.int .i64 e.1,.int .i64 e.2]
 | .ok ws=>∃ s',res=some (0,[b',ptr t2 0,ptr t3 0,ptr r 0],s')∧Ext base s'∧At s' t2 NN∧At s' t3 Z2∧At s' r [wv,.slice none 0 0]∧Own (base.next+3) s' wv (ak CO ws) 1 N∧ws.length=N
theorem zye [Sym] {st0 base:SS} {B b i M:Nat} {vw ve vv wv:Value} {l:Lay} {its:List mV} (hB:vK st0 base B b i vw ve vv l its) (hL:nH M l) (hM:M≤100000) (hg:Gd base)
  (hN:(lenV wv).bind (ay .i64)=some ((sizeT l:Nat):Int)):∀ (k j:Nat) (ws:List Wd) (s:SS),its.length=k+j→ws.length=sizeT l→Ext base s→At s base.next NN→At s (base.next+1) Z2→At s (base.next+2) [wv,.slice none 0 0]→Own (base.next+3) s wv (ak CO ws) 1 (sizeT l)→
  LayW base base.next (base.next+1) (base.next+2) (sizeT l) (ptr b 0) wv (zo 6 [ptr b 0,ptr base.next 0,ptr (base.next+1) 0,ptr (base.next+2) 0,vw,.int .i64 its.length,.int .i64 j] s) (AV l.nms (sizeT l) (l.ni.drop j) ws):=by
 have hll:base.lim≤base.next:=by rw [hB.ext.lim];have:=hB.ll;have:=hB.ext.next;omega
 have hil:its.length≤2048:=by
  have h1:=hL.FZ
  have h2:=hL.pl
  rw [← hB.ni,List.length_map] at h1
  omega
 obtain ⟨hat,hNb⟩:=TT hL
 intro k
 induction k with
 | zero=>
   intro j ws s hk hws he a2 a3 ar ow
   have h:¬ (j:Int)<(its.length:Int):=by omega
   have hd:l.ni.drop j=[]:=List.drop_of_length_le (by rw [← hB.ni,List.length_map];omega)
   rw [hd]
   refine ⟨s,Zg _ _ _ _ _ _ _ s ?_,he,a2,a3,ar,ow,hws⟩
   simp only [UK,bg h,dn]
 | succ k ih=>
   intro j ws s hk hws he a2 a3 ar ow
   have h:(j:Int)<(its.length:Int):=by omega
   obtain ⟨x,hx⟩:∃ x,its[j]?=some x:=⟨_,mW (by omega)⟩
   have hwx:l.ni[j]?=some (x.1,x.2.1):=by rw [← hB.ni,List.getElem?_map,hx];rfl
   have hmem:=xH hwx
   obtain ⟨hlo,Cb,hln⟩:=hL.fC _ hmem
   have Qi:x.1<sizeT l:=hat _ hmem
   have hd:=drop_cons hwx
   obtain ⟨p0,ps,hps⟩:∃ p0 ps,x.2.1.fC=p0::ps:=by
    cases hp:x.2.1.fC with
    | nil=>exact absurd hp Cb
    | cons a r=>exact ⟨a,r,rfl⟩
   have hsb:=hB.then he
   have hlm:s.lim≤s.next:=he.ll hll
   obtain ⟨p1,b1,b2,_⟩:=hsb.ow.rd.load (j:=(j:Int)) (by omega) h (xw (f:=pF) (z:=6) (fun _=>rfl) its j x hx) rfl
   have b2':s.eF p1.1 p1.2 6=some (.agg (pF x).toArray):=b2
   obtain ⟨s4,e4,a4,x4,n4⟩:=pX (st:=s) hlm (r:=pF (0,⟨0,[],[],[],[]⟩,.slice none 0 0,.slice none 0 0)) (row:=pF x) (v:=.agg (pF x).toArray) (lU _) rfl (by
    obtain ⟨hr1,hr2⟩:=hB.KW x (xH hx)
    have o1:one x.2.2.1=true:=by obtain ⟨_,⟨e,_⟩ | ⟨i,c,e,_⟩⟩:=hr1<;>rw [e]<;>rfl
    have o2:one x.2.2.2=true:=by obtain ⟨_,⟨e,_⟩ | ⟨i,c,e,_⟩⟩:=hr2<;>rw [e]<;>rfl
    simp only [pF,dh,List.all_cons,List.all_nil,o1,o2]
    rfl) rfl
   have e4':(s.new (.cells [.int .i64 0,.int .i64 0,.string ⟨#[]⟩,.string ⟨#[]⟩,.slice none 0 0,.slice none 0 0] 0)).eH s.next 0 6 (.agg (pF x).toArray)=some s4:=e4
   have he4:=he.trans x4
   have sW:=hB.then he4
   have l5:s4.eF s.next 1 5=some (.agg (dh x.2).toArray):=a4.ldC rfl
   have hpr:Rd st0 x.2.2.2 (ak fB x.2.1.fC) 5 x.2.1.fC.length:=(hB.KW x (xH hx)).2
   have IY:=hpr.ext hB.ext
   obtain ⟨n6,u,Qp,hu,huo,c6⟩:=zvT l.nms hL.nms x.2 (zsc hlo (by omega)) b i (.int .i64 l.pl) vw ve vv s4 (hg.ext he4) sW.row.1 sW.row.lt sW.mp (by have:=sW.iB;have:=sW.BN;omega) (IY.ext he4)
   have x6:Ext s4 (s4.dw n6):=(Ext.refl _).dw Qp
   have CV:=he4.trans x6
   obtain ⟨s10,e10,a10,x10,n10⟩:=pX (n:=12) (st:=s4.dw n6) (CV.ll hll) (r:=mP) (row:=wRow u) (v:=wV u) (lU _) (by rw [rX,hu]) (FW u) rfl
   have Cm:((s4.dw n6).new (.cells [.int .i64 0,.int .i64 0,.int .i64 0,.int .i64 0,.int .i64 0,.int .i64 0,.int .i64 0,.int .i64 0,.int .i64 0,.int .i64 0,.int .i64 0,.int .i64 0] 0)).eH n6 0 12 (wV u)=some s10:=e10
   have Ci:=CV.trans x10
   have sF:Ext s4 s10:=x6.trans x10
   have AO:=a4.ext sF
   have t0:∀ (a:Value) (z:Int),fM (.tuple #[a,.int .i64 z]) 0=some a:=fun _ _=>rfl
   have t1:∀ (a:Value) (z:Int),(fM (.tuple #[a,.int .i64 z]) 1).bind (ay .i64)=some z:=fun _ _=>rfl
   have hE:AV l.nms (sizeT l) (l.ni.drop j) ws=if (ng l.nms ny x.2.1.fC).2≠0 then .error (x.2.1.ln,(ng l.nms ny x.2.1.fC).2)
    else if D8 (sizeT l) (zK ((ng l.nms ny x.2.1.fC).1.getD 8 0) ((ng l.nms ny x.2.1.fC).1.getD 10 0) x.1)=true then .error (x.2.1.ln,((x.2.1.fC.head?).map (·.col)).getD 0)
    else AV l.nms (sizeT l) (l.ni.drop (j+1)) (ws.set x.1 (ng l.nms ny x.2.1.fC).1):=by rw [hd];rfl
   have hlt2:base.next<s.next:=a2.lt
   have hlt3:base.next+1<s.next:=a3.lt
   by_cases hc:(ng l.nms ny x.2.1.fC).2=0
   ·rw [if_neg (fun hh=>hh hc)] at hE
    have hcz:¬ (0:Int)<(((ng l.nms ny x.2.1.fC).2:Nat):Int):=by omega
    have hue:=huo hc
    have KX:=zp9 l.nms x.2.1.fC
    generalize hw:(ng l.nms ny x.2.1.fC).1=w at*
    subst hue
    have Fg:s10.eF n6 0 12=some (wV u):=a10.eF (by rw [rX,hu])
    have l17:s10.ld s.next 0=some (.int .i64 x.1):=AO.ld
    have hto:=zts KX
    obtain ⟨v18,E8,c18,x18,o18⟩:=zwP u (x.1:Int) (u.getD 8 0) (u.getD 10 0) (getD_some (by omega)) (getD_some (by omega)) (by omega) (by omega) s10 (Ci.ll hll)
    have Ja:=Ci.trans x18
    have hT:=znd (s:=u.getD 8 0) (a:=(x.1:Int)) (by omega) hto
    have hTl:(zK (u.getD 8 0) (u.getD 10 0) (x.1:Int)).length≤10:=by
     unfold zK
     repeat' split
     all_goals simp
    obtain ⟨s20,h20⟩:=zw9 (b':=ptr b 0) (w':=ptr n6 0) (t38:=vw) (n:=its.length) (j:=j) Ja hll hT hTl (x:=x) (N:=sizeT l) hN (ar.ext ((x4.trans sF).trans x18)) (a2.ext ((x4.trans sF).trans x18)) (a3.ext ((x4.trans sF).trans x18)) (AO.ext x18) (by omega) (fF _) (by omega) (by omega) p0 ps hps IY o18.rd
     _ 0 E8 rfl (Ext.refl _)
    rw [List.drop_zero] at h20
    have hlen:(lenV v18).bind (ay .i64)=some ((zK (u.getD 8 0) (u.getD 10 0) (x.1:Int)).length:Int):=by rw [o18.len];rfl
    have b0:Nat.beq 0 0=true:=rfl
    have b1':Nat.beq 1 0=false:=rfl
    by_cases hr:D8 (sizeT l) (zK (u.getD 8 0) (u.getD 10 0) (x.1:Int))=true
    ·rw [if_pos hr] at hE h20
     rw [hE]
     obtain ⟨g1,g2,g3,g4⟩:=h20
     have g1':zo 12 [ptr b 0,ptr base.next 0,ptr (base.next+1) 0,ptr (base.next+2) 0,ptr s.next 0,ptr n6 0,vw,.int .i64 its.length,.int .i64 j,v18,.int .i64 (zK (u.getD 8 0) (u.getD 10 0) (x.1:Int)).length,.int .i64 0] E8=_:=g1
     refine ⟨s20,Zg _ _ _ _ _ _ _ s ?_,g2,g3,by rw [hps];exact g4⟩
     simp only [UK,zdt h,cu,b1,b2',e4',l5,c6,t0,t1,bf,SS.lM,Cm,bg hcz,dn,Fg,l17,eP,c18,hlen]
     rw [g1',bf]
     simp only [b1',dn,bf,lN,iZ]
    ·rw [if_neg hr] at hE h20
     rw [hE]
     obtain ⟨g1,g2⟩:=h20
     have g1':zo 12 [ptr b 0,ptr base.next 0,ptr (base.next+1) 0,ptr (base.next+2) 0,ptr s.next 0,ptr n6 0,vw,.int .i64 its.length,.int .i64 j,v18,.int .i64 (zK (u.getD 8 0) (u.getD 10 0) (x.1:Int)).length,.int .i64 0] E8=_:=g1
     have Gt:=Ja.trans g2
     have HY:Ext s s20:=((x4.trans sF).trans x18).trans g2
     have ZB:s20.ld (base.next+2) 0=some wv:=(ar.ext HY).ld
     have IQ:s20.ld s.next 0=some (.int .i64 x.1):=(AO.ext (x18.trans g2)).ld
     have IL:s20.eF n6 0 12=some (wV u):=(a10.ext (x18.trans g2)).eF (by rw [rX,hu])
     obtain ⟨n36,hn36,c36⟩:=zxZ u hu (s20.ro s20.next) (hg.ext Gt).ro
     rw [if_pos KX.2] at c36
     have Wi:s20.next≤n36:=hn36
     have x36:Ext s20 (s20.dw n36):=(Ext.refl _).dw Wi
     have hst:((s20.ro s20.next).dw n36).ro s20.lim=s20.dw n36:=rfl
     have u0:∀ (a:Int) (z:Int),(fM (.tuple #[.int .u64 a,.int .i64 z]) 0).bind (ay .u64)=some a:=fun _ _=>rfl
     have u1:∀ (a:Int) (z:Int),(fM (.tuple #[.int .u64 a,.int .i64 z]) 1).bind (ay .i64)=some z:=fun _ _=>rfl
     have WA:=Gt.trans x36
     obtain ⟨iw,Pn,f1,f2,f3,f4,_,f6,f7,f8⟩:=Own.put (f:=CO) (fun _=>rfl) ((ow.ext HY).ext x36) hws (by rw [WA.lim];omega) Qi u rfl
     rw [Nat.mul_one] at f1 f4
     have f4':(s20.dw n36).st iw x.1 [.int .u64 (Gu u)]=some Pn:=f4
     have OT:=HY.trans x36
     have next:=ih (j+1) (ws.set x.1 u) Pn (by omega) (by rw [List.length_set,hws]) (pO WA f7 (by omega)) ((a2.ext OT).mod f7 (by simp;omega)) ((a3.ext OT).mod f7 (by simp;omega)) ((ar.ext OT).mod f7 (by simp;omega)) f6
     have hw1:=ru (i:=j) (by omega)
     have step:∀ z,zo 6 [ptr b 0,ptr base.next 0,ptr (base.next+1) 0,ptr (base.next+2) 0,vw,.int .i64 its.length,.int .i64 ((j+1:Nat):Int)] Pn=some z→zo 6 [ptr b 0,ptr base.next 0,ptr (base.next+1) 0,ptr (base.next+2) 0,vw,.int .i64 its.length,.int .i64 j] s=some z:=fun z hz=>by
      refine Zg _ _ _ _ _ _ _ s ?_
      simp only [UK,zdt h,cu,b1,b2',e4',l5,c6,t0,t1,bf,SS.lM,Cm,bg hcz,dn,Fg,l17,eP,c18,hlen]
      rw [g1',bf]
      simp only [b0,cu,eP,bf,lN,iZ,fZ,ZB,IQ,IL,c36,u0,u1,hst,f1,f4',hw1]
      exact hz
     cases hz:AV l.nms (sizeT l) (l.ni.drop (j+1)) (ws.set x.1 u) with
     | error e=>
       rw [hz] at next
       obtain ⟨s',d1,d2⟩:=next
       exact ⟨s',step _ d1,d2⟩
     | ok ws'=>
       rw [hz] at next
       obtain ⟨s',d1,d2⟩:=next
       exact ⟨s',step _ d1,d2⟩
   ·rw [if_pos hc] at hE
    rw [hE]
    have hcz:(0:Int)<(((ng l.nms ny x.2.1.fC).2:Nat):Int):=by omega
    have U1:Ext s s10:=x4.trans sF
    have tZ:s10.ld s.next 1=some (.int .i64 x.2.1.ln):=AO.ld
    obtain ⟨s13,e13,G5,m13,n13⟩:=(a2.ext U1).pU (k:=0) (vs:=NN) (row':=NN) rfl rfl
    obtain ⟨s15,e15,QM,m15,n15⟩:=((a3.ext U1).mod m13 (by simp)).pU (k:=0) (vs:=[.int .i64 x.2.1.ln,.int .i64 (ng l.nms ny x.2.1.fC).2]) (row':=[.int .i64 x.2.1.ln,.int .i64 (ng l.nms ny x.2.1.fC).2]) rfl rfl
    refine ⟨s15,Zg _ _ _ _ _ _ _ s ?_,pO (pO Ci m13 (fF _)) m15 (by omega),G5.mod m15 (by simp),QM⟩
    simp only [UK,zdt h,cu,b1,b2',e4',l5,c6,t0,t1,bf,SS.lM,Cm,zdt hcz,tZ,eP,Gx (show s.next≠base.next by omega),fZ,e13,e15]
end Go.Proofs.YtifploedaacedaaGreatDoorE
namespace Go.Proofs.YtifploedaacedaaGreatDoorE
open Go Go.E Go.Proofs
def Xm (base:SS) (t2 t3 r N:Nat) (wv:Value) (ws:List Wd) (es:List (List UInt8×Int)) (res:Option (Nat×List Value×SS)):Except (Nat×Nat) (List (List UInt8×Int))→Prop
 | .error e=>∃ s',res=some (1,[ptr t2 0,ptr t3 0],s')∧Ext base s'∧At s' t2 NN∧At s' t3 [.int .i64 e.1,.int .i64 e.2]
 | .ok es'=>∃ s' ev',res=some (0,[ptr t2 0,ptr t3 0,ptr r 0],s')∧Ext base s'∧At s' t2 NN∧At s' t3 Z2∧At s' r [wv,ev']∧oK (base.next+3) s' [⟨wv,ak CO ws,1,N⟩,⟨ev',ak oU (es++es'),2,(es++es').length⟩]
theorem zxa [Sym] {st0 base:SS} {B b i M N:Nat} {vw ve vv wv:Value} {l:Lay} {its:List mV} (hB:vK st0 base B b i vw ve vv l its) (hL:nH M l) (hn:l.ents.length≤100000) (ws:List Wd)
  (hN:(lenV wv).bind (ay .i64)=some (N:Int)):∀ (k j:Nat) (es:List (List UInt8×Int)) (ev:Value) (s:SS),l.ents.length=k+j→es.length≤j→Ext base s→At s base.next NN→At s (base.next+1) Z2→At s (base.next+2) [wv,ev]→oK (base.next+3) s [⟨wv,ak CO ws,1,N⟩,⟨ev,ak oU es,2,es.length⟩]→
  Xm base base.next (base.next+1) (base.next+2) N wv ws es (zo 20 [ptr b 0,ptr base.next 0,ptr (base.next+1) 0,ptr (base.next+2) 0,vv,.int .i64 l.ents.length,.int .i64 j] s) (Bj l.nms N (l.ents.drop j)):=by
 have hll:base.lim≤base.next:=by rw [hB.ext.lim];have:=hB.ll;have:=hB.ext.next;omega
 intro k
 induction k with
 | zero=>
   intro j es ev s hk hes he a2 a3 ar ow
   have h:¬ (j:Int)<(l.ents.length:Int):=by omega
   rw [List.drop_of_length_le (by omega)]
   refine ⟨s,ev,U0 _ _ _ _ _ _ _ s ?_,he,a2,a3,ar,by rw [List.append_nil];exact ow⟩
   simp only [Sz,bg h,dn]
 | succ k ih=>
   intro j es ev s hk hes he a2 a3 ar ow
   have h:(j:Int)<(l.ents.length:Int):=by omega
   obtain ⟨e,hx⟩:∃ e,l.ents[j]?=some e:=⟨_,mW (by omega)⟩
   have hd:=drop_cons hx
   have hE:Bj l.nms N (l.ents.drop j)=match xu l.nms e.1.nm with
    | none=>.error e.2
    | some x=>if x<0∨(N:Int)≤x then .error e.2 else match Bj l.nms N (l.ents.drop (j+1)) with
      | .error z=>.error z
      | .ok es=>.ok ((e.1.nm,x)::es):=by rw [hd];rfl
   have hsb:=hB.then he
   have hlm:s.lim≤s.next:=he.ll hll
   have ov:=hsb.ov
   rw [show l.ents.length=(l.ents.map (·.1)).length by simp] at ov
   have hmx:(l.ents.map (·.1))[j]?=some e.1:=by rw [List.getElem?_map,hx];rfl
   obtain ⟨p1,b1,b2,_⟩:=ov.rd.load (j:=(j:Int)) (by omega) (by simpa using h) (xw (f:=au) (z:=3) (fun _=>rfl) _ j e.1 hmx) rfl
   have b2':s.eF p1.1 p1.2 3=some (.agg (au e.1).toArray):=b2
   obtain ⟨s4,e4,a4,x4,n4⟩:=pX (n:=3) (st:=s) hlm (r:=au ⟨[],0,0⟩) (row:=au e.1) (v:=.agg (au e.1).toArray) (lU _) rfl rfl rfl
   have e4':(s.new (.cells [.string ⟨#[]⟩,.int .i64 0,.int .i64 0] 0)).eH s.next 0 3 (.agg (au e.1).toArray)=some s4:=e4
   have he4:=he.trans x4
   have sW:=hB.then he4
   have hnl:fG (ptr b 0)=some (ptr b 0):=rfl
   have l7:s4.ld b (0+1)=some (.map (some i)):=sW.row.ld
   have l8:s4.ld s.next 0=some (.string (mkS e.1.nm)):=a4.ld
   have A8:s4.ld b (0+3)=some ve:=sW.row.ld
   have m7:s4.zU (.map (some i)) (mkS e.1.nm)=some ((xu l.nms e.1.nm).map (.int .i64)):=by
    unfold SS.zU
    simp only [sW.mp,bf,zow]
   obtain ⟨Na,c1,c2,_⟩:=sW.oe.rd.load (j:=(j:Int)) (by omega) h (xw (f:=nP) (z:=2) (fun _=>rfl) l.ents j e hx) rfl
   have c2':s4.eF Na.1 Na.2 2=some (.agg (nP e).toArray):=c2
   have hp14:Na.1<base.next:=by
    obtain ⟨i',z',g1,g2,g3⟩:=hB.oe.rd.elem (j:=(j:Int)) (by omega) h
    rw [g1] at c1;cases c1;exact g3
   have hbt:b≠base.next:=by have:=hB.row.lt;omega
   have a24:=a2.ext x4
   have a34:=a3.ext x4
   obtain ⟨oZ,e17,a17,m17,n17⟩:=a24.pU (k:=0) (vs:=NN) (row':=NN) rfl rfl
   obtain ⟨GN,e19,Xb,m19,n19⟩:=(a34.mod m17 (by simp)).eH (k:=0) (n:=2) (v:=.agg (nP e).toArray) (lU _) rfl rfl (row':=nP e) rfl
   have hbad:∀ z,z=some (1,[ptr base.next 0,ptr (base.next+1) 0],GN)→Xm base base.next (base.next+1) (base.next+2) N wv ws es z (.error e.2):=fun z hz=>⟨GN,hz,pO (pO he4 m17 (fF _)) m19 (by omega),a17.mod m19 (by simp),Xb⟩
   have hp2:vH (ptr Na.1 Na.2) (ptr base.next 0)=true:=Gx (by omega)
   have hp1:vH (ptr b (0+3)) (ptr base.next 0)=true:=Gx hbt
   rw [hE]
   cases hf:xu l.nms e.1.nm with
   | none=>
     rw [hf] at m7
     refine hbad _ (U0 _ _ _ _ _ _ _ s ?_)
     simp only [Sz,zdt h,cu,b1,b2',e4',hnl,fZ,l7,l8,m7,bf,fP,Option.map_none,EL,A8,c1,c2',hp1,hp2,e17,e19]
   | some y=>
     rw [hf] at m7
     have ht:(fM (.tuple #[.int .i64 y,.bool true]) 0).bind (ay .i64)=some y:=rfl
     by_cases hy:y<0
     ·simp only [if_pos (show y<0∨(N:Int)≤y from .inl hy)]
      refine hbad _ (U0 _ _ _ _ _ _ _ s ?_)
      simp only [Sz,zdt h,cu,b1,b2',e4',hnl,fZ,l7,l8,m7,bf,fP,Option.map_some,EL,ht,zdt hy,A8,c1,c2',hp1,hp2,e17,e19]
     ·have ZB:s4.ld (base.next+2) 0=some wv:=(ar.ext x4).ld
      by_cases Qh:(N:Int)≤y
      ·simp only [if_pos (show y<0∨(N:Int)≤y from .inr Qh)]
       refine hbad _ (U0 _ _ _ _ _ _ _ s ?_)
       simp only [Sz,zdt h,cu,b1,b2',e4',hnl,fZ,l7,l8,m7,bf,fP,Option.map_some,EL,ht,bg hy,dn,ZB,hN,zdt Qh,A8,c1,c2',hp1,hp2,e17,e19]
      ·simp only [if_neg (show ¬ (y<0∨(N:Int)≤y) by omega)]
       have SL:s4.ld (base.next+2) (0+1)=some ev:=(ar.ext x4).ld
       have hlt2:base.next+2<s.next:=ar.lt
       obtain ⟨q,Zt,f1,f2,f3⟩:=(ow.ext x4).push (k:=1) (row:=oU (e.1.nm,y)) (bt:=24) rfl (by have:=x4.next;omega) (by rw [he4.lim];omega) rfl (by omega) rfl (by omega) (by omega)
       have f1':(s4.new (.cells ([.string (mkS e.1.nm),.int .i64 y]) 2)).app 2 24 ev (.slice (some ⟨s4.next,0,none⟩) 1 1)=some (.slice (some ⟨q,0,none⟩) (es.length+1) (es.length+1),Zt):=f1
       have ar46:At Zt (base.next+2) [wv,ev]:=(ar.ext x4).fD f3 (by omega) (by simp)
       have a246:=a24.fD f3 (by omega) (by simp)
       have a346:=a34.fD f3 (by omega) (by simp)
       obtain ⟨Zr,e48,a48,Zz,n48⟩:=ar46.eH (k:=1) (n:=1) (v:=.slice (some ⟨q,0,none⟩) (es.length+1) (es.length+1)) (XP _ _ _) rfl rfl (row':=[wv,.slice (some ⟨q,0,none⟩) (es.length+1) (es.length+1)]) rfl
       have e48':Zt.eH (base.next+2) (0+1) 1 (.slice (some ⟨q,0,none⟩) (es.length+1) (es.length+1))=some Zr:=e48
       have he46:Ext base Zt:=⟨lT he4.next f3.next,f3.lim.trans he4.lim,fun m hm=>(f3.keep m (by omega) (by simp)).trans (he4.keep m hm)⟩
       have hw1:=ru (i:=j) (by omega)
       have ow48:=f2.lq Zz (by intro m hm;have e:m=base.next+2:=(by simpa using hm);omega)
       have VD:oK (base.next+3) Zr [⟨wv,ak CO ws,1,N⟩,⟨.slice (some ⟨q,0,none⟩) (es.length+1) (es.length+1),ak oU (es++[(e.1.nm,y)]),2,(es++[(e.1.nm,y)]).length⟩]:=by
        rw [FX,FV,List.length_append]
        exact ow48
       have next:=ih (j+1) (es++[(e.1.nm,y)]) _ Zr (by omega) (by simp;omega) (pO he46 Zz (by omega)) (a246.mod Zz (by simp)) (a346.mod Zz (by simp)) a48 VD
       have step:∀ z,zo 20 [ptr b 0,ptr base.next 0,ptr (base.next+1) 0,ptr (base.next+2) 0,vv,.int .i64 l.ents.length,.int .i64 ((j+1:Nat):Int)] Zr=some z→zo 20 [ptr b 0,ptr base.next 0,ptr (base.next+1) 0,ptr (base.next+2) 0,vv,.int .i64 l.ents.length,.int .i64 j] s=some z:=fun z hz=>by
        refine U0 _ _ _ _ _ _ _ s ?_
        simp only [Sz,zdt h,cu,b1,b2',e4',hnl,fZ,l7,l8,m7,bf,fP,Option.map_some,EL,ht,bg hy,dn,ZB,hN,bg Qh,SL,List.append_nil,f1',e48',hw1]
        exact hz
       cases hz:Bj l.nms N (l.ents.drop (j+1)) with
       | error z=>
         rw [hz] at next
         obtain ⟨s',d1,d2⟩:=next
         exact ⟨s',step _ d1,d2⟩
       | ok es'=>
         rw [hz] at next
         obtain ⟨s',ev',d1,d2,d3,d4,d5,d6⟩:=next
         refine ⟨s',ev',step _ d1,d2,d3,d4,d5,?_⟩
         rw [List.append_assoc] at d6
         exact d6
def CW (w e:Value):Value:=.agg #[w,e]
def LP (base:SS) (res:Option (Value×SS)):Except (Nat×Nat) (List Wd×List (List UInt8×Int))→Prop
 | .error e=>∃ s',res=some (.tuple #[CW (.slice none 0 0) (.slice none 0 0),rH e],s')∧Ext base s'∧e≠(0,0)
 | .ok (ws,es)=>∃ s' wv ev,res=some (.tuple #[CW wv ev,rH (0,0)],s')∧Ext base s'∧Own base.next s' wv (ak CO ws) 1 ws.length∧Own base.next s' ev (ak oU es) 2 es.length
theorem zl9 {M:Nat} {nms:vJ} {N:Nat}:∀ (xs:List (Nat×fU)) (ws:List Wd) (e:Nat×Nat),(∀ x∈xs,pq M x.2∧x.2.fC≠[]∧0<x.2.ln)→AV nms N xs ws=.error e→0<e.1
 | [],ws,e,_,h=>by cases h
 | x::r,ws,e,hx,h=>by
   unfold AV at h
   have:=(hx x (by simp)).2.2
   split at h
   ·cases h;exact this
   ·split at h
    ·cases h;exact this
    ·exact zl9 r _ e (fun y hy=>hx y (by simp [hy])) h
theorem zne {nms:vJ} {N:Nat}:∀ (xs:List (Val×Nat×Nat)) (e:Nat×Nat),(∀ x∈xs,x.1.nm≠[]∧0<x.2.1∧0<x.2.2)→Bj nms N xs=.error e→0<e.1
 | [],e,_,h=>by cases h
 | x::r,e,hx,h=>by
   unfold Bj at h
   have:=(hx x (by simp)).2.1
   split at h
   ·cases h;exact this
   ·split at h
    ·cases h;exact this
    ·split at h
     ·rename_i hz
      cases h
      exact zne r _ (fun y hy=>hx y (by simp [hy])) hz
     ·cases h
theorem zuq:Gu ny=0:=by decide+kernel
theorem zqN (n:Nat):ak CO (List.replicate n ny)=List.replicate n (.int .u64 0):=by
 induction n with
 | zero=>rfl
 | succ n ih=>rw [List.replicate_succ,Kr,ih,List.replicate_succ];unfold CO;rw [zuq];rfl
theorem RU {nms:vJ} {N:Nat}:∀ (xs:List (Nat×fU)) (ws ws':List Wd),AV nms N xs ws=.ok ws'→ws'.length=ws.length
 | [],ws,ws',h=>by cases h;rfl
 | x::r,ws,ws',h=>by
   unfold AV at h
   split at h
   ·cases h
   ·split at h
    ·cases h
    ·rw [RU r _ ws' h,List.length_set]
theorem P8 [Sym] {st0 base:SS} {B b i M:Nat} {vw ve vv:Value} {l:Lay} {its:List mV} (hB:vK st0 base B b i vw ve vv l its) (hL:nH M l) (hM:M≤100000) (hn:l.ents.length≤100000) (hg:Gd base):
  LP base (cc 44 [ptr b 0] base) (DL l):=by
 have hll:base.lim≤base.next:=by rw [hB.ext.lim];have:=hB.ll;have:=hB.ext.next;omega
 have hil:its.length=l.ni.length:=by rw [← hB.ni,List.length_map]
 have hil2:its.length≤2048:=by
  have h1:=hL.FZ
  have h2:=hL.pl
  omega
 have x1:Ext base (base.new (.cells NN 0)):=(Ext.refl _).new _
 have x2:Ext (base.new (.cells NN 0)) ((base.new (.cells NN 0)).new (.cells Z2 0)):=(Ext.refl _).new _
 have x3:Ext ((base.new (.cells NN 0)).new (.cells Z2 0)) (((base.new (.cells NN 0)).new (.cells Z2 0)).new (.cells NN 0)):=(Ext.refl _).new _
 have a2:At (((base.new (.cells NN 0)).new (.cells Z2 0)).new (.cells NN 0)) base.next NN:=((At.new hll NN).ext x2).ext x3
 have a3:At (((base.new (.cells NN 0)).new (.cells Z2 0)).new (.cells NN 0)) (base.next+1) Z2:=(At.new (st:=base.new (.cells NN 0)) (x1.ll hll) Z2).ext x3
 have ar:At (((base.new (.cells NN 0)).new (.cells Z2 0)).new (.cells NN 0)) (base.next+2) NN:=At.new (st:=(base.new (.cells NN 0)).new (.cells Z2 0)) ((x1.trans x2).ll hll) NN
 have he3:Ext base (((base.new (.cells NN 0)).new (.cells Z2 0)).new (.cells NN 0)):=x1.trans (x2.trans x3)
 have hn1:(base.new (.cells NN 0)).next=base.next+1:=rfl
 have hn2:((base.new (.cells NN 0)).new (.cells Z2 0)).next=base.next+2:=rfl
 have hn3:(((base.new (.cells NN 0)).new (.cells Z2 0)).new (.cells NN 0)).next=base.next+3:=rfl
 generalize hs3:((base.new (.cells NN 0)).new (.cells Z2 0)).new (.cells NN 0)=s3 at*
 have hsb:=hB.then he3
 have hnl:fG (ptr b 0)=some (ptr b 0):=rfl
 have l6:s3.ld b (0+2)=some vw:=hsb.row.ld
 have hlen:(lenV vw).bind (ay .i64)=some (its.length:Int):=by rw [hB.ow.len];rfl
 have rest:∀ (s:SS) (wv:Value),Ext base s→At s base.next NN→At s (base.next+1) Z2→At s (base.next+2) [wv,.slice none 0 0]→Own (base.next+3) s wv (ak CO (List.replicate (sizeT l) ny)) 1 (sizeT l)→
   LP base ((zo 6 [ptr b 0,ptr base.next 0,ptr (base.next+1) 0,ptr (base.next+2) 0,vw,.int .i64 its.length,.int .i64 0] s).bind fun GR=>cond (Nat.beq GR.1 0) (
  (GR.2.1[0]?).bind fun v22=>
  (GR.2.1[1]?).bind fun v23=>
  (GR.2.1[2]?).bind fun v24=>
  (GR.2.1[3]?).bind fun v25=>
  (fG v22).bind fun v26=>
  (aj v26).bind fun p27=>
  (GR.2.2.ld p27.1 (p27.2+4)).bind fun v28=>
  ((lenV v28).bind (ay .i64)).bind fun n29=>
  (zo 20 [v22,v23,v24,v25,v28,.int .i64 n29,.int .i64 0] GR.2.2).bind fun Iz=>
  cond (Nat.beq Iz.1 0) (
   (Iz.2.1[0]?).bind fun v31=>
   (Iz.2.1[1]?).bind fun v32=>
   (Iz.2.1[2]?).bind fun v33=>
   (aj v33).bind fun p34=>
   (Iz.2.2.eF p34.1 p34.2 2).bind fun v35=>
   (aj v31).bind fun p36=>
   (Iz.2.2.eH p36.1 p36.2 2 v35).bind fun st37=>
   (aj v32).bind fun p38=>
   (st37.st p38.1 p38.2 [.int .i64 0,.int .i64 0]).bind fun O5=>
   (aj v31).bind fun p40=>
   (O5.fH p40.1 p40.2 2).bind fun v41=>
   (aj v32).bind fun p42=>
   (O5.fH p42.1 p42.2 2).bind fun v43=>
   some (.tuple #[v41,v43],O5)) (
   (Iz.2.1[0]?).bind fun v44=>
   (Iz.2.1[1]?).bind fun v45=>
   (aj v44).bind fun p46=>
   (Iz.2.2.fH p46.1 p46.2 2).bind fun v47=>
   (aj v45).bind fun p48=>
   (Iz.2.2.fH p48.1 p48.2 2).bind fun v49=>
   some (.tuple #[v47,v49],Iz.2.2))) (
  (GR.2.1[0]?).bind fun v50=>
  (GR.2.1[1]?).bind fun v51=>
  (aj v50).bind fun p52=>
  (GR.2.2.fH p52.1 p52.2 2).bind fun v53=>
  (aj v51).bind fun p54=>
  (GR.2.2.fH p54.1 p54.2 2).bind fun v55=>
  some (.tuple #[v53,v55],GR.2.2))) (DL l):=by
  intro s wv he b2 b3 br bo
  have hN:(lenV wv).bind (ay .i64)=some ((sizeT l:Nat):Int):=by rw [bo.len];rfl
  have hw:=zye hB hL hM hg hN its.length 0 (List.replicate (sizeT l) ny) s rfl (by simp) he b2 b3 br bo
  rw [List.drop_zero] at hw
  have b0:Nat.beq 0 0=true:=rfl
  have b1:Nat.beq 1 0=false:=rfl
  unfold DL
  cases hws:AV l.nms (sizeT l) l.ni (List.replicate (sizeT l) ny) with
  | error e=>
    rw [hws] at hw
    obtain ⟨s',c1,c2,c3,c4⟩:=hw
    have c1':zo 6 [ptr b 0,ptr base.next 0,ptr (base.next+1) 0,ptr (base.next+2) 0,vw,.int .i64 its.length,.int .i64 0] s=_:=c1
    have r1:=c3.fH (n:=2) rfl
    have r2:=c4.fH (n:=2) rfl
    refine ⟨s',?_,c2,fun hh=>by have:=zl9 _ _ _ hL.fC hws;rw [hh] at this;omega⟩
    rw [c1',bf]
    simp only [b1,dn,lN,iZ,bf,fZ,r1,r2]
    rfl
  | ok ws=>
    rw [hws] at hw
    obtain ⟨s',c1,c2,c3,c4,c5,c6,c7⟩:=hw
    have c1':zo 6 [ptr b 0,ptr base.next 0,ptr (base.next+1) 0,ptr (base.next+2) 0,vw,.int .i64 its.length,.int .i64 0] s=_:=c1
    have hsb':=hB.then c2
    have ED:s'.ld b (0+4)=some vv:=hsb'.row.ld
    have hlen2:(lenV vv).bind (ay .i64)=some (l.ents.length:Int):=by rw [hB.ov.len];rfl
    have ow:oK (base.next+3) s' [⟨wv,ak CO ws,1,sizeT l⟩,⟨.slice none 0 0,ak oU [],2,([]:List (List UInt8×Int)).length⟩]:=by
     refine ⟨fun k o ho=>?_,fun k m a b' j ha hb h1 h2=>?_⟩
     ·match k,ho with
      | 0,ho=>cases ho;exact c6
      | 1,ho=>cases ho;exact Own.nil _ _ _
      | k+2,ho=>simp at ho
     ·match k,m,ha,hb with
      | 0,0,_,_=>rfl
      | 1,1,_,_=>rfl
      | 0,1,_,hb=>cases hb;cases h2
      | 1,0,ha,_=>cases ha;cases h1
      | k+2,_,ha,_=>simp at ha
      | _,k+2,_,hb=>simp at hb
    have hen:=zxa hB hL hn ws hN l.ents.length 0 [] _ s' rfl (by simp) c2 c3 c4 c5 ow
    rw [List.drop_zero] at hen
    rw [c1',bf]
    simp only [b0,cu,lN,iZ,bf,hnl,fZ,ED,hlen2]
    cases hes:Bj l.nms (sizeT l) l.ents with
    | error e=>
      rw [hes] at hen
      obtain ⟨s2,d1,d2,d3,d4⟩:=hen
      have d1':zo 20 [ptr b 0,ptr base.next 0,ptr (base.next+1) 0,ptr (base.next+2) 0,vv,.int .i64 l.ents.length,.int .i64 0] s'=_:=d1
      have r1:=d3.fH (n:=2) rfl
      have r2:=d4.fH (n:=2) rfl
      refine ⟨s2,?_,d2,fun hh=>by have:=zne _ _ hL.ent hes;rw [hh] at this;omega⟩
      rw [d1',bf]
      simp only [b1,dn,lN,iZ,bf,fZ,r1,r2]
      rfl
    | ok es=>
      rw [hes] at hen
      obtain ⟨s2,ev,d1,d2,d3,d4,d5,d6⟩:=hen
      have d1':zo 20 [ptr b 0,ptr base.next 0,ptr (base.next+1) 0,ptr (base.next+2) 0,vv,.int .i64 l.ents.length,.int .i64 0] s'=_:=d1
      have IL:=d5.eF (n:=2) rfl
      have o1:=d6.own 0 _ rfl
      have o2:=d6.own 1 _ rfl
      simp only [List.nil_append] at o2
      have w1:one wv=true:=(Own.cell o1).2
      have w2:one ev=true:=(Own.cell o2).2
      obtain ⟨Zu,e37,a37,GX,n37⟩:=d3.eH (k:=0) (n:=2) (v:=.agg [wv,ev].toArray) (lU _) rfl (by simp [w1,w2]) (row':=[wv,ev]) rfl
      obtain ⟨BD,e39,a39,P5,n39⟩:=(d4.mod GX (by simp)).pU (k:=0) (vs:=Z2) (row':=Z2) rfl rfl
      have r1:=(a37.mod P5 (by simp)).fH (n:=2) rfl
      have r2:=a39.fH (n:=2) rfl
      have Nr:=RU _ _ _ hws
      rw [List.length_replicate] at Nr
      have q1:∀ m,m∈[base.next]→m<base.next+3:=(by intro m hm;have e:m=base.next:=(by simpa using hm);omega)
      have q2:∀ m,m∈[base.next+1]→m<base.next+3:=(by intro m hm;have e:m=base.next+1:=(by simpa using hm);omega)
      refine ⟨BD,wv,ev,?_,pO (pO d2 GX (fF _)) P5 (by omega),?_,((o2.lq GX q1).lq P5 q2).low (by omega)⟩
      ·rw [d1',bf]
       simp only [b0,cu,lN,iZ,bf,fZ,IL,e37,e39,r1,r2]
       rfl
      ·rw [Nr]
       exact ((o1.lq GX q1).lq P5 q2).low (by omega)
 by_cases hw0:0<its.length
 ·have hp:(0:Int)<(its.length:Int):=by omega
  obtain ⟨x,hx⟩:∃ x,its[its.length-1]?=some x:=⟨_,mW (by omega)⟩
  have hwx:l.ni.getLast?=some (x.1,x.2.1):=by
   rw [List.getLast?_eq_getElem?,← hB.ni,List.length_map,List.getElem?_map,hx];rfl
  have hsz:sizeT l=x.1+1:=by unfold sizeT;rw [hwx]
  have hszb:=(TT hL).2
  have n11:IntKind.wrap .i64 ((its.length:Int)-1)=((its.length-1:Nat):Int):=by rw [wrap64 (by omega) (by omega)];omega
  obtain ⟨p12,b1,_,b3⟩:=hsb.ow.rd.load (j:=((its.length-1:Nat):Int)) (by omega) (by omega) (xw (f:=pF) (z:=6) (fun _=>rfl) its (its.length-1) x hx) rfl
  have A8:s3.ld p12.1 p12.2=some (.int .i64 x.1):=b3 0 (by omega)
  have n14:IntKind.wrap .i64 ((x.1:Int)+1)=((sizeT l:Nat):Int):=by rw [wrap64 (by omega) (by omega),hsz];omega
  have hmk:EO ((sizeT l:Nat):Int) ((sizeT l:Nat):Int) 8=some ():=Yj (by omega) (by omega) (by omega)
  have x15:Ext s3 (s3.new (.cells (List.replicate (sizeT l) (.int .u64 0)) 1)):=(Ext.refl _).new _
  obtain ⟨s16,e16,a16,m16,n16⟩:=(ar.ext x15).pU (k:=0) (vs:=[.slice (some ⟨s3.next,0,none⟩) (sizeT l) (sizeT l)]) (row':=[.slice (some ⟨s3.next,0,none⟩) (sizeT l) (sizeT l),.slice none 0 0]) rfl rfl
  have ow16:Own (base.next+3) s16 (.slice (some ⟨s3.next,0,none⟩) (sizeT l) (sizeT l)) (ak CO (List.replicate (sizeT l) ny)) 1 (sizeT l):=by
   refine ⟨by rw [zqN];simp,.inr ⟨s3.next,rfl,by omega,?_,by omega,by rw [n16];simp⟩⟩
   rw [zqN]
   exact m16.get (by simp) (by simp;omega) (SS.fV)
  have hr:=rest s16 _ (pO (he3.trans x15) m16 (by omega)) ((a2.ext x15).mod m16 (by simp)) ((a3.ext x15).mod m16 (by simp)) a16 ow16
  have IU:s16.ld b (0+2)=some vw:=(hB.then (pO (he3.trans x15) m16 (by omega))).row.ld
  have hst:∀ z,z=UC cc zo (ptr b 0) base→LP base z (DL l):=fun z hz=>by
   rw [hz]
   simp only [UC,hs3,hn1,hn2,hnl,bf,fZ,l6,hlen,zdt hp,cu,n11,b1,A8,eP,n14,hmk,zlO,Int.toNat_natCast,e16,IU]
   exact hr
  have hfin:=hst _ rfl
  cases hro:DL l with
  | error e=>
    rw [hro] at hfin
    obtain ⟨s',c,d⟩:=hfin
    exact ⟨s',YZ _ base c,d⟩
  | ok y=>
    obtain ⟨ws,es⟩:=y
    rw [hro] at hfin
    obtain ⟨s',wv,ev,c,d⟩:=hfin
    exact ⟨s',wv,ev,YZ _ base c,d⟩
 ·have hp:¬ (0:Int)<(its.length:Int):=by omega
  have hwn:l.ni=[]:=List.length_eq_zero_iff.1 (by omega)
  have hsz:sizeT l=0:=by unfold sizeT;rw [hwn];rfl
  have hr:=rest s3 (.slice none 0 0) he3 a2 a3 ar (by rw [hsz];exact Own.nil _ _ _)
  have hst:∀ z,z=UC cc zo (ptr b 0) base→LP base z (DL l):=fun z hz=>by
   rw [hz]
   simp only [UC,hs3,hn1,hn2,hnl,bf,fZ,l6,hlen,bg hp,dn]
   exact hr
  have hfin:=hst _ rfl
  cases hro:DL l with
  | error e=>
    rw [hro] at hfin
    obtain ⟨s',c,d⟩:=hfin
    exact ⟨s',YZ _ base c,d⟩
  | ok y=>
    obtain ⟨ws,es⟩:=y
    rw [hro] at hfin
    obtain ⟨s',wv,ev,c,d⟩:=hfin
    exact ⟨s',wv,ev,YZ _ base c,d⟩
end Go.Proofs.YtifploedaacedaaGreatDoorE
namespace Go.Proofs.YtifploedaacedaaGreatDoorE
open Go Go.E Go.Proofs
theorem zsd (a b c d:Int):Nw Tryz.prog Lk0 97 (.agg #[.int .i64 a,.int .i64 b]) (.agg #[.int .i64 c,.int .i64 d])=some (decide (a=c)&&(decide (b=d)&&true)):=by kernel_rfl
theorem At.frm {b i j:Nat} {vw:Value} {st st':SS} {row:List Value} (h:At st j row) (f:CG b i vw st st') (h1:j≠b) (h2:j≠i) (h3:nT vw≠some j):At st' j row:=⟨(f.keep j h.lt h1 h2 h3).trans h.1,pz h.lt f.next,by rw [f.lim];exact h.2.2⟩
theorem L9 {st:SS} {v:Value} {c:List Value} {z n:Nat} (h:Rd st v c z n):one v=true:=by obtain ⟨_,⟨e,_⟩ | ⟨i,c,e,_⟩⟩:=h<;>rw [e]<;>rfl
def AsmL (base st0:SS) (B b i t2 t3:Nat) (res:Option (Nat×List Value×SS)):Except (Nat×Nat) Lay→Prop
 | .error e=>∃ s',res=some (1,[ptr t2 0,ptr t3 0,.int .i64 4],s')∧Ext base s'∧At s' t2 NN∧At s' t3 [.int .i64 e.1,.int .i64 e.2]
 | .ok l=>∃ s' vw ve vv its,res=some (0,[ptr t2 0,ptr t3 0,ptr b 0],s')∧vK st0 s' B b i vw ve vv l its
theorem zyf [Sym] {base st0:SS} {B b i M:Nat} (hM:M≤100000) (items:List Item) (hits:items.length≤99999) (hok:∀ x∈items,pq M x.1∧0<x.1.ln) (v:Value) (hv:Rd st0 v (ak dh items) 5 items.length)
  (hrd:∀ x∈items,Rd st0 x.2.1 (ak au x.1.args) 3 x.1.args.length∧Rd st0 x.2.2 (ak fB x.1.fC) 5 x.1.fC.length) (hx0:Ext base st0) (hb2:base.next+2≤st0.next) (a2:At st0 base.next NN) (a3:At st0 (base.next+1) Z2):
  ∀ (k j:Nat) (l:Lay) (vw ve vv:Value) (its:List mV) (s:SS),items.length=k+j→vK st0 s B b i vw ve vv l its→nH M l→l.ents.length≤j→
  AsmL base st0 B b i base.next (base.next+1) (MP 6 [ptr base.next 0,ptr (base.next+1) 0,ptr b 0,v,.int .i64 items.length,.int .i64 j] s) (AP l ((items.drop j).map (·.1))):=by
 intro k
 induction k with
 | zero=>
   intro j l vw ve vv its s hk hB hL hen
   have h:¬ (j:Int)<(items.length:Int):=by omega
   rw [List.drop_of_length_le (by omega)]
   refine ⟨s,vw,ve,vv,its,zfk _ _ _ _ _ _ s ?_,hB⟩
   simp only [YV,bg h,dn]
 | succ k ih=>
   intro j l vw ve vv its s hk hB hL hen
   have h:(j:Int)<(items.length:Int):=by omega
   obtain ⟨x,hx⟩:∃ x,items[j]?=some x:=⟨_,mW (by omega)⟩
   have hmem:=xH hx
   have hd:=drop_cons hx
   have hlm:s.lim≤s.next:=hB.ext.ll hB.ll
   have hil:its.length≤2048:=by
    have h1:=hL.FZ
    have h2:=hL.pl
    rw [← hB.ni,List.length_map] at h1
    omega
   obtain ⟨p1,b1,b2,_⟩:=(hv.ext hB.ext).load (j:=(j:Int)) (by omega) h (xw (f:=dh) (z:=5) (fun _=>rfl) items j x hx) rfl
   have b2':s.eF p1.1 p1.2 5=some (.agg (dh x).toArray):=b2
   have ho:one x.2.1=true∧one x.2.2=true:=⟨L9 (hrd x hmem).1,L9 (hrd x hmem).2⟩
   obtain ⟨s4,e4,a4,x4,n4⟩:=pX (n:=5) (st:=s) hlm (r:=dh (⟨0,[],[],[],[]⟩,.slice none 0 0,.slice none 0 0)) (row:=dh x) (v:=.agg (dh x).toArray) (lU _) rfl (by
    simp only [dh,List.all_cons,List.all_nil,ho.1,ho.2]
    rfl) rfl
   have e4':(s.new (.cells [.int .i64 0,.string ⟨#[]⟩,.string ⟨#[]⟩,.slice none 0 0,.slice none 0 0] 0)).eH s.next 0 5 (.agg (dh x).toArray)=some s4:=e4
   have l5:s4.eF s.next 0 5=some (.agg (dh x).toArray):=a4.eF rfl
   have hf:=zw6 (hB.then x4) x (hrd x hmem) ho hL.pl (by omega) (by omega) (by have:=(hok x hmem).1.sa;omega)
   have hL6:AP l ((items.drop j).map (·.1))=match Hl l x.1 with
    | none=>.error (x.1.ln,1)
    | some l'=>AP l' ((items.drop (j+1)).map (·.1)):=by rw [hd];rfl
   rw [hL6]
   cases hln:Hl l x.1 with
   | none=>
     rw [hln] at hf
     obtain ⟨s6,c6,f6⟩:=hf
     have hxs:∀ q,q<st0.next→q≠b∧q≠i∧nT vw≠some q:=fun q hq=>⟨by have:=hB.b0;omega,by have:=hB.i0;omega,fun e=>by have:=(CZ hB.ow e).1;have:=hB.b0;have:=hB.bB;omega⟩
     have a46:At s6 s.next (dh x):=At.frm a4 f6 (by have:=hB.bB;have:=hB.BN;omega) (by have:=hB.iB;have:=hB.BN;omega) fun e=>by have:=(CZ hB.ow e).2;omega
     have a26:At s6 base.next NN:=At.frm (a2.ext (hB.ext.trans x4)) f6 (hxs _ (by omega)).1 (hxs _ (by omega)).2.1 (hxs _ (by omega)).2.2
     have a36:At s6 (base.next+1) Z2:=At.frm (a3.ext (hB.ext.trans x4)) f6 (hxs _ (by omega)).1 (hxs _ (by omega)).2.1 (hxs _ (by omega)).2.2
     have x6:Ext base s6:=by
      have y:=(hx0.trans hB.ext).trans x4
      exact ⟨lT y.next f6.next,f6.lim.trans y.lim,fun q hq=>(f6.keep q (pz hq y.next) (hxs q (by omega)).1 (hxs q (by omega)).2.1 (hxs q (by omega)).2.2).trans (y.keep q hq)⟩
     have l8:s6.ld s.next 0=some (.int .i64 x.1.ln):=a46.ld
     obtain ⟨s10,e10,a10,m10,n10⟩:=a26.pU (k:=0) (vs:=NN) (row':=NN) rfl rfl
     obtain ⟨s12,e12,a12,m12,n12⟩:=(a36.mod m10 (by simp)).pU (k:=0) (vs:=[.int .i64 x.1.ln,.int .i64 1]) (row':=[.int .i64 x.1.ln,.int .i64 1]) rfl rfl
     have hne:vH (ptr s.next 0) (ptr base.next 0)=true:=Gx (by have:=hB.ext.next;omega)
     refine ⟨s12,zfk _ _ _ _ _ _ s ?_,pO (pO x6 m10 (fF _)) m12 (by omega),a10.mod m12 (by simp),a12⟩
     simp only [YV,zdt h,cu,b1,b2',e4',l5,c6,bf,mg,nJ,l8,eP,hne,fZ,e10,e12]
   | some l'=>
     rw [hln] at hf
     obtain ⟨s6,AY,ve',AZ,oP,c6,h6,_⟩:=hf
     obtain ⟨g1,g2⟩:=zox hL (hok x hmem).1 (hok x hmem).2 hln
     have next:=ih (j+1) l' AY ve' AZ oP s6 (by omega) h6 g1 (by omega)
     have hw1:=ru (i:=j) (by omega)
     have step:∀ z,MP 6 [ptr base.next 0,ptr (base.next+1) 0,ptr b 0,v,.int .i64 items.length,.int .i64 ((j+1:Nat):Int)] s6=some z→MP 6 [ptr base.next 0,ptr (base.next+1) 0,ptr b 0,v,.int .i64 items.length,.int .i64 j] s=some z:=fun z hz=>by
      refine zfk _ _ _ _ _ _ s ?_
      simp only [YV,zdt h,cu,b1,b2',e4',l5,c6,bf,mg,lY,dn,hw1]
      exact hz
     simp only
     cases hz:AP l' ((items.drop (j+1)).map (·.1)) with
     | error e=>
       rw [hz] at next
       obtain ⟨s',d1,d2⟩:=next
       exact ⟨s',step _ d1,d2⟩
     | ok l2=>
       rw [hz] at next
       obtain ⟨s',w1,w2,w3,w4,d1,d2⟩:=next
       exact ⟨s',w1,w2,w3,w4,step _ d1,d2⟩
def AsmR (st:SS) (res:Option (Value×SS)):Except (Nat×Nat) (List Wd×List (List UInt8×Int))→Prop
 | .error e=>∃ s',res=some (.tuple #[CW (.slice none 0 0) (.slice none 0 0),rH e,.int .i64 4],s')∧Ext st s'
 | .ok (ws,es)=>∃ s' wv ev,res=some (.tuple #[CW wv ev,rH (0,0),.int .i64 0],s')∧Ext st s'∧Own st.next s' wv (ak CO ws) 1 ws.length∧Own st.next s' ev (ak oU es) 2 es.length
theorem QL [Sym] {st:SS} (hg:Gd st) (hl:st.lim≤st.next) (s:ByteArray) (hs:s.size≤65536):AsmR st (cc 16 [.string s] st) (EM (bl s)):=by
 have x1:Ext st (st.new (.cells NN 0)):=(Ext.refl _).new _
 have x2:Ext (st.new (.cells NN 0)) ((st.new (.cells NN 0)).new (.cells Z2 0)):=(Ext.refl _).new _
 have a2:At ((st.new (.cells NN 0)).new (.cells Z2 0)) st.next NN:=(At.new hl NN).ext x2
 have a3:At ((st.new (.cells NN 0)).new (.cells Z2 0)) (st.next+1) Z2:=At.new (st:=st.new (.cells NN 0)) (x1.ll hl) Z2
 have hn1:(st.new (.cells NN 0)).next=st.next+1:=rfl
 have hn2:((st.new (.cells NN 0)).new (.cells Z2 0)).next=st.next+2:=rfl
 have JI:=x1.trans x2
 generalize hs2:(st.new (.cells NN 0)).new (.cells Z2 0)=s2 at*
 have hp:=zwX (hg.ext JI) (JI.ll hl) s hs
 have t0:∀ (a b c:Value),fM (.tuple #[a,b,c]) 0=some a:=fun _ _ _=>rfl
 have t1:∀ (a b c:Value),fM (.tuple #[a,b,c]) 1=some b:=fun _ _ _=>rfl
 have t2:∀ (a b c:Value),fM (.tuple #[a,b,c]) 2=some c:=fun _ _ _=>rfl
 have u0:∀ (a b:Value),fM (.tuple #[a,b]) 0=some a:=fun _ _=>rfl
 have u1:∀ (a b:Value),fM (.tuple #[a,b]) 1=some b:=fun _ _=>rfl
 unfold EM
 cases hpt:Ec (bl s) with
 | error e=>
   rw [hpt] at hp
   obtain ⟨s3,c3,x3⟩:=hp
   obtain ⟨s8,e8,a8,x8,n8⟩:=pX (n:=2) (st:=s3) ((JI.trans x3).ll hl) (r:=Z2) (row:=[.int .i64 e.1,.int .i64 e.2]) (v:=rH e) rfl rfl rfl rfl
   have y8:(s3.new (.cells [.int .i64 0,.int .i64 0] 0)).eH s3.next 0 2 (rH e)=some s8:=e8
   have h4:¬ (4:Int)=0:=by decide
   have a28:=(a2.ext x3).ext x8
   have a38:=(a3.ext x3).ext x8
   have l9:s8.eF s3.next 0 2=some (rH e):=a8.eF rfl
   have hne:vH (ptr s3.next 0) (ptr st.next 0)=true:=Gx (by have:=x3.next;omega)
   obtain ⟨s10,e10,a10,m10,n10⟩:=a28.pU (k:=0) (vs:=NN) (row':=NN) rfl rfl
   obtain ⟨s11,e11,a11,m11,n11⟩:=(a38.mod m10 (by simp)).eH (k:=0) (n:=2) (v:=rH e) (vs:=[.int .i64 e.1,.int .i64 e.2]) rfl rfl rfl (row':=[.int .i64 e.1,.int .i64 e.2]) rfl
   have r1:=(a10.mod m11 (by simp)).fH (n:=2) rfl
   have r2:=a11.fH (n:=2) rfl
   refine ⟨s11,YU _ st ?_,pO (pO ((JI.trans x3).trans x8) m10 (fF _)) m11 (by omega)⟩
   simp only [Ux,hs2,hn1,c3,t0,t1,t2,bf,eP,y8,bg h4,nJ,cu,l9,hne,e10,e11,r1,r2]
   rfl
 | ok xs=>
   rw [hpt] at hp
   obtain ⟨v,s3,c3,x3,items,hxs,hv,hrd⟩:=hp
   obtain ⟨hok,hlen⟩:=XO hpt
   rw [tC] at hok hlen
   obtain ⟨s8,e8,a8,x8,n8⟩:=pX (n:=2) (st:=s3) ((JI.trans x3).ll hl) (r:=Z2) (row:=Z2) (v:=rH (0,0)) rfl rfl rfl rfl
   have y8:(s3.new (.cells [.int .i64 0,.int .i64 0] 0)).eH s3.next 0 2 (rH (0,0))=some s8:=e8
   have h0:(0:Int)=0:=rfl
   have x08:=(JI.trans x3).trans x8
   have hl8:=x08.ll hl
   have hlen':(lenV v).bind (ay .i64)=some (items.length:Int):=by rw [hv.len];rfl
   have hil:items.length=xs.length:=by rw [← hxs,List.length_map]
   have hmp:((s8.new (.map [])).new (.cells (rG 0 s8.next (.slice none 0 0) (.slice none 0 0) (.slice none 0 0)) 0)).mem.get s8.next=some (.map []):=by
    rw [SS.nM (by simp)];exact SS.fV
   have hB0:vK s8 ((s8.new (.map [])).new (.cells (rG 0 s8.next (.slice none 0 0) (.slice none 0 0) (.slice none 0 0)) 0)) (s8.next+2) (s8.next+1) s8.next (.slice none 0 0) (.slice none 0 0) (.slice none 0 0) zY []:=
    ⟨((Ext.refl s8).new _).new _,hl8,At.new (st:=s8.new (.map [])) (by simp;omega) _,hmp,by omega,fF _,by omega,by omega,by omega,by simp,Own.nil _ _ _,Own.nil _ _ _,Own.nil _ _ _,fun j hj=>(by cases hj),fun j hj=>(by cases hj),rfl,fun x hx=>(by cases hx)⟩
   have hb2:st.next+2≤s8.next:=by have:=x3.next;have:=x8.next;omega
   have hloop:=zyf (base:=st) (st0:=s8) (B:=s8.next+2) (b:=s8.next+1) (i:=s8.next) (M:=s.size+1) (by omega) items (by omega) (fun x hx=>hok x.1 (by rw [← hxs];exact List.mem_map_of_mem hx)) v (hv.ext x8) (fun x hx=>⟨(hrd x hx).1.ext x8,(hrd x hx).2.ext x8⟩) x08 hb2 ((a2.ext x3).ext x8) ((a3.ext x3).ext x8)
    items.length 0 zY _ _ _ [] _ rfl hB0 (Rt _) (by simp [zY])
   rw [List.drop_zero,hxs] at hloop
   have b0:Nat.beq 0 0=true:=rfl
   have b1:Nat.beq 1 0=false:=rfl
   simp only
   cases Ld:AP zY xs with
   | error e=>
     rw [Ld] at hloop
     obtain ⟨oZ,d1,d2,d3,d4⟩:=hloop
     have d1':MP 6 [ptr st.next 0,ptr (st.next+1) 0,ptr (s8.new (.map [])).next 0,v,.int .i64 items.length,.int .i64 0] ((s8.new (.map [])).new (.cells [.int .i64 0,.map (some s8.next),.slice none 0 0,.slice none 0 0,.slice none 0 0] 0))=_:=d1
     have r1:=d3.fH (n:=2) rfl
     have r2:=d4.fH (n:=2) rfl
     refine ⟨oZ,YU _ st ?_,d2⟩
     simp only [Ux,hs2,hn1,c3,t0,t1,t2,bf,eP,y8,decide_true,lY,dn,hlen']
     rw [d1',bf]
     simp only [b1,dn,lN,iZ,bf,fZ,eP,r1,r2]
     rfl
   | ok l=>
     rw [Ld] at hloop
     obtain ⟨oZ,vw,ve,vv,its,d1,hB⟩:=hloop
     have d1':MP 6 [ptr st.next 0,ptr (st.next+1) 0,ptr (s8.new (.map [])).next 0,v,.int .i64 items.length,.int .i64 0] ((s8.new (.map [])).new (.cells [.int .i64 0,.map (some s8.next),.slice none 0 0,.slice none 0 0,.slice none 0 0] 0))=_:=d1
     obtain ⟨hL,hen⟩:=XM xs zY l (Rt (s.size+1)) hok Ld
     simp only [zY,List.length_nil,Nat.zero_add] at hen
     have Ej:=x08.trans hB.ext
     have Le:=P8 hB hL (by omega) (by omega) (hg.ext Ej)
     have Xa:=((a2.ext x3).ext x8).ext hB.ext
     have W9:=((a3.ext x3).ext x8).ext hB.ext
     have hn17:st.next+2≤oZ.next:=lT hb2 hB.ext.next
     simp only
     cases hro:DL l with
     | error e=>
       rw [hro] at Le
       obtain ⟨oQ,c21,x21,hne⟩:=Le
       have DI:=x21.ll (Ej.ll hl)
       have y1:Ext oQ (oQ.new (.cells NN 0)):=(Ext.refl _).new _
       have y2:Ext (oQ.new (.cells NN 0)) ((oQ.new (.cells NN 0)).new (.cells Z2 0)):=(Ext.refl _).new _
       have q1:At ((oQ.new (.cells NN 0)).new (.cells Z2 0)) oQ.next NN:=(At.new DI NN).ext y2
       have q2:At ((oQ.new (.cells NN 0)).new (.cells Z2 0)) (oQ.new (.cells NN 0)).next Z2:=At.new (st:=oQ.new (.cells NN 0)) (y1.ll DI) Z2
       have hnn:(oQ.new (.cells NN 0)).next=oQ.next+1:=rfl
       obtain ⟨s26,e26,a26,VP,n26⟩:=q1.eH (k:=0) (n:=2) (v:=CW (.slice none 0 0) (.slice none 0 0)) (vs:=NN) rfl rfl rfl (row':=NN) rfl
       obtain ⟨BF,e27,a27,Fb,n27⟩:=(q2.mod VP (by simp)).eH (k:=0) (n:=2) (v:=rH e) (vs:=[.int .i64 e.1,.int .i64 e.2]) rfl rfl rfl (row':=[.int .i64 e.1,.int .i64 e.2]) rfl
       have ED:BF.eF (oQ.new (.cells NN 0)).next 0 2=some (.agg #[.int .i64 e.1,.int .i64 e.2]):=a27.eF rfl
       have heq:(decide ((e.1:Int)=0)&&(decide ((e.2:Int)=0)&&true))=false:=by
        rw [Bool.and_true,← Bool.decide_and,decide_eq_false_iff_not]
        exact fun hh=>hne (Prod.ext (by omega) (by omega))
       have x27:Ext oQ BF:=pO (pO (y1.trans y2) VP (fF _)) Fb (by simp)
       have OO:=(Ej.trans x21).trans x27
       have hp1:vH (ptr (oQ.new (.cells NN 0)).next 0) (ptr st.next 0)=true:=Gx (by have:=x21.next;simp;omega)
       obtain ⟨Ac,e32,a32,m32,n32⟩:=((Xa.ext x21).ext x27).pU (k:=0) (vs:=NN) (row':=NN) rfl rfl
       obtain ⟨Vs,e34,a34,JK,n34⟩:=(((W9.ext x21).ext x27).mod m32 (by simp)).eH (k:=0) (n:=2) (v:=.agg #[.int .i64 e.1,.int .i64 e.2]) (vs:=[.int .i64 e.1,.int .i64 e.2]) rfl rfl rfl (row':=[.int .i64 e.1,.int .i64 e.2]) rfl
       have r1:=(a32.mod JK (by simp)).fH (n:=2) rfl
       have r2:=a34.fH (n:=2) rfl
       refine ⟨Vs,YU _ st ?_,pO (pO OO m32 (fF _)) JK (by omega)⟩
       simp only [Ux,hs2,hn1,c3,t0,t1,t2,bf,eP,y8,decide_true,lY,dn,hlen']
       rw [d1',bf]
       simp only [b0,cu,lN,iZ,bf]
       rw [c21,bf]
       simp only [u0,u1,bf,e26,e27,ED,zsd,heq,nJ,mg,cu,hp1,fZ,e32,e34,r1,r2]
       rfl
     | ok y=>
       obtain ⟨ws,es⟩:=y
       rw [hro] at Le
       obtain ⟨oQ,wv,ev,c21,x21,o1,o2⟩:=Le
       have DI:=x21.ll (Ej.ll hl)
       have w1:one wv=true:=(Own.cell o1).2
       have w2:one ev=true:=(Own.cell o2).2
       have y1:Ext oQ (oQ.new (.cells NN 0)):=(Ext.refl _).new _
       have y2:Ext (oQ.new (.cells NN 0)) ((oQ.new (.cells NN 0)).new (.cells Z2 0)):=(Ext.refl _).new _
       have q1:At ((oQ.new (.cells NN 0)).new (.cells Z2 0)) oQ.next NN:=(At.new DI NN).ext y2
       have q2:At ((oQ.new (.cells NN 0)).new (.cells Z2 0)) (oQ.new (.cells NN 0)).next Z2:=At.new (st:=oQ.new (.cells NN 0)) (y1.ll DI) Z2
       obtain ⟨s26,e26,a26,VP,n26⟩:=q1.eH (k:=0) (n:=2) (v:=CW wv ev) (vs:=[wv,ev]) rfl rfl (by simp [w1,w2]) (row':=[wv,ev]) rfl
       obtain ⟨BF,e27,a27,Fb,n27⟩:=(q2.mod VP (by simp)).eH (k:=0) (n:=2) (v:=rH (0,0)) (vs:=Z2) rfl rfl rfl (row':=Z2) rfl
       have ED:BF.eF (oQ.new (.cells NN 0)).next 0 2=some (.agg #[.int .i64 0,.int .i64 0]):=a27.eF rfl
       have heq:(decide ((0:Int)=0)&&(decide ((0:Int)=0)&&true))=true:=rfl
       have x27:Ext oQ BF:=pO (pO (y1.trans y2) VP (fF _)) Fb (by simp)
       have OO:=(Ej.trans x21).trans x27
       have l39:BF.eF oQ.next 0 2=some (.agg [wv,ev].toArray):=(a26.mod Fb (by simp)).eF rfl
       obtain ⟨s41,e41,a41,ZA,n41⟩:=((Xa.ext x21).ext x27).eH (k:=0) (n:=2) (v:=.agg [wv,ev].toArray) (vs:=[wv,ev]) (lU _) rfl (by simp [w1,w2]) (row':=[wv,ev]) rfl
       obtain ⟨s43,e43,a43,SH,n43⟩:=(((W9.ext x21).ext x27).mod ZA (by simp)).pU (k:=0) (vs:=Z2) (row':=Z2) rfl rfl
       have r1:=(a41.mod SH (by simp)).fH (n:=2) rfl
       have r2:=a43.fH (n:=2) rfl
       have z1:∀ m,m∈[st.next]→m<oZ.next:=by intro m hm;have e:m=st.next:=(by simpa using hm);omega
       have z2:∀ m,m∈[st.next+1]→m<oZ.next:=by intro m hm;have e:m=st.next+1:=(by simpa using hm);omega
       refine ⟨s43,wv,ev,YU _ st ?_,pO (pO OO ZA (fF _)) SH (by omega),(((o1.ext x27).lq ZA z1).lq SH z2).low (by omega),(((o2.ext x27).lq ZA z1).lq SH z2).low (by omega)⟩
       simp only [Ux,hs2,hn1,c3,t0,t1,t2,bf,eP,y8,decide_true,lY,dn,hlen']
       rw [d1',bf]
       simp only [b0,cu,lN,iZ,bf]
       rw [c21,bf]
       simp only [u0,u1,bf,e26,e27,ED,zsd,heq,lY,mg,dn,l39,fZ,e41,e43,r1,r2]
       rfl
end Go.Proofs.YtifploedaacedaaGreatDoorE
namespace Go.Proofs.YtifploedaacedaaGreatDoorE
open Go Go.E Go.Proofs
def Free (L:List OL) (j:Nat):Prop:=∀ (k:Nat) (o:OL),L[k]?=some o→nT o.v≠some j
structure sZ (b:Nat) (st:SS) (L:List OL) (st':SS) (L':List OL):Prop where
 next:st.next≤st'.next
 lim:st'.lim=st.lim
 keep:∀ j,j<st.next→j≠b→Free L j→st'.mem.get j=st.mem.get j∧Free L' j
section
variable {b B : Nat} {st st' mZ : SS} {L L' L'' : List OL}
theorem sZ.trans (h:sZ b st L st' L') (k:sZ b st' L' mZ L''):sZ b st L mZ L'':=⟨lT h.next k.next,k.lim.trans h.lim,fun j h1 h2 h3=>by
 obtain ⟨a,c⟩:=h.keep j h1 h2 h3
 obtain ⟨d,e⟩:=k.keep j (pz h1 h.next) h2 c
 exact ⟨d.trans a,e⟩⟩
theorem sZ.ext (x:Ext st st'):sZ b st L st' L:=⟨x.next,x.lim,fun j h1 _ h3=>⟨x.keep j h1,h3⟩⟩
theorem sZ.mod (m:Mod [b] st st'):sZ b st L st' L:=⟨m.next,m.lim,fun j h1 h2 h3=>⟨m.keep j h1 (by simpa using h2),h3⟩⟩
theorem oK.free (h:oK B st L) {j:Nat} (hj:j<B):Free L j:=fun k o ho e=>by have:=(CZ (h.own k o ho) e).1;omega
theorem oK.Fp (h:oK B st L) {j:Nat} (hj:st.next≤j):Free L j:=fun k o ho e=>by have:=(CZ (h.own k o ho) e).2;omega
theorem sZ.at (f:sZ b st L st' L') {j:Nat} {row:List Value} (h:At st j row) (h1:j≠b) (h2:Free L j):At st' j row:=⟨(f.keep j h.lt h1 h2).1.trans h.1,pz h.lt f.next,by rw [f.lim];exact h.2.2⟩
theorem sZ.xK {st0:SS} (f:sZ b st L st' L') (x:Ext st0 st) (hb:st0.next≤b) (ow:oK B st L) (hB:st0.next≤B):Ext st0 st':=⟨lT x.next f.next,f.lim.trans x.lim,fun j hj=>(f.keep j (pz hj x.next) (by omega) (ow.free (by omega))).1.trans (x.keep j hj)⟩
theorem oK.grow {row:List Value} (ha:At st b row) (hb:b<B) (hB:B≤st.next) (hl:st.lim≤B) (ow:oK B st L) {k:Nat} {v:Value} {c rw':List Value} {z n bt:Nat} (hk:L[k]?=some ⟨v,c,z,n⟩) (hkr:k<row.length) (hr:rw'.length=z) (hz:0<z) (h1:rw'.all one=true) (hs:(n+2)*bt≤2^44) (hn:n+1≤2^44):
  ∃ w s1 s2,(st.new (.cells rw' z)).app z bt v (.slice (some ⟨st.next,0,none⟩) 1 1)=some (w,s1)∧s1.eH b k 1 w=some s2∧At s2 b (row.set k w)∧oK B s2 (L.set k ⟨w,c++rw',z,n+1⟩)∧sZ b st L s2 (L.set k ⟨w,c++rw',z,n+1⟩):=by
 obtain ⟨j,s1,f1,f2,f3⟩:=ow.push hk hB hl hr hz h1 hs hn
 have a1:=ha.fD f3 hb (by simp)
 obtain ⟨s2,e2,a2,m2,n2⟩:=a1.eH (k:=k) (n:=1) (v:=.slice (some ⟨j,0,none⟩) (n+1) (n+1)) (XP _ _ _) rfl rfl (zlY hkr _)
 refine ⟨_,s1,s2,f1,e2,a2,f2.lq m2 (by intro m hm;have e:m=b:=(by simpa using hm);omega),?_⟩
 have hlt:k<L.length:=(List.getElem?_eq_some_iff.1 hk).1
 obtain ⟨j',s1',g1,g2,g3,g4,g5,g6⟩:=TU (row:=rw') (bt:=bt) (ow.own k _ hk) hB hl hr hz h1 hs hn
 have hsame:=f1.symm.trans g1
 simp only [iY,lJ,Value.slice.injEq,Addr.mk.injEq,and_true,true_and] at hsame
 obtain ⟨e1,e2'⟩:=hsame
 subst e1
 subst e2'
 refine ⟨lT f3.next m2.next,m2.lim.trans f3.lim,fun q h1 h2 h3=>⟨(m2.keep q (pz h1 f3.next) (by simpa using h2)).trans (g6 q h1 (h3 k _ hk)),fun m o ho e=>?_⟩⟩
 by_cases hm:m=k
 ·subst hm
  rw [List.getElem?_set_self hlt] at ho
  cases ho
  cases e
  omega
 ·rw [List.getElem?_set_ne (fun e=>hm e.symm)] at ho
  exact h3 m o ho e
end
structure V6 where
 n:Value
 m:Value
 l:Value
 p:Value
 e:Value
 a:Value
def VI (x:List UInt8×Int):List Value:=[.string (mkS x.1)]
def Nb (x:List UInt8×Int):List Value:=[.int .i64 x.2]
def SI (x:mV):List Value:=dh x.2
def PL (x:mV):List Value:=[.int .i64 x.1]
def OV (x:Val×Nat×Nat):List Value:=au x.1
theorem zoz (l:vJ):ak VI l=strs (l.map (·.1)):=by
 induction l with
 | nil=>rfl
 | cons x r ih=>rw [Kr,ih];rfl
def LO (v:V6) (l:Lay) (its:List mV):List OL:=[⟨v.n,ak VI l.nms,1,l.nms.length⟩,⟨v.m,ak Nb l.nms,1,l.nms.length⟩,⟨v.l,ak SI its,5,its.length⟩,⟨v.p,ak PL its,1,its.length⟩,⟨v.e,ak OV l.ents,3,l.ents.length⟩,⟨v.a,ak nP l.ents,2,l.ents.length⟩]
def xW (v:V6) (pl:Nat):List Value:=[v.n,v.m,v.l,v.p,v.e,v.a,.int .i64 pl]
structure zW (st0 st:SS) (B b:Nat) (v:V6) (l:Lay) (its:List mV):Prop where
 ext:Ext st0 st
 ll:st0.lim≤st0.next
 row:At st b (xW v l.pl)
 b0:st0.next≤b
 bB:b<B
 BN:B≤st.next
 ow:oK B st (LO v l its)
 ni:its.map (fun x=>(x.1,x.2.1))=l.ni
 KW:∀ x∈its,Rd st0 x.2.2.1 (ak au x.2.1.args) 3 x.2.1.args.length∧Rd st0 x.2.2.2 (ak fB x.2.1.fC) 5 x.2.1.fC.length
section
variable {st0 st st' : SS} {B b : Nat} {v : V6} {l : Lay} {its : List mV}
theorem zW.then (h:zW st0 st B b v l its) (x:Ext st st'):zW st0 st' B b v l its:=
 { h with ext:=h.ext.trans x,row:=h.row.ext x,BN:=lT h.BN x.next,ow:=h.ow.ext x }
theorem zW.EC (h:zW st0 st B b v l its):st.lim≤B:=by rw [h.ext.lim];have:=h.ll;have:=h.b0;have:=h.bB;omega
theorem zW.SK (h:zW st0 st B b v l its):st.lim≤st.next:=lT h.EC h.BN
theorem zW.place (h:zW st0 st B b v l its) (p:Nat):∃ st',st.st b 6 [.int .i64 p]=some st'∧zW st0 st' B b v { l with pl:=p } its∧Mod [b] st st':=by
 obtain ⟨s',e,a,m,_⟩:=h.row.pU (k:=6) (vs:=[.int .i64 p]) (row':=xW v p) rfl rfl
 exact ⟨s',e,{ h with ext:=pO h.ext m h.b0,row:=a,BN:=lT h.BN m.next,ow:=h.ow.lq m (by intro j hj;have e:j=b:=(by simpa using hj);have:=h.bB;omega) },m⟩
theorem X7:∀ (l:vJ) (n:List UInt8),match xu l n with
  | none=>inT (l.map (·.1)) n= -1
  | some x=>∃ k:Nat,inT (l.map (·.1)) n=k∧∃ y,l[k]?=some (y,x)
 | [],n=>rfl
 | a::r,n=>by
   have ih:=X7 r n
   unfold xu inT
   rw [List.find?_cons,List.map_cons,List.findIdx?_cons]
   by_cases h:n=a.1
   ·rw [zdt h,zdt h.symm]
    exact ⟨0,rfl,a.1,rfl⟩
   ·rw [bg h,bg (fun e=>h e.symm)]
    unfold xu inT at ih
    simp only
    cases hf:r.find? (fun x=>decide (n=x.1)) with
    | none=>
      rw [hf] at ih
      cases hi:(r.map (·.1)).findIdx? (fun x=>decide (x=n)) with
      | none=>simp [hi]
      | some k=>rw [hi] at ih;simp at ih
    | some y=>
      rw [hf] at ih
      simp only [Option.map_some] at ih ⊢
      obtain ⟨k,h1,h2⟩:=ih
      cases hi:(r.map (·.1)).findIdx? (fun x=>decide (x=n)) with
      | none=>rw [hi] at h1;simp at h1
      | some j=>
        rw [hi] at h1
        refine ⟨j+1,by simp,?_⟩
        have:k=j:=by simp only at h1;omega
        subst this
        simpa using h2
theorem zW.define [Sym] (h:zW st0 st B b v l its) (hsz:l.nms.length≤1000000) (n:List UInt8) (x:Int):
  match l.define n x with
  | none=>∃ st',cc 74 [ptr b 0,.string (mkS n),.int .i64 x] st=some (.bool false,st')∧Ext st st'
  | some l'=>∃ st' v',cc 74 [ptr b 0,.string (mkS n),.int .i64 x] st=some (.bool true,st')∧zW st0 st' B b v' l' its∧sZ b st (LO v l its) st' (LO v' l' its):=by
 have hnl:fG (ptr b 0)=some (ptr b 0):=rfl
 have l3:st.ld b 0=some v.n:=h.row.ld
 have on:Rd st v.n (strs (l.nms.map (·.1))) 1 (l.nms.map (·.1)).length:=by
  have:=(h.ow.own 0 _ rfl).rd
  rw [zoz] at this
  rw [List.length_map]
  exact this
 obtain ⟨n4,hn4,c4⟩:=Xt (l.nms.map (·.1)) (by simp;omega) (mkS n) v.n st on
 rw [vW] at c4
 have x4:Ext st (st.dw n4):=(Ext.refl _).dw hn4
 have hfi:=X7 l.nms n
 unfold Lay.define
 cases hf:xu l.nms n with
 | some y=>
   rw [hf] at hfi
   obtain ⟨k,h1,_⟩:=hfi
   rw [if_pos (.inl rfl)]
   refine ⟨_,zcW _ _ _ st ?_,x4⟩
   have h0:(0:Int)≤inT (l.nms.map (·.1)) n:=by omega
   simp only [Zb,hnl,bf,fZ,l3,c4,eP,zdt h0,cu]
 | none=>
   rw [hf] at hfi
   simp only at hfi
   have h0:¬ (0:Int)≤inT (l.nms.map (·.1)) n:=by omega
   have he:fA (mkS n) ⟨#[]⟩=decide (n=[]):=Ef _
   by_cases hn:n=[]
   ·rw [if_pos (.inr hn)]
    refine ⟨_,zcW _ _ _ st ?_,x4⟩
    simp only [Zb,hnl,bf,fZ,l3,c4,eP,bg h0,dn,he,zdt hn,cu]
   ·rw [if_neg (by rintro (e | e);cases e;exact hn e)]
    have h4:=h.then x4
    have l8:(st.dw n4).ld b 0=some v.n:=h4.row.ld
    obtain ⟨w1,s10,s13,f1,f2,f3,f4,f5⟩:=oK.grow (k:=0) (bt:=16) (rw':=VI (n,x)) h4.row h4.bB h4.BN h4.EC h4.ow rfl (by simp [xW]) rfl (by omega) rfl (by omega) (by omega)
    have f1':((st.dw n4).new (.cells [.string (mkS n)] 1)).app 1 16 v.n (.slice (some ⟨n4,0,none⟩) 1 1)=some (w1,s10):=f1
    have Fg:s13.ld b (0+1)=some v.m:=f3.ld
    obtain ⟨w2,E8,oQ,g1,g2,g3,g4,g5⟩:=oK.grow (k:=1) (bt:=8) (rw':=Nb (n,x)) f3 h4.bB (lT h4.BN f5.next) (by rw [f5.lim];exact h4.EC) f4 rfl (by simp [xW]) rfl (by omega) rfl (by omega) (by omega)
    have g1':(s13.new (.cells [.int .i64 x] 1)).app 1 8 v.m (.slice (some ⟨s13.next,0,none⟩) 1 1)=some (w2,E8):=g1
    have g2':E8.eH b (0+1) 1 w2=some oQ:=g2
    have e2:LO { v with n:=w1,m:=w2 } { l with nms:=l.nms++[(n,x)] } its=((LO v l its).set 0 ⟨w1,ak VI l.nms++VI (n,x),1,l.nms.length+1⟩).set 1 ⟨w2,ak Nb l.nms++Nb (n,x),1,l.nms.length+1⟩:=by
     simp only [LO,FX,FV,List.length_append,List.length_cons,List.length_nil]
     rfl
    have fr:sZ b st (LO v l its) oQ (LO { v with n:=w1,m:=w2 } { l with nms:=l.nms++[(n,x)] } its):=by
     rw [e2]
     exact ((sZ.ext x4).trans f5).trans g5
    refine ⟨oQ,{ v with n:=w1,m:=w2 },zcW _ _ _ st ?_,{ h with ext:=fr.xK h.ext h.b0 h.ow (by have:=h.b0;have:=h.bB;omega),row:=g3,BN:=lT h.BN fr.next,ow:=by rw [e2];exact g4 },fr⟩
    simp only [Zb,hnl,bf,fZ,l3,c4,eP,bg h0,dn,he,bg hn,l8,List.append_nil,SS.lM,f1',f2,Fg,g1',g2']
end
end Go.Proofs.YtifploedaacedaaGreatDoorE
namespace Go.Proofs.YtifploedaacedaaGreatDoorE
open Go Go.E Go.Proofs
noncomputable def vS [Sym] (l':Value) (a:Nat) (s:SS):Option (Value×SS):=
  ((s.ld a 2).bind asS).bind fun b=>
  cond (fA b ⟨#[]⟩) (
   (s.ld a 4).bind fun c=>
   ((lenV c).bind (ay .i64)).bind fun d=>
   cond (decide (0<d)) (
    (fG l').bind fun e=>
    (aj e).bind fun f=>
    (s.ld f.1 (f.2+2)).bind fun g=>
    (s.eF a 0 5).bind fun h=>
    (nX h 5).bind fun i=>
    let j:SS:=s.new (.cells (i++([])) 5)
    (j.app 5 88 g (.slice (some ⟨s.next,0,none⟩) 1 1)).bind fun k=>
    (fG l').bind fun l=>
    (aj l).bind fun m=>
    (k.2.eH m.1 (m.2+2) 1 k.1).bind fun n=>
    (fG l').bind fun o=>
    (aj o).bind fun p=>
    (n.ld p.1 (p.2+3)).bind fun q=>
    (fG l').bind fun r=>
    (aj r).bind fun t=>
    ((n.ld t.1 (t.2+6)).bind (ay .i64)).bind fun u=>
    let v:SS:=n.new (.cells ([.int .i64 u]) 1)
    (v.app 1 8 q (.slice (some ⟨n.next,0,none⟩) 1 1)).bind fun w=>
    (fG l').bind fun x=>
    (aj x).bind fun y=>
    (w.2.eH y.1 (y.2+3) 1 w.1).bind fun z=>
    (fG l').bind fun A=>
    (aj A).bind fun B=>
    ((z.ld B.1 (B.2+6)).bind (ay .i64)).bind fun C=>
    let D:Int:=IntKind.wrap .i64 (C+1)
    (fG l').bind fun E=>
    (aj E).bind fun F=>
    (z.st F.1 (F.2+6) [.int .i64 D]).bind fun G=>
    (fG l').bind fun H=>
    (aj H).bind fun I=>
    ((G.ld I.1 (I.2+6)).bind (ay .i64)).bind fun J=>
    some (.bool (decide (J≤2048)),G)) (
    (fG l').bind fun K=>
    (aj K).bind fun L=>
    ((s.ld L.1 (L.2+6)).bind (ay .i64)).bind fun M=>
    some (.bool (decide (M≤2048)),s))) (
   (s.ld a 3).bind fun N=>
   ((lenV N).bind (ay .i64)).bind fun O=>
   cond (decide (O=0)) (
    some (.bool false,s)) (
    (s.ld a 3).bind fun P=>
    (fK P 0 3).bind fun Q=>
    (s.eF Q.1 Q.2 3).bind fun R=>
    let S:SS:=s.new (.cells [.string ⟨#[]⟩,.int .i64 0,.int .i64 0] 0)
    (S.eH s.next 0 3 R).bind fun T=>
    ((T.ld a 2).bind asS).bind fun U=>
    cond (fA U ⟨#[111,114,103]⟩) (
     cond (decide (O=1)) (
      ((T.ld s.next 0).bind asS).bind fun V=>
      cond (fA V ⟨#[]⟩) (
       ((T.ld s.next 1).bind (ay .i64)).bind fun W=>
       (fG l').bind fun X=>
       (aj X).bind fun Y=>
       ((T.ld Y.1 (Y.2+6)).bind (ay .i64)).bind fun Z=>
       cond (decide (Z≤W)) (
        ((T.ld s.next 1).bind (ay .i64)).bind fun aA=>
        cond (decide (aA≤2048)) (
         ((T.ld s.next 1).bind (ay .i64)).bind fun aB=>
         (fG l').bind fun aC=>
         (aj aC).bind fun aD=>
         (T.st aD.1 (aD.2+6) [.int .i64 aB]).bind fun aE=>
         some (.bool (decide (aA≤2048)),aE)) (
         some (.bool (decide (aA≤2048)),T))) (
        some (.bool false,T))) (
       some (.bool false,T))) (
      some (.bool false,T))) (
     cond (fA U ⟨#[97,108,105,103,110]⟩) (
      cond (!(decide (O=1))) (
       some (.bool false,T)) (
       ((T.ld s.next 0).bind asS).bind fun aF=>
       cond (!(fA aF ⟨#[]⟩)) (
        some (.bool false,T)) (
        ((T.ld s.next 1).bind (ay .i64)).bind fun aG=>
        cond (decide (aG<1)) (
         some (.bool false,T)) (
         ((T.ld s.next 1).bind (ay .i64)).bind fun aH=>
         cond (decide (2048<aH)) (
          some (.bool false,T)) (
          (D6 22 [l',ptr s.next 0] T).bind fun aI=>
          (aI.2.1[0]?).bind fun aJ=>
          (fG aJ).bind fun aK=>
          (aj aK).bind fun aL=>
          ((aI.2.2.ld aL.1 (aL.2+6)).bind (ay .i64)).bind fun aM=>
          some (.bool (decide (aM≤2048)),aI.2.2)))))) (
      cond (fA U ⟨#[115,101,116]⟩) (
       cond (decide (O=2)) (
        ((T.ld s.next 0).bind asS).bind fun aN=>
        cond (!(fA aN ⟨#[]⟩)) (
         ((T.ld s.next 1).bind (ay .i64)).bind fun aO=>
         cond (decide (aO=0)) (
          (T.ld a 3).bind fun aP=>
          (fK aP 1 3).bind fun aQ=>
          ((T.ld aQ.1 aQ.2).bind asS).bind fun aR=>
          cond (fA aR ⟨#[]⟩) (
           ((T.ld s.next 0).bind asS).bind fun aS=>
           (T.ld a 3).bind fun aT=>
           (fK aT 1 3).bind fun aU=>
           ((T.ld aU.1 (aU.2+1)).bind (ay .i64)).bind fun aV=>
           (cc 74 [l',.string aS,.int .i64 aV] T).bind fun aW=>
           ((some aW.1).bind lF).bind fun aX=>
           some (.bool aX,aW.2)) (
           some (.bool false,T))) (
          some (.bool false,T))) (
         some (.bool false,T))) (
        some (.bool false,T))) (
       cond (fA U ⟨#[101,110,116,114,121]⟩) (
        (fG l').bind fun aY=>
        (aj aY).bind fun aZ=>
        (T.ld aZ.1 (aZ.2+4)).bind fun bA=>
        ((lenV bA).bind (ay .i64)).bind fun bB=>
        (D6 29 [l',ptr a 0,.int .i64 O,ptr s.next 0,bA,.int .i64 bB,.int .i64 0] T).bind fun bC=>
        cond (Nat.beq bC.1 0) (
         (bC.2.1[0]?).bind fun bD=>
         (bC.2.1[1]?).bind fun bE=>
         ((bC.2.1[2]?).bind (ay .i64)).bind fun bF=>
         (bC.2.1[3]?).bind fun bG=>
         cond (!(decide (bF=1))) (
          some (.bool false,bC.2.2)) (
          (aj bG).bind fun bH=>
          ((bC.2.2.ld bH.1 bH.2).bind asS).bind fun bI=>
          cond (fA bI ⟨#[]⟩) (
           some (.bool false,bC.2.2)) (
           (aj bG).bind fun bJ=>
           ((bC.2.2.ld bJ.1 (bJ.2+1)).bind (ay .i64)).bind fun bK=>
           cond (!(decide (bK=0))) (
            some (.bool false,bC.2.2)) (
            (fG bD).bind fun bL=>
            (aj bL).bind fun bM=>
            (bC.2.2.ld bM.1 (bM.2+4)).bind fun bN=>
            (aj bG).bind fun bO=>
            (bC.2.2.eF bO.1 bO.2 3).bind fun bP=>
            (nX bP 3).bind fun bQ=>
            let bR:SS:=bC.2.2.new (.cells (bQ++([])) 3)
            (bR.app 3 32 bN (.slice (some ⟨bC.2.2.next,0,none⟩) 1 1)).bind fun bS=>
            (fG bD).bind fun bT=>
            (aj bT).bind fun bU=>
            (bS.2.eH bU.1 (bU.2+4) 1 bS.1).bind fun bV=>
            (fG bD).bind fun bW=>
            (aj bW).bind fun bX=>
            (bV.ld bX.1 (bX.2+5)).bind fun bY=>
            (aj bE).bind fun bZ=>
            ((bV.ld bZ.1 bZ.2).bind (ay .i64)).bind fun cA=>
            (aj bG).bind fun cB=>
            ((bV.ld cB.1 (cB.2+2)).bind (ay .i64)).bind fun cC=>
            let cD:SS:=bV.new (.cells ([.int .i64 cA,.int .i64 cC]) 2)
            (cD.app 2 16 bY (.slice (some ⟨bV.next,0,none⟩) 1 1)).bind fun cE=>
            (fG bD).bind fun cF=>
            (aj cF).bind fun cG=>
            (cE.2.eH cG.1 (cG.2+5) 1 cE.1).bind fun cH=>
            some (.bool true,cH))))) (
         ((bC.2.1[0]?).bind lF).bind fun cI=>
         some (.bool cI,bC.2.2))) (
        some (.bool false,T)))))))
def Xe (st0 s:SS) (B b:Nat) (v:V6) (l:Lay) (its:List mV) (res:Option (Value×SS)):Option Lay→Prop
 | none=>∃ st' L',res=some (.bool false,st')∧sZ b s (LO v l its) st' L'
 | some l'=>∃ st' v' oP,res=some (.bool true,st')∧zW st0 st' B b v' l' oP∧sZ b s (LO v l its) st' (LO v' l' oP)
section
variable {st0 : SS} {B b : Nat} {v : V6} {l : Lay} {its : List mV}
theorem zsO [Sym] (n:Nat) (h1:1≤n) (h2:n≤2048) (p0:Nat) (hp0:p0≤2048) (vb:Nat) (v0:Val) (hx:v0.x=(n:Int)) (hne:vb≠b):∀ (k p:Nat) (s:SS),(p0+n-1)/n*n=p+k→p0≤p→zW st0 s B b v { l with pl:=p } its→At s vb (au v0)→
  ∃ s',D6 22 [ptr b 0,ptr vb 0] s=some (0,[ptr b 0],s')∧zW st0 s' B b v { l with pl:=(p0+n-1)/n*n } its∧Mod [b] s s':=by
 have hT:(p0+n-1)/n*n<p0+n:=by
  have:=Nat.div_mul_le_self (p0+n-1) n
  omega
 intro k
 induction k with
 | zero=>
   intro p s hk hp h hv
   have e:p=(p0+n-1)/n*n:=by omega
   have hnl:fG (ptr b 0)=some (ptr b 0):=rfl
   have l3:s.ld b (0+6)=some (.int .i64 p):=h.row.ld
   have l5:s.ld vb (0+1)=some (.int .i64 (n:Int)):=by rw [← hx];exact hv.ld
   have hz:¬ ((n:Int)=0):=by omega
   have Ql:(aI .rem .i64 (p:Int) (n:Int)).bind (ay .i64)=some 0:=by
    have:(p:Int).tmod (n:Int)=0:=by rw [Int.tmod_eq_emod_of_nonneg (by omega),← Int.natCast_emod,e,Nat.mul_mod_left];rfl
    simp only [aI,bg hz,dn,bf,eP,this]
   refine ⟨s,zea _ _ s ?_,by rw [← e];exact h,Mod.refl _⟩
   simp only [zda,hnl,bf,fZ,l3,l5,eP,Ql,decide_true,lY,dn]
 | succ k ih=>
   intro p s hk hp h hv
   have hnl:fG (ptr b 0)=some (ptr b 0):=rfl
   have l3:s.ld b (0+6)=some (.int .i64 p):=h.row.ld
   have l5:s.ld vb (0+1)=some (.int .i64 (n:Int)):=by rw [← hx];exact hv.ld
   have hz:¬ ((n:Int)=0):=by omega
   have hpm:p%n≠0:=fun e=>by
    have d1:n∣p:=Nat.dvd_of_mod_eq_zero e
    have d2:n∣(p0+n-1)/n*n:=Nat.dvd_mul_left _ _
    rw [hk] at d2
    have d3:n∣k+1:=(Nat.dvd_add_right d1).1 d2
    have:=Nat.le_of_dvd (Nat.succ_pos k) d3
    omega
   have Ql:(aI .rem .i64 (p:Int) (n:Int)).bind (ay .i64)=some ((p%n:Nat):Int):=by
    have:(p:Int).tmod (n:Int)=((p%n:Nat):Int):=by rw [Int.tmod_eq_emod_of_nonneg (by omega),← Int.natCast_emod]
    have hlt:=Nat.mod_lt p (show 0<n by omega)
    simp only [aI,bg hz,dn,bf,eP,this]
   have hm0:¬ (((p%n:Nat):Int)=0):=by omega
   obtain ⟨s13,e13,h13,m13⟩:=h.place (p+1)
   have hw1:=ru (i:=p) (by omega)
   obtain ⟨s',c,d,m⟩:=ih (p+1) s13 (by omega) (by omega) h13 (hv.mod m13 (by simpa using hne))
   refine ⟨s',zea _ _ s ?_,d,m13.then m⟩
   have e13':s.st b (0+6) [.int .i64 ((p+1:Nat):Int)]=some s13:=e13
   simp only [zda,hnl,bf,fZ,l3,l5,eP,Ql,bg hm0,nJ,cu,hw1,e13']
   exact c
theorem zur [Sym] (n:Int) (a vb:Nat) (v0:Val) (ents:List (Val×Nat×Nat)) (hsz:ents.length≤1000000) (ve:Value) (s0:SS) (hll:s0.lim≤s0.next) (hv:At s0 vb (au v0)) (he:Rd s0 ve (ak OV ents) 3 ents.length):∀ (k i:Nat) (s:SS),ents.length=k+i→Ext s0 s→
  ∃ s',Ext s0 s'∧(if ((ents.drop i).any fun e=>decide (e.1.nm=v0.nm))=true then D6 29 [ptr b 0,ptr a 0,.int .i64 n,ptr vb 0,ve,.int .i64 ents.length,.int .i64 i] s=some (1,[.bool false],s')
   else D6 29 [ptr b 0,ptr a 0,.int .i64 n,ptr vb 0,ve,.int .i64 ents.length,.int .i64 i] s=some (0,[ptr b 0,ptr a 0,.int .i64 n,ptr vb 0],s')):=by
 intro k
 induction k with
 | zero=>
   intro i s hk hx
   have h:¬ (i:Int)<(ents.length:Int):=by omega
   rw [List.drop_of_length_le (by omega)]
   refine ⟨s,hx,?_⟩
   rw [if_neg (by simp)]
   refine zcG _ _ _ _ _ _ _ s ?_
   simp only [Ze,bg h,dn]
 | succ k ih=>
   intro i s hk hx
   have h:(i:Int)<(ents.length:Int):=by omega
   obtain ⟨e,hg⟩:∃ e,ents[i]?=some e:=⟨_,mW (by omega)⟩
   obtain ⟨p,b1,b2,_⟩:=(he.ext hx).load (j:=(i:Int)) (by omega) h (xw (f:=OV) (z:=3) (fun _=>rfl) ents i e hg) rfl
   have b2':s.eF p.1 p.2 3=some (.agg (au e.1).toArray):=b2
   obtain ⟨s4,e4,a4,x4,n4⟩:=pX (n:=3) (st:=s) (hx.ll hll) (r:=au ⟨[],0,0⟩) (row:=au e.1) (v:=.agg (au e.1).toArray) (lU _) rfl rfl rfl
   have e4':(s.new (.cells [.string ⟨#[]⟩,.int .i64 0,.int .i64 0] 0)).eH s.next 0 3 (.agg (au e.1).toArray)=some s4:=e4
   have hx4:=hx.trans x4
   have l5:s4.ld s.next 0=some (.string (mkS e.1.nm)):=a4.ld
   have l7:s4.ld vb 0=some (.string (mkS v0.nm)):=(hv.ext hx4).ld
   have hd:=drop_cons hg
   rw [hd,List.any_cons]
   by_cases hc:e.1.nm=v0.nm
   ·have hq:fA (mkS e.1.nm) (mkS v0.nm)=true:=by rw [DW];exact zdt hc
    refine ⟨s4,hx4,?_⟩
    rw [if_pos (by rw [zdt hc];rfl)]
    refine zcG _ _ _ _ _ _ _ s ?_
    simp only [Ze,zdt h,cu,b1,b2',e4',l5,bf,fP,fZ,l7,hq]
   ·have hq:fA (mkS e.1.nm) (mkS v0.nm)=false:=by rw [DW];exact bg hc
    obtain ⟨s',hx',r⟩:=ih (i+1) s4 (by omega) hx4
    have hw1:=ru (i:=i) (by omega)
    have go:∀ z,D6 29 [ptr b 0,ptr a 0,.int .i64 n,ptr vb 0,ve,.int .i64 ents.length,.int .i64 ((i+1:Nat):Int)] s4=some z→D6 29 [ptr b 0,ptr a 0,.int .i64 n,ptr vb 0,ve,.int .i64 ents.length,.int .i64 i] s=some z:=fun z hz=>by
     refine zcG _ _ _ _ _ _ _ s ?_
     simp only [Ze,zdt h,cu,b1,b2',e4',l5,bf,fP,fZ,l7,hq,dn,hw1]
     exact hz
    refine ⟨s',hx',?_⟩
    rw [bg hc,Bool.false_or]
    split
    ·rename_i hh;rw [if_pos hh] at r;exact go _ r
    ·rename_i hh;rw [if_neg hh] at r;exact go _ r
theorem zqO [Sym] {s:SS} {a:Nat} (h:zW st0 s B b v l its) (x:Item) (ha:At s a (dh x)) (hab:a≠b) (haf:Free (LO v l its) a) (hx:Rd st0 x.2.1 (ak au x.1.args) 3 x.1.args.length∧Rd st0 x.2.2 (ak fB x.1.fC) 5 x.1.fC.length)
  (hpl:l.pl≤2048) (hn:l.ents.length≤100000) (hnm:l.nms.length≤1000000) (hni:its.length≤100000) (hsz:x.1.args.length≤100000):Xe st0 s B b v l its (vS (ptr b 0) a s) (Hg l x.1):=by
 have l2:s.ld a 2=some (.string (mkS x.1.dir)):=ha.ld
 have l4:s.ld a 4=some x.2.2:=ha.ld
 have l3:s.ld a 3=some x.2.1:=ha.ld
 have l5:s.eF a 0 5=some (.agg (dh x).toArray):=ha.eF rfl
 have ho:one x.2.1=true∧one x.2.2=true:=⟨L9 hx.1,L9 hx.2⟩
 have hd0:fA (mkS x.1.dir) ⟨#[]⟩=decide (x.1.dir=[]):=Ef _
 have hnl:fG (ptr b 0)=some (ptr b 0):=rfl
 have WE:st0.next≤B:=by have:=h.b0;have:=h.bB;omega
 unfold Hg
 by_cases c1:x.1.dir=[]
 ·rw [if_neg (fun hh=>hh c1)]
  have hlen:(lenV x.2.2).bind (ay .i64)=some (x.1.fC.length:Int):=by rw [hx.2.len];rfl
  by_cases c2:x.1.fC=[]
  ·rw [if_pos c2]
   have h0:¬ (0:Int)<(x.1.fC.length:Int):=by rw [c2];simp
   have lp:s.ld b (0+6)=some (.int .i64 l.pl):=h.row.ld
   have hp:(l.pl:Int)≤2048:=by omega
   refine ⟨s,v,its,?_,h,sZ.ext (Ext.refl _)⟩
   simp only [vS,l2,l4,bf,fP,hd0,zdt c1,cu,hlen,bg h0,dn,hnl,fZ,lp,eP,zdt hp]
  ·rw [if_neg c2]
   have h0:(0:Int)<(x.1.fC.length:Int):=by have:=List.length_pos_iff.2 c2;omega
   have xC:s.ld b (0+2)=some v.l:=h.row.ld
   have e5:nX (.agg (dh x).toArray) 5=some (dh x):=rfl
   obtain ⟨w1,E8,oQ,f1,f2,f3,f4,f5⟩:=oK.grow (k:=2) (bt:=88) (rw':=SI (l.pl,x)) h.row h.bB h.BN h.EC h.ow rfl (by simp [xW]) rfl (by omega) (by simp only [SI,dh,List.all_cons,List.all_nil,ho.1,ho.2];rfl) (by omega) (by omega)
   have f1':(s.new (.cells (dh x) 5)).app 5 88 v.l (.slice (some ⟨s.next,0,none⟩) 1 1)=some (w1,E8):=f1
   have f2':E8.eH b (0+2) 1 w1=some oQ:=f2
   have VZ:oQ.ld b (0+3)=some v.p:=f3.ld
   have Qc:oQ.ld b (0+6)=some (.int .i64 l.pl):=f3.ld
   obtain ⟨w2,Zv,Ac,g1,g2,g3,g4,g5⟩:=oK.grow (k:=3) (bt:=8) (rw':=PL (l.pl,x)) f3 h.bB (lT h.BN f5.next) (by rw [f5.lim];exact h.EC) f4 rfl (by simp [xW]) rfl (by omega) rfl (by omega) (by omega)
   have g1':(oQ.new (.cells [.int .i64 l.pl] 1)).app 1 8 v.p (.slice (some ⟨oQ.next,0,none⟩) 1 1)=some (w2,Zv):=g1
   have g2':Zv.eH b (0+3) 1 w2=some Ac:=g2
   have e2:LO { v with l:=w1,p:=w2 } { l with ni:=l.ni++[(l.pl,x.1)] } (its++[(l.pl,x)])=((LO v l its).set 2 ⟨w1,ak SI its++SI (l.pl,x),5,its.length+1⟩).set 3 ⟨w2,ak PL its++PL (l.pl,x),1,its.length+1⟩:=by
    simp only [LO,FX,FV,List.length_append,List.length_cons,List.length_nil]
    rfl
   have fr:sZ b s (LO v l its) Ac (LO { v with l:=w1,p:=w2 } { l with ni:=l.ni++[(l.pl,x.1)] } (its++[(l.pl,x)])):=by
    rw [e2]
    exact f5.trans g5
   have h32:zW st0 Ac B b { v with l:=w1,p:=w2 } { l with ni:=l.ni++[(l.pl,x.1)] } (its++[(l.pl,x)]):={ h with ext:=fr.xK h.ext h.b0 h.ow WE,row:=g3,BN:=lT h.BN fr.next,ow:=(by rw [e2];exact g4),ni:=(by simp only [List.map_append,h.ni];rfl),KW:=fun y hy=>(by
     rcases List.mem_append.1 hy with hy | hy
     ·exact h.KW y hy
     ·have:y=(l.pl,x):=by simpa using hy
      subst this
      exact hx) }
   have IL:Ac.ld b (0+6)=some (.int .i64 l.pl):=h32.row.ld
   have hw1:=ru (i:=l.pl) (by omega)
   obtain ⟨BD,e39,h39,P5⟩:=h32.place (l.pl+1)
   have LC:Ac.st b (0+6) [.int .i64 ((l.pl+1:Nat):Int)]=some BD:=e39
   have l42:BD.ld b (0+6)=some (.int .i64 ((l.pl+1:Nat):Int)):=h39.row.ld
   have run:vS (ptr b 0) a s=some (.bool (decide (((l.pl+1:Nat):Int)≤2048)),BD):=by
    simp only [vS,l2,l4,l5,bf,fP,hd0,zdt c1,cu,hlen,zdt h0,hnl,fZ,xC,e5,List.append_nil,f1',f2',VZ,Qc,eP,g1',g2',IL,hw1,LC,l42]
   by_cases c3:l.pl+1≤2048
   ·rw [if_pos c3]
    have c3':((l.pl+1:Nat):Int)≤2048:=by omega
    exact ⟨BD,_,_,by rw [run,zdt c3'],h39,fr.trans (sZ.mod P5)⟩
   ·rw [if_neg c3]
    have c3':¬ ((l.pl+1:Nat):Int)≤2048:=by omega
    exact ⟨BD,_,by rw [run,bg c3'],fr.trans (sZ.mod P5)⟩
 ·rw [if_pos c1]
  have hlen:(lenV x.2.1).bind (ay .i64)=some (x.1.args.length:Int):=by rw [hx.1.len];rfl
  have fl:∀ st' L',vS (ptr b 0) a s=some (.bool false,st')→sZ b s (LO v l its) st' L'→sJ l x.1=none→Xe st0 s B b v l its (vS (ptr b 0) a s) (sJ l x.1):=fun st' L' hc hf hdn=>by
   rw [hdn];exact ⟨st',L',hc,hf⟩
  cases hargs:x.1.args with
  | nil=>
    have h0:((([]:List Val).length:Nat):Int)=0:=rfl
    rw [hargs] at hlen
    refine fl s _ ?_ (sZ.ext (Ext.refl _)) (by unfold sJ;rw [hargs])
    simp only [vS,l2,l3,bf,fP,hd0,bg c1,dn,hlen,zdt h0,cu]
  | cons v0 r=>
    rw [hargs] at hlen hsz
    have hr0:Rd s x.2.1 (ak au (v0::r)) 3 (v0::r).length:=by have:=hx.1.ext h.ext;rwa [hargs] at this
    obtain ⟨p49,b1,b2,_⟩:=hr0.load (j:=(0:Int)) (by omega) (by simp) (row:=au v0) rfl rfl
    have b2':s.eF p49.1 p49.2 3=some (.agg (au v0).toArray):=b2
    obtain ⟨xA,e52,a52,Zo,n52⟩:=pX (n:=3) (st:=s) h.SK (r:=au ⟨[],0,0⟩) (row:=au v0) (v:=.agg (au v0).toArray) (lU _) rfl rfl rfl
    have rE:(s.new (.cells [.string ⟨#[]⟩,.int .i64 0,.int .i64 0] 0)).eH s.next 0 3 (.agg (au v0).toArray)=some xA:=e52
    have Nv:=h.then Zo
    have sH:sZ b s (LO v l its) xA (LO v l its):=sZ.ext Zo
    have Qy:=ha.ext Zo
    have hn1:¬ (((v0::r).length:Nat):Int)=0:=by simp;omega
    have Ar:xA.ld a 2=some (.string (mkS x.1.dir)):=Qy.ld
    have GZ:xA.ld s.next 0=some (.string (mkS v0.nm)):=a52.ld
    have KU:xA.ld s.next 1=some (.int .i64 v0.x):=a52.ld
    have l56:xA.ld s.next 2=some (.int .i64 v0.col):=a52.ld
    have l58:xA.ld b (0+6)=some (.int .i64 l.pl):=Nv.row.ld
    have l74:xA.ld a 3=some x.2.1:=Qy.ld
    have hvn:fA (mkS v0.nm) ⟨#[]⟩=decide (v0.nm=[]):=Ef _
    have hlr:decide ((((v0::r).length:Nat):Int)=1)=decide (r=[]):=by
     cases r with
     | nil=>rfl
     | cons a t=>rw [bg (by simp;omega),bg (by simp)]
    have hvb:s.next≠b:=by have:=h.row.lt;omega
    by_cases d1:x.1.dir=[111,114,103]
    ·have q1:fA (mkS x.1.dir) ⟨#[111,114,103]⟩=true:=zdt d1
     have hd:sJ l x.1=if v0.nm=[]∧r=[]∧(l.pl:Int)≤v0.x∧v0.x≤2048 then some { l with pl:=v0.x.toNat } else none:=by unfold sJ;rw [hargs];simp only;rw [if_pos d1]
     by_cases c2:r=[]
     ·by_cases c3:v0.nm=[]
      ·by_cases c4:(l.pl:Int)≤v0.x
       ·by_cases c5:v0.x≤2048
        ·rw [hd,if_pos ⟨c3,c2,c4,c5⟩]
         obtain ⟨s63,e63,h63,m63⟩:=Nv.place v0.x.toNat
         have ez:((v0.x.toNat:Nat):Int)=v0.x:=by omega
         rw [ez] at e63
         have e63':xA.st b (0+6) [.int .i64 v0.x]=some s63:=e63
         refine ⟨s63,v,its,?_,h63,sH.trans (sZ.mod m63)⟩
         simp only [vS,l2,l3,bf,fP,hd0,bg c1,dn,hlen,bg hn1,b1,b2',rE,Ar,q1,cu,hlr,zdt c2,GZ,hvn,zdt c3,KU,eP,hnl,fZ,l58,zdt c4,zdt c5,e63']
        ·refine fl xA _ ?_ sH (by rw [hd,if_neg (fun hh=>c5 hh.2.2.2)])
         simp only [vS,l2,l3,bf,fP,hd0,bg c1,dn,hlen,bg hn1,b1,b2',rE,Ar,q1,cu,hlr,zdt c2,GZ,hvn,zdt c3,KU,eP,hnl,fZ,l58,zdt c4,bg c5]
       ·refine fl xA _ ?_ sH (by rw [hd,if_neg (fun hh=>c4 hh.2.2.1)])
        simp only [vS,l2,l3,bf,fP,hd0,bg c1,dn,hlen,bg hn1,b1,b2',rE,Ar,q1,cu,hlr,zdt c2,GZ,hvn,zdt c3,KU,eP,hnl,fZ,l58,bg c4]
      ·refine fl xA _ ?_ sH (by rw [hd,if_neg (fun hh=>c3 hh.1)])
       simp only [vS,l2,l3,bf,fP,hd0,bg c1,dn,hlen,bg hn1,b1,b2',rE,Ar,q1,cu,hlr,zdt c2,GZ,hvn,bg c3]
     ·refine fl xA _ ?_ sH (by rw [hd,if_neg (fun hh=>c2 hh.2.1)])
      simp only [vS,l2,l3,bf,fP,hd0,bg c1,dn,hlen,bg hn1,b1,b2',rE,Ar,q1,cu,hlr,bg c2]
    have n1:fA (mkS x.1.dir) ⟨#[111,114,103]⟩=false:=bg d1
    by_cases d2:x.1.dir=[97,108,105,103,110]
    ·have q1:fA (mkS x.1.dir) ⟨#[97,108,105,103,110]⟩=true:=zdt d2
     have hd:sJ l x.1=if v0.nm=[]∧r=[]∧1≤v0.x∧v0.x≤2048∧(l.pl+v0.x.toNat-1)/v0.x.toNat*v0.x.toNat≤2048 then some { l with pl:=(l.pl+v0.x.toNat-1)/v0.x.toNat*v0.x.toNat } else none:=by unfold sJ;rw [hargs];simp only;rw [if_neg d1,if_pos d2]
     by_cases c2:r=[]
     ·by_cases c3:v0.nm=[]
      ·by_cases c4:v0.x<1
       ·refine fl xA _ ?_ sH (by rw [hd,if_neg (fun hh=>by omega)])
        simp only [vS,l2,l3,bf,fP,hd0,bg c1,dn,hlen,bg hn1,b1,b2',rE,Ar,n1,q1,cu,hlr,zdt c2,lY,GZ,hvn,zdt c3,KU,eP,zdt c4]
       ·by_cases c5:2048<v0.x
        ·refine fl xA _ ?_ sH (by rw [hd,if_neg (fun hh=>by omega)])
         simp only [vS,l2,l3,bf,fP,hd0,bg c1,dn,hlen,bg hn1,b1,b2',rE,Ar,n1,q1,cu,hlr,zdt c2,lY,GZ,hvn,zdt c3,KU,eP,bg c4,zdt c5]
        ·have hge:=zsa (p:=l.pl) (n:=v0.x.toNat) (by omega)
         obtain ⟨SE,e67,h67,m67⟩:=zsO (st0:=st0) (B:=B) (b:=b) (v:=v) (l:=l) (its:=its) v0.x.toNat (by omega) (by omega) l.pl hpl s.next v0 (by omega) hvb ((l.pl+v0.x.toNat-1)/v0.x.toNat*v0.x.toNat-l.pl) l.pl xA (by omega) (fF _) Nv a52
         have l71:SE.ld b (0+6)=some (.int .i64 (((l.pl+v0.x.toNat-1)/v0.x.toNat*v0.x.toNat:Nat):Int)):=h67.row.ld
         have run:vS (ptr b 0) a s=some (.bool (decide ((((l.pl+v0.x.toNat-1)/v0.x.toNat*v0.x.toNat:Nat):Int)≤2048)),SE):=by
          simp only [vS,l2,l3,bf,fP,hd0,bg c1,dn,hlen,bg hn1,b1,b2',rE,Ar,n1,q1,cu,hlr,zdt c2,lY,GZ,hvn,zdt c3,KU,eP,bg c4,bg c5]
          rw [e67,bf]
          simp only [iZ,bf,hnl,fZ,l71,eP]
         by_cases c6:(l.pl+v0.x.toNat-1)/v0.x.toNat*v0.x.toNat≤2048
         ·rw [hd,if_pos ⟨c3,c2,by omega,by omega,c6⟩]
          have WR:(((l.pl+v0.x.toNat-1)/v0.x.toNat*v0.x.toNat:Nat):Int)≤2048:=by omega
          exact ⟨SE,v,its,by rw [run,zdt WR],h67,sH.trans (sZ.mod m67)⟩
         ·have WR:¬ (((l.pl+v0.x.toNat-1)/v0.x.toNat*v0.x.toNat:Nat):Int)≤2048:=by omega
          exact fl SE _ (by rw [run,bg WR]) (sH.trans (sZ.mod m67)) (by rw [hd,if_neg (fun hh=>c6 hh.2.2.2.2)])
      ·refine fl xA _ ?_ sH (by rw [hd,if_neg (fun hh=>c3 hh.1)])
       simp only [vS,l2,l3,bf,fP,hd0,bg c1,dn,hlen,bg hn1,b1,b2',rE,Ar,n1,q1,cu,hlr,zdt c2,lY,GZ,hvn,bg c3,nJ]
     ·refine fl xA _ ?_ sH (by rw [hd,if_neg (fun hh=>c2 hh.2.1)])
      simp only [vS,l2,l3,bf,fP,hd0,bg c1,dn,hlen,bg hn1,b1,b2',rE,Ar,n1,q1,cu,hlr,bg c2,nJ]
    have n2:fA (mkS x.1.dir) ⟨#[97,108,105,103,110]⟩=false:=bg d2
    by_cases d3:x.1.dir=[115,101,116]
    ·have q1:fA (mkS x.1.dir) ⟨#[115,101,116]⟩=true:=zdt d3
     have hd:sJ l x.1=zr7 l v0 r:=zr8 hargs d1 d2 d3
     by_cases hy:∃ y,r=[y]
     ·obtain ⟨y,rfl⟩:=hy
      have hd:sJ l x.1=if v0.nm≠[]∧v0.x=0∧y.nm=[] then l.define v0.nm y.x else none:=hd
      have h2:(((([v0,y]:List Val).length:Nat)):Int)=2:=rfl
      by_cases c2:v0.nm=[]
      ·refine fl xA _ ?_ sH (by rw [hd,if_neg (fun hh=>hh.1 c2)])
       simp only [vS,l2,l3,bf,fP,hd0,bg c1,dn,hlen,bg hn1,b1,b2',rE,Ar,n1,n2,q1,cu,zdt h2,GZ,hvn,zdt c2,lY]
      ·by_cases c3:v0.x=0
       ·obtain ⟨p75,t1,_,t3⟩:=(hr0.ext Zo).load (j:=(1:Int)) (by omega) (by rw [h2];omega) (row:=au y) rfl rfl
        have t30:xA.ld p75.1 p75.2=some (.string (mkS y.nm)):=t3 0 (by omega)
        have t31:xA.ld p75.1 (p75.2+1)=some (.int .i64 y.x):=t3 1 (by omega)
        have hy0:fA (mkS y.nm) ⟨#[]⟩=decide (y.nm=[]):=Ef _
        by_cases c4:y.nm=[]
        ·have hd':sJ l x.1=l.define v0.nm y.x:=by rw [hd,if_pos ⟨c2,c3,c4⟩]
         have hdef:=Nv.define hnm v0.nm y.x
         have run:∀ z s',cc 74 [ptr b 0,.string (mkS v0.nm),.int .i64 y.x] xA=some (.bool z,s')→vS (ptr b 0) a s=some (.bool z,s'):=fun z s' hc=>by
          simp only [vS,l2,l3,bf,fP,hd0,bg c1,dn,hlen,bg hn1,b1,b2',rE,Ar,n1,n2,q1,cu,zdt h2,GZ,hvn,bg c2,nJ,KU,eP,zdt c3,l74,t1,t30,t31,hy0,zdt c4,hc,mg]
         cases hdf:l.define v0.nm y.x with
         | none=>
           rw [hdf] at hdef
           obtain ⟨s9,c9,x9⟩:=hdef
           exact fl s9 _ (run _ _ c9) (sH.trans (sZ.ext x9)) (by rw [hd',hdf])
         | some l'=>
           rw [hdf] at hdef
           obtain ⟨s9,v9,c9,h9,fr9⟩:=hdef
           rw [hd',hdf]
           exact ⟨s9,v9,its,run _ _ c9,h9,sH.trans fr9⟩
        ·refine fl xA _ ?_ sH (by rw [hd,if_neg (fun hh=>c4 hh.2.2)])
         simp only [vS,l2,l3,bf,fP,hd0,bg c1,dn,hlen,bg hn1,b1,b2',rE,Ar,n1,n2,q1,cu,zdt h2,GZ,hvn,bg c2,nJ,KU,eP,zdt c3,l74,t1,t30,hy0,bg c4]
       ·refine fl xA _ ?_ sH (by rw [hd,if_neg (fun hh=>c3 hh.2.1)])
        simp only [vS,l2,l3,bf,fP,hd0,bg c1,dn,hlen,bg hn1,b1,b2',rE,Ar,n1,n2,q1,cu,zdt h2,GZ,hvn,bg c2,nJ,KU,eP,bg c3]
     ·have hno:¬ ((((v0::r).length:Nat):Int)=2)∧sJ l x.1=none:=by
       rw [hd]
       match r,hy with
       | [],_=>exact ⟨by simp,rfl⟩
       | [y],hy=>exact absurd ⟨y,rfl⟩ hy
       | _::_::_,_=>exact ⟨by simp;omega,rfl⟩
      refine fl xA _ ?_ sH hno.2
      simp only [vS,l2,l3,bf,fP,hd0,bg c1,dn,hlen,bg hn1,b1,b2',rE,Ar,n1,n2,q1,cu,bg hno.1]
    have n3:fA (mkS x.1.dir) ⟨#[115,101,116]⟩=false:=bg d3
    by_cases d4:x.1.dir=[101,110,116,114,121]
    ·have q1:fA (mkS x.1.dir) ⟨#[101,110,116,114,121]⟩=true:=zdt d4
     have hd:sJ l x.1=if v0.nm≠[]∧r=[]∧v0.x=0∧(l.ents.any fun e=>decide (e.1.nm=v0.nm))=false then some { l with ents:=l.ents++[(v0,x.1.ln,v0.col)] } else none:=by unfold sJ;rw [hargs];simp only;rw [if_neg d1,if_neg d2,if_neg d3,if_pos d4]
     have VY:xA.ld b (0+4)=some v.e:=Nv.row.ld
     have oe:=(Nv.ow.own 4 _ rfl).rd
     have hle:(lenV v.e).bind (ay .i64)=some (l.ents.length:Int):=by rw [oe.len];rfl
     obtain ⟨s87,x87,hlp⟩:=zur (b:=b) (((v0::r).length:Nat):Int) a s.next v0 l.ents (by omega) v.e xA Nv.SK a52 oe l.ents.length 0 xA rfl (Ext.refl _)
     rw [List.drop_zero] at hlp
     have h87:=Nv.then x87
     have Jh:sZ b s (LO v l its) s87 (LO v l its):=sH.trans (sZ.ext x87)
     have a87:=a52.ext x87
     have ha87:=Qy.ext x87
     have b0:Nat.beq 0 0=true:=rfl
     have b1':Nat.beq 1 0=false:=rfl
     have m93:s87.ld s.next 0=some (.string (mkS v0.nm)):=a87.ld
     have m95:s87.ld s.next (0+1)=some (.int .i64 v0.x):=a87.ld
     cases hany:l.ents.any fun e=>decide (e.1.nm=v0.nm) with
     | true=>
       rw [if_pos hany] at hlp
       have Gs:D6 29 [ptr b 0,ptr a 0,.int .i64 (((v0::r).length:Nat):Int),ptr s.next 0,v.e,.int .i64 l.ents.length,.int .i64 0] xA=_:=hlp
       refine fl s87 _ ?_ Jh (by rw [hd,if_neg (fun hh=>by rw [hany] at hh;cases hh.2.2.2)])
       simp only [vS,l2,l3,bf,fP,hd0,bg c1,dn,hlen,bg hn1,b1,b2',rE,Ar,n1,n2,n3,q1,cu,hnl,fZ,VY,hle]
       rw [Gs,bf]
       simp only [b1',dn,iZ,bf,mg]
     | false=>
       rw [if_neg (by rw [hany];simp)] at hlp
       have Gs:D6 29 [ptr b 0,ptr a 0,.int .i64 (((v0::r).length:Nat):Int),ptr s.next 0,v.e,.int .i64 l.ents.length,.int .i64 0] xA=_:=hlp
       by_cases c2:r=[]
       ·by_cases c3:v0.nm=[]
        ·refine fl s87 _ ?_ Jh (by rw [hd,if_neg (fun hh=>hh.1 c3)])
         simp only [vS,l2,l3,bf,fP,hd0,bg c1,dn,hlen,bg hn1,b1,b2',rE,Ar,n1,n2,n3,q1,cu,hnl,fZ,VY,hle]
         rw [Gs,bf]
         simp only [b0,cu,iZ,lN,bf,eP,hlr,zdt c2,lY,dn,fZ,m93,fP,hvn,zdt c3]
        ·by_cases c4:v0.x=0
         ·rw [hd,if_pos ⟨c3,c2,c4,hany⟩]
          have l98:s87.ld b (0+4)=some v.e:=h87.row.ld
          have l100:s87.eF s.next 0 3=some (.agg (au v0).toArray):=a87.eF rfl
          have e3:nX (.agg (au v0).toArray) 3=some (au v0):=rfl
          obtain ⟨w1,Vu,Dw,f1,f2,f3,f4,f5⟩:=oK.grow (k:=4) (bt:=32) (rw':=OV (v0,x.1.ln,v0.col)) h87.row h87.bB h87.BN h87.EC h87.ow rfl (by simp [xW]) rfl (by omega) rfl (by omega) (by omega)
          have f1':(s87.new (.cells (au v0) 3)).app 3 32 v.e (.slice (some ⟨s87.next,0,none⟩) 1 1)=some (w1,Vu):=f1
          have f2':Vu.eH b (0+4) 1 w1=some Dw:=f2
          have l109:Dw.ld b (0+5)=some v.a:=f3.ld
          have aa:At Dw a (dh x):=f5.at ha87 hab haf
          have av:At Dw s.next (au v0):=f5.at a87 hvb (h.ow.Fp (fF _))
          have l111:Dw.ld a 0=some (.int .i64 x.1.ln):=aa.ld
          have l113:Dw.ld s.next (0+2)=some (.int .i64 v0.col):=av.ld
          obtain ⟨w2,Vt,Po,g1,g2,g3,g4,g5⟩:=oK.grow (k:=5) (bt:=16) (rw':=nP (v0,x.1.ln,v0.col)) f3 h87.bB (lT h87.BN f5.next) (by rw [f5.lim];exact h87.EC) f4 rfl (by simp [xW]) rfl (by omega) rfl (by omega) (by omega)
          have g1':(Dw.new (.cells [.int .i64 x.1.ln,.int .i64 v0.col] 2)).app 2 16 v.a (.slice (some ⟨Dw.next,0,none⟩) 1 1)=some (w2,Vt):=g1
          have g2':Vt.eH b (0+5) 1 w2=some Po:=g2
          have e2:LO { v with e:=w1,a:=w2 } { l with ents:=l.ents++[(v0,x.1.ln,v0.col)] } its=((LO v l its).set 4 ⟨w1,ak OV l.ents++OV (v0,x.1.ln,v0.col),3,l.ents.length+1⟩).set 5 ⟨w2,ak nP l.ents++nP (v0,x.1.ln,v0.col),2,l.ents.length+1⟩:=by
           simp only [LO,FX,FV,List.length_append,List.length_cons,List.length_nil]
           rfl
          have fr:sZ b s (LO v l its) Po (LO { v with e:=w1,a:=w2 } { l with ents:=l.ents++[(v0,x.1.ln,v0.col)] } its):=by
           rw [e2]
           exact (Jh.trans f5).trans g5
          refine ⟨Po,{ v with e:=w1,a:=w2 },its,?_,{ h with ext:=fr.xK h.ext h.b0 h.ow WE,row:=g3,BN:=lT h.BN fr.next,ow:=(by rw [e2];exact g4) },fr⟩
          simp only [vS,l2,l3,bf,fP,hd0,bg c1,dn,hlen,bg hn1,b1,b2',rE,Ar,n1,n2,n3,q1,cu,hnl,fZ,VY,hle]
          rw [Gs,bf]
          simp only [b0,cu,iZ,lN,bf,eP,hlr,zdt c2,lY,dn,fZ,m93,fP,hvn,bg c3,m95,zdt c4,hnl,l98,l100,e3,List.append_nil,f1',f2',l109,l111,l113,g1',g2']
         ·refine fl s87 _ ?_ Jh (by rw [hd,if_neg (fun hh=>c4 hh.2.2.1)])
          simp only [vS,l2,l3,bf,fP,hd0,bg c1,dn,hlen,bg hn1,b1,b2',rE,Ar,n1,n2,n3,q1,cu,hnl,fZ,VY,hle]
          rw [Gs,bf]
          simp only [b0,cu,iZ,lN,bf,eP,hlr,zdt c2,lY,dn,fZ,m93,fP,hvn,bg c3,m95,bg c4,nJ]
       ·refine fl s87 _ ?_ Jh (by rw [hd,if_neg (fun hh=>c2 hh.2.1)])
        simp only [vS,l2,l3,bf,fP,hd0,bg c1,dn,hlen,bg hn1,b1,b2',rE,Ar,n1,n2,n3,q1,cu,hnl,fZ,VY,hle]
        rw [Gs,bf]
        simp only [b0,cu,iZ,lN,bf,eP,hlr,bg c2,nJ]
    have n4:fA (mkS x.1.dir) ⟨#[101,110,116,114,121]⟩=false:=bg d4
    refine fl xA _ ?_ sH (by unfold sJ;rw [hargs];simp only;rw [if_neg d1,if_neg d2,if_neg d3,if_neg d4])
    simp only [vS,l2,l3,bf,fP,hd0,bg c1,dn,hlen,bg hn1,b1,b2',rE,Ar,n1,n2,n3,n4]
end
end Go.Proofs.YtifploedaacedaaGreatDoorE
namespace Go.Proofs.YtifploedaacedaaGreatDoorE
open Go Go.E Go.Proofs
section
variable {st0 : SS} {B b : Nat} {v : V6} {l : Lay} {its : List mV}
theorem zmb {l l':Lay} {n:List UInt8} {x:Int} (h:l.define n x=some l'):l'.pl=l.pl∧l'.ents=l.ents∧l'.nms.length≤l.nms.length+1:=by
 unfold Lay.define at h
 split at h
 ·cases h
 ·cases h;exact ⟨rfl,rfl,by simp⟩
theorem zqP {l l':Lay} {x:fU} (h:Hl l x=some l'):l'.nms.length≤l.nms.length+2:=by
 rw [Yl] at h
 have hlab:∃ l1,l1.nms.length≤l.nms.length+1∧Hg l1 x=some l':=by
  cases hc:(if x.lab=[] then some l else l.define x.lab l.pl) with
  | none=>rw [hc] at h;cases h
  | some l1=>
    rw [hc] at h
    refine ⟨l1,?_,h⟩
    split at hc
    ·cases hc;omega
    ·exact (zmb hc).2.2
 obtain ⟨l1,h2,h3⟩:=hlab
 unfold Hg at h3
 split at h3
 ·unfold sJ at h3
  repeat' (split at h3)
  all_goals first
   | (cases h3;done)
   | (cases h3;simp only;omega)
   | (have:=(zmb h3).2.2;omega)
 ·split at h3
  ·cases h3;omega
  ·split at h3
   ·cases h3;simp only;omega
   ·cases h3
theorem zv0 [Sym] {st:SS} (h:zW st0 st B b v l its) (x:Item) (hx:Rd st0 x.2.1 (ak au x.1.args) 3 x.1.args.length∧Rd st0 x.2.2 (ak fB x.1.fC) 5 x.1.fC.length)
  (hpl:l.pl≤2048) (hn:l.ents.length≤100000) (hnm:l.nms.length≤900000) (hni:its.length≤100000) (hsz:x.1.args.length≤100000):
  Xe st0 st B b v l its (cc 45 [ptr b 0,.agg (dh x).toArray] st) (Hl l x.1):=by
 have x1:Ext st (st.new (.cells (dh x) 0)):=(Ext.refl st).new _
 have a1:At (st.new (.cells (dh x) 0)) st.next (dh x):=At.new h.SK _
 have l1:(st.new (.cells (dh x) 0)).ld st.next 1=some (.string (mkS x.1.lab)):=a1.ld
 have hlb:fA (mkS x.1.lab) ⟨#[]⟩=decide (x.1.lab=[]):=Ef _
 have hnb:st.next≠b:=by have:=h.row.lt;omega
 have h1:=h.then x1
 have up:∀ (r:Option (Value×SS)) (s:SS) (v':V6) (l':Lay) (o:Option Lay),sZ b st (LO v l its) s (LO v' l' its)→(∀ y,r=some y→cc 45 [ptr b 0,.agg (dh x).toArray] st=some y)→Xe st0 s B b v' l' its r o→
   Xe st0 st B b v l its (cc 45 [ptr b 0,.agg (dh x).toArray] st) o:=by
  intro r s v' l' o fr hr hres
  cases o with
  | none=>
    obtain ⟨st',L',c,d⟩:=hres
    exact ⟨st',L',hr _ c,fr.trans d⟩
  | some l2=>
    obtain ⟨st',v2,oP,c,d,e⟩:=hres
    exact ⟨st',v2,oP,hr _ c,d,fr.trans e⟩
 rw [Yl]
 by_cases c1:x.1.lab=[]
 ·rw [if_pos c1,bf]
  have e:Sv cc D6 (ptr b 0) (.agg (dh x).toArray) st=vS (ptr b 0) st.next (st.new (.cells (dh x) 0)):=by
   simp only [Sv,lU,l1,bf,fP,hlb,zdt c1,lY,dn]
   rfl
  exact up _ _ v l _ (sZ.ext x1) (fun y hy=>zdl _ _ st (e.trans hy)) (zqO h1 x a1 hnb (h.ow.Fp (fF _)) hx hpl hn (by omega) hni hsz)
 ·rw [if_neg c1]
  have lp:(st.new (.cells (dh x) 0)).ld b (0+6)=some (.int .i64 l.pl):=h1.row.ld
  have hnl:fG (ptr b 0)=some (ptr b 0):=rfl
  have hdef:=h1.define (by omega) x.1.lab l.pl
  cases hd:l.define x.1.lab l.pl with
  | none=>
    rw [hd] at hdef
    obtain ⟨s2,c2,x2⟩:=hdef
    refine ⟨s2,_,zdl _ _ st ?_,sZ.ext (x1.trans x2)⟩
    simp only [Sv,lU,l1,bf,fP,eP,hlb,bg c1,nJ,cu,hnl,fZ,lp,c2,mg]
  | some l1'=>
    rw [hd] at hdef
    obtain ⟨s2,v2,c2,h2,f2⟩:=hdef
    rw [bf]
    obtain ⟨e1,e2,e3⟩:=zmb hd
    have hlt:st.next<(st.new (.cells (dh x) 0)).next:=by simp
    have hfr:Free (LO v l its) st.next:=h.ow.Fp (fF _)
    have a2:At s2 st.next (dh x):=f2.at a1 hnb hfr
    have e:Sv cc D6 (ptr b 0) (.agg (dh x).toArray) st=vS (ptr b 0) st.next s2:=by
     simp only [Sv,lU,l1,bf,fP,eP,hlb,bg c1,nJ,cu,hnl,fZ,lp,c2,mg,lY,dn]
     rfl
    exact up _ _ v2 l1' _ ((sZ.ext x1).trans f2) (fun y hy=>zdl _ _ st (e.trans hy)) (zqO h2 x a2 hnb (f2.keep st.next hlt hnb hfr).2 hx (by omega) (by rw [e2];exact hn) (by omega) hni hsz)
end
noncomputable def QY [Sym] (l' mD w' sV:Value) (tK j:Int) (a:Nat) (s:SS) (y:Int):Option (Nat×List Value×SS):=
 (aj w').bind fun b=>
 (s.eF b.1 b.2 12).bind fun c=>
 ((s.ld a 0).bind asS).bind fun d=>
 (cc 77 [c,.string d,.int .i64 y] s).bind fun e=>
 (fM e.1 0).bind fun f=>
 ((fM e.1 1).bind (ay .i64)).bind fun g=>
 let h:SS:=e.2.new (.cells [.int .i64 0,.int .i64 0,.int .i64 0,.int .i64 0,.int .i64 0,.int .i64 0,.int .i64 0,.int .i64 0,.int .i64 0,.int .i64 0,.int .i64 0,.int .i64 0] 0)
 (h.eH e.2.next 0 12 f).bind fun i=>
 cond (!(decide (g=0))) (
  (aj w').bind fun k=>
  (i.eF k.1 k.2 12).bind fun l=>
  ((i.ld a 4).bind (ay .i64)).bind fun m=>
  cond (vH (ptr a 4) mD) (
   (aj mD).bind fun n=>
   (i.eH n.1 n.2 12 l).bind fun o=>
   some (1,[mD,.int .i64 m],o)) (
   none)) (
  (i.eF e.2.next 0 12).bind fun p=>
  (aj w').bind fun q=>
  (i.eH q.1 q.2 12 p).bind fun r=>
  let t:Int:=IntKind.wrap .i64 (j+1)
  GL 3 [l',mD,w',sV,.int .i64 tK,.int .i64 t] r)
theorem zse {f:List UInt8}:BI (CQ f)<0↔Ee f=0:=by
 unfold Ee
 cases h:CQ f with
 | none=>simp [BI]
 | some k=>
   obtain ⟨_,_,_,hk⟩:=TW h
   have:=(ztj hk).2
   simp only [BI]
   omega
theorem zyg (l:vJ) (f:List UInt8) (v:Val) (hnm:v.nm≠[]):Ba l f v=if 0≤inT (namesT f) v.nm then some (inT (namesT f) v.nm+v.x) else (xu l v.nm).map (·+v.x):=by
 unfold Ba
 rw [if_neg hnm]
theorem zus [Sym] (l:vJ) (hl:BL l) (hln:l.length≤1000000) (fC:List Pr) (BZ:Tf fC) (b t4 wb:Nat) (rest:List Value) (vn vm v:Value) (st0:SS) (hll:st0.lim≤st0.next) (hb:st0.mem.get b=some (.cells (vn::vm::rest) 0)) (hbl:b<st0.next)
  (hvn:Rd st0 vn (strs (l.map (·.1))) 1 (l.map (·.1)).length) (hvm:Rd st0 vm (ak Nb l) 1 l.length) (hv:Rd st0 v (ak fB fC) 5 fC.length) (hne:t4≠wb) (h4:st0.next≤t4) (hw0:st0.next≤wb):∀ (k j:Nat) (w:Wd) (st:SS),fC.length=k+j→w.length=12→Ext st0 st→At st wb (wRow w)→At st t4 mP→
  ∃ st',Ext st0 st'∧((ng l w (fC.drop j)).2=0∧GL 3 [ptr b 0,ptr t4 0,ptr wb 0,v,.int .i64 fC.length,.int .i64 j] st=some (0,[ptr t4 0,ptr wb 0],st')∧At st' wb (wRow (ng l w (fC.drop j)).1)∧At st' t4 mP∨
   0<(ng l w (fC.drop j)).2∧GL 3 [ptr b 0,ptr t4 0,ptr wb 0,v,.int .i64 fC.length,.int .i64 j] st=some (1,[ptr t4 0,.int .i64 (ng l w (fC.drop j)).2],st')∧∃ u:Wd,u.length=12∧At st' t4 (wRow u)):=by
 intro k
 induction k with
 | zero=>
   intro j w st hk hw he aw a4
   have h:¬ (j:Int)<(fC.length:Int):=by omega
   rw [List.drop_of_length_le (by omega)]
   refine ⟨st,he,.inl ⟨rfl,Sl _ _ _ _ _ _ st ?_,aw,a4⟩⟩
   simp only [OJ,bg h,dn]
 | succ k ih=>
   intro j w st hk hw he aw a4
   have h:(j:Int)<(fC.length:Int):=by omega
   obtain ⟨q,hq⟩:∃ q,fC[j]?=some q:=⟨_,mW (by omega)⟩
   obtain ⟨x,b1,b2,_⟩:=(hv.ext he).load (j:=(j:Int)) (by omega) h (xw Yp fC j q hq) rfl
   have b2':st.eF x.1 x.2 5=some (.agg (fB q).toArray):=b2
   obtain ⟨q1,q2,q3,q4⟩:=BZ.2 q (xH hq)
   have Qq:st.lim≤st.next:=he.ll hll
   obtain ⟨s4,e4,a5,x4,n4⟩:=pX (n:=5) (st:=st) Qq (r:=fB ⟨[],0,⟨[],0,0⟩⟩) (row:=fB q) (v:=.agg (fB q).toArray) (lU _) rfl rfl rfl
   have e4':(st.new (.cells [.string ⟨#[]⟩,.int .i64 0,.string ⟨#[]⟩,.int .i64 0,.int .i64 0] 0)).eH st.next 0 5 (.agg (fB q).toArray)=some s4:=e4
   have he4:Ext st0 s4:=he.trans x4
   obtain ⟨n6,Qp,c6⟩:=NC q.fd s4
   have x6:Ext s4 (s4.dw n6):=(Ext.refl _).dw Qp
   have CV:=he4.trans x6
   have a56:=a5.ext x6
   have SY:=(aw.ext x4).ext x6
   have a46:=(a4.ext x4).ext x6
   have l0:s4.ld st.next 0=some (.string (mkS q.fd)):=a5.ld
   have hd:=drop_cons hq
   have hE:ng l w (fC.drop j)=if Ee q.fd=0 then (w,q.col) else match Ba l q.fd q.v with
    | none=>(w,q.v.col)
    | some x=>if (pI w q.fd x).2=0 then ng l (pI w q.fd x).1 (fC.drop (j+1)) else (w,q.v.col):=by rw [hd];rfl
   have Cb:st.next≠t4:=by have:=a4.lt;omega
   have hpw:st.next≠wb:=by have:=aw.lt;omega
   have hw1:=ru (i:=j) (by have:=BZ.1;omega)
   have hpt:∀ c,vH (ptr st.next c) (ptr t4 0)=true:=fun c=>Gx Cb
   have tail:∀ (s:SS) (y:Int),Ext (s4.dw n6) s→Ee q.fd≠0→Ba l q.fd q.v=some y→∃ st',Ext st0 st'∧((ng l w (fC.drop j)).2=0∧QY (ptr b 0) (ptr t4 0) (ptr wb 0) v fC.length j st.next s y=some (0,[ptr t4 0,ptr wb 0],st')∧At st' wb (wRow (ng l w (fC.drop j)).1)∧At st' t4 mP∨
    0<(ng l w (fC.drop j)).2∧QY (ptr b 0) (ptr t4 0) (ptr wb 0) v fC.length j st.next s y=some (1,[ptr t4 0,.int .i64 (ng l w (fC.drop j)).2],st')∧∃ u:Wd,u.length=12∧At st' t4 (wRow u)):=by
    intro s y xs hbt hnum
    rw [if_neg hbt,hnum] at hE
    simp only at hE
    have hes:=CV.trans xs
    have aws:=SY.ext xs
    have a4s:=a46.ext xs
    have a5s:=a56.ext xs
    have IQ:s.eF wb 0 12=some (wV w):=aws.eF (by rw [rX,hw])
    have Nh:s.ld st.next 0=some (.string (mkS q.fd)):=a5s.ld
    obtain ⟨n35,hn35,c35⟩:=zx1 w hw q.fd y s
    have SC:Ext s (s.dw n35):=(Ext.refl _).dw hn35
    obtain ⟨BD,e39,a39,x39,n39⟩:=pX (n:=12) (st:=s.dw n35) ((hes.trans SC).ll hll) (r:=mP) (row:=wRow (pI w q.fd y).1) (v:=wV (pI w q.fd y).1) (lU _) (by rw [rX,EX,hw]) (FW _) rfl
    have LC:((s.dw n35).new (.cells [.int .i64 0,.int .i64 0,.int .i64 0,.int .i64 0,.int .i64 0,.int .i64 0,.int .i64 0,.int .i64 0,.int .i64 0,.int .i64 0,.int .i64 0,.int .i64 0] 0)).eH n35 0 12 (wV (pI w q.fd y).1)=some BD:=e39
    have KA:=SC.trans x39
    have Wy:=hes.trans KA
    have WU:=aws.ext KA
    have WY:=a4s.ext KA
    have a539:=a5s.ext KA
    have ht0:∀ (a:Value) (z:Int),fM (.tuple #[a,.int .i64 z]) 0=some a:=fun _ _=>rfl
    have ht1:∀ (a:Value) (z:Int),(fM (.tuple #[a,.int .i64 z]) 1).bind (ay .i64)=some z:=fun _ _=>rfl
    by_cases hs:(pI w q.fd y).2=0
    ·rw [if_pos hs] at hE
     rw [hE]
     have l45:BD.eF n35 0 12=some (wV (pI w q.fd y).1):=a39.eF (by rw [rX,EX,hw])
     obtain ⟨s47,e47,a47,m47⟩:=At.setW WU (by rw [rX,hw]) (pI w q.fd y).1 (by rw [EX,hw])
     obtain ⟨s',f1,f2⟩:=ih (j+1) (pI w q.fd y).1 s47 (by omega) (by rw [EX,hw]) (pO Wy m47 hw0) a47 (WY.mod m47 (by simpa using hne))
     have go:∀ r,GL 3 [ptr b 0,ptr t4 0,ptr wb 0,v,.int .i64 fC.length,.int .i64 ((j+1:Nat):Int)] s47=some r→QY (ptr b 0) (ptr t4 0) (ptr wb 0) v fC.length j st.next s y=some r:=fun r hr=>by
      simp only [QY,fZ,bf,IQ,Nh,fP,c35,ht0,ht1,SS.lM,LC,zdt hs,lY,dn,l45,e47,hw1]
      exact hr
     refine ⟨s',f1,?_⟩
     rcases f2 with ⟨g1,g2,g3,g4⟩ | ⟨g1,g2,g3⟩
     ·exact .inl ⟨g1,go _ g2,g3,g4⟩
     ·exact .inr ⟨g1,go _ g2,g3⟩
    ·rw [if_neg hs] at hE
     rw [hE]
     have SN:BD.eF wb 0 12=some (wV w):=WU.eF (by rw [rX,hw])
     have l42:BD.ld st.next 4=some (.int .i64 q.v.col):=a539.ld
     obtain ⟨s44,e44,a44,m44⟩:=At.setW WY rfl w hw
     refine ⟨s44,pO Wy m44 h4,.inr ⟨q2,?_,w,hw,a44⟩⟩
     simp only [QY,fZ,bf,IQ,Nh,fP,c35,ht0,ht1,SS.lM,LC,bg hs,nJ,cu,SN,l42,eP,hpt,e44]
   have lift:∀ (s:SS) (y:Int),(∀ z,QY (ptr b 0) (ptr t4 0) (ptr wb 0) v fC.length j st.next s y=some z→GL 3 [ptr b 0,ptr t4 0,ptr wb 0,v,.int .i64 fC.length,.int .i64 j] st=some z)→Ext (s4.dw n6) s→Ee q.fd≠0→Ba l q.fd q.v=some y→
    ∃ st',Ext st0 st'∧((ng l w (fC.drop j)).2=0∧GL 3 [ptr b 0,ptr t4 0,ptr wb 0,v,.int .i64 fC.length,.int .i64 j] st=some (0,[ptr t4 0,ptr wb 0],st')∧At st' wb (wRow (ng l w (fC.drop j)).1)∧At st' t4 mP∨
    0<(ng l w (fC.drop j)).2∧GL 3 [ptr b 0,ptr t4 0,ptr wb 0,v,.int .i64 fC.length,.int .i64 j] st=some (1,[ptr t4 0,.int .i64 (ng l w (fC.drop j)).2],st')∧∃ u:Wd,u.length=12∧At st' t4 (wRow u)):=by
    intro s y hgo xs hbt hnum
    obtain ⟨st',f1,f2⟩:=tail s y xs hbt hnum
    refine ⟨st',f1,?_⟩
    rcases f2 with ⟨g1,g2,g3,g4⟩ | ⟨g1,g2,g3⟩
    ·exact .inl ⟨g1,hgo _ g2,g3,g4⟩
    ·exact .inr ⟨g1,hgo _ g2,g3⟩
   by_cases hbt:Ee q.fd=0
   ·rw [if_pos hbt] at hE
    rw [hE]
    have hz:BI (CQ q.fd)<0:=zse.2 hbt
    obtain ⟨s12,e12,a12,m12⟩:=At.setW a46 rfl w hw
    have l9:(s4.dw n6).eF wb 0 12=some (wV w):=SY.eF (by rw [rX,hw])
    have l10:(s4.dw n6).ld st.next 1=some (.int .i64 q.col):=a56.ld
    refine ⟨s12,pO CV m12 h4,.inr ⟨q1,Sl _ _ _ _ _ _ st ?_,w,hw,a12⟩⟩
    simp only [OJ,zdt h,cu,b1,b2',e4',l0,c6,bf,fP,eP,zdt hz,fZ,l9,l10,hpt,e12]
   ·have hz:¬ BI (CQ q.fd)<0:=fun hh=>hbt (zse.1 hh)
    have A8:(s4.dw n6).ld st.next 3=some (.int .i64 q.v.x):=a56.ld
    have xC:(s4.dw n6).ld st.next 2=some (.string (mkS q.v.nm)):=a56.ld
    have l15:(s4.dw n6).ld st.next 0=some (.string (mkS q.fd)):=a56.ld
    have hnm:fA (mkS q.v.nm) ⟨#[]⟩=decide (q.v.nm=[]):=Ef _
    by_cases hn:q.v.nm=[]
    ·have hs:Ba l q.fd q.v=some q.v.x:=by unfold Ba;rw [if_pos hn]
     refine lift (s4.dw n6) q.v.x (fun z hz'=>Sl _ _ _ _ _ _ st ?_) (Ext.refl _) hbt hs
     simp only [OJ,zdt h,cu,b1,b2',e4',l0,c6,bf,fP,eP,bg hz,dn,A8,xC,hnm,zdt hn,lY]
     exact hz'
    ·obtain ⟨v16,s16,c16,x16,o16⟩:=zvr (mkS q.fd) ((s4.dw n6).ro (s4.dw n6).next) (fF _)
     rw [vW] at o16
     have U2:Ext (s4.dw n6) (s16.ro (s4.dw n6).lim):=⟨x16.next,rfl,fun i hi=>x16.keep i hi⟩
     have r16:Rd (s16.ro (s4.dw n6).lim) v16 (strs (namesT q.fd)) 1 (namesT q.fd).length:=o16.rd
     have l17:(s16.ro (s4.dw n6).lim).ld st.next 2=some (.string (mkS q.v.nm)):=(a56.ext U2).ld
     obtain ⟨n18,hn18,c18⟩:=Xt (namesT q.fd) (by have:=YG q.fd;omega) (mkS q.v.nm) v16 (s16.ro (s4.dw n6).lim) r16
     rw [vW] at c18
     have x18:Ext (s16.ro (s4.dw n6).lim) ((s16.ro (s4.dw n6).lim).dw n18):=(Ext.refl _).dw hn18
     have OQ:=U2.trans x18
     have Ja:=CV.trans OQ
     have hnl:fG (ptr b 0)=some (ptr b 0):=rfl
     have mb:((s16.ro (s4.dw n6).lim).dw n18).mem.get b=some (.cells (vn::vm::rest) 0):=Ja.get hbl hb
     have Qd:((s16.ro (s4.dw n6).lim).dw n18).ld b 0=some vn:=by rw [SS.eU mb];rfl
     have Nj:((s16.ro (s4.dw n6).lim).dw n18).ld st.next 2=some (.string (mkS q.v.nm)):=(a56.ext OQ).ld
     obtain ⟨n24,hn24,c24⟩:=Xt (l.map (·.1)) (by simp;omega) (mkS q.v.nm) vn ((s16.ro (s4.dw n6).lim).dw n18) (hvn.ext Ja)
     rw [vW] at c24
     have x24:Ext ((s16.ro (s4.dw n6).lim).dw n18) (((s16.ro (s4.dw n6).lim).dw n18).dw n24):=(Ext.refl _).dw hn24
     have FY:=OQ.trans x24
     have Qu:=CV.trans FY
     generalize hs24:((s16.ro (s4.dw n6).lim).dw n18).dw n24=s24 at*
     have hin:=zvR (namesT q.fd) q.v.nm
     have hnl':=YG q.fd
     have hfi:=X7 l q.v.nm
     have Au:=zyg l q.fd q.v hn
     by_cases hk:0≤inT (namesT q.fd) q.v.nm
     ·have hk':¬ inT (namesT q.fd) q.v.nm<0:=by omega
      rw [if_pos hk,Int.add_comm] at Au
      have hw31:IntKind.wrap .i64 (q.v.x+inT (namesT q.fd) q.v.nm)=q.v.x+inT (namesT q.fd) q.v.nm:=wrap64 (by omega) (by omega)
      refine lift s24 _ (fun z hz'=>Sl _ _ _ _ _ _ st ?_) FY hbt Au
      simp only [OJ,zdt h,cu,b1,b2',e4',l0,c6,bf,fP,eP,bg hz,dn,A8,xC,l15,hnm,bg hn,nJ,c16,l17,c18,hnl,fZ,Qd,Nj,c24,bg hk',zdt hk,hw31]
      exact hz'
     ·have hk':inT (namesT q.fd) q.v.nm<0:=by omega
      rw [if_neg hk] at Au
      cases hf:xu l q.v.nm with
      | none=>
        rw [hf] at Au hfi
        simp only at hfi
        rw [if_neg hbt,Au] at hE
        simp only [Option.map_none] at hE
        rw [hE]
        have ZF:inT (l.map (·.1)) q.v.nm<0:=by omega
        obtain ⟨Dv,e30,a30,Ey⟩:=At.setW (a46.ext FY) rfl w hw
        have Qc:s24.eF wb 0 12=some (wV w):=(SY.ext FY).eF (by rw [rX,hw])
        have ED:s24.ld st.next 4=some (.int .i64 q.v.col):=(a56.ext FY).ld
        refine ⟨Dv,pO Qu Ey h4,.inr ⟨q2,Sl _ _ _ _ _ _ st ?_,w,hw,a30⟩⟩
        simp only [OJ,zdt h,cu,b1,b2',e4',l0,c6,bf,fP,eP,bg hz,dn,A8,xC,l15,hnm,bg hn,nJ,c16,l17,c18,hnl,fZ,Qd,Nj,c24,zdt hk',zdt ZF,Qc,ED,hpt,e30]
      | some y=>
        rw [hf] at Au hfi
        obtain ⟨kk,h1,yn,h2⟩:=hfi
        have ZF:¬ inT (l.map (·.1)) q.v.nm<0:=by omega
        have mb24:s24.mem.get b=some (.cells (vn::vm::rest) 0):=Qu.get hbl hb
        have l51:s24.ld b (0+1)=some vm:=by rw [SS.eU mb24];rfl
        have hkl:kk<l.length:=(List.getElem?_eq_some_iff.1 h2).1
        obtain ⟨p52,d1,_,d3⟩:=(hvm.ext Qu).load (j:=(kk:Int)) (by omega) (by omega) (xw (f:=Nb) (z:=1) (fun _=>rfl) l kk (yn,y) h2) rfl
        have Ar:s24.ld p52.1 p52.2=some (.int .i64 y):=d3 0 (by omega)
        have hyb:=hl _ (xH h2)
        simp only at hyb
        have hw54:IntKind.wrap .i64 (q.v.x+y)=q.v.x+y:=wrap64 (by omega) (by omega)
        rw [h1] at c24 ZF
        have Qo:Ba l q.fd q.v=some (q.v.x+y):=by rw [Au,Option.map_some,Int.add_comm]
        refine lift s24 _ (fun z hz'=>Sl _ _ _ _ _ _ st ?_) FY hbt Qo
        simp only [OJ,zdt h,cu,b1,b2',e4',l0,c6,bf,fP,eP,bg hz,dn,A8,xC,l15,hnm,bg hn,nJ,c16,l17,c18,hnl,fZ,Qd,Nj,c24,zdt hk',bg ZF,bg hk,l51,d1,Ar,hw54]
        exact hz'
theorem zxb [Sym] (l:vJ) (hl:BL l) (hln:l.length≤1000000) (x:Item) (BZ:Tf x.1.fC) (b:Nat) (rest:List Value) (vn vm:Value) (st:SS) (hb:st.mem.get b=some (.cells (vn::vm::rest) 0)) (hbl:b<st.next)
  (hvn:Rd st vn (strs (l.map (·.1))) 1 (l.map (·.1)).length) (hvm:Rd st vm (ak Nb l) 1 l.length) (hv:Rd st x.2.2 (ak fB x.1.fC) 5 x.1.fC.length):
  ∃ n u,st.next≤n∧u.length=12∧((ng l ny x.1.fC).2=0→u=(ng l ny x.1.fC).1)∧cc 46 [ptr b 0,.agg (dh x).toArray] st=some (.tuple #[wV u,.int .i64 (ng l ny x.1.fC).2],st.dw n):=by
 have x1:Ext (st.ro st.next) ((st.ro st.next).new (.cells (dh x) 0)):=(Ext.refl _).new _
 have a2:At (((st.ro st.next).new (.cells (dh x) 0)).new (.cells mP 0)) (st.next+1) mP:=At.new (st:=(st.ro st.next).new (.cells (dh x) 0)) (by simp) _
 have x2:Ext ((st.ro st.next).new (.cells (dh x) 0)) (((st.ro st.next).new (.cells (dh x) 0)).new (.cells mP 0)):=(Ext.refl _).new _
 have a3:At ((((st.ro st.next).new (.cells (dh x) 0)).new (.cells mP 0)).new (.cells mP 0)) (st.next+2) mP:=At.new (st:=((st.ro st.next).new (.cells (dh x) 0)).new (.cells mP 0)) (by simp;omega) _
 have x3:Ext (((st.ro st.next).new (.cells (dh x) 0)).new (.cells mP 0)) ((((st.ro st.next).new (.cells (dh x) 0)).new (.cells mP 0)).new (.cells mP 0)):=(Ext.refl _).new _
 have he:=x1.trans (x2.trans x3)
 have l4:((((st.ro st.next).new (.cells (dh x) 0)).new (.cells mP 0)).new (.cells mP 0)).ld st.next 4=some x.2.2:=by
  have hm:((((st.ro st.next).new (.cells (dh x) 0)).new (.cells mP 0)).new (.cells mP 0)).mem.get st.next=some (.cells (dh x) 0):=(x2.trans x3).get (by simp) (SS.fV (st:=st.ro st.next))
  rw [SS.eU hm];rfl
 obtain ⟨s',f1,f2⟩:=zus l hl hln x.1.fC BZ b (st.next+1) (st.next+2) rest vn vm x.2.2 (st.ro st.next) (fF _) hb hbl hvn hvm hv (by omega) (by simp) (by simp) x.1.fC.length 0 ny _ (by omega) rfl he a3 (a2.ext x3)
 rw [List.drop_zero] at f2
 have hlen:(lenV x.2.2).bind (ay .i64)=some (x.1.fC.length:Int):=by rw [hv.len];rfl
 have b0:Nat.beq 0 0=true:=rfl
 have b1:Nat.beq 1 0=false:=rfl
 have hn1:((st.ro st.next).new (.cells (dh x) 0)).next=st.next+1:=rfl
 have hn2:(((st.ro st.next).new (.cells (dh x) 0)).new (.cells mP 0)).next=st.next+2:=rfl
 have hnx:=f1.next
 simp only [SS.fE] at hnx
 have hel:=Ym l x.1.fC ny
 rcases f2 with ⟨g1,g2,g3,g4⟩ | ⟨g1,g2,u,g3,g4⟩
 ·have g2':GL 3 [ptr b 0,ptr (st.next+1) 0,ptr (st.next+2) 0,x.2.2,.int .i64 x.1.fC.length,.int .i64 0] ((((st.ro st.next).new (.cells (dh x) 0)).new (.cells mP 0)).new (.cells mP 0))=_:=g2
  obtain ⟨s12,e12,a12,m12⟩:=At.setW g4 rfl (ng l ny x.1.fC).1 (by rw [hel];rfl)
  have l10:s'.eF (st.next+2) 0 12=some (wV (ng l ny x.1.fC).1):=g3.eF (by rw [rX,hel];rfl)
  have xC:s12.fH (st.next+1) 0 12=some (wV (ng l ny x.1.fC).1):=a12.fH (by rw [rX,hel];rfl)
  have hz:=He (ng l ny x.1.fC).1 0
  refine ⟨s12.next,_,by have:=m12.next;omega,by rw [hel];rfl,fun _=>rfl,zfa _ _ st ?_⟩
  rw [g1]
  simp only [zdZ,lU,SS.fE,hn1,hn2,l4,bf,hlen,g2',b0,cu,lN,iZ,fZ,l10,e12,xC,hz]
  rfl
 ·have g2':GL 3 [ptr b 0,ptr (st.next+1) 0,ptr (st.next+2) 0,x.2.2,.int .i64 x.1.fC.length,.int .i64 0] ((((st.ro st.next).new (.cells (dh x) 0)).new (.cells mP 0)).new (.cells mP 0))=_:=g2
  have D7:s'.fH (st.next+1) 0 12=some (wV u):=g4.fH (by rw [rX,g3])
  have hz:=He u (ng l ny x.1.fC).2
  refine ⟨s'.next,u,hnx,g3,fun h=>by omega,zfa _ _ st ?_⟩
  simp only [zdZ,lU,SS.fE,hn1,hn2,l4,bf,hlen,g2',b1,dn,lN,iZ,fZ,eP,D7,hz,cu]
end Go.Proofs.YtifploedaacedaaGreatDoorE
