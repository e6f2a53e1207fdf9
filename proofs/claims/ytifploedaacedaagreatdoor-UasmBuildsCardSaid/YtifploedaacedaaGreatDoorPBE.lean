/- Parts of the proof of UasmBuilds, packed by a program: an evaluator over the given code, functions as plain texts, their laws. -/
import Derived.Test.YtifploedaacedaaGreatDoorPBD
set_option linter.unusedVariables false
set_option linter.unusedSimpArgs false
namespace Go.Proofs.YtifploedaacedaaGreatDoorE
set_option maxRecDepth 20000
open Go Go.E Go.Proofs
noncomputable def zdA (cf:zam) (lf:zad) (b':Value) (name':ByteArray) (x':Int) (st:SS):Option (Value×SS):=
 (zak b').bind fun a=>
 (addr? a).bind fun b=>
 (st.ld b.1 (b.2+1)).bind fun c=>
 (st.mapF c name').bind fun d=>
 zgG d (
 cond (eqT name' ⟨#[]⟩) (
 some (.bool false,st)) (
 (zak b').bind fun e=>
 (addr? e).bind fun f=>
 (st.ld f.1 (f.2+1)).bind fun g=>
 (st.mapP g name' (.int .i64 x')).bind fun h=>
 some (.bool true,h))) (fun i=>
 ((zan (.tuple #[i,.bool true]) 0).bind (asI .i64)).bind fun j=>
 some (.bool false,st))
noncomputable abbrev zjC:zad:=lS Tryz.prog Lk0 Tryz.f70 zaF
theorem zjD:Lk0.func 70=some (70,Tryz.f70):=by kernel_rfl
theorem zd5 [Sym] (b':Value) (name':ByteArray) (x':Int) (st:SS) {r:Value×SS} (h:zdA cc zjC b' name' x' st=some r):cc 70 [b',.string name',.int .i64 x'] st=some r:=
 zai (li:=zaF) zaj zao zjD rfl (fun _=>rfl) (.trans (by kernel_rfl) h)
noncomputable def zaq (cf:zam) (lf:zad) (b':Value) (l':Value) (st:SS):Option (Value×SS):=
 let a:SS:=st.new (.cells (l':Value).cells.toList 0)
 (a.ld st.next 3).bind fun b=>
 ((lenV b).bind (asI .i64)).bind fun c=>
 cond (decide (c=0)) (
 some (.bool false,a)) (
 (a.ld st.next 3).bind fun d=>
 (zah d 0 3).bind fun e=>
 (a.ldN e.1 e.2 3).bind fun f=>
 let g:SS:=a.new (.cells [.string ⟨#[]⟩,.int .i64 0,.int .i64 0] 0)
 (g.stV a.next 0 3 f).bind fun h=>
 ((h.ld a.next 0).bind asS).bind fun i=>
 ((h.ld st.next 2).bind asS).bind fun j=>
 cond (eqT j ⟨#[111,114,103]⟩) (
 cond (!(eqT i ⟨#[]⟩)) (
 some (.bool false,h)) (
 (h.ld st.next 3).bind fun k=>
 ((lenV k).bind (asI .i64)).bind fun l=>
 cond (decide (1<l)) (
 some (.bool false,h)) (
 ((h.ld a.next 1).bind (asI .i64)).bind fun m=>
 (zak b').bind fun n=>
 (addr? n).bind fun o=>
 ((h.ld o.1 o.2).bind (asI .i64)).bind fun p=>
 cond (decide (m<p)) (
 some (.bool false,h)) (
 ((h.ld a.next 1).bind (asI .i64)).bind fun q=>
 cond (decide (2048<q)) (
 some (.bool false,h)) (
 ((h.ld a.next 1).bind (asI .i64)).bind fun r=>
 (zak b').bind fun s=>
 (addr? s).bind fun t=>
 (h.st t.1 t.2 [.int .i64 r]).bind fun u=>
 some (.bool true,u)))))) (
 cond (eqT j ⟨#[97,108,105,103,110]⟩) (
 cond (!(eqT i ⟨#[]⟩)) (
 some (.bool false,h)) (
 (h.ld st.next 3).bind fun v=>
 ((lenV v).bind (asI .i64)).bind fun w=>
 cond (decide (1<w)) (
 some (.bool false,h)) (
 ((h.ld a.next 1).bind (asI .i64)).bind fun x=>
 cond (decide (x<1)) (
 some (.bool false,h)) (
 ((h.ld a.next 1).bind (asI .i64)).bind fun y=>
 cond (decide (2048<y)) (
 some (.bool false,h)) (
 (zak b').bind fun z=>
 (addr? z).bind fun A=>
 ((h.ld A.1 A.2).bind (asI .i64)).bind fun B=>
 ((h.ld a.next 1).bind (asI .i64)).bind fun C=>
 let D:Int:=IntKind.wrap .i64 (B+C)
 let E:Int:=IntKind.wrap .i64 (D-1)
 ((h.ld a.next 1).bind (asI .i64)).bind fun F=>
 ((aI .quo .i64 E F).bind (asI .i64)).bind fun G=>
 ((h.ld a.next 1).bind (asI .i64)).bind fun H=>
 let I:Int:=IntKind.wrap .i64 (G*H)
 (zak b').bind fun J=>
 (addr? J).bind fun K=>
 (h.st K.1 K.2 [.int .i64 I]).bind fun L=>
 (zak b').bind fun M=>
 (addr? M).bind fun N=>
 ((L.ld N.1 N.2).bind (asI .i64)).bind fun O=>
 some (.bool (decide (O≤2048)),L)))))) (
 cond (eqT j ⟨#[115,101,116]⟩) (
 (h.ld st.next 3).bind fun P=>
 ((lenV P).bind (asI .i64)).bind fun Q=>
 cond (decide (Q=2)) (
 cond (!(eqT i ⟨#[]⟩)) (
 ((h.ld a.next 1).bind (asI .i64)).bind fun R=>
 cond (decide (R=0)) (
 (h.ld st.next 3).bind fun S=>
 (zah S 1 3).bind fun T=>
 ((h.ld T.1 T.2).bind asS).bind fun U=>
 cond (eqT U ⟨#[]⟩) (
 ((h.ld a.next 0).bind asS).bind fun V=>
 (h.ld st.next 3).bind fun W=>
 (zah W 1 3).bind fun X=>
 ((h.ld X.1 (X.2+1)).bind (asI .i64)).bind fun Y=>
 (cf 70 [b',.string V,.int .i64 Y] h).bind fun Z=>
 ((some Z.1).bind asB).bind fun aA=>
 some (.bool aA,Z.2)) (
 some (.bool false,h))) (
 some (.bool false,h))) (
 some (.bool false,h))) (
 some (.bool false,h))) (
 cond (eqT j ⟨#[101,110,116,114,121]⟩) (
 cond (eqT i ⟨#[]⟩) (
 some (.bool false,h)) (
 (h.ld st.next 3).bind fun aB=>
 ((lenV aB).bind (asI .i64)).bind fun aC=>
 cond (decide (1<aC)) (
 some (.bool false,h)) (
 ((h.ld a.next 1).bind (asI .i64)).bind fun aD=>
 cond (!(decide (aD=0))) (
 some (.bool false,h)) (
 (zak b').bind fun aE=>
 (addr? aE).bind fun aF=>
 (h.ld aF.1 (aF.2+4)).bind fun aG=>
 (cf 96 [aG,.func (.func 97) #[] #[ptr a.next 0]] h).bind fun aH=>
 ((some aH.1).bind asB).bind fun aJ=>
 cond aJ (
 some (.bool false,aH.2)) (
 (zak b').bind fun aK=>
 (addr? aK).bind fun aL=>
 (aH.2.ld aL.1 (aL.2+4)).bind fun aM=>
 (aH.2.ldN a.next 0 3).bind fun aN=>
 (zaB aN 3).bind fun aO=>
 let aP:SS:=aH.2.new (.cells (aO++([])) 3)
 (aP.app 3 32 aM (.slice (some ⟨aH.2.next,0,none⟩) 1 1)).bind fun aQ=>
 (zak b').bind fun aR=>
 (addr? aR).bind fun aS=>
 (aQ.2.stV aS.1 (aS.2+4) 1 aQ.1).bind fun aT=>
 (zak b').bind fun aU=>
 (addr? aU).bind fun aV=>
 (aT.ld aV.1 (aV.2+3)).bind fun aW=>
 ((aT.ld st.next 0).bind (asI .i64)).bind fun aX=>
 ((aT.ld a.next 2).bind (asI .i64)).bind fun aY=>
 let aZ:SS:=aT.new (.cells ([.int .i64 aX,.int .i64 aY]) 2)
 (aZ.app 2 16 aW (.slice (some ⟨aT.next,0,none⟩) 1 1)).bind fun bA=>
 (zak b').bind fun bB=>
 (addr? bB).bind fun bC=>
 (bA.2.stV bC.1 (bC.2+3) 1 bA.1).bind fun bD=>
 some (.bool true,bD)))))) (
 some (.bool false,h))))))
noncomputable abbrev ze5:zad:=lS Tryz.prog Lk0 Tryz.f71 zaF
theorem zid:Lk0.func 71=some (71,Tryz.f71):=by kernel_rfl
theorem zbb [Sym] (b':Value) (l':Value) (st:SS) {r:Value×SS} (h:zaq cc ze5 b' l' st=some r):cc 71 [b',l'] st=some r:=
 zai (li:=zaF) zaj zao zid rfl (fun _=>rfl) (.trans (by kernel_rfl) h)
noncomputable def zck (cf:zam) (lf:zad) (b':Value) (l':Value) (st:SS):Option (Value×SS):=
 let a:SS:=st.new (.cells (l':Value).cells.toList 0)
 ((a.ld st.next 1).bind asS).bind fun b=>
 cond (!(eqT b ⟨#[]⟩)) (
 ((a.ld st.next 1).bind asS).bind fun c=>
 (zak b').bind fun d=>
 (addr? d).bind fun e=>
 ((a.ld e.1 e.2).bind (asI .i64)).bind fun f=>
 (cf 70 [b',.string c,.int .i64 f] a).bind fun g=>
 ((some g.1).bind asB).bind fun h=>
 cond (!h) (
 some (.bool false,g.2)) (
 ((g.2.ld st.next 2).bind asS).bind fun i=>
 cond (!(eqT i ⟨#[]⟩)) (
 (g.2.ldN st.next 0 5).bind fun j=>
 (cf 71 [b',j] g.2).bind fun k=>
 ((some k.1).bind asB).bind fun l=>
 some (.bool l,k.2)) (
 (g.2.ld st.next 4).bind fun m=>
 ((lenV m).bind (asI .i64)).bind fun n=>
 cond (decide (n=0)) (
 some (.bool true,g.2)) (
 (zak b').bind fun o=>
 (addr? o).bind fun p=>
 (g.2.ld p.1 (p.2+2)).bind fun q=>
 (zak b').bind fun r=>
 (addr? r).bind fun s=>
 ((g.2.ld s.1 s.2).bind (asI .i64)).bind fun t=>
 (g.2.ldN st.next 0 5).bind fun u=>
 (zaB u 5).bind fun v=>
 (zaB (.agg ⟨spl [.int .i64 t,.int .i64 0,.string ⟨#[]⟩,.string ⟨#[]⟩,.slice none 0 0,.slice none 0 0] 1 v⟩) 6).bind fun w=>
 let x:SS:=g.2.new (.cells (w++([])) 6)
 (x.app 6 96 q (.slice (some ⟨g.2.next,0,none⟩) 1 1)).bind fun y=>
 (zak b').bind fun z=>
 (addr? z).bind fun A=>
 (y.2.stV A.1 (A.2+2) 1 y.1).bind fun B=>
 (zak b').bind fun C=>
 (addr? C).bind fun D=>
 ((B.ld D.1 D.2).bind (asI .i64)).bind fun E=>
 let F:Int:=IntKind.wrap .i64 (E+1)
 (zak b').bind fun G=>
 (addr? G).bind fun H=>
 (B.st H.1 H.2 [.int .i64 F]).bind fun I=>
 (zak b').bind fun J=>
 (addr? J).bind fun K=>
 ((I.ld K.1 K.2).bind (asI .i64)).bind fun L=>
 some (.bool (decide (L≤2048)),I))))) (
 ((a.ld st.next 2).bind asS).bind fun M=>
 cond (!(eqT M ⟨#[]⟩)) (
 (a.ldN st.next 0 5).bind fun N=>
 (cf 71 [b',N] a).bind fun O=>
 ((some O.1).bind asB).bind fun P=>
 some (.bool P,O.2)) (
 (a.ld st.next 4).bind fun Q=>
 ((lenV Q).bind (asI .i64)).bind fun R=>
 cond (decide (R=0)) (
 some (.bool true,a)) (
 (zak b').bind fun S=>
 (addr? S).bind fun T=>
 (a.ld T.1 (T.2+2)).bind fun U=>
 (zak b').bind fun V=>
 (addr? V).bind fun W=>
 ((a.ld W.1 W.2).bind (asI .i64)).bind fun X=>
 (a.ldN st.next 0 5).bind fun Y=>
 (zaB Y 5).bind fun Z=>
 (zaB (.agg ⟨spl [.int .i64 X,.int .i64 0,.string ⟨#[]⟩,.string ⟨#[]⟩,.slice none 0 0,.slice none 0 0] 1 Z⟩) 6).bind fun aA=>
 let aB:SS:=a.new (.cells (aA++([])) 6)
 (aB.app 6 96 U (.slice (some ⟨a.next,0,none⟩) 1 1)).bind fun aC=>
 (zak b').bind fun aD=>
 (addr? aD).bind fun aE=>
 (aC.2.stV aE.1 (aE.2+2) 1 aC.1).bind fun aF=>
 (zak b').bind fun aG=>
 (addr? aG).bind fun aH=>
 ((aF.ld aH.1 aH.2).bind (asI .i64)).bind fun aI=>
 let aJ:Int:=IntKind.wrap .i64 (aI+1)
 (zak b').bind fun aK=>
 (addr? aK).bind fun aL=>
 (aF.st aL.1 aL.2 [.int .i64 aJ]).bind fun aM=>
 (zak b').bind fun aN=>
 (addr? aN).bind fun aO=>
 ((aM.ld aO.1 aO.2).bind (asI .i64)).bind fun aP=>
 some (.bool (decide (aP≤2048)),aM))))
noncomputable abbrev zeg:zad:=lS Tryz.prog Lk0 Tryz.f43 zaF
theorem zki:Lk0.func 43=some (43,Tryz.f43):=by kernel_rfl
theorem zcl [Sym] (b':Value) (l':Value) (st:SS) {r:Value×SS} (h:zck cc zeg b' l' st=some r):cc 43 [b',l'] st=some r:=
 zai (li:=zaF) zaj zao zki rfl (fun _=>rfl) (.trans (by kernel_rfl) h)
noncomputable def zcI (cf:zam) (lf:zad) (b':Value) (field':ByteArray) (v':Value) (st:SS):Option (Value×SS):=
 let a:SS:=(st.ro st.next).new (.cells (v':Value).cells.toList 0)
 ((a.ld ((st.ro st.next).next) 0).bind asS).bind fun b=>
 cond (eqT b ⟨#[]⟩) (
 ((a.ld ((st.ro st.next).next) 1).bind (asI .i64)).bind fun c=>
 some (.tuple #[.int .i64 c,.bool true],st.adv a.next)) (
 (cf 117 [.string field'] (a.ro a.next)).bind fun d=>
 (((d.2.ro a.lim).ld ((st.ro st.next).next) 0).bind asS).bind fun e=>
 (cf 116 [d.1,.string e] (d.2.ro a.lim)).bind fun f=>
 ((some f.1).bind (asI .i64)).bind fun g=>
 cond (decide (0≤g)) (
 ((f.2.ld ((st.ro st.next).next) 1).bind (asI .i64)).bind fun h=>
 let i:Int:=IntKind.wrap .i64 (g+h)
 some (.tuple #[.int .i64 i,.bool true],st.adv f.2.next)) (
 (zak b').bind fun j=>
 (addr? j).bind fun k=>
 (f.2.ld k.1 (k.2+1)).bind fun l=>
 ((f.2.ld ((st.ro st.next).next) 0).bind asS).bind fun m=>
 (f.2.mapF l m).bind fun n=>
 zgG n (
 ((f.2.ld ((st.ro st.next).next) 1).bind (asI .i64)).bind fun o=>
 let p:Int:=IntKind.wrap .i64 (0+o)
 some (.tuple #[.int .i64 p,.bool false],st.adv f.2.next)) (fun q=>
 ((zan (.tuple #[q,.bool true]) 0).bind (asI .i64)).bind fun r=>
 ((f.2.ld ((st.ro st.next).next) 1).bind (asI .i64)).bind fun s=>
 let t:Int:=IntKind.wrap .i64 (r+s)
 some (.tuple #[.int .i64 t,.bool true],st.adv f.2.next))))
noncomputable abbrev zjE:zad:=lS Tryz.prog Lk0 Tryz.f99 zaF
theorem zjF:Lk0.func 99=some (99,Tryz.f99):=by kernel_rfl
theorem zcU [Sym] (b':Value) (field':ByteArray) (v':Value) (st:SS) {r:Value×SS} (h:zcI cc zjE b' field' v' st=some r):cc 99 [b',.string field',v'] st=some r:=
 zai (li:=zaF) zaj zao zjF rfl (fun _=>rfl) (.trans (by kernel_rfl) h)
def zfD:LoopI:=⟨[(0,.any),(4,.any),(6,.any),(13,.any),(14,.int .i64),(15,.int .i64)],[(.exit 0,[(4,.any),(6,.any)]),(.ret,[(4,.any),(5,.int .i64)])]⟩
def zfZ (n:Nat):Option LoopI:=cond (Nat.beq n 3) (some zfD) (none)
noncomputable def zeY (cf:zam) (lf:zad) (b':Value) (l':Value) (st:SS):Option (Value×SS):=
 let a:SS:=(st.ro st.next).new (.cells (l':Value).cells.toList 0)
 let b:SS:=a.new (.cells [.int .i64 0,.int .i64 0,.int .i64 0,.int .i64 0,.int .i64 0,.int .i64 0,.int .i64 0,.int .i64 0,.int .i64 0,.int .i64 0,.int .i64 0,.int .i64 0] 0)
 let c:SS:=b.new (.cells [.int .i64 0,.int .i64 0,.int .i64 0,.int .i64 0,.int .i64 0,.int .i64 0,.int .i64 0,.int .i64 0,.int .i64 0,.int .i64 0,.int .i64 0,.int .i64 0] 0)
 (c.ld ((st.ro st.next).next) 4).bind fun d=>
 ((lenV d).bind (asI .i64)).bind fun e=>
 (lf 3 [b',ptr a.next 0,ptr b.next 0,d,.int .i64 e,.int .i64 0] c).bind fun f=>
 cond (Nat.beq f.1 0) (
 (f.2.1[0]?).bind fun g=>
 (f.2.1[1]?).bind fun h=>
 (addr? h).bind fun i=>
 (f.2.2.ldN i.1 i.2 12).bind fun j=>
 (addr? g).bind fun k=>
 (f.2.2.stV k.1 k.2 12 j).bind fun l=>
 (addr? g).bind fun m=>
 (l.rdN m.1 m.2 12).bind fun n=>
 cond (flat3 (.tuple #[n,.int .i64 0])) (some (.tuple #[n,.int .i64 0],st.adv l.next)) none) (
 (f.2.1[0]?).bind fun o=>
 ((f.2.1[1]?).bind (asI .i64)).bind fun p=>
 (addr? o).bind fun q=>
 (f.2.2.rdN q.1 q.2 12).bind fun r=>
 cond (flat3 (.tuple #[r,.int .i64 p])) (some (.tuple #[r,.int .i64 p],st.adv f.2.2.next)) none)
noncomputable abbrev za3:zad:=lS Tryz.prog Lk0 Tryz.f72 zfZ
theorem zjG:Lk0.func 72=some (72,Tryz.f72):=by kernel_rfl
theorem zf0 [Sym] (b':Value) (l':Value) (st:SS) {r:Value×SS} (h:zeY cc za3 b' l' st=some r):cc 72 [b',l'] st=some r:=
 zai (li:=zfZ) zaj zao zjG rfl (fun _=>rfl) (.trans (by kernel_rfl) h)
noncomputable def zbK (cf:zam) (lf:zad) (b':Value) (t4':Value) (w':Value) (t13':Value) (t14':Int) (t15':Int) (st:SS):Option (Nat×List Value×SS):=
 cond (decide (t15'<t14')) (
 (zah t13' t15' 5).bind fun a=>
 (st.ldN a.1 a.2 5).bind fun b=>
 let c:SS:=st.new (.cells [.string ⟨#[]⟩,.int .i64 0,.string ⟨#[]⟩,.int .i64 0,.int .i64 0] 0)
 (c.stV st.next 0 5 b).bind fun d=>
 ((d.ld st.next 0).bind asS).bind fun e=>
 (cf 98 [.string e] d).bind fun f=>
 ((some f.1).bind (asI .i64)).bind fun g=>
 cond (decide (g=0)) (
 (addr? w').bind fun h=>
 (f.2.ldN h.1 h.2 12).bind fun i=>
 ((f.2.ld st.next 1).bind (asI .i64)).bind fun j=>
 cond (zbt (ptr st.next 1) t4') (
 (addr? t4').bind fun k=>
 (f.2.stV k.1 k.2 12 i).bind fun l=>
 some (1,[t4',.int .i64 j],l)) (
 none)) (
 ((f.2.ld st.next 0).bind asS).bind fun m=>
 (f.2.ldN st.next 2 3).bind fun n=>
 (cf 99 [b',.string m,n] f.2).bind fun o=>
 ((zan o.1 0).bind (asI .i64)).bind fun p=>
 ((zan o.1 1).bind asB).bind fun q=>
 (addr? w').bind fun r=>
 (o.2.ldN r.1 r.2 12).bind fun s=>
 ((o.2.ld st.next 0).bind asS).bind fun t=>
 (cf 100 [s,.string t,.int .i64 p] o.2).bind fun u=>
 (zan u.1 0).bind fun v=>
 ((zan u.1 1).bind (asI .i64)).bind fun w=>
 (addr? w').bind fun x=>
 (u.2.stV x.1 x.2 12 v).bind fun y=>
 cond (!q) (
 (addr? w').bind fun z=>
 (y.ldN z.1 z.2 12).bind fun A=>
 ((y.ld st.next 4).bind (asI .i64)).bind fun B=>
 cond (zbt (ptr st.next 4) t4') (
 (addr? t4').bind fun C=>
 (y.stV C.1 C.2 12 A).bind fun D=>
 some (1,[t4',.int .i64 B],D)) (
 none)) (
 cond (!(decide (w=0))) (
 (addr? w').bind fun E=>
 (y.ldN E.1 E.2 12).bind fun F=>
 ((y.ld st.next 4).bind (asI .i64)).bind fun G=>
 cond (zbt (ptr st.next 4) t4') (
 (addr? t4').bind fun H=>
 (y.stV H.1 H.2 12 F).bind fun I=>
 some (1,[t4',.int .i64 G],I)) (
 none)) (
 let J:Int:=IntKind.wrap .i64 (t15'+1)
 lf 3 [b',t4',w',t13',.int .i64 t14',.int .i64 J] y)))) (
 some (0,[t4',w'],st))
theorem zbM [Sym] (b':Value) (t4':Value) (w':Value) (t13':Value) (t14':Int) (t15':Int) (st:SS) {r:Nat×List Value×SS} (h:zbK cc za3 b' t4' w' t13' t14' t15' st=some r):za3 3 [b',t4',w',t13',.int .i64 t14',.int .i64 t15'] st=some r:=
 zav zaj zao (key:=3) (I:=zfD) rfl (by kernel_rfl) (by kernel_rfl) rfl rfl (.trans (by kernel_rfl) h)
def zol:LoopI:=⟨[(0,.any),(1,.str),(7,.int .i64),(8,.int .i64)],[(.exit 0,[]),(.ret,[(4,.int .i64)])]⟩
def zpm (n:Nat):Option LoopI:=cond (Nat.beq n 2) (some zol) (none)
noncomputable def zt5 (cf:zam) (lf:zad) (s':Value) (v':ByteArray) (st:SS):Option (Value×SS):=
 ((lenV s').bind (asI .i64)).bind fun a=>
 (lf 2 [s',.string v',.int .i64 a,.int .i64 0] (st.ro st.next)).bind fun b=>
 cond (Nat.beq b.1 0) (
 some (.int .i64 (-1),st.adv b.2.2.next)) (
 ((b.2.1[0]?).bind (asI .i64)).bind fun c=>
 some (.int .i64 c,st.adv b.2.2.next))
noncomputable abbrev zhK:zad:=lS Tryz.prog Lk0 Tryz.f116 zpm
theorem zt6:Lk0.func 116=some (116,Tryz.f116):=by kernel_rfl
theorem zt7 [Sym] (s':Value) (v':ByteArray) (st:SS) {r:Value×SS} (h:zt5 cc zhK s' v' st=some r):cc 116 [s',.string v'] st=some r:=
 zai (li:=zpm) zaj zao zt6 rfl (fun _=>rfl) (.trans (by kernel_rfl) h)
noncomputable def zjb (cf:zam) (lf:zad) (s':Value) (v':ByteArray) (t7':Int) (t8':Int) (st:SS):Option (Nat×List Value×SS):=
 cond (decide (t8'<t7')) (
 (zah s' t8' 1).bind fun a=>
 ((st.ld a.1 a.2).bind asS).bind fun b=>
 cond (eqT v' b) (
 some (1,[.int .i64 t8'],st)) (
 let c:Int:=IntKind.wrap .i64 (t8'+1)
 lf 2 [s',.string v',.int .i64 t7',.int .i64 c] st)) (
 some (0,[],st))
theorem zl7 [Sym] (s':Value) (v':ByteArray) (t7':Int) (t8':Int) (st:SS) {r:Nat×List Value×SS} (h:zjb cc zhK s' v' t7' t8' st=some r):zhK 2 [s',.string v',.int .i64 t7',.int .i64 t8'] st=some r:=
 zav zaj zao (key:=2) (I:=zol) rfl (by kernel_rfl) (by kernel_rfl) rfl rfl (.trans (by kernel_rfl) h)
noncomputable def zoS (cf:zam) (lf:zad) (s':Value) (q':Nat) (st:SS):Option (Value×SS):=
 (cf 114 [s',.func (.func 97) #[] #[ptr q' 0]] (st.ro st.next)).bind fun a=>
 ((some a.1).bind (asI .i64)).bind fun b=>
 some (.bool (decide (0≤b)),st.adv a.2.next)
noncomputable abbrev zsH:zad:=lS Tryz.prog Lk0 Tryz.f96 zaF
theorem zsI:Lk0.func 96=some (96,Tryz.f96):=by kernel_rfl
theorem zsJ [Sym] (s':Value) (q':Nat) (st:SS) {r:Value×SS} (h:zoS cc zsH s' q' st=some r):cc 96 [s',.func (.func 97) #[] #[ptr q' 0]] st=some r:=
 zai (li:=zaF) zaj zao zsI rfl (fun _=>rfl) (.trans (by kernel_rfl) h)
def zom:LoopI:=⟨[(0,.any),(1,.any),(7,.int .i64),(8,.int .i64)],[(.exit 0,[]),(.ret,[(4,.int .i64)])]⟩
def zpn (n:Nat):Option LoopI:=cond (Nat.beq n 2) (some zom) (none)
noncomputable def zqG (cf:zam) (lf:zad) (s':Value) (q':Nat) (st:SS):Option (Value×SS):=
 ((lenV s').bind (asI .i64)).bind fun a=>
 (lf 2 [s',.func (.func 97) #[] #[ptr q' 0],.int .i64 a,.int .i64 0] (st.ro st.next)).bind fun b=>
 cond (Nat.beq b.1 0) (
 some (.int .i64 (-1),st.adv b.2.2.next)) (
 ((b.2.1[0]?).bind (asI .i64)).bind fun c=>
 some (.int .i64 c,st.adv b.2.2.next))
noncomputable abbrev zhL:zad:=lS Tryz.prog Lk0 Tryz.f114 zpn
theorem zt8:Lk0.func 114=some (114,Tryz.f114):=by kernel_rfl
theorem zpo [Sym] (s':Value) (q':Nat) (st:SS) {r:Value×SS} (h:zqG cc zhL s' q' st=some r):cc 114 [s',.func (.func 97) #[] #[ptr q' 0]] st=some r:=
 zai (li:=zpn) zaj zao zt8 rfl (fun _=>rfl) (.trans (by kernel_rfl) h)
noncomputable def zjc (cf:zam) (lf:zad) (s':Value) (q':Nat) (t7':Int) (t8':Int) (st:SS):Option (Nat×List Value×SS):=
 cond (decide (t8'<t7')) (
 (zah s' t8' 3).bind fun a=>
 (st.ldN a.1 a.2 3).bind fun b=>
 (cf 97 [b,ptr q' 0] st).bind fun c=>
 ((some c.1).bind asB).bind fun d=>
 cond d (
 some (1,[.int .i64 t8'],c.2)) (
 let e:Int:=IntKind.wrap .i64 (t8'+1)
 lf 2 [s',.func (.func 97) #[] #[ptr q' 0],.int .i64 t7',.int .i64 e] c.2)) (
 some (0,[],st))
theorem ziK [Sym] (s':Value) (q':Nat) (t7':Int) (t8':Int) (st:SS) {r:Nat×List Value×SS} (h:zjc cc zhL s' q' t7' t8' st=some r):zhL 2 [s',.func (.func 97) #[] #[ptr q' 0],.int .i64 t7',.int .i64 t8'] st=some r:=
 zav zaj zao (key:=2) (I:=zom) rfl (by kernel_rfl) (by kernel_rfl) rfl rfl (.trans (by kernel_rfl) h)
noncomputable def valEq (cf:zam) (lf:zad) (v':Value) (x1':Value) (st:SS):Option (Value×SS):=
 let a:SS:=(st.ro st.next).new (.cells (v':Value).cells.toList 0)
 ((a.ld ((st.ro st.next).next) 0).bind asS).bind fun b=>
 (addr? x1').bind fun c=>
 ((a.ld c.1 c.2).bind asS).bind fun d=>
 some (.bool (eqT b d),st.adv a.next)
noncomputable abbrev zu7:zad:=lS Tryz.prog Lk0 Tryz.f97 zaF
theorem zu8:Lk0.func 97=some (97,Tryz.f97):=by kernel_rfl
theorem zu9 [Sym] (v':Value) (x1':Value) (st:SS) {r:Value×SS} (h:valEq cc zu7 v' x1' st=some r):cc 97 [v',x1'] st=some r:=
 zai (li:=zaF) zaj zao zu8 rfl (fun _=>rfl) (.trans (by kernel_rfl) h)
end Go.Proofs.YtifploedaacedaaGreatDoorE
namespace Go.Proofs.YtifploedaacedaaGreatDoorE
open Go Go.E Go.Proofs
abbrev Nms:=List (List UInt8×Int)
def zbZ (l:Nms) (n:List UInt8):Option Int:=(l.find? fun x=>decide (n=x.1)).map (·.2)
structure Lay where
 pl:Nat
 nms:Nms
 wds:List (Nat×PLine)
 ents:List (Val×Nat×Nat)
def Lay.define (l:Lay) (n:List UInt8) (x:Int):Option Lay:=if (zbZ l.nms n).isSome=true∨n=[] then none else some { l with nms:=l.nms++[(n,x)] }
def zbI (l:Lay) (x:PLine):Option Lay:=match x.args with
 | []=>none
 | v::r=>
   if x.dir=[111,114,103] then (if v.nm=[]∧r=[]∧(l.pl:Int)≤v.x∧v.x≤2048 then some { l with pl:=v.x.toNat } else none)
   else if x.dir=[97,108,105,103,110] then (if v.nm=[]∧r=[]∧1≤v.x∧v.x≤2048∧(l.pl+v.x.toNat-1)/v.x.toNat*v.x.toNat≤2048 then some { l with pl:=(l.pl+v.x.toNat-1)/v.x.toNat*v.x.toNat } else none)
   else if x.dir=[115,101,116] then (match r with
    | [y]=>if v.nm≠[]∧v.x=0∧y.nm=[] then l.define v.nm y.x else none
    | _=>none)
   else if x.dir=[101,110,116,114,121] then (if v.nm≠[]∧r=[]∧v.x=0∧(l.ents.any fun e=>decide (e.1.nm=v.nm))=false then some { l with ents:=l.ents++[(v,x.ln,v.col)] } else none)
   else none
def zg1 (l:Lay) (x:PLine):Option Lay:=
 (if x.lab=[] then some l else l.define x.lab l.pl).bind fun l=>
 if x.dir≠[] then zbI l x
 else if x.prs=[] then some l
 else if l.pl+1≤2048 then some { l with pl:=l.pl+1,wds:=l.wds++[(l.pl,x)] } else none
def zeZ (l:Nms) (f:List UInt8) (v:Val):Option Int:=
 if v.nm=[] then some v.x else
 if 0≤inT (namesT f) v.nm then some (inT (namesT f) v.nm+v.x) else (zbZ l v.nm).map (·+v.x)
def zaQ (l:Nms) (w:Wd):List Pr→Wd×Nat
 | []=>(w,0)
 | p::r=>if zfq p.fd=0 then (w,p.col) else match zeZ l p.fd p.v with
   | none=>(w,p.v.col)
   | some x=>if (zbk w p.fd x).2=0 then zaQ l (zbk w p.fd x).1 r else (w,p.v.col)
def nmM (l:Nms):List (ByteArray×Value):=l.map fun x=>(mkS x.1,.int .i64 x.2)
theorem znu (l:Nms) (k:List UInt8):ze1 (mkS k) (nmM l)=(zbZ l k).map (.int .i64):=by
 induction l with
 | nil=>rfl
 | cons x r ih=>
   show cond (eqT (mkS k) (mkS x.1)) _ (ze1 (mkS k) (nmM r))=_
   unfold zbZ
   rw [zdK,List.find?_cons]
   by_cases h:k=x.1
   ·rw [zdt h];rfl
   ·rw [zdf h]
    exact ih
theorem zwc (l:Nms) (k:List UInt8) (x:Int) (h:zbZ l k=none):zf3 (mkS k) (.int .i64 x) (nmM l)=nmM (l++[(k,x)]):=by
 induction l with
 | nil=>rfl
 | cons y r ih=>
   unfold zbZ at h
   rw [List.find?_cons] at h
   show cond (eqT (mkS k) (mkS y.1)) _ _=_
   rw [zdK]
   by_cases hk:k=y.1
   ·rw [zdt hk] at h;cases h
   ·rw [zdf hk] at h ⊢
    show (mkS y.1,Value.int .i64 y.2)::zf3 (mkS k) (.int .i64 x) (nmM r)=_
    rw [ih h];rfl
theorem define_ok [Sym] (b i:Nat) (p vw ve vv:Value) (l:Nms) (n:List UInt8) (x:Int) (st:SS) (hb:At st b [p,.map (some i),vw,ve,vv]) (hi:st.mem.get i=some (.map (nmM l))) (hlt:i<st.next) (hlim:st.lim≤i):
  (if (zbZ l n).isSome=true∨n=[] then cc 70 [ptr b 0,.string (mkS n),.int .i64 x] st=some (.bool false,st)
   else ∃ st',cc 70 [ptr b 0,.string (mkS n),.int .i64 x] st=some (.bool true,st')∧Mod [i] st st'∧st'.next=st.next∧st'.mem.get i=some (.map (nmM (l++[(n,x)])))):=by
 have h1:zak (ptr b 0)=some (ptr b 0):=rfl
 have l1:st.ld b (0+1)=some (.map (some i)):=hb.ld
 have m1:st.mapF (.map (some i)) (mkS n)=some ((zbZ l n).map (.int .i64)):=by
  unfold SS.mapF
  simp only [hi,zob,znu]
 cases hf:zbZ l n with
 | some y=>
   rw [hf] at m1
   rw [if_pos (.inl rfl)]
   refine zd5 _ _ _ st ?_
   simp only [zdA,h1,zob,zac,l1,m1,Option.map_some,zgG]
   rfl
 | none=>
   rw [hf] at m1
   by_cases hn:n=[]
   ·subst hn
    rw [if_pos (.inr rfl)]
    have he:eqT (mkS []) ⟨#[]⟩=true:=rfl
    refine zd5 _ _ _ st ?_
    simp only [zdA,h1,zob,zac,l1,m1,Option.map_none,zgG,he,zct]
   ·rw [if_neg (by rintro (h | h);cases h;exact hn h)]
    have he:eqT (mkS n) ⟨#[]⟩=false:=by rw [zc3];exact zdf hn
    have m2:st.mapP (.map (some i)) (mkS n) (.int .i64 x)=some (st.set i (some (.map (nmM (l++[(n,x)]))))):=by
     unfold SS.mapP
     have:Nat.ble st.lim i=true:=by rwa [Nat.ble_eq]
     simp only [this,zct,hi,zob,zwc l n x hf]
    refine ⟨st.set i (some (.map (nmM (l++[(n,x)])))),zd5 _ _ _ st ?_,⟨zlr _,rfl,fun j hj hS=>SS.set_old (by simpa using hS)⟩,rfl,by simp⟩
    simp only [zdA,h1,zob,zac,l1,m1,Option.map_none,zgG,he,zcf,m2]
end Go.Proofs.YtifploedaacedaaGreatDoorE
namespace Go.Proofs.YtifploedaacedaaGreatDoorE
open Go Go.E Go.Proofs
theorem zt9 [Sym] (l:List (List UInt8)) (hl:l.length≤1099511627776) (s:ByteArray) (v:Value) (st:SS) (hv:Rd st v (strs l) 1 l.length):∀ (r:List (List UInt8)) (i:Nat),l.drop i=r→i≤l.length→
  zhK 2 [v,.string s,.int .i64 l.length,.int .i64 i] st=some (match r.findIdx? (fun x=>decide (x=bl s)) with | none=>(0,[],st) | some k=>(1,[.int .i64 ((i+k:Nat):Int)],st)):=by
 intro r
 induction r with
 | nil=>
   intro i hd hi
   have hlen:=congrArg List.length hd
   rw [List.length_drop] at hlen
   have h:¬ (i:Int)<(l.length:Int):=by simp at hlen;omega
   refine zl7 _ _ _ _ st ?_
   simp only [zjb,zdf h,zcf,List.findIdx?_nil]
 | cons p r ih=>
   intro i hd hi
   have hlen:=congrArg List.length hd
   rw [List.length_drop,List.length_cons] at hlen
   have h:(i:Int)<(l.length:Int):=by omega
   have hgp:l[i]?=some p:=by
    have:=List.getElem?_drop (xs:=l) (i:=i) (j:=0)
    rw [hd] at this
    simpa using this.symm
   have hd':l.drop (i+1)=r:=by rw [← List.drop_drop,hd];rfl
   obtain ⟨q,b1,_,b3⟩:=hv.load (j:=(i:Int)) (by omega) h (strs_get _ i p hgp) rfl
   have b3':st.ld q.1 q.2=some (.string (mkS p)):=by simpa using b3 0 (by omega)
   refine zl7 _ _ _ _ st ?_
   have hw:=za4 (i:=i) (by omega)
   by_cases hp:p=bl s
   ·have he:eqT s (mkS p)=true:=by rw [zd0,zbu];exact zdt hp.symm
    simp only [zjb,zdt h,zct,b1,b3',zob,zab,he,List.findIdx?_cons,zdt hp,if_true]
    rfl
   ·have he:eqT s (mkS p)=false:=by rw [zd0,zbu];exact zdf (fun h=>hp h.symm)
    have:=ih (i+1) hd' (by omega)
    simp only [zjb,zdt h,zct,b1,b3',zob,zab,he,zcf,hw,List.findIdx?_cons,zdf hp]
    rw [this]
    cases r.findIdx? (fun x=>decide (x=bl s)) with
    | none=>rfl
    | some k=>simp;omega
theorem zwd [Sym] (l:List (List UInt8)) (hl:l.length≤1099511627776) (s:ByteArray) (v:Value) (st:SS) (hv:Rd st v (strs l) 1 l.length):cc 116 [v,.string s] st=some (.int .i64 (inT l (bl s)),st.adv st.next):=by
 have h:=zt9 l hl s v (st.ro st.next) hv l 0 rfl (Nat.zero_le _)
 have h':zhK 2 [v,.string s,.int .i64 l.length,.int .i64 0] (st.ro st.next)=_:=h
 refine zt7 v s st ?_
 simp only [zt5,hv.len,zob,zaa]
 rw [h',zob]
 unfold inT
 cases l.findIdx? (fun x=>decide (x=bl s)) with
 | none=>rfl
 | some k=>simp
theorem zie (f:List UInt8):(namesT f).length≤64:=by
 unfold namesT
 repeat' split
 all_goals decide+kernel
theorem zua (l:List (List UInt8)) (s:List UInt8): -1≤inT l s∧inT l s≤l.length:=by
 unfold inT
 cases h:l.findIdx? (fun x=>decide (x=s)) with
 | none=>simp
 | some k=>
   have:=(List.findIdx?_eq_some_iff_getElem.1 h).1
   simp only
   omega
def NmsOk (l:Nms):Prop:=∀ x∈l, -4294967296≤x.2∧x.2≤4294967296
theorem zue {l:Nms} {n:List UInt8} {x:Int} (h:zbZ l n=some x):∃ y∈l,y.2=x:=by
 unfold zbZ at h
 simp only [zmi] at h
 obtain ⟨y,hy,rfl⟩:=h
 exact ⟨y,List.mem_of_find?_eq_some hy,rfl⟩
def numR:Option Int→Int→Value
 | some x,_=>.tuple #[.int .i64 x,.bool true]
 | none,y=>.tuple #[.int .i64 y,.bool false]
theorem zsK [Sym] (b i:Nat) (p vw ve vv:Value) (l:Nms) (hl:NmsOk l) (f:List UInt8) (v:Val) (h0: -4294967296≤v.x) (h1:v.x≤4294967296) (st:SS) (hg:Gd st) (hb:st.mem.get b=some (.cells [p,.map (some i),vw,ve,vv] 0)) (hbl:b<st.next) (hi:st.mem.get i=some (.map (nmM l))) (hlt:i<st.next):
  ∃ n,st.next≤n∧cc 99 [ptr b 0,.string (mkS f),.agg (valRow v).toArray] st=some (numR (zeZ l f v) v.x,st.adv n):=by
 have x1:Ext (st.ro st.next) ((st.ro st.next).new (.cells (valRow v) 0)):=(Ext.refl _).new _
 have hm:((st.ro st.next).new (.cells (valRow v) 0)).mem.get st.next=some (.cells (valRow v) 0):=SS.new_get (st:=st.ro st.next)
 have l0:((st.ro st.next).new (.cells (valRow v) 0)).ld st.next 0=some (.string (mkS v.nm)):=by rw [SS.ld_cells hm];rfl
 have l1:((st.ro st.next).new (.cells (valRow v) 0)).ld st.next 1=some (.int .i64 v.x):=by rw [SS.ld_cells hm];rfl
 have hn:eqT (mkS v.nm) ⟨#[]⟩=decide (v.nm=[]):=zc3 _
 by_cases hnm:v.nm=[]
 ·have hs:zeZ l f v=some v.x:=by unfold zeZ;rw [if_pos hnm]
  rw [hs]
  rw [zdt hnm] at hn
  refine ⟨st.next+1,by omega,zcU _ _ _ st ?_⟩
  simp only [zcI,zaC,SS.ro_next,l0,l1,zob,zab,hn,zct,zaa]
  rfl
 ·rw [zdf hnm] at hn
  have g1:Gd ((st.ro st.next).new (.cells (valRow v) 0)):=(hg.ro (n:=st.next)).ext x1
  generalize hs1:(st.ro st.next).new (.cells (valRow v) 0)=s1 at*
  have hn1:s1.next=st.next+1:=by rw [← hs1];rfl
  obtain ⟨v4,s4,c4,x4,o4⟩:=zuW (mkS f) (s1.ro s1.next) g1.ro (zlr _)
  have x4':Ext s1 (s4.ro s1.lim):=⟨x4.next,rfl,fun j hj=>x4.keep j hj⟩
  have r4:Rd (s4.ro s1.lim) v4 (strs (namesT f)) 1 (namesT f).length:=o4.rd
  have l5:(s4.ro s1.lim).ld st.next 0=some (.string (mkS v.nm)):=by rw [SS.ld_cells (x4'.get (by omega) hm)];rfl
  have c6:=zwd (namesT f) (by have:=zie f;omega) (mkS v.nm) v4 (s4.ro s1.lim) r4
  have x6:Ext (s4.ro s1.lim) ((s4.ro s1.lim).adv (s4.ro s1.lim).next):=(Ext.refl _).adv (zlr _)
  have hin:=zua (namesT f) v.nm
  have hnl:=zie f
  have hs5:∀ k:Nat,k<s1.next→((s4.ro s1.lim).adv (s4.ro s1.lim).next).mem.get k=s1.mem.get k:=fun k hk=>(x4'.trans x6).keep k hk
  generalize hs6:(s4.ro s1.lim).adv (s4.ro s1.lim).next=s6 at*
  have hnx:st.next≤s6.next:=by rw [← hs6];have:=x4.next;simp at this ⊢;omega
  have hm6:s6.mem.get st.next=some (.cells (valRow v) 0):=(hs5 st.next (by omega)).trans hm
  have l60:s6.ld st.next 0=some (.string (mkS v.nm)):=by rw [SS.ld_cells hm6];rfl
  have l61:s6.ld st.next 1=some (.int .i64 v.x):=by rw [SS.ld_cells hm6];rfl
  by_cases hk:0≤inT (namesT f) v.nm
  ·have hs:zeZ l f v=some (inT (namesT f) v.nm+v.x):=by unfold zeZ;rw [if_neg hnm,if_pos hk]
   rw [hs]
   have hw:IntKind.wrap .i64 (inT (namesT f) v.nm+v.x)=inT (namesT f) v.nm+v.x:=wrap64 (by omega) (by omega)
   refine ⟨s6.next,hnx,zcU _ _ _ st ?_⟩
   simp only [zcI,zaC,SS.ro_next,hs1,l0,zob,zab,hn,zcf,c4,l5,c6,zbu,zaa,zdt hk,zct,l61,hw]
   rfl
  ·have hs:zeZ l f v=(zbZ l v.nm).map (·+v.x):=by unfold zeZ;rw [if_neg hnm,if_neg hk]
   rw [hs]
   have hold:∀ k:Nat,k<st.next→s6.mem.get k=st.mem.get k:=fun k hk=>by
    rw [hs5 k (by omega),← hs1,SS.new_old (by show k≠st.next;omega)];rfl
   have hnl:zak (ptr b 0)=some (ptr b 0):=rfl
   have l7:s6.ld b (0+1)=some (.map (some i)):=by rw [SS.ld_cells ((hold b hbl).trans hb)];rfl
   have m7:s6.mapF (.map (some i)) (mkS v.nm)=some ((zbZ l v.nm).map (.int .i64)):=by
    unfold SS.mapF
    simp only [(hold i hlt).trans hi,zob,znu]
   cases hf:zbZ l v.nm with
   | none=>
     rw [hf] at m7
     have hw:IntKind.wrap .i64 (0+v.x)=v.x:=by rw [Int.zero_add];exact wrap64 (by omega) (by omega)
     refine ⟨s6.next,hnx,zcU _ _ _ st ?_⟩
     simp only [zcI,zaC,SS.ro_next,hs1,l0,zob,zab,hn,zcf,c4,l5,c6,zbu,zaa,zdf hk,hnl,zac,l7,l60,l61,m7,Option.map_none,zgG,hw]
     rfl
   | some y=>
     rw [hf] at m7
     obtain ⟨z,hz,hzy⟩:=zue hf
     have hb':=hl z hz
     rw [hzy] at hb'
     have hw:IntKind.wrap .i64 (y+v.x)=y+v.x:=wrap64 (by omega) (by omega)
     have ht:(zan (.tuple #[.int .i64 y,.bool true]) 0).bind (asI .i64)=some y:=rfl
     refine ⟨s6.next,hnx,zcU _ _ _ st ?_⟩
     simp only [zcI,zaC,SS.ro_next,hs1,l0,zob,zab,hn,zcf,c4,l5,c6,zbu,zaa,zdf hk,hnl,zac,l7,l60,l61,m7,Option.map_some,zgG,ht,hw]
     rfl
end Go.Proofs.YtifploedaacedaaGreatDoorE
namespace Go.Proofs.YtifploedaacedaaGreatDoorE
open Go Go.E Go.Proofs
theorem zc9 {i j k k':Nat} (h:i≠j):zbt (ptr i k) (ptr j k')=true:=by
 show (!Nat.beq i j)=true
 rw [zaI,zdf h];rfl
theorem zax {a b c:SS} {i:Nat} (h:Ext a b) (m:Mod [i] b c) (hi:a.next≤i):Ext a c:=((Mod.ofExt (S:=[i]) h).then m).fresh fun j hj=>by
 have:j=i:=by simpa using hj
 omega
theorem At.setW {st:SS} {b:Nat} {row:List Value} (h:At st b row) (hr:row.length=12) (w:Wd) (hw:w.length=12):∃ st',st.stV b 0 12 (wV w)=some st'∧At st' b (wRow w)∧Mod [b] st st':=by
 obtain ⟨s',e,a,m,_⟩:=h.stV (k:=0) (n:=12) (v:=wV w) (zaC _) (by rw [zaK,hw]) (zcK w) (row':=wRow w) (by rw [zbL (by rw [zaK,hw,hr];exact zlr 12)];simp [zaK,hw,hr])
 exact ⟨s',e,a,m⟩
def zon (prs:List Pr):Prop:=prs.length≤1099511627776∧∀ p∈prs,0<p.col∧0<p.v.col∧ -4294967296≤p.v.x∧p.v.x≤4294967296
theorem zk4 (l:Nms):∀ (prs:List Pr) (w:Wd),(zaQ l w prs).1.length=w.length
 | [],w=>rfl
 | p::r,w=>by
   unfold zaQ
   split
   ·rfl
   ·split
    ·rfl
    ·split
     ·rw [zk4 l r,zcw]
     ·rfl
theorem zva [Sym] (l:Nms) (hl:NmsOk l) (prs:List Pr) (hprs:zon prs) (b i t4 wb:Nat) (p vw ve vv v:Value) (st0:SS) (hg:Gd st0) (hb:st0.mem.get b=some (.cells [p,.map (some i),vw,ve,vv] 0)) (hbl:b<st0.next) (hi:st0.mem.get i=some (.map (nmM l))) (hlt:i<st0.next)
  (hv:Rd st0 v (rowsF prRow prs) 5 prs.length) (hne:t4≠wb) (h4:st0.next≤t4) (hw0:st0.next≤wb):∀ (k j:Nat) (w:Wd) (st:SS),prs.length=k+j→w.length=12→Ext st0 st→st.lim≤st0.next→At st wb (wRow w)→At st t4 Z12→
  ∃ st',Ext st0 st'∧((zaQ l w (prs.drop j)).2=0∧za3 3 [ptr b 0,ptr t4 0,ptr wb 0,v,.int .i64 prs.length,.int .i64 j] st=some (0,[ptr t4 0,ptr wb 0],st')∧At st' wb (wRow (zaQ l w (prs.drop j)).1)∧At st' t4 Z12∨
   0<(zaQ l w (prs.drop j)).2∧za3 3 [ptr b 0,ptr t4 0,ptr wb 0,v,.int .i64 prs.length,.int .i64 j] st=some (1,[ptr t4 0,.int .i64 (zaQ l w (prs.drop j)).2],st')∧∃ u:Wd,u.length=12∧At st' t4 (wRow u)):=by
 intro k
 induction k with
 | zero=>
   intro j w st hk hw he hlm aw a4
   have h:¬ (j:Int)<(prs.length:Int):=by omega
   rw [List.drop_of_length_le (by omega)]
   refine ⟨st,he,.inl ⟨rfl,zbM _ _ _ _ _ _ st ?_,aw,a4⟩⟩
   simp only [zbK,zdf h,zcf]
 | succ k ih=>
   intro j w st hk hw he hlm aw a4
   have h:(j:Int)<(prs.length:Int):=by omega
   obtain ⟨q,hq⟩:∃ q,prs[j]?=some q:=⟨_,zge (by omega)⟩
   obtain ⟨x,b1,b2,_⟩:=(hv.ext he).load (j:=(j:Int)) (by omega) h (zaW zja prs j q hq) rfl
   have b2':st.ldN x.1 x.2 5=some (.agg (prRow q).toArray):=b2
   obtain ⟨q1,q2,q3,q4⟩:=hprs.2 q (zmg hq)
   have hlmn:st.lim≤st.next:=zlt hlm he.next
   obtain ⟨s4,e4,a5,x4,n4⟩:=zaO (st:=st) hlmn (r:=prRow ⟨[],0,⟨[],0,0⟩⟩) (row:=prRow q) (v:=.agg (prRow q).toArray) (zaC _) rfl rfl rfl
   have e4':(st.new (.cells [.string ⟨#[]⟩,.int .i64 0,.string ⟨#[]⟩,.int .i64 0,.int .i64 0] 0)).stV st.next 0 5 (.agg (prRow q).toArray)=some s4:=e4
   have he4:Ext st0 s4:=he.trans x4
   obtain ⟨n6,hn6,c6⟩:=zv2 q.fd s4 (hg.ext he4)
   have x6:Ext s4 (s4.adv n6):=(Ext.refl _).adv hn6
   have he6:=he4.trans x6
   have a56:=a5.ext x6
   have aw6:=(aw.ext x4).ext x6
   have a46:=(a4.ext x4).ext x6
   have l0:s4.ld st.next 0=some (.string (mkS q.fd)):=a5.ld
   have hd:=drop_cons hq
   have hE:zaQ l w (prs.drop j)=if zfq q.fd=0 then (w,q.col) else match zeZ l q.fd q.v with
    | none=>(w,q.v.col)
    | some x=>if (zbk w q.fd x).2=0 then zaQ l (zbk w q.fd x).1 (prs.drop (j+1)) else (w,q.v.col):=by rw [hd];rfl
   have hpne:st.next≠t4:=by have:=a4.lt;omega
   by_cases hbt:zfq q.fd=0
   ·rw [if_pos hbt] at hE
    rw [hE]
    have hz:((zfq q.fd:Nat):Int)=0:=by omega
    obtain ⟨s12,e12,a12,m12⟩:=At.setW a46 rfl w hw
    have l9:=aw6.ldN (n:=12) (by rw [zaK,hw])
    have l9':(s4.adv n6).ldN wb 0 12=some (wV w):=l9
    have l10:(s4.adv n6).ld st.next 1=some (.int .i64 q.col):=a56.ld
    refine ⟨s12,zax he6 m12 h4,.inr ⟨q1,zbM _ _ _ _ _ _ st ?_,w,hw,a12⟩⟩
    simp only [zbK,zdt h,zct,b1,b2',e4',l0,c6,zob,zab,zaa,zdt hz,zac,l9',l10,zc9 hpne,e12]
   ·rw [if_neg hbt] at hE
    have hz:¬ ((zfq q.fd:Nat):Int)=0:=by omega
    have l13:(s4.adv n6).ld st.next 0=some (.string (mkS q.fd)):=a56.ld
    have l14:(s4.adv n6).ldN st.next 2 3=some (.agg (valRow q.v).toArray):=a56.ldC rfl
    obtain ⟨n15,hn15,c15⟩:=zsK b i p vw ve vv l hl q.fd q.v q3 q4 (s4.adv n6) (hg.ext he6) (he6.get hbl hb) (zll hbl he6.next) (he6.get hlt hi) (zll hlt he6.next)
    have x15:Ext (s4.adv n6) ((s4.adv n6).adv n15):=(Ext.refl _).adv hn15
    have he15:=he6.trans x15
    have a515:=a56.ext x15
    have aw15:=aw6.ext x15
    have a415:=a46.ext x15
    have l19:((s4.adv n6).adv n15).ldN wb 0 12=some (wV w):=aw15.ldN (by rw [zaK,hw])
    have l20:((s4.adv n6).adv n15).ld st.next 0=some (.string (mkS q.fd)):=a515.ld
    have step:∀ (y:Int),∃ n21 s25,((s4.adv n6).adv n15).next≤n21∧cc 100 [wV w,.string (mkS q.fd),.int .i64 y] ((s4.adv n6).adv n15)=some (.tuple #[wV (zbk w q.fd y).1,.int .i64 (zbk w q.fd y).2],((s4.adv n6).adv n15).adv n21)∧
      (((s4.adv n6).adv n15).adv n21).stV wb 0 12 (wV (zbk w q.fd y).1)=some s25∧Ext st0 s25∧At s25 wb (wRow (zbk w q.fd y).1)∧At s25 t4 Z12∧s25.ld st.next 4=some (.int .i64 q.v.col)∧s25.lim≤st0.next:=by
     intro y
     obtain ⟨n21,hn21,c21⟩:=set_ok w hw q.fd y ((s4.adv n6).adv n15) (hg.ext he15)
     have x21:Ext ((s4.adv n6).adv n15) (((s4.adv n6).adv n15).adv n21):=(Ext.refl _).adv hn21
     obtain ⟨s25,e25,a25,m25⟩:=At.setW (aw15.ext x21) (by rw [zaK,hw]) (zbk w q.fd y).1 (by rw [zcw,hw])
     have hpw:st.next≠wb:=by have:=aw.lt;omega
     have a55:=(a515.ext x21).mod m25 (by simpa using hpw)
     have hx25:Ext st0 s25:=zax (he15.trans x21) m25 hw0
     exact ⟨n21,s25,hn21,c21,e25,hx25,a25,(a415.ext x21).mod m25 (by simpa using hne),a55.ld,by rw [hx25.lim,← he.lim];exact hlm⟩
    have ht0:∀ (a:Value) (z:Int),zan (.tuple #[a,.int .i64 z]) 0=some a:=fun _ _=>rfl
    have ht1:∀ (a:Value) (z:Int),(zan (.tuple #[a,.int .i64 z]) 1).bind (asI .i64)=some z:=fun _ _=>rfl
    have hn0:∀ (y:Int) (c:Bool),(zan (.tuple #[.int .i64 y,.bool c]) 0).bind (asI .i64)=some y:=fun _ _=>rfl
    have hn1:∀ (y:Int) (c:Bool),(zan (.tuple #[.int .i64 y,.bool c]) 1).bind asB=some c:=fun _ _=>rfl
    cases hnum:zeZ l q.fd q.v with
    | none=>
      rw [hnum] at hE c15
      rw [hE]
      obtain ⟨n21,s25,hn21,c21,e25,hx25,aw25,a425,l28,hlm25⟩:=step q.v.x
      obtain ⟨s30,e30,a30,m30⟩:=At.setW a425 rfl (zbk w q.fd q.v.x).1 (by rw [zcw,hw])
      have l27:s25.ldN wb 0 12=some (wV (zbk w q.fd q.v.x).1):=aw25.ldN (by rw [zaK,zcw,hw])
      refine ⟨s30,zax hx25 m30 h4,.inr ⟨q2,zbM _ _ _ _ _ _ st ?_,_,by rw [zcw,hw],a30⟩⟩
      have c15':cc 99 [ptr b 0,.string (mkS q.fd),.agg (valRow q.v).toArray] (s4.adv n6)=some (.tuple #[.int .i64 q.v.x,.bool false],(s4.adv n6).adv n15):=c15
      simp only [zbK,zdt h,zct,b1,b2',e4',l0,c6,zob,zab,zaa,zdf hz,zcf,l13,l14,c15',hn0,hn1,zac,l19,l20,c21,ht0,ht1,e25,znf,l27,l28,zc9 hpne,e30]
    | some y=>
      rw [hnum] at hE c15
      simp only at hE
      obtain ⟨n21,s25,hn21,c21,e25,hx25,aw25,a425,l28,hlm25⟩:=step y
      have c15':cc 99 [ptr b 0,.string (mkS q.fd),.agg (valRow q.v).toArray] (s4.adv n6)=some (.tuple #[.int .i64 y,.bool true],(s4.adv n6).adv n15):=c15
      have hw1:=za4 (i:=j) (by have:=hprs.1;omega)
      by_cases hs:(zbk w q.fd y).2=0
      ·rw [if_pos hs] at hE
       rw [hE]
       obtain ⟨s',f1,f2⟩:=ih (j+1) (zbk w q.fd y).1 s25 (by omega) (by rw [zcw,hw]) hx25 hlm25 aw25 a425
       have go:∀ r,za3 3 [ptr b 0,ptr t4 0,ptr wb 0,v,.int .i64 prs.length,.int .i64 ((j+1:Nat):Int)] s25=some r→za3 3 [ptr b 0,ptr t4 0,ptr wb 0,v,.int .i64 prs.length,.int .i64 j] st=some r:=fun r hr=>by
        refine zbM _ _ _ _ _ _ st ?_
        simp only [zbK,zdt h,zct,b1,b2',e4',l0,c6,zob,zab,zaa,zdf hz,zcf,l13,l14,c15',hn0,hn1,zac,l19,l20,c21,ht0,ht1,e25,znt,zdt hs,hw1]
        exact hr
       refine ⟨s',f1,?_⟩
       rcases f2 with ⟨g1,g2,g3,g4⟩ | ⟨g1,g2,g3⟩
       ·exact .inl ⟨g1,go _ g2,g3,g4⟩
       ·exact .inr ⟨g1,go _ g2,g3⟩
      ·rw [if_neg hs] at hE
       rw [hE]
       obtain ⟨s30,e30,a30,m30⟩:=At.setW a425 rfl (zbk w q.fd y).1 (by rw [zcw,hw])
       have l27:s25.ldN wb 0 12=some (wV (zbk w q.fd y).1):=aw25.ldN (by rw [zaK,zcw,hw])
       refine ⟨s30,zax hx25 m30 h4,.inr ⟨q2,zbM _ _ _ _ _ _ st ?_,_,by rw [zcw,hw],a30⟩⟩
       simp only [zbK,zdt h,zct,b1,b2',e4',l0,c6,zob,zab,zaa,zdf hz,zcf,l13,l14,c15',hn0,hn1,zac,l19,l20,c21,ht0,ht1,e25,znt,zdf hs,znf,l27,l28,zc9 hpne,e30]
def zaG:Wd:=List.replicate 12 0
theorem zuf [Sym] (l:Nms) (hl:NmsOk l) (x:Item) (hprs:zon x.1.prs) (b i:Nat) (p vw ve vv:Value) (st:SS) (hg:Gd st) (hb:st.mem.get b=some (.cells [p,.map (some i),vw,ve,vv] 0)) (hbl:b<st.next) (hi:st.mem.get i=some (.map (nmM l))) (hlt:i<st.next)
  (hv:Rd st x.2.2 (rowsF prRow x.1.prs) 5 x.1.prs.length):
  ∃ n u,st.next≤n∧u.length=12∧((zaQ l zaG x.1.prs).2=0→u=(zaQ l zaG x.1.prs).1)∧cc 72 [ptr b 0,.agg (lnRow x).toArray] st=some (.tuple #[wV u,.int .i64 (zaQ l zaG x.1.prs).2],st.adv n):=by
 have x1:Ext (st.ro st.next) ((st.ro st.next).new (.cells (lnRow x) 0)):=(Ext.refl _).new _
 have a2:At (((st.ro st.next).new (.cells (lnRow x) 0)).new (.cells Z12 0)) (st.next+1) Z12:=At.new (st:=(st.ro st.next).new (.cells (lnRow x) 0)) (by simp) _
 have x2:Ext ((st.ro st.next).new (.cells (lnRow x) 0)) (((st.ro st.next).new (.cells (lnRow x) 0)).new (.cells Z12 0)):=(Ext.refl _).new _
 have a3:At ((((st.ro st.next).new (.cells (lnRow x) 0)).new (.cells Z12 0)).new (.cells Z12 0)) (st.next+2) Z12:=At.new (st:=((st.ro st.next).new (.cells (lnRow x) 0)).new (.cells Z12 0)) (by simp;omega) _
 have x3:Ext (((st.ro st.next).new (.cells (lnRow x) 0)).new (.cells Z12 0)) ((((st.ro st.next).new (.cells (lnRow x) 0)).new (.cells Z12 0)).new (.cells Z12 0)):=(Ext.refl _).new _
 have he:=x1.trans (x2.trans x3)
 have l4:((((st.ro st.next).new (.cells (lnRow x) 0)).new (.cells Z12 0)).new (.cells Z12 0)).ld st.next 4=some x.2.2:=by
  have hm:((((st.ro st.next).new (.cells (lnRow x) 0)).new (.cells Z12 0)).new (.cells Z12 0)).mem.get st.next=some (.cells (lnRow x) 0):=(x2.trans x3).get (by simp) (SS.new_get (st:=st.ro st.next))
  rw [SS.ld_cells hm];rfl
 have hv':Rd (st.ro st.next) x.2.2 (rowsF prRow x.1.prs) 5 x.1.prs.length:=hv
 obtain ⟨s',f1,f2⟩:=zva l hl x.1.prs hprs b i (st.next+1) (st.next+2) p vw ve vv x.2.2 (st.ro st.next) hg.ro hb hbl hi hlt hv' (by omega) (by simp) (by simp) x.1.prs.length 0 zaG _ (by omega) rfl he (by simp) a3 (a2.ext x3)
 rw [List.drop_zero] at f2
 have hlen:(lenV x.2.2).bind (asI .i64)=some (x.1.prs.length:Int):=by rw [hv.len];rfl
 have b0:Nat.beq 0 0=true:=rfl
 have b1:Nat.beq 1 0=false:=rfl
 have hn1:((st.ro st.next).new (.cells (lnRow x) 0)).next=st.next+1:=rfl
 have hn2:(((st.ro st.next).new (.cells (lnRow x) 0)).new (.cells Z12 0)).next=st.next+2:=rfl
 have hnx:=f1.next
 simp only [SS.ro_next] at hnx
 have hel:=zk4 l x.1.prs zaG
 rcases f2 with ⟨g1,g2,g3,g4⟩ | ⟨g1,g2,u,g3,g4⟩
 ·have g2':za3 3 [ptr b 0,ptr (st.next+1) 0,ptr (st.next+2) 0,x.2.2,.int .i64 x.1.prs.length,.int .i64 0] ((((st.ro st.next).new (.cells (lnRow x) 0)).new (.cells Z12 0)).new (.cells Z12 0))=_:=g2
  obtain ⟨s12,e12,a12,m12⟩:=At.setW g4 rfl (zaQ l zaG x.1.prs).1 (by rw [hel];rfl)
  have l10:s'.ldN (st.next+2) 0 12=some (wV (zaQ l zaG x.1.prs).1):=g3.ldN (by rw [zaK,hel];rfl)
  have l14:s12.rdN (st.next+1) 0 12=some (wV (zaQ l zaG x.1.prs).1):=a12.rdN (by rw [zaK,hel];rfl)
  have hz:=zgU (zaQ l zaG x.1.prs).1 0
  refine ⟨s12.next,_,by have:=m12.next;omega,by rw [hel];rfl,fun _=>rfl,zf0 _ _ st ?_⟩
  rw [g1]
  simp only [zeY,zaC,SS.ro_next,hn1,hn2,l4,zob,hlen,g2',b0,zct,zgs,zgz,zac,l10,e12,l14,hz]
  rfl
 ·have g2':za3 3 [ptr b 0,ptr (st.next+1) 0,ptr (st.next+2) 0,x.2.2,.int .i64 x.1.prs.length,.int .i64 0] ((((st.ro st.next).new (.cells (lnRow x) 0)).new (.cells Z12 0)).new (.cells Z12 0))=_:=g2
  have l18:s'.rdN (st.next+1) 0 12=some (wV u):=g4.rdN (by rw [zaK,g3])
  have hz:=zgU u (zaQ l zaG x.1.prs).2
  refine ⟨s'.next,u,hnx,g3,fun h=>by omega,zf0 _ _ st ?_⟩
  simp only [zeY,zaC,SS.ro_next,hn1,hn2,l4,zob,hlen,g2',b1,zcf,zgs,zgz,zac,zaa,l18,hz,zct]
end Go.Proofs.YtifploedaacedaaGreatDoorE
namespace Go.Proofs.YtifploedaacedaaGreatDoorE
open Go Go.E Go.Proofs
theorem zvb [Sym] (p:Val) (f:Val) (q:Nat) (st:SS) (hq:st.mem.get q=some (.cells (valRow f) 0)) (hlt:q<st.next):∃ n,st.next≤n∧cc 97 [.agg (valRow p).toArray,ptr q 0] st=some (.bool (decide (p.nm=f.nm)),st.adv n):=by
 refine ⟨st.next+1,by omega,zu9 _ _ st ?_⟩
 have l0:((st.ro st.next).new (.cells (valRow p) 0)).ld st.next 0=some (.string (mkS p.nm)):=by
  have hm:((st.ro st.next).new (.cells (valRow p) 0)).mem.get st.next=some (.cells (valRow p) 0):=SS.new_get (st:=st.ro st.next)
  rw [SS.ld_cells hm];rfl
 have l1:((st.ro st.next).new (.cells (valRow p) 0)).ld q 0=some (.string (mkS f.nm)):=by
  rw [SS.ld_cells (c:=valRow f) (z:=0) (by rw [SS.new_old (by simp;omega)];exact hq)];rfl
 simp only [valEq,zaC,SS.ro_next,l0,zob,zab,zac,l1,zdK]
 rfl
theorem zsL [Sym] (ps:List Val) (hsz:ps.length≤1099511627776) (f:Val) (q:Nat) (v:Value) (st0:SS) (hv:Rd st0 v (rowsF valRow ps) 3 ps.length) (hq:st0.mem.get q=some (.cells (valRow f) 0)) (hlt:q<st0.next):
  ∀ (k j:Nat) (st:SS),ps.length=k+j→Ext st0 st→∃ e vs st',zhL 2 [v,.func (.func 97) #[] #[ptr q 0],.int .i64 ps.length,.int .i64 j] st=some (e,vs,st')∧Ext st0 st'∧
   ((e=0∧vs=[]∧((ps.drop j).any fun x=>decide (x.nm=f.nm))=false)∨(e=1∧((ps.drop j).any fun x=>decide (x.nm=f.nm))=true∧∃ m:Nat,vs=[.int .i64 m])):=by
 intro k
 induction k with
 | zero=>
   intro j st hk he
   refine ⟨0,[],st,ziK v q _ _ st ?_,he,.inl ⟨rfl,rfl,?_⟩⟩
   ·have:¬ (j:Int)<(ps.length:Int):=by omega
    simp only [zjc,zdf this,zcf]
   ·rw [List.drop_of_length_le (by omega)];rfl
 | succ k ih=>
   intro j st hk he
   obtain ⟨p,hp⟩:∃ p,ps[j]?=some p:=⟨_,zge (by omega)⟩
   have hjl:(j:Int)<(ps.length:Int):=by omega
   obtain ⟨x,b1,b2,_⟩:=(hv.ext he).load (j:=(j:Int)) (by omega) hjl (zaW zsC ps j p hp) rfl
   obtain ⟨n,hn,c1⟩:=zvb p f q st (he.get hlt hq) (zll hlt he.next)
   have b2':st.ldN x.1 x.2 3=some (.agg (valRow p).toArray):=b2
   have hd:=drop_cons hp
   have hw:=za4 (i:=j) (by omega)
   by_cases hf:p.nm=f.nm
   ·refine ⟨1,[.int .i64 j],st.adv n,ziK v q _ _ st ?_,he.adv (by have:=he.next;omega),.inr ⟨rfl,?_,j,rfl⟩⟩
    ·rw [zdt hf] at c1
     simp only [zjc,zdt hjl,zct,b1,zob,b2',c1,zal]
    ·rw [hd,List.any_cons,zdt hf];rfl
   ·obtain ⟨e,vs,st',d1,d2,d3⟩:=ih (j+1) (st.adv n) (by omega) (he.adv (by have:=he.next;omega))
    rw [zdf hf] at c1
    refine ⟨e,vs,st',ziK v q _ _ st ?_,d2,?_⟩
    ·simp only [zjc,zdt hjl,zct,b1,zob,b2',c1,zal,zcf,hw]
     exact d1
    ·rw [hd,List.any_cons,zdf hf,Bool.false_or]
     exact d3
theorem zvc [Sym] (ps:List Val) (hsz:ps.length≤1099511627776) (f:Val) (q:Nat) (v:Value) (st:SS) (hv:Rd st v (rowsF valRow ps) 3 ps.length) (hq:st.mem.get q=some (.cells (valRow f) 0)) (hlt:q<st.next):
  ∃ n,st.next≤n∧cc 96 [v,.func (.func 97) #[] #[ptr q 0]] st=some (.bool (ps.any fun x=>decide (x.nm=f.nm)),st.adv n):=by
 obtain ⟨e,vs,st',d1,d2,d3⟩:=zsL ps hsz f q v ((st.ro st.next).ro (st.ro st.next).next) hv hq hlt ps.length 0 ((st.ro st.next).ro (st.ro st.next).next) (by omega) (.refl _)
 have d1':zhL 2 [v,.func (.func 97) #[] #[ptr q 0],.int .i64 ps.length,.int .i64 0] ((st.ro st.next).ro (st.ro st.next).next)=some (e,vs,st'):=d1
 have hlen:(lenV v).bind (asI .i64)=some (ps.length:Int):=by rw [hv.len];rfl
 rw [List.drop_zero] at d3
 have hnx:=d2.next
 simp at hnx
 refine ⟨st'.next,hnx,zsJ _ _ st ?_⟩
 rcases d3 with ⟨rfl,rfl,e3⟩ | ⟨rfl,e2,m,rfl⟩
 ·have c:cc 114 [v,.func (.func 97) #[] #[ptr q 0]] (st.ro st.next)=some (.int .i64 (-1),(st.ro st.next).adv st'.next):=by
   refine zpo _ _ _ ?_
   have hb0:Nat.beq 0 0=true:=rfl
   simp only [zqG,hlen,zob,d1',hb0,zct]
  have h0:¬ (0:Int)≤ -1:=by omega
  rw [e3]
  simp only [zoS,c,zob,zaa,zdf h0]
  rfl
 ·have c:cc 114 [v,.func (.func 97) #[] #[ptr q 0]] (st.ro st.next)=some (.int .i64 m,(st.ro st.next).adv st'.next):=by
   refine zpo _ _ _ ?_
   have hb0:Nat.beq 1 0=false:=rfl
   simp only [zqG,hlen,zob,d1',hb0,zcf,zgz,zaa]
  have h0:(0:Int)≤(m:Int):=by omega
  rw [e2]
  simp only [zoS,c,zob,zaa,zdt h0]
  rfl
end Go.Proofs.YtifploedaacedaaGreatDoorE
namespace Go.Proofs.YtifploedaacedaaGreatDoorE
open Go Go.E Go.Proofs
def blkOf:Value→Option Nat
 | .slice (some ⟨j,_,none⟩) _ _=>some j
 | _=>none
abbrev WItem:=Nat×Item
def wdRow (x:WItem):List Value:=.int .i64 x.1::lnRow x.2
def entRow (x:Val×Nat×Nat):List Value:=[.int .i64 x.2.1,.int .i64 x.2.2]
def bldRow (pl i:Nat) (vw ve vv:Value):List Value:=[.int .i64 pl,.map (some i),vw,ve,vv]
structure Bld (st0 st:SS) (B b i:Nat) (vw ve vv:Value) (l:Lay) (its:List WItem):Prop where
 ext:Ext st0 st
 ll:st0.lim≤st0.next
 row:At st b (bldRow l.pl i vw ve vv)
 mp:st.mem.get i=some (.map (nmM l.nms))
 b0:st0.next≤b
 i0:st0.next≤i
 bB:b<B
 iB:i<B
 ne:b≠i
 BN:B≤st.next
 ow:Own B st vw (rowsF wdRow its) 6 its.length
 oe:Own B st ve (rowsF entRow l.ents) 2 l.ents.length
 ov:Own B st vv (rowsF valRow (l.ents.map (·.1))) 3 l.ents.length
 d1:∀ j,blkOf vw=some j→blkOf ve≠some j∧blkOf vv≠some j
 d2:∀ j,blkOf ve=some j→blkOf vv≠some j
 wds:its.map (fun x=>(x.1,x.2.1))=l.wds
 itr:∀ x∈its,Rd st0 x.2.2.1 (rowsF valRow x.2.1.args) 3 x.2.1.args.length∧Rd st0 x.2.2.2 (rowsF prRow x.2.1.prs) 5 x.2.1.prs.length
structure Frm (b i:Nat) (vw:Value) (st st':SS):Prop where
 next:st.next≤st'.next
 lim:st'.lim=st.lim
 keep:∀ j,j<st.next→j≠b→j≠i→blkOf vw≠some j→st'.mem.get j=st.mem.get j
theorem Frm.trans {b i:Nat} {vw:Value} {x y z:SS} (h:Frm b i vw x y) (k:Frm b i vw y z):Frm b i vw x z:=⟨zlt h.next k.next,k.lim.trans h.lim,fun j a1 a2 a3 a4=>(k.keep j (zll a1 h.next) a2 a3 a4).trans (h.keep j a1 a2 a3 a4)⟩
theorem Frm.mod {b i:Nat} {vw:Value} {S:List Nat} {x y:SS} (m:Mod S x y) (hS:∀ j,j∈S→j=b∨j=i):Frm b i vw x y:=⟨m.next,m.lim,fun j a1 a2 a3 _=>m.keep j a1 fun e=>(hS j e).elim a2 a3⟩
theorem Frm.ext {b i:Nat} {vw:Value} {x y:SS} (m:Ext x y):Frm b i vw x y:=⟨m.next,m.lim,fun j a1 _ _ _=>m.keep j a1⟩
section
variable {st0 st st' : SS} {B b i : Nat} {vw ve vv : Value} {l : Lay} {its : List WItem}
theorem Bld.then (h:Bld st0 st B b i vw ve vv l its) (x:Ext st st'):Bld st0 st' B b i vw ve vv l its:=
 { h with ext:=h.ext.trans x,row:=h.row.ext x,mp:=x.get (by have:=h.iB;have:=h.BN;omega) h.mp,BN:=zlt h.BN x.next,ow:=h.ow.ext x,oe:=h.oe.ext x,ov:=h.ov.ext x }
theorem Bld.placeM (h:Bld st0 st B b i vw ve vv l its) (p:Nat):∃ st',st.st b 0 [.int .i64 p]=some st'∧Bld st0 st' B b i vw ve vv { l with pl:=p } its∧Mod [b] st st':=by
 obtain ⟨s',e,a,m,_⟩:=h.row.sto (k:=0) (vs:=[.int .i64 p]) (row':=bldRow p i vw ve vv) rfl rfl
 have hx:Ext st0 s':=zax h.ext m h.b0
 refine ⟨s',e,{ h with ext:=hx,row:=a,mp:=m.get (by have:=h.iB;have:=h.BN;omega) (by simpa using Ne.symm h.ne) h.mp,BN:=zlt h.BN m.next,ow:=h.ow.modLt m ?_,oe:=h.oe.modLt m ?_,ov:=h.ov.modLt m ?_ },m⟩
 all_goals
  intro j hj
  have:j=b:=by simpa using hj
  have:=h.bB
  omega
theorem Bld.place (h:Bld st0 st B b i vw ve vv l its) (p:Nat):∃ st',st.st b 0 [.int .i64 p]=some st'∧Bld st0 st' B b i vw ve vv { l with pl:=p } its:=let ⟨s,e,k,_⟩:=h.placeM p;⟨s,e,k⟩
theorem Bld.define [Sym] (h:Bld st0 st B b i vw ve vv l its) (n:List UInt8) (x:Int):
  match l.define n x with
  | none=>cc 70 [ptr b 0,.string (mkS n),.int .i64 x] st=some (.bool false,st)
  | some l'=>∃ st',cc 70 [ptr b 0,.string (mkS n),.int .i64 x] st=some (.bool true,st')∧Mod [i] st st'∧Bld st0 st' B b i vw ve vv l' its:=by
 have hi:i<st.next:=by have:=h.iB;have:=h.BN;omega
 have hlim:st.lim≤i:=by rw [h.ext.lim];have:=h.ll;have:=h.i0;omega
 have hd:=define_ok b i (.int .i64 l.pl) vw ve vv l.nms n x st h.row h.mp hi hlim
 unfold Lay.define
 by_cases hc:(zbZ l.nms n).isSome=true∨n=[]
 ·rw [if_pos hc] at hd ⊢
  exact hd
 ·rw [if_neg hc] at hd ⊢
  obtain ⟨s',c,m,hn,hm⟩:=hd
  have hx:Ext st0 s':=zax h.ext m h.i0
  refine ⟨s',c,m,{ h with ext:=hx,row:=h.row.mod m (by simpa using h.ne),mp:=hm,BN:=by rw [hn];exact h.BN,ow:=h.ow.modLt m ?_,oe:=h.oe.modLt m ?_,ov:=h.ov.modLt m ?_ }⟩
  all_goals
   intro j hj
   have:j=i:=by simpa using hj
   have:=h.iB
   omega
end
end Go.Proofs.YtifploedaacedaaGreatDoorE
namespace Go.Proofs.YtifploedaacedaaGreatDoorE
open Go Go.E Go.Proofs
theorem ziL {B:Nat} {st:SS} {v:Value} {c row:List Value} {z n bt:Nat} (h:Own B st v c z n) (hb:B≤st.next) (hl:st.lim≤B) (hr:row.length=z) (hz:0<z) (h1:row.all one=true) (hs:(n+2)*bt≤2^44) (hn:n+1≤2^44):
  ∃ k s',(st.new (.cells row z)).app z bt v (.slice (some ⟨st.next,0,none⟩) 1 1)=some (.slice (some ⟨k,0,none⟩) (n+1) (n+1),s')∧st.next≤k∧Own B s' (.slice (some ⟨k,0,none⟩) (n+1) (n+1)) (c++row) z (n+1)∧s'.lim=st.lim∧st.next≤s'.next∧
   ∀ j,j<st.next→blkOf v≠some j→s'.mem.get j=st.mem.get j:=by
 obtain ⟨k,s',g1,g2,g3,g4,g5,g6⟩:=h.pushN hb hl hr hz h1 hs hn
 exact ⟨k,s',g1,g2,g3,g4,g5,fun j hj hv=>g6 j hj fun q e=>hv (by rw [e];rfl)⟩
theorem zgg {B:Nat} {st s':SS} {v:Value} {c:List Value} {z n:Nat} (h:Own B st v c z n) (hn:st.next≤s'.next) (hk:∀ j,j<st.next→blkOf v=some j→s'.mem.get j=st.mem.get j):Own B s' v c z n:=by
 obtain ⟨h1,h2⟩:=h
 refine ⟨h1,h2.imp id ?_⟩
 rintro ⟨i,e,h0,hm,hb,hi⟩
 exact ⟨i,e,h0,(hk i hi (by rw [e];rfl)).trans hm,hb,zll hi hn⟩
theorem zcZ {B:Nat} {st:SS} {v:Value} {c:List Value} {z n:Nat} (h:Own B st v c z n) {j:Nat} (hj:blkOf v=some j):B≤j∧j<st.next:=by
 obtain ⟨_,⟨rfl,_⟩ | ⟨i,rfl,_,_,hb,hi⟩⟩:=h
 ·cases hj
 ·cases hj;exact ⟨hb,hi⟩
theorem zmt (k n m:Nat):(Value.slice (some ⟨k,0,none⟩) n m).cells.toList=[Value.slice (some ⟨k,0,none⟩) n m]:=rfl
section
variable {st0 st : SS} {B b i : Nat} {vw ve vv : Value} {l : Lay} {its : List WItem}
theorem Bld.word (h:Bld st0 st B b i vw ve vv l its) (x:Item) (hx:Rd st0 x.2.1 (rowsF valRow x.1.args) 3 x.1.args.length∧Rd st0 x.2.2 (rowsF prRow x.1.prs) 5 x.1.prs.length) (ho:one x.2.1=true∧one x.2.2=true) (hn:its.length≤100000):
  ∃ vw' s1 s2,(st.new (.cells (wdRow (l.pl,x)) 6)).app 6 96 vw (.slice (some ⟨st.next,0,none⟩) 1 1)=some (vw',s1)∧s1.stV b 2 1 vw'=some s2∧Bld st0 s2 B b i vw' ve vv { l with wds:=l.wds++[(l.pl,x.1)] } (its++[(l.pl,x)])∧Frm b i vw st s2:=by
 have hlB:st.lim≤B:=by rw [h.ext.lim];have:=h.ll;have:=h.b0;have:=h.bB;omega
 obtain ⟨k,s1,g1,g2,g3,g4,g5,g6⟩:=ziL (row:=wdRow (l.pl,x)) (bt:=96) h.ow h.BN hlB rfl (by omega) (by simp only [wdRow,lnRow,List.all_cons,List.all_nil,ho.1,ho.2];rfl) (by omega) (by omega)
 have old:∀ j,j<B→s1.mem.get j=st.mem.get j:=fun j hj=>g6 j (by have:=h.BN;omega) fun e=>by have:=(zcZ h.ow e).1;omega
 have row1:At s1 b (bldRow l.pl i vw ve vv):=⟨(old b h.bB).trans h.row.1,zll h.row.lt g5,by rw [g4];exact h.row.2.2⟩
 have e1:Ext st0 s1:=⟨zlt h.ext.next g5,g4.trans h.ext.lim,fun j hj=>(old j (by have:=h.b0;have:=h.bB;omega)).trans (h.ext.keep j hj)⟩
 obtain ⟨s2,e2,a2,m2,n2⟩:=row1.stV (k:=2) (n:=1) (v:=.slice (some ⟨k,0,none⟩) (its.length+1) (its.length+1)) (zmt _ _ _) rfl rfl (row':=bldRow l.pl i (.slice (some ⟨k,0,none⟩) (its.length+1) (its.length+1)) ve vv) rfl
 have mlt:∀ j,j∈[b]→j<B:=by
  intro j hj
  have e:j=b:=by simpa using hj
  rw [e]
  exact h.bB
 have hne:∀ (u:Value),(∀ j,blkOf vw=some j→blkOf u≠some j)→∀ j,j<st.next→blkOf u=some j→s1.mem.get j=st.mem.get j:=fun u hu j hj e=>g6 j hj fun e'=>hu j e' e
 refine ⟨_,s1,s2,g1,e2,{ h with ext:=zax e1 m2 h.b0,row:=a2,mp:=m2.get (by have:=h.iB;have:=h.BN;omega) (by simpa using Ne.symm h.ne) ((old i h.iB).trans h.mp),BN:=by rw [n2];have:=h.BN;omega,ow:=?_,oe:=?_,ov:=?_,d1:=?_,wds:=?_,itr:=?_ },⟨by rw [n2];exact g5,m2.lim.trans g4,fun j a1 a2 a3 a4=>(m2.keep j (zll a1 g5) (by simpa using a2)).trans (g6 j a1 a4)⟩⟩
 ·rw [zbz,zcg,List.length_append];exact g3.modLt m2 mlt
 ·exact (zgg h.oe g5 (hne ve fun j e=>(h.d1 j e).1)).modLt m2 mlt
 ·exact (zgg h.ov g5 (hne vv fun j e=>(h.d1 j e).2)).modLt m2 mlt
 ·intro j hj
  cases hj
  exact ⟨fun e=>by have:=(zcZ h.oe e).2;omega,fun e=>by have:=(zcZ h.ov e).2;omega⟩
 ·simp only [List.map_append,h.wds];rfl
 ·intro y hy
  rcases List.mem_append.1 hy with hy | hy
  ·exact h.itr y hy
  ·have:y=(l.pl,x):=by simpa using hy
   subst this
   exact hx
theorem Bld.entry (h:Bld st0 st B b i vw ve vv l its) (x:Val) (ln col:Nat) (hn:l.ents.length≤100000):
  ∃ vv' s1 s2 ve' s3 s4,(st.new (.cells (valRow x) 3)).app 3 32 vv (.slice (some ⟨st.next,0,none⟩) 1 1)=some (vv',s1)∧s1.stV b 4 1 vv'=some s2∧s2.ld b 3=some ve∧Ext st0 s2∧(∀ j,j<st.next→blkOf vv≠some j→j≠b→s2.mem.get j=st.mem.get j)∧
   (s2.new (.cells (entRow (x,ln,col)) 2)).app 2 16 ve (.slice (some ⟨s2.next,0,none⟩) 1 1)=some (ve',s3)∧s3.stV b 3 1 ve'=some s4∧Bld st0 s4 B b i vw ve' vv' { l with ents:=l.ents++[(x,ln,col)] } its:=by
 have hlB:st.lim≤B:=by rw [h.ext.lim];have:=h.ll;have:=h.b0;have:=h.bB;omega
 have ov:=h.ov
 rw [show (l.ents.length)=(l.ents.map (·.1)).length by simp] at ov
 obtain ⟨k,s1,g1,g2,g3,g4,g5,g6⟩:=ziL (row:=valRow x) (bt:=32) ov h.BN hlB rfl (by omega) rfl (by simp;omega) (by simp;omega)
 have old:∀ j,j<B→s1.mem.get j=st.mem.get j:=fun j hj=>g6 j (by have:=h.BN;omega) fun e=>by have:=(zcZ h.ov e).1;omega
 have row1:At s1 b (bldRow l.pl i vw ve vv):=⟨(old b h.bB).trans h.row.1,zll h.row.lt g5,by rw [g4];exact h.row.2.2⟩
 have e1:Ext st0 s1:=⟨zlt h.ext.next g5,g4.trans h.ext.lim,fun j hj=>(old j (by have:=h.b0;have:=h.bB;omega)).trans (h.ext.keep j hj)⟩
 generalize hV:(Value.slice (some ⟨k,0,none⟩) ((l.ents.map (·.1)).length+1) ((l.ents.map (·.1)).length+1))=V at*
 have hVc:V.cells.toList=[V]∧one V=true∧blkOf V=some k:=by rw [← hV];exact ⟨rfl,rfl,rfl⟩
 obtain ⟨s2,e2,a2,m2,n2⟩:=row1.stV (k:=4) (n:=1) (v:=V) hVc.1 rfl (by simp [hVc.2.1]) (row':=bldRow l.pl i vw ve V) rfl
 have mlt:∀ j,j∈[b]→j<B:=by
  intro j hj
  have e:j=b:=by simpa using hj
  rw [e]
  exact h.bB
 have ow2:Own B s2 vw (rowsF wdRow its) 6 its.length:=(zgg h.ow g5 fun j hj e=>g6 j hj (h.d1 j e).2).modLt m2 mlt
 have oe2:Own B s2 ve (rowsF entRow l.ents) 2 l.ents.length:=(zgg h.oe g5 fun j hj e=>g6 j hj (h.d2 j e)).modLt m2 mlt
 have ov2:=g3.modLt m2 mlt
 have x2:Ext st0 s2:=zax e1 m2 h.b0
 have BN2:B≤s2.next:=by rw [n2];have:=h.BN;omega
 have hlB2:s2.lim≤B:=by rw [x2.lim];have:=h.ll;have:=h.b0;have:=h.bB;omega
 obtain ⟨k2,s3,q1,q2,q3,q4,q5,q6⟩:=ziL (row:=entRow (x,ln,col)) (bt:=16) oe2 BN2 hlB2 rfl (by omega) rfl (by omega) (by omega)
 have old2:∀ j,j<B→s3.mem.get j=s2.mem.get j:=fun j hj=>q6 j (by omega) fun e=>by have:=(zcZ oe2 e).1;omega
 have row3:At s3 b (bldRow l.pl i vw ve V):=⟨(old2 b h.bB).trans a2.1,zll a2.lt q5,by rw [q4];exact a2.2.2⟩
 have x3:Ext st0 s3:=⟨zlt x2.next q5,q4.trans x2.lim,fun j hj=>(old2 j (by have:=h.b0;have:=h.bB;omega)).trans (x2.keep j hj)⟩
 obtain ⟨s4,e4,a4,m4,n4⟩:=row3.stV (k:=3) (n:=1) (v:=.slice (some ⟨k2,0,none⟩) (l.ents.length+1) (l.ents.length+1)) (zmt _ _ _) rfl rfl (row':=bldRow l.pl i vw (.slice (some ⟨k2,0,none⟩) (l.ents.length+1) (l.ents.length+1)) V) rfl
 have hk2:blkOf V≠some k2:=fun e=>by have:=(zcZ ov2 e).2;omega
 refine ⟨V,s1,s2,_,s3,s4,g1,e2,a2.ld,x2,fun j hj hv hb=>(m2.keep j (by omega) (by simpa using hb)).trans (g6 j hj hv),q1,e4,{ h with ext:=zax x3 m4 h.b0,row:=a4,mp:=m4.get (by have:=h.iB;omega) (by simpa using Ne.symm h.ne) ((old2 i h.iB).trans (m2.get (by have:=h.iB;have:=h.BN;omega) (by simpa using Ne.symm h.ne) ((old i h.iB).trans h.mp))),BN:=by rw [n4];omega,ow:=?_,oe:=?_,ov:=?_,d1:=?_,d2:=?_ }⟩
 ·exact (zgg ow2 q5 fun j hj e=>q6 j hj (h.d1 j e).1).modLt m4 mlt
 ·rw [zbz,zcg,List.length_append];exact q3.modLt m4 mlt
 ·have:=(zgg ov2 q5 fun j hj e=>q6 j hj fun e'=>by
   have hj2:=(zcZ h.oe e').2
   rw [hVc.2.2] at e
   cases e
   omega).modLt m4 mlt
  have e5:(l.ents++[(x,ln,col)]).map (·.1)=l.ents.map (·.1)++[x]:=by simp
  have e6:(l.ents++[(x,ln,col)]).length=(l.ents.map (·.1)).length+1:=by simp
  show Own B s4 V (rowsF valRow ((l.ents++[(x,ln,col)]).map (·.1))) 3 (l.ents++[(x,ln,col)]).length
  rw [e5,e6,zbz,zcg]
  exact this
 ·intro j hj
  refine ⟨fun e=>?_,fun e=>?_⟩
  ·cases e
   have:=(zcZ ow2 hj).2
   omega
  ·rw [hVc.2.2] at e
   cases e
   have:=(zcZ h.ow hj).2
   omega
 ·intro j hj e
  cases hj
  exact hk2 e
end
end Go.Proofs.YtifploedaacedaaGreatDoorE
namespace Go.Proofs.YtifploedaacedaaGreatDoorE
open Go Go.E Go.Proofs
theorem zvd {p n:Nat} (hp:p≤4096) (h1:1≤n) (h2:n≤2048):((IntKind.wrap .i64 (IntKind.wrap .i64 ((p:Int)+(n:Int))-1)).tdiv (n:Int))=(((p+n-1)/n:Nat):Int):=by
 rw [wrap64 (n:=(p:Int)+(n:Int)) (by omega) (by omega),wrap64 (by omega) (by omega)]
 have e:(p:Int)+(n:Int)-1=((p+n-1:Nat):Int):=by omega
 rw [e]
 exact (Int.ofNat_tdiv _ _).symm
theorem zqH {p n:Nat} (hp:p≤4096) (h1:1≤n) (h2:n≤2048):(p+n-1)/n*n≤8192:=by
 have:=Nat.div_mul_le_self (p+n-1) n
 omega
def zqI (l:Lay) (v:Val) (r:List Val):Option Lay:=match r with
 | [y]=>if v.nm≠[]∧v.x=0∧y.nm=[] then l.define v.nm y.x else none
 | _=>none
theorem zqJ {l:Lay} {x:PLine} {v:Val} {r:List Val} (h:x.args=v::r) (d1:¬ x.dir=[111,114,103]) (d2:¬ x.dir=[97,108,105,103,110]) (d3:x.dir=[115,101,116]):zbI l x=zqI l v r:=by
 unfold zbI
 rw [h]
 simp only
 rw [if_neg d1,if_neg d2,if_pos d3]
 rfl
theorem zqK [Sym] {st0 st:SS} {B b i:Nat} {vw ve vv:Value} {l:Lay} {its:List WItem} (h:Bld st0 st B b i vw ve vv l its) (x:Item) (hx:Rd st0 x.2.1 (rowsF valRow x.1.args) 3 x.1.args.length) (hpl:l.pl≤4096) (hn:l.ents.length≤100000)
  (hsz:x.1.args.length≤100000):
  match zbI l x.1 with
  | none=>∃ st',cc 71 [ptr b 0,.agg (lnRow x).toArray] st=some (.bool false,st')∧Frm b i vw st st'
  | some l'=>∃ st' ve' vv',cc 71 [ptr b 0,.agg (lnRow x).toArray] st=some (.bool true,st')∧Bld st0 st' B b i vw ve' vv' l' its:=by
 have hlm:st.lim≤st.next:=by rw [h.ext.lim];have:=h.ll;have:=h.ext.next;omega
 have x1:Ext st (st.new (.cells (lnRow x) 0)):=(Ext.refl st).new _
 have a1:At (st.new (.cells (lnRow x) 0)) st.next (lnRow x):=At.new hlm _
 have l3:(st.new (.cells (lnRow x) 0)).ld st.next 3=some x.2.1:=a1.ld
 have hr1:Rd (st.new (.cells (lnRow x) 0)) x.2.1 (rowsF valRow x.1.args) 3 x.1.args.length:=(hx.ext h.ext).ext x1
 have hlen:(lenV x.2.1).bind (asI .i64)=some (x.1.args.length:Int):=by rw [hx.len];rfl
 have hnl:zak (ptr b 0)=some (ptr b 0):=rfl
 cases hargs:x.1.args with
 | nil=>
   have hd:zbI l x.1=none:=by unfold zbI;rw [hargs]
   rw [hd]
   rw [hargs] at hlen
   refine ⟨_,zbb _ _ st (r:=(.bool false,st.new (.cells (lnRow x) 0))) ?_,.ext x1⟩
   have h0:((([]:List Val).length:Nat):Int)=0:=rfl
   simp only [zaq,zaC,l3,hlen,zob,zdt h0,zct]
 | cons v r=>
   rw [hargs] at hlen hr1 hsz
   obtain ⟨q5,b1,b2,_⟩:=hr1.load (j:=(0:Int)) (by omega) (by first | (simp;done) | (simp;omega)) (row:=valRow v) rfl rfl
   have b2':(st.new (.cells (lnRow x) 0)).ldN q5.1 q5.2 3=some (.agg (valRow v).toArray):=b2
   obtain ⟨s8,e8,a8,x8,n8⟩:=zaO (st:=st.new (.cells (lnRow x) 0)) (by first | (simp;done) | (simp;omega)) (r:=valRow ⟨[],0,0⟩) (row:=valRow v) (v:=.agg (valRow v).toArray) (zaC _) rfl rfl rfl
   have e8':((st.new (.cells (lnRow x) 0)).new (.cells [.string ⟨#[]⟩,.int .i64 0,.int .i64 0] 0)).stV (st.new (.cells (lnRow x) 0)).next 0 3 (.agg (valRow v).toArray)=some s8:=e8
   have a18:=a1.ext x8
   have h8:=h.then (x1.trans x8)
   have m8:Frm b i vw st s8:=.ext (x1.trans x8)
   have hn1:¬ (((v::r).length:Nat):Int)=0:=by first | (simp;done) | (simp;omega)
   have l9:s8.ld (st.new (.cells (lnRow x) 0)).next 0=some (.string (mkS v.nm)):=a8.ld
   have l91:s8.ld (st.new (.cells (lnRow x) 0)).next 1=some (.int .i64 v.x):=a8.ld
   have l92:s8.ld (st.new (.cells (lnRow x) 0)).next 2=some (.int .i64 v.col):=a8.ld
   have l10:s8.ld st.next 2=some (.string (mkS x.1.dir)):=a18.ld
   have l11:s8.ld st.next 3=some x.2.1:=a18.ld
   have lpl:s8.ld b 0=some (.int .i64 l.pl):=h8.row.ld
   have hnm:eqT (mkS v.nm) ⟨#[]⟩=decide (v.nm=[]):=zc3 _
   have hlr:decide (1<(((v::r).length:Nat):Int))=decide (r≠[]):=by
    cases r with
    | nil=>rfl
    | cons a t=>rw [zdt (by simp;omega),zdt (by simp)]
   have fl:∀ st',zaq cc ze5 (ptr b 0) (.agg (lnRow x).toArray) st=some (.bool false,st')→Frm b i vw st st'→zbI l x.1=none→
     match zbI l x.1 with
     | none=>∃ st',cc 71 [ptr b 0,.agg (lnRow x).toArray] st=some (.bool false,st')∧Frm b i vw st st'
     | some l'=>∃ st' ve' vv',cc 71 [ptr b 0,.agg (lnRow x).toArray] st=some (.bool true,st')∧Bld st0 st' B b i vw ve' vv' l' its:=fun st' hc hfr hdn=>by
    rw [hdn];exact ⟨st',zbb _ _ st hc,hfr⟩
   by_cases d1:x.1.dir=[111,114,103]
   ·have q1:eqT (mkS x.1.dir) ⟨#[111,114,103]⟩=true:=zdt d1
    have hd:zbI l x.1=if v.nm=[]∧r=[]∧(l.pl:Int)≤v.x∧v.x≤2048 then some { l with pl:=v.x.toNat } else none:=by unfold zbI;rw [hargs];simp only;rw [if_pos d1]
    by_cases c1:v.nm=[]
    ·by_cases c2:r=[]
     ·by_cases c3:v.x<(l.pl:Int)
      ·refine fl s8 ?_ m8 (by rw [hd,if_neg (fun hh=>by omega)])
       simp only [zaq,zaC,l3,hlen,zob,zdf hn1,zcf,b1,b2',e8',l9,l10,l11,zab,q1,zct,hnm,zdt c1,znt,hlr,zdf (show ¬ r≠[] from fun hh=>hh c2),l91,zaa,hnl,zac,lpl,zdt c3]
      ·by_cases c4:2048<v.x
       ·refine fl s8 ?_ m8 (by rw [hd,if_neg (fun hh=>by omega)])
        simp only [zaq,zaC,l3,hlen,zob,zdf hn1,zcf,b1,b2',e8',l9,l10,l11,zab,q1,zct,hnm,zdt c1,znt,hlr,zdf (show ¬ r≠[] from fun hh=>hh c2),l91,zaa,hnl,zac,lpl,zdf c3,zdt c4]
       ·rw [hd,if_pos ⟨c1,c2,by omega,by omega⟩]
        obtain ⟨s21,e21,h21⟩:=h8.place v.x.toNat
        have ez:((v.x.toNat:Nat):Int)=v.x:=by omega
        rw [ez] at e21
        refine ⟨s21,ve,vv,zbb _ _ st ?_,h21⟩
        simp only [zaq,zaC,l3,hlen,zob,zdf hn1,zcf,b1,b2',e8',l9,l10,l11,zab,q1,zct,hnm,zdt c1,znt,hlr,zdf (show ¬ r≠[] from fun hh=>hh c2),l91,zaa,hnl,zac,lpl,zdf c3,zdf c4,e21]
     ·refine fl s8 ?_ m8 (by rw [hd,if_neg (fun hh=>c2 hh.2.1)])
      simp only [zaq,zaC,l3,hlen,zob,zdf hn1,zcf,b1,b2',e8',l9,l10,l11,zab,zaa,q1,zct,hnm,zdt c1,znt,hlr,zdt (show r≠[] from c2)]
    ·refine fl s8 ?_ m8 (by rw [hd,if_neg (fun hh=>c1 hh.1)])
     simp only [zaq,zaC,l3,hlen,zob,zdf hn1,zcf,b1,b2',e8',l9,l10,l11,zab,zaa,q1,zct,hnm,zdf c1,znf]
   have n1:eqT (mkS x.1.dir) ⟨#[111,114,103]⟩=false:=zdf d1
   by_cases d2:x.1.dir=[97,108,105,103,110]
   ·have q1:eqT (mkS x.1.dir) ⟨#[97,108,105,103,110]⟩=true:=zdt d2
    have hd:zbI l x.1=if v.nm=[]∧r=[]∧1≤v.x∧v.x≤2048∧(l.pl+v.x.toNat-1)/v.x.toNat*v.x.toNat≤2048 then some { l with pl:=(l.pl+v.x.toNat-1)/v.x.toNat*v.x.toNat } else none:=by unfold zbI;rw [hargs];simp only;rw [if_neg d1,if_pos d2]
    by_cases c1:v.nm=[]
    ·by_cases c2:r=[]
     ·have c2':=zdf (show ¬ r≠[] from fun hh=>hh c2)
      by_cases c3:v.x<1
      ·refine fl s8 ?_ m8 (by rw [hd,if_neg (fun hh=>by omega)])
       simp only [zaq,zaC,l3,hlen,zob,zdf hn1,zcf,b1,b2',e8',l9,l10,l11,zab,zaa,n1,q1,zct,hnm,zdt c1,znt,hlr,c2',l91,zdt c3]
      ·by_cases c4:2048<v.x
       ·refine fl s8 ?_ m8 (by rw [hd,if_neg (fun hh=>by omega)])
        simp only [zaq,zaC,l3,hlen,zob,zdf hn1,zcf,b1,b2',e8',l9,l10,l11,zab,zaa,n1,q1,zct,hnm,zdt c1,znt,hlr,c2',l91,zdf c3,zdt c4]
       ·have ez:((v.x.toNat:Nat):Int)=v.x:=by omega
        have hz:¬ (v.x=0):=by omega
        have e33:(aI .quo .i64 (IntKind.wrap .i64 (IntKind.wrap .i64 ((l.pl:Int)+v.x)-1)) v.x).bind (asI .i64)=some (((l.pl+v.x.toNat-1)/v.x.toNat:Nat):Int):=by
         have:=zvd (p:=l.pl) (n:=v.x.toNat) hpl (by omega) (by omega)
         rw [ez] at this
         simp only [aI,zdf hz,zcf,zob,zaa,this]
         have hle:=zqH (p:=l.pl) (n:=v.x.toNat) hpl (by omega) (by omega)
         have h1:(l.pl+v.x.toNat-1)/v.x.toNat≤(l.pl+v.x.toNat-1)/v.x.toNat*v.x.toNat:=Nat.le_mul_of_pos_right _ (by omega)
         have h0':=Int.natCast_nonneg ((l.pl+v.x.toNat-1)/v.x.toNat)
         have h1':(((l.pl+v.x.toNat-1)/v.x.toNat:Nat):Int)≤8192:=Int.ofNat_le.2 (zlt h1 hle)
         rw [wrap64 (Int.le_trans (by decide) h0') (Int.le_trans h1' (by decide))]
        have hle:=zqH (p:=l.pl) (n:=v.x.toNat) hpl (by omega) (by omega)
        have e35:IntKind.wrap .i64 ((((l.pl+v.x.toNat-1)/v.x.toNat:Nat):Int)*v.x)=(((l.pl+v.x.toNat-1)/v.x.toNat*v.x.toNat:Nat):Int):=by
         rw [← ez]
         simp only [Int.toNat_natCast]
         rw [← Int.natCast_mul]
         exact wrap64 (by omega) (by omega)
        obtain ⟨s38,e38,h38,m38⟩:=h8.placeM ((l.pl+v.x.toNat-1)/v.x.toNat*v.x.toNat)
        have l41:s38.ld b 0=some (.int .i64 (((l.pl+v.x.toNat-1)/v.x.toNat*v.x.toNat:Nat):Int)):=h38.row.ld
        by_cases c5:(l.pl+v.x.toNat-1)/v.x.toNat*v.x.toNat≤2048
        ·rw [hd,if_pos ⟨c1,c2,by omega,by omega,c5⟩]
         have c5':(((l.pl+v.x.toNat-1)/v.x.toNat*v.x.toNat:Nat):Int)≤2048:=by omega
         refine ⟨s38,ve,vv,zbb _ _ st ?_,h38⟩
         simp only [zaq,zaC,l3,hlen,zob,zdf hn1,zcf,b1,b2',e8',l9,l10,l11,zab,zaa,n1,q1,zct,hnm,zdt c1,znt,hlr,c2',l91,zdf c3,zdf c4,hnl,zac,lpl,e33,e35,e38,l41,zdt c5']
        ·have c5':¬ (((l.pl+v.x.toNat-1)/v.x.toNat*v.x.toNat:Nat):Int)≤2048:=by omega
         refine fl s38 ?_ (m8.trans (.mod m38 (by simp))) (by rw [hd,if_neg (fun hh=>c5 hh.2.2.2.2)])
         simp only [zaq,zaC,l3,hlen,zob,zdf hn1,zcf,b1,b2',e8',l9,l10,l11,zab,zaa,n1,q1,zct,hnm,zdt c1,znt,hlr,c2',l91,zdf c3,zdf c4,hnl,zac,lpl,e33,e35,e38,l41,zdf c5']
     ·refine fl s8 ?_ m8 (by rw [hd,if_neg (fun hh=>c2 hh.2.1)])
      simp only [zaq,zaC,l3,hlen,zob,zdf hn1,zcf,b1,b2',e8',l9,l10,l11,zab,zaa,n1,q1,zct,hnm,zdt c1,znt,hlr,zdt (show r≠[] from c2)]
    ·refine fl s8 ?_ m8 (by rw [hd,if_neg (fun hh=>c1 hh.1)])
     simp only [zaq,zaC,l3,hlen,zob,zdf hn1,zcf,b1,b2',e8',l9,l10,l11,zab,zaa,n1,q1,zct,hnm,zdf c1,znf]
   have n2:eqT (mkS x.1.dir) ⟨#[97,108,105,103,110]⟩=false:=zdf d2
   have hr8:Rd s8 x.2.1 (rowsF valRow (v::r)) 3 (v::r).length:=hr1.ext x8
   by_cases d3:x.1.dir=[115,101,116]
   ·have q1:eqT (mkS x.1.dir) ⟨#[115,101,116]⟩=true:=zdt d3
    have hd:zbI l x.1=zqI l v r:=zqJ hargs d1 d2 d3
    have no:(∀ y,r≠[y])→¬ ((((v::r).length:Nat):Int)=2)∧zbI l x.1=none:=fun hr=>by
     rw [hd]
     match r,hr with
     | [],_=>exact ⟨by simp,rfl⟩
     | [y],hr=>exact absurd rfl (hr y)
     | _::_::_,_=>exact ⟨by simp;omega,rfl⟩
    by_cases hy:∃ y,r=[y]
    ·obtain ⟨y,rfl⟩:=hy
     have hd:zbI l x.1=if v.nm≠[]∧v.x=0∧y.nm=[] then l.define v.nm y.x else none:=hd
     have h2:(((([v,y]:List Val).length:Nat)):Int)=2:=rfl
     by_cases c1:v.nm=[]
     ·refine fl s8 ?_ m8 (by rw [hd,if_neg (fun hh=>hh.1 c1)])
      simp only [zaq,zaC,l3,hlen,zob,zdf hn1,zcf,b1,b2',e8',l9,l10,l11,zab,zaa,n1,n2,q1,zct,hnm,zdt h2,zdt c1,znt]
     ·by_cases c2:v.x=0
      ·obtain ⟨p46,t1,_,t3⟩:=hr8.load (j:=(1:Int)) (by omega) (by rw [h2];omega) (row:=valRow y) rfl rfl
       have t30:s8.ld p46.1 p46.2=some (.string (mkS y.nm)):=t3 0 (by omega)
       have t31:s8.ld p46.1 (p46.2+1)=some (.int .i64 y.x):=t3 1 (by omega)
       have hy0:eqT (mkS y.nm) ⟨#[]⟩=decide (y.nm=[]):=zc3 _
       by_cases c3:y.nm=[]
       ·have hd':zbI l x.1=l.define v.nm y.x:=by rw [hd,if_pos ⟨c1,c2,c3⟩]
        have hdef:=h8.define v.nm y.x
        rw [hd']
        cases hdf:l.define v.nm y.x with
        | none=>
          rw [hdf] at hdef
          simp only at hdef
          refine ⟨s8,zbb _ _ st ?_,m8⟩
          simp only [zaq,zaC,l3,hlen,zob,zdf hn1,zcf,b1,b2',e8',l9,l10,l11,zab,zaa,n1,n2,q1,zct,hnm,zdt h2,zdf c1,znf,l91,zdt c2,t1,t30,t31,hy0,zdt c3,hdef,zal]
        | some l'=>
          rw [hdf] at hdef
          obtain ⟨s9,c9,_,h9⟩:=hdef
          refine ⟨s9,ve,vv,zbb _ _ st ?_,h9⟩
          simp only [zaq,zaC,l3,hlen,zob,zdf hn1,zcf,b1,b2',e8',l9,l10,l11,zab,zaa,n1,n2,q1,zct,hnm,zdt h2,zdf c1,znf,l91,zdt c2,t1,t30,t31,hy0,zdt c3,c9,zal]
       ·refine fl s8 ?_ m8 (by rw [hd,if_neg (fun hh=>c3 hh.2.2)])
        simp only [zaq,zaC,l3,hlen,zob,zdf hn1,zcf,b1,b2',e8',l9,l10,l11,zab,zaa,n1,n2,q1,zct,hnm,zdt h2,zdf c1,znf,l91,zdt c2,t1,t30,hy0,zdf c3]
      ·refine fl s8 ?_ m8 (by rw [hd,if_neg (fun hh=>c2 hh.2.1)])
       simp only [zaq,zaC,l3,hlen,zob,zdf hn1,zcf,b1,b2',e8',l9,l10,l11,zab,zaa,n1,n2,q1,zct,hnm,zdt h2,zdf c1,znf,l91,zdf c2]
    ·obtain ⟨h2,hdn⟩:=no fun y e=>hy ⟨y,e⟩
     refine fl s8 ?_ m8 hdn
     simp only [zaq,zaC,l3,hlen,zob,zdf hn1,zcf,b1,b2',e8',l9,l10,l11,zab,zaa,n1,n2,q1,zct,hnm,zdf h2]
   ·have n3:eqT (mkS x.1.dir) ⟨#[115,101,116]⟩=false:=zdf d3
    by_cases d4:x.1.dir=[101,110,116,114,121]
    ·have q1:eqT (mkS x.1.dir) ⟨#[101,110,116,114,121]⟩=true:=zdt d4
     have hd:zbI l x.1=if v.nm≠[]∧r=[]∧v.x=0∧(l.ents.any fun e=>decide (e.1.nm=v.nm))=false then some { l with ents:=l.ents++[(v,x.1.ln,v.col)] } else none:=by unfold zbI;rw [hargs];simp only;rw [if_neg d1,if_neg d2,if_neg d3,if_pos d4]
     by_cases c1:v.nm=[]
     ·refine fl s8 ?_ m8 (by rw [hd,if_neg (fun hh=>hh.1 c1)])
      simp only [zaq,zaC,l3,hlen,zob,zdf hn1,zcf,b1,b2',e8',l9,l10,l11,zab,zaa,n1,n2,n3,q1,zct,hnm,zdt c1]
     by_cases c2:r=[]
     ·have c2':=zdf (show ¬ r≠[] from fun hh=>hh c2)
      by_cases c3:v.x=0
      ·have l59:s8.ld b (0+4)=some vv:=h8.row.ld
       obtain ⟨n60,hn60,c60⟩:=zvc (l.ents.map (·.1)) (by simp;omega) v (st.new (.cells (lnRow x) 0)).next vv s8 (by have:=h8.ov.rd;simpa using this) a8.mem a8.lt
       have hany:((l.ents.map (·.1)).any fun x=>decide (x.nm=v.nm))=l.ents.any fun e=>decide (e.1.nm=v.nm):=by rw [List.any_map];rfl
       rw [hany] at c60
       cases ha:l.ents.any fun e=>decide (e.1.nm=v.nm) with
       | true=>
         rw [ha] at c60
         refine fl (s8.adv n60) ?_ (m8.trans (.ext ((Ext.refl _).adv hn60))) (by rw [hd,if_neg (fun hh=>by rw [ha] at hh;cases hh.2.2.2)])
         simp only [zaq,zaC,l3,hlen,zob,zdf hn1,zcf,b1,b2',e8',l9,l10,l11,zab,zaa,n1,n2,n3,q1,zct,hnm,zdf c1,hlr,c2',l91,zdt c3,znt,hnl,zac,l59,c60,zal]
       | false=>
         rw [ha] at c60
         rw [hd,if_pos ⟨c1,c2,c3,ha⟩]
         have x60:Ext s8 (s8.adv n60):=(Ext.refl _).adv hn60
         obtain ⟨vv',s1,s2,ve',s3,s4,g1,g2,g3,g4,g5,g6,g7,g8⟩:=(h8.then x60).entry v x.1.ln v.col hn
         have l64:(s8.adv n60).ld b (0+4)=some vv:=(h8.then x60).row.ld
         have l65:(s8.adv n60).ldN (st.new (.cells (lnRow x) 0)).next 0 3=some (.agg (valRow v).toArray):=(a8.ext x60).ldN rfl
         have e66:zaB (.agg (valRow v).toArray) 3=some (valRow v):=rfl
         have g2':s1.stV b (0+4) 1 vv'=some s2:=g2
         have g3':s2.ld b (0+3)=some ve:=g3
         have g6':(s2.new (.cells ([.int .i64 x.1.ln,.int .i64 v.col]) 2)).app 2 16 ve (.slice (some ⟨s2.next,0,none⟩) 1 1)=some (ve',s3):=g6
         have g7':s3.stV b (0+3) 1 ve'=some s4:=g7
         have hv0:∀ j,blkOf vv=some j→j<st.next:=fun j e=>(zcZ h.ov e).2
         have hbn:=h.row.lt
         have m75:=(g5 st.next (a18.ext x60).lt (fun e=>by have:=hv0 _ e;omega) (by omega)).trans (a18.ext x60).mem
         have m76:=(g5 (st.new (.cells (lnRow x) 0)).next (a8.ext x60).lt (fun e=>by have:=hv0 _ e;simp at this;omega) (by simp;omega)).trans (a8.ext x60).mem
         have l75:s2.ld st.next 0=some (.int .i64 x.1.ln):=by rw [SS.ld_cells m75];rfl
         have l76:s2.ld (st.new (.cells (lnRow x) 0)).next 2=some (.int .i64 v.col):=by rw [SS.ld_cells m76];rfl
         refine ⟨s4,ve',vv',zbb _ _ st ?_,g8⟩
         simp only [zaq,zaC,l3,hlen,zob,zdf hn1,zcf,b1,b2',e8',l9,l10,l11,zab,zaa,n1,n2,n3,q1,zct,hnm,zdf c1,hlr,c2',l91,zdt c3,znt,hnl,zac,l59,c60,zal,l64,l65,e66,List.append_nil,g1,g2',g3',l75,l76,g6',g7']
      ·refine fl s8 ?_ m8 (by rw [hd,if_neg (fun hh=>c3 hh.2.2.1)])
       simp only [zaq,zaC,l3,hlen,zob,zdf hn1,zcf,b1,b2',e8',l9,l10,l11,zab,zaa,n1,n2,n3,q1,zct,hnm,zdf c1,hlr,c2',l91,zdf c3,znf]
     ·refine fl s8 ?_ m8 (by rw [hd,if_neg (fun hh=>c2 hh.2.1)])
      simp only [zaq,zaC,l3,hlen,zob,zdf hn1,zcf,b1,b2',e8',l9,l10,l11,zab,zaa,n1,n2,n3,q1,zct,hnm,zdf c1,hlr,zdt (show r≠[] from c2)]
    ·have n4:eqT (mkS x.1.dir) ⟨#[101,110,116,114,121]⟩=false:=zdf d4
     refine fl s8 ?_ m8 (by unfold zbI;rw [hargs];simp only;rw [if_neg d1,if_neg d2,if_neg d3,if_neg d4])
     simp only [zaq,zaC,l3,hlen,zob,zdf hn1,zcf,b1,b2',e8',l9,l10,zab,n1,n2,n3,n4]
end Go.Proofs.YtifploedaacedaaGreatDoorE
namespace Go.Proofs.YtifploedaacedaaGreatDoorE
open Go Go.E Go.Proofs
theorem zve (n:Nat) (x:Item):zaB (.agg ⟨spl [.int .i64 n,.int .i64 0,.string ⟨#[]⟩,.string ⟨#[]⟩,.slice none 0 0,.slice none 0 0] 1 (lnRow x)⟩) 6=some (wdRow (n,x)):=rfl
theorem Bld.rest [Sym] {st0 st:SS} {B b i:Nat} {vw ve vv:Value} {l:Lay} {its:List WItem} (h:Bld st0 st B b i vw ve vv l its) (x:Item) (hx:Rd st0 x.2.1 (rowsF valRow x.1.args) 3 x.1.args.length∧Rd st0 x.2.2 (rowsF prRow x.1.prs) 5 x.1.prs.length)
  (ho:one x.2.1=true∧one x.2.2=true) (hpl:l.pl≤2048) (hni:its.length≤100000):
  ∃ vw' s1 s2 s3,(st.new (.cells (wdRow (l.pl,x)) 6)).app 6 96 vw (.slice (some ⟨st.next,0,none⟩) 1 1)=some (vw',s1)∧s1.stV b 2 1 vw'=some s2∧s2.ld b 0=some (.int .i64 l.pl)∧s2.st b 0 [.int .i64 ((l.pl+1:Nat):Int)]=some s3∧s3.ld b 0=some (.int .i64 ((l.pl+1:Nat):Int))∧
   Bld st0 s3 B b i vw' ve vv { l with pl:=l.pl+1,wds:=l.wds++[(l.pl,x.1)] } (its++[(l.pl,x)])∧Frm b i vw st s3:=by
 obtain ⟨vw',s1,s2,g1,g2,g3,g6⟩:=h.word x hx ho hni
 obtain ⟨s3,g4,g5,g7⟩:=g3.placeM (l.pl+1)
 exact ⟨vw',s1,s2,s3,g1,g2,g3.row.ld,g4,g5.row.ld,g5,g6.trans (.mod g7 (by simp))⟩
noncomputable def zif [Sym] (b':Value) (a:Nat) (s:SS):Option (Value×SS):=
 ((s.ld a 2).bind asS).bind fun b=>
  cond (!(eqT b ⟨#[]⟩)) (
   (s.ldN a 0 5).bind fun c=>
   (cc 71 [b',c] s).bind fun d=>
   ((some d.1).bind asB).bind fun e=>
   some (.bool e,d.2)) (
   (s.ld a 4).bind fun f=>
   ((lenV f).bind (asI .i64)).bind fun g=>
   cond (decide (g=0)) (
    some (.bool true,s)) (
    (zak b').bind fun h=>
    (addr? h).bind fun i=>
    (s.ld i.1 (i.2+2)).bind fun j=>
    (zak b').bind fun k=>
    (addr? k).bind fun l=>
    ((s.ld l.1 l.2).bind (asI .i64)).bind fun m=>
    (s.ldN a 0 5).bind fun n=>
    (zaB n 5).bind fun o=>
    (zaB (.agg ⟨spl [.int .i64 m,.int .i64 0,.string ⟨#[]⟩,.string ⟨#[]⟩,.slice none 0 0,.slice none 0 0] 1 o⟩) 6).bind fun p=>
    let q:SS:=s.new (.cells (p++([])) 6)
    (q.app 6 96 j (.slice (some ⟨s.next,0,none⟩) 1 1)).bind fun r=>
    (zak b').bind fun t=>
    (addr? t).bind fun u=>
    (r.2.stV u.1 (u.2+2) 1 r.1).bind fun v=>
    (zak b').bind fun w=>
    (addr? w).bind fun x=>
    ((v.ld x.1 x.2).bind (asI .i64)).bind fun y=>
    let z:Int:=IntKind.wrap .i64 (y+1)
    (zak b').bind fun A=>
    (addr? A).bind fun B=>
    (v.st B.1 B.2 [.int .i64 z]).bind fun C=>
    (zak b').bind fun D=>
    (addr? D).bind fun E=>
    ((C.ld E.1 E.2).bind (asI .i64)).bind fun F=>
    some (.bool (decide (F≤2048)),C)))
def zg2 (l:Lay) (x:PLine):Option Lay:=if x.dir≠[] then zbI l x else if x.prs=[] then some l else if l.pl+1≤2048 then some { l with pl:=l.pl+1,wds:=l.wds++[(l.pl,x)] } else none
theorem zrQ [Sym] {st0 s:SS} {B b i a:Nat} {vw ve vv:Value} {l:Lay} {its:List WItem} (h:Bld st0 s B b i vw ve vv l its) (x:Item) (ha:At s a (lnRow x)) (hx:Rd st0 x.2.1 (rowsF valRow x.1.args) 3 x.1.args.length∧Rd st0 x.2.2 (rowsF prRow x.1.prs) 5 x.1.prs.length)
  (ho:one x.2.1=true∧one x.2.2=true) (hpl:l.pl≤2048) (hn:l.ents.length≤100000) (hni:its.length≤100000) (hsz:x.1.args.length≤100000):
  match zg2 l x.1 with
  | none=>∃ st',zif (ptr b 0) a s=some (.bool false,st')∧Frm b i vw s st'
  | some l'=>∃ st' vw' ve' vv' its',zif (ptr b 0) a s=some (.bool true,st')∧Bld st0 st' B b i vw' ve' vv' l' its'∧its'.length≤its.length+1:=by
 have l2:s.ld a 2=some (.string (mkS x.1.dir)):=ha.ld
 have l4:s.ld a 4=some x.2.2:=ha.ld
 have l5:s.ldN a 0 5=some (.agg (lnRow x).toArray):=ha.ldN rfl
 have hd0:eqT (mkS x.1.dir) ⟨#[]⟩=decide (x.1.dir=[]):=zc3 _
 unfold zg2
 by_cases c1:x.1.dir=[]
 ·rw [if_neg (fun hh=>hh c1)]
  have hlen:(lenV x.2.2).bind (asI .i64)=some (x.1.prs.length:Int):=by rw [hx.2.len];rfl
  by_cases c2:x.1.prs=[]
  ·rw [if_pos c2]
   have h0:(x.1.prs.length:Int)=0:=by rw [c2];rfl
   refine ⟨s,vw,ve,vv,its,?_,h,by omega⟩
   simp only [zif,l2,l4,zob,zab,hd0,zdt c1,znt,zcf,hlen,zdt h0,zct]
  ·rw [if_neg c2]
   have h0:¬ (x.1.prs.length:Int)=0:=fun e=>c2 (List.length_eq_zero_iff.1 (by omega))
   obtain ⟨vw',s1,s2,s3,g1,g2,g3,g4,g5,g6,g7⟩:=h.rest x hx ho hpl hni
   have hnl:zak (ptr b 0)=some (ptr b 0):=rfl
   have lw:s.ld b (0+2)=some vw:=h.row.ld
   have lp:s.ld b 0=some (.int .i64 l.pl):=h.row.ld
   have e5:zaB (.agg (lnRow x).toArray) 5=some (lnRow x):=rfl
   have e6:=zve l.pl x
   have g2':s1.stV b (0+2) 1 vw'=some s2:=g2
   have hw1:=za4 (i:=l.pl) (by omega)
   have run:zif (ptr b 0) a s=some (.bool (decide (((l.pl+1:Nat):Int)≤2048)),s3):=by
    simp only [zif,l2,l4,l5,zob,zab,zaa,hd0,zdt c1,znt,zcf,hlen,zdf h0,hnl,zac,lw,lp,e5,e6,List.append_nil,g1,g2',g3,hw1,g4,g5]
   by_cases c3:l.pl+1≤2048
   ·rw [if_pos c3]
    have c3':((l.pl+1:Nat):Int)≤2048:=by omega
    exact ⟨s3,vw',ve,vv,_,by rw [run,zdt c3'],g6,by simp⟩
   ·rw [if_neg c3]
    have c3':¬ ((l.pl+1:Nat):Int)≤2048:=by omega
    exact ⟨s3,by rw [run,zdf c3'],g7⟩
 ·rw [if_pos c1]
  have hdir:=zqK h x hx.1 (by omega) hn hsz
  cases hd:zbI l x.1 with
  | none=>
    rw [hd] at hdir
    obtain ⟨st',c,hfr⟩:=hdir
    refine ⟨st',?_,hfr⟩
    simp only [zif,l2,l5,zob,zab,hd0,zdf c1,znf,zct,c,zal]
  | some l'=>
    rw [hd] at hdir
    obtain ⟨st',ve',vv',c,hb⟩:=hdir
    refine ⟨st',vw,ve',vv',its,?_,hb,by omega⟩
    simp only [zif,l2,l5,zob,zab,hd0,zdf c1,znf,zct,c,zal]
theorem zk5 (l:Lay) (x:PLine):zg1 l x=(if x.lab=[] then some l else l.define x.lab l.pl).bind fun l=>zg2 l x:=rfl
theorem zrj {l l':Lay} {n:List UInt8} {x:Int} (h:l.define n x=some l'):l'.pl=l.pl∧l'.ents=l.ents:=by
 unfold Lay.define at h
 split at h
 ·cases h
 ·cases h;exact ⟨rfl,rfl⟩
theorem zvf [Sym] {st0 st:SS} {B b i:Nat} {vw ve vv:Value} {l:Lay} {its:List WItem} (h:Bld st0 st B b i vw ve vv l its) (x:Item) (hx:Rd st0 x.2.1 (rowsF valRow x.1.args) 3 x.1.args.length∧Rd st0 x.2.2 (rowsF prRow x.1.prs) 5 x.1.prs.length)
  (ho:one x.2.1=true∧one x.2.2=true) (hpl:l.pl≤2048) (hn:l.ents.length≤100000) (hni:its.length≤100000) (hsz:x.1.args.length≤100000):
  match zg1 l x.1 with
  | none=>∃ st',cc 43 [ptr b 0,.agg (lnRow x).toArray] st=some (.bool false,st')∧Frm b i vw st st'
  | some l'=>∃ st' vw' ve' vv' its',cc 43 [ptr b 0,.agg (lnRow x).toArray] st=some (.bool true,st')∧Bld st0 st' B b i vw' ve' vv' l' its'∧its'.length≤its.length+1:=by
 have hlm:st.lim≤st.next:=by rw [h.ext.lim];have:=h.ll;have:=h.ext.next;omega
 have x1:Ext st (st.new (.cells (lnRow x) 0)):=(Ext.refl st).new _
 have a1:At (st.new (.cells (lnRow x) 0)) st.next (lnRow x):=At.new hlm _
 have l1:(st.new (.cells (lnRow x) 0)).ld st.next 1=some (.string (mkS x.1.lab)):=a1.ld
 have hlb:eqT (mkS x.1.lab) ⟨#[]⟩=decide (x.1.lab=[]):=zc3 _
 have h1:=h.then x1
 rw [zk5]
 by_cases c1:x.1.lab=[]
 ·rw [if_pos c1,zob]
  have e:zck cc zeg (ptr b 0) (.agg (lnRow x).toArray) st=zif (ptr b 0) st.next (st.new (.cells (lnRow x) 0)):=by
   simp only [zck,zaC,l1,zob,zab,hlb,zdt c1,znt,zcf]
   rfl
  have hr:=zrQ h1 x a1 hx ho hpl hn hni hsz
  cases hl:zg2 l x.1 with
  | none=>
    rw [hl] at hr
    obtain ⟨st',c,hfr⟩:=hr
    exact ⟨st',zcl _ _ st (e.trans c),(Frm.ext x1).trans hfr⟩
  | some l'=>
    rw [hl] at hr
    obtain ⟨st',vw',ve',vv',its',c,r⟩:=hr
    exact ⟨st',vw',ve',vv',its',zcl _ _ st (e.trans c),r⟩
 ·rw [if_neg c1]
  have lp:(st.new (.cells (lnRow x) 0)).ld b 0=some (.int .i64 l.pl):=h1.row.ld
  have hnl:zak (ptr b 0)=some (ptr b 0):=rfl
  have hdef:=h1.define x.1.lab l.pl
  cases hd:l.define x.1.lab l.pl with
  | none=>
    rw [hd] at hdef
    simp only at hdef
    refine ⟨_,zcl _ _ st (r:=(.bool false,st.new (.cells (lnRow x) 0))) ?_,.ext x1⟩
    simp only [zck,zaC,l1,zob,zab,zaa,hlb,zdf c1,znf,zct,hnl,zac,lp,hdef,zal]
  | some l1'=>
    rw [hd] at hdef
    obtain ⟨s2,c2,m2,h2⟩:=hdef
    rw [zob]
    obtain ⟨e1,e2⟩:=zrj hd
    have a2:At s2 st.next (lnRow x):=a1.mod m2 (by have:=h.iB;have:=h.BN;simp;omega)
    have e:zck cc zeg (ptr b 0) (.agg (lnRow x).toArray) st=zif (ptr b 0) st.next s2:=by
     simp only [zck,zaC,l1,zob,zab,zaa,hlb,zdf c1,znf,zct,hnl,zac,lp,c2,zal,znt,zcf]
     rfl
    have hr:=zrQ h2 x a2 hx ho (by omega) (by rw [e2];exact hn) hni hsz
    cases hl:zg2 l1' x.1 with
    | none=>
      rw [hl] at hr
      obtain ⟨st',c,hfr⟩:=hr
      exact ⟨st',zcl _ _ st (e.trans c),((Frm.ext x1).trans (.mod m2 (by simp))).trans hfr⟩
    | some l'=>
      rw [hl] at hr
      obtain ⟨st',vw',ve',vv',its',c,r⟩:=hr
      exact ⟨st',vw',ve',vv',its',zcl _ _ st (e.trans c),r⟩
end Go.Proofs.YtifploedaacedaaGreatDoorE
namespace Go.Proofs.YtifploedaacedaaGreatDoorE
open Go Go.E Go.Proofs
def VOk (v:Val):Prop:=0<v.col∧ -2147483648≤v.x∧v.x≤2147483647
def POk (p:Pr):Prop:=0<p.col∧VOk p.v
structure LineOk (M:Nat) (x:PLine):Prop where
 args:∀ v∈x.args,VOk v
 prs:∀ p∈x.prs,POk p
 sa:x.args.length≤M
 sp:x.prs.length≤M
def zk6 (t:Tok):Prop:=TokOk t∧0<t.col
theorem zug (k col:Nat) (l:List UInt8) (ts:List Tok) (h:zdg k col l=.ok ts):∀ t∈ts,0<t.col:=by
 induction k generalizing col l ts with
 | zero=>cases h;intro t ht;cases ht
 | succ k ih=>
   unfold zdg at h
   split at h
   ·cases h;intro t ht;cases ht
   ·exact ih _ _ _ h
   ·rename_i kd n x hs
    cases hx:zdg k (col+n) (l.drop n) with
    | error e=>rw [hx] at h;cases h
    | ok us=>
      rw [hx] at h;cases h
      intro t ht
      rcases List.mem_cons.1 ht with rfl | ht
      ·exact Nat.succ_pos _
      ·exact ih _ _ _ hx t ht
   ·cases h
theorem zvg {p:List UInt8} {ts:List Tok} (h:zcb p=.ok ts):∀ t∈ts,zk6 t:=fun t ht=>by
 refine ⟨(znr h).2 t ht,?_⟩
 unfold zcb at h
 split at h
 ·rename_i us hu
  cases h
  rcases List.mem_append.1 ht with ht | ht
  ·exact zug _ _ _ _ hu t ht
  ·have:t=zho p:=by simpa using ht
   subst this
   exact Nat.succ_pos _
 ·cases h
theorem zpp {α:Type} {n:Nat} {l:List α} {x:α} (h:x∈l.drop n):x∈l:=List.mem_of_mem_drop h
theorem zrR {l:List Tok} (hl:∀ t∈l,zk6 t) {v:Val} {n:Nat} (h:zd8 l=.ok (v,n)):VOk v:=by
 cases l with
 | nil=>cases h
 | cons t r=>
   rw [zgW] at h
   have ht:=hl t (by simp)
   have n0:=ht.1.nm0
   have n1:=ht.1.nm1
   split at h
   ·cases h;exact ⟨ht.2,by show -2147483648≤t.nm;omega,by show t.nm≤2147483647;omega⟩
   ·split at h
    ·cases r with
     | nil=>cases h
     | cons s u=>
       simp only at h
       split at h
       ·cases u with
        | nil=>cases h
        | cons m w=>
          simp only at h
          have hm:=(hl m (by simp)).1
          have m0:=hm.nm0
          have m1:=hm.nm1
          split at h
          ·cases h;exact ⟨ht.2,by show -2147483648≤m.nm;omega,by show m.nm≤2147483647;omega⟩
          ·cases h
       ·split at h
        ·cases u with
         | nil=>cases h
         | cons m w=>
           simp only at h
           have hm:=(hl m (by simp)).1
           have m0:=hm.nm0
           have m1:=hm.nm1
           split at h
           ·cases h;exact ⟨ht.2,by show -2147483648≤ -m.nm;omega,by show -m.nm≤2147483647;omega⟩
           ·cases h
        ·cases h;exact ⟨ht.2,by show (-2147483648:Int)≤0;omega,by show (0:Int)≤2147483647;omega⟩
    ·cases h
theorem zwe (k:Nat) (l:List Tok) (hl:∀ t∈l,zk6 t) (vs:List Val) (h:zdj k l=.ok vs):(∀ v∈vs,VOk v)∧vs.length≤k:=by
 induction k generalizing l vs with
 | zero=>cases h;exact ⟨fun v hv=>(by cases hv),zlr _⟩
 | succ k ih=>
   cases l with
   | nil=>cases h;exact ⟨fun v hv=>(by cases hv),by simp⟩
   | cons t r=>
     unfold zdj at h
     split at h
     ·cases h;exact ⟨fun v hv=>(by cases hv),by simp⟩
     ·cases hx:zd8 (t::r) with
      | error o=>rw [hx] at h;cases h
      | ok y=>
        obtain ⟨v,n⟩:=y
        rw [hx] at h
        simp only at h
        cases hy:zdj k ((t::r).drop n) with
        | error o=>rw [hy] at h;cases h
        | ok us=>
          rw [hy] at h;cases h
          obtain ⟨h1,h2⟩:=ih _ (fun q hq=>hl q (zpp hq)) us hy
          refine ⟨fun w hw=>?_,by simp;omega⟩
          rcases List.mem_cons.1 hw with rfl | hw
          ·exact zrR hl hx
          ·exact h1 w hw
theorem zwf {seen:List (List UInt8)} {l:List Tok} (hl:∀ t∈l,zk6 t) {p:Pr} {n:Nat} (h:pairT seen l=.ok (p,n)):POk p:=by
 cases l with
 | nil=>cases h
 | cons t r=>
   rw [zib] at h
   split at h
   ·cases r with
    | nil=>cases h
    | cons e u=>
      simp only at h
      split at h
      ·cases hx:zd8 u with
       | error o=>rw [hx] at h;cases h
       | ok y=>
         obtain ⟨v,m⟩:=y
         rw [hx] at h;cases h
         exact ⟨(hl t (by simp)).2,zrR (fun q hq=>hl q (by simp [hq])) hx⟩
      ·cases h
   ·cases h
theorem zvh (k:Nat) (seen:List (List UInt8)) (l:List Tok) (hl:∀ t∈l,zk6 t) (ps:List Pr) (h:zbq k seen l=.ok ps):(∀ p∈ps,POk p)∧ps.length≤k:=by
 induction k generalizing seen l ps with
 | zero=>cases h;exact ⟨fun v hv=>(by cases hv),zlr _⟩
 | succ k ih=>
   cases l with
   | nil=>cases h;exact ⟨fun v hv=>(by cases hv),by simp⟩
   | cons t r=>
     unfold zbq at h
     split at h
     ·cases h;exact ⟨fun v hv=>(by cases hv),by simp⟩
     ·cases hx:pairT seen (t::r) with
      | error o=>rw [hx] at h;cases h
      | ok y=>
        obtain ⟨p,n⟩:=y
        rw [hx] at h
        simp only at h
        cases hy:zbq k (seen++[p.fd]) ((t::r).drop n) with
        | error o=>rw [hy] at h;cases h
        | ok us=>
          rw [hy] at h;cases h
          obtain ⟨h1,h2⟩:=ih _ _ (fun q hq=>hl q (zpp hq)) us hy
          refine ⟨fun w hw=>?_,by simp;omega⟩
          rcases List.mem_cons.1 hw with rfl | hw
          ·exact zwf hl hx
          ·exact h1 w hw
theorem zoT {M:Nat} (lab:List UInt8) (l:List Tok) (hl:∀ t∈l,zk6 t) (hM:l.length≤M) (x:PLine) (h:zc5 lab l=.ok x):LineOk M x:=by
 cases l with
 | nil=>cases h
 | cons t r=>
   rw [zeC] at h
   split at h
   ·cases r with
    | nil=>cases h
    | cons d u=>
      simp only at h
      split at h
      ·cases hx:zdj u.length u with
       | error o=>rw [hx] at h;cases h
       | ok vs=>
         rw [hx] at h;cases h
         obtain ⟨h1,h2⟩:=zwe _ _ (fun q hq=>hl q (by simp [hq])) vs hx
         simp only [List.length_cons] at hM
         exact ⟨h1,fun p hp=>(by cases hp),by show vs.length≤M;omega,by simp⟩
      ·cases h
   ·cases hx:zbq (t::r).length [] (t::r) with
    | error o=>rw [hx] at h;cases h
    | ok ps=>
      rw [hx] at h;cases h
      obtain ⟨h1,h2⟩:=zvh _ _ _ hl ps hx
      exact ⟨fun p hp=>(by cases hp),h1,by simp,by show ps.length≤M;omega⟩
theorem zwg {M:Nat} (l:List Tok) (hl:∀ t∈l,zk6 t) (hM:l.length≤M) (x:PLine) (h:readT l=.ok x):LineOk M x:=by
 unfold readT at h
 split at h
 ·rename_i t s r
  split at h
  ·split at h
   ·cases h
   ·rename_i y hy
    cases h
    simp only [List.length_cons] at hM
    exact zoT _ _ (fun q hq=>hl q (by simp [hq])) (by omega) _ hy
  ·exact zoT _ _ hl hM _ h
 ·exact zoT _ _ hl hM _ h
theorem zuh {M:Nat} (tss:List (List Tok)) (i:Nat) (hl:∀ ts∈tss,(∀ t∈ts,zk6 t)∧ts.length≤M) (xs:List PLine) (h:zbO i tss=.ok xs):(∀ x∈xs,LineOk M x∧0<x.ln)∧xs.length≤tss.length:=by
 induction tss generalizing i xs with
 | nil=>cases h;exact ⟨fun v hv=>(by cases hv),zlr _⟩
 | cons ts r ih=>
   unfold zbO at h
   cases hx:readT ts with
   | error o=>rw [hx] at h;cases h
   | ok x=>
     rw [hx] at h
     simp only at h
     cases hy:zbO (i+1) r with
     | error e=>rw [hy] at h;cases h
     | ok ys=>
       rw [hy] at h;cases h
       obtain ⟨h1,h2⟩:=ih (i+1) (fun q hq=>hl q (by simp [hq])) ys hy
       obtain ⟨g1,g2⟩:=hl ts (by simp)
       have hv:=zwg ts g1 g2 x hx
       split
       ·refine ⟨fun w hw=>?_,by simp;omega⟩
        rcases List.mem_cons.1 hw with rfl | hw
        ·exact ⟨⟨hv.args,hv.prs,hv.sa,hv.sp⟩,Nat.succ_pos _⟩
        ·exact h1 w hw
       ·exact ⟨h1,by simp;omega⟩
theorem zwh (ps:List (List UInt8)) (M i:Nat) (hM:∀ p∈ps,p.length+1≤M) (tss:List (List Tok)) (h:zco i ps=.ok tss):∀ ts∈tss,(∀ t∈ts,zk6 t)∧ts.length≤M:=by
 induction ps generalizing i tss with
 | nil=>cases h;intro ts hts;cases hts
 | cons p r ih=>
   unfold zco at h
   cases hx:zcb p with
   | error c=>rw [hx] at h;cases h
   | ok ts=>
     rw [hx] at h
     cases hy:zco (i+1) r with
     | error e=>rw [hy] at h;cases h
     | ok us=>
       rw [hy] at h;cases h
       intro ts' ht
       rcases List.mem_cons.1 ht with rfl | ht
       ·exact ⟨zvg hx,zlt (zlY p _ hx) (hM p (by simp))⟩
       ·exact ih _ (fun q hq=>hM q (by simp [hq])) _ hy ts' ht
theorem zmu {l:List UInt8} {xs:List PLine} (h:zfs l=.ok xs):(∀ x∈xs,LineOk (l.length+1) x∧0<x.ln)∧xs.length≤l.length+1:=by
 unfold zfs at h
 cases hy:zco 0 (pieces 10 l) with
 | error e=>rw [hy] at h;cases h
 | ok tss=>
   rw [hy] at h
   obtain ⟨h1,h2⟩:=zuh tss 0 (zwh _ (l.length+1) _ (fun p hp=>by have:=zgP 10 l p hp;omega) tss hy) xs h
   exact ⟨h1,zlt h2 (by rw [zt2 _ _ _ hy];exact pieces_len 10 l)⟩
def zeh (l:Lay):List PLine→Except (Nat×Nat) Lay
 | []=>.ok l
 | x::r=>match zg1 l x with
   | none=>.error (x.ln,1)
   | some l'=>zeh l' r
def zdH:Lay:=⟨0,[],[],[]⟩
structure LayOk (M:Nat) (l:Lay):Prop where
 pl:l.pl≤2048
 nms:NmsOk l.nms
 ris:l.wds.Pairwise fun a b=>a.1<b.1
 lt:∀ x∈l.wds,x.1<l.pl
 prs:∀ x∈l.wds,LineOk M x.2∧x.2.prs≠[]∧0<x.2.ln
 ent:∀ e∈l.ents,e.1.nm≠[]∧0<e.2.1∧0<e.2.2
theorem zil (M:Nat):LayOk M zdH:=⟨by decide,fun x hx=>(by cases hx),List.Pairwise.nil,fun x hx=>(by cases hx),fun x hx=>(by cases hx),fun x hx=>(by cases hx)⟩
theorem Lay.define_ok {M:Nat} {l l':Lay} (h:LayOk M l) {n:List UInt8} {x:Int} (hx: -4294967296≤x∧x≤4294967296) (hd:l.define n x=some l'):LayOk M l'∧l'.pl=l.pl∧l'.ents=l.ents∧l'.wds=l.wds:=by
 unfold Lay.define at hd
 split at hd
 ·cases hd
 ·cases hd
  refine ⟨{ h with nms:=fun y hy=>?_ },rfl,rfl,rfl⟩
  rcases List.mem_append.1 hy with hy | hy
  ·exact h.nms y hy
  ·have:y=(n,x):=by simpa using hy
   subst this
   exact hx
theorem LayOk.place {M:Nat} {l:Lay} (h:LayOk M l) {p:Nat} (h1:l.pl≤p) (h2:p≤2048):LayOk M { l with pl:=p }:={ h with pl:=h2,lt:=fun x hx=>zll (h.lt x hx) h1 }
theorem zqL {p n:Nat} (hn:1≤n):p≤(p+n-1)/n*n:=by
 have h1:=Nat.div_add_mod (p+n-1) n
 have h2:=Nat.mod_lt (p+n-1) (show 0<n by omega)
 have h3:n*((p+n-1)/n)=(p+n-1)/n*n:=Nat.mul_comm _ _
 omega
theorem zwi {M:Nat} {l l':Lay} (h:LayOk M l) {x:PLine} (hx:LineOk M x) (h0:0<x.ln) (hd:zbI l x=some l'):LayOk M l'∧l'.ents.length≤l.ents.length+1:=by
 unfold zbI at hd
 cases ha:x.args with
 | nil=>rw [ha] at hd;cases hd
 | cons v r=>
   rw [ha] at hd
   simp only at hd
   have hv:=hx.args v (by rw [ha];simp)
   split at hd
   ·split at hd
    ·rename_i hc
     cases hd
     exact ⟨h.place (by omega) (by omega),by simp⟩
    ·cases hd
   ·split at hd
    ·split at hd
     ·rename_i hc
      cases hd
      exact ⟨h.place (zqL (by omega)) hc.2.2.2.2,by simp⟩
     ·cases hd
    ·split at hd
     ·split at hd
      ·rename_i y
       split at hd
       ·have hy:=hx.args y (by rw [ha];simp)
        obtain ⟨g1,g2,g3,g4⟩:=Lay.define_ok h (by have:=hy.2;omega) hd
        exact ⟨g1,by rw [g3];omega⟩
       ·cases hd
      ·cases hd
     ·split at hd
      ·split at hd
       ·rename_i hc
        cases hd
        refine ⟨{ h with ent:=fun e he=>?_ },by simp⟩
        rcases List.mem_append.1 he with he | he
        ·exact h.ent e he
        ·have:e=(v,x.ln,v.col):=by simpa using he
         subst this
         exact ⟨hc.1,h0,hv.1⟩
       ·cases hd
      ·cases hd
theorem znv {M:Nat} {l l':Lay} (h:LayOk M l) {x:PLine} (hx:LineOk M x) (h0:0<x.ln) (hd:zg1 l x=some l'):LayOk M l'∧l'.ents.length≤l.ents.length+1:=by
 rw [zk5] at hd
 have hlab:∃ l1,(if x.lab=[] then some l else l.define x.lab l.pl)=some l1∧LayOk M l1∧l1.ents=l.ents∧zg2 l1 x=some l':=by
  cases hc:(if x.lab=[] then some l else l.define x.lab l.pl) with
  | none=>rw [hc] at hd;cases hd
  | some l1=>
    rw [hc] at hd
    refine ⟨l1,rfl,?_⟩
    split at hc
    ·cases hc;exact ⟨h,rfl,hd⟩
    ·have:=h.pl
     obtain ⟨g1,g2,g3,g4⟩:=Lay.define_ok h (by omega) hc
     exact ⟨g1,g3,hd⟩
 obtain ⟨l1,_,h1,h2,h3⟩:=hlab
 rw [← h2]
 unfold zg2 at h3
 split at h3
 ·exact zwi h1 hx h0 h3
 ·split at h3
  ·cases h3;exact ⟨h1,by omega⟩
  ·split at h3
   ·rename_i hp hpl
    cases h3
    refine ⟨⟨hpl,h1.nms,?_,fun y hy=>?_,fun y hy=>?_,h1.ent⟩,by simp⟩
    ·show List.Pairwise _ (l1.wds++[(l1.pl,x)])
     rw [List.pairwise_append]
     refine ⟨h1.ris,List.pairwise_singleton _ _,fun a ha b hb=>?_⟩
     have:b=(l1.pl,x):=by simpa using hb
     subst this
     exact h1.lt a ha
    ·show y.1<l1.pl+1
     rcases List.mem_append.1 hy with hy | hy
     ·have:=h1.lt y hy;omega
     ·have:y=(l1.pl,x):=by simpa using hy
      subst this
      exact Nat.lt_succ_self _
    ·rcases List.mem_append.1 hy with hy | hy
     ·exact h1.prs y hy
     ·have:y=(l1.pl,x):=by simpa using hy
      subst this
      exact ⟨hx,hp,h0⟩
   ·cases h3
theorem zmv {M:Nat} (xs:List PLine) (l l':Lay) (h:LayOk M l) (hx:∀ x∈xs,LineOk M x∧0<x.ln) (hd:zeh l xs=.ok l'):LayOk M l'∧l'.ents.length≤l.ents.length+xs.length:=by
 induction xs generalizing l with
 | nil=>cases hd;exact ⟨h,by simp⟩
 | cons x r ih=>
   unfold zeh at hd
   cases hc:zg1 l x with
   | none=>rw [hc] at hd;cases hd
   | some l1=>
     rw [hc] at hd
     obtain ⟨g1,g2⟩:=znv h (hx x (by simp)).1 (hx x (by simp)).2 hc
     obtain ⟨g3,g4⟩:=ih l1 g1 (fun y hy=>hx y (by simp [hy])) hd
     exact ⟨g3,by simp;omega⟩
theorem LayOk.wlen {M:Nat} {l:Lay} (h:LayOk M l):l.wds.length≤l.pl:=by
 have key:∀ (w:List (Nat×PLine)) (a p:Nat),a≤p→w.Pairwise (fun a b=>a.1<b.1)→(∀ x∈w,a≤x.1∧x.1<p)→w.length+a≤p:=by
  intro w
  induction w with
  | nil=>intro a p h _ _;simpa using h
  | cons x r ih=>
    intro a p h h1 h2
    rw [List.pairwise_cons] at h1
    have hx:=h2 x (by simp)
    have:=ih (x.1+1) p (by omega) h1.2 fun y hy=>⟨h1.1 y hy,(h2 y (by simp [hy])).2⟩
    simp only [List.length_cons]
    omega
 have:=key l.wds 0 l.pl (Nat.zero_le _) h.ris fun x hx=>⟨Nat.zero_le _,h.lt x hx⟩
 omega
def sizeT (l:Lay):Nat:=match l.wds.getLast? with | none=>0 | some x=>x.1+1
def zcm (nms:Nms) (N:Nat):List (Nat×PLine)→List Wd→Except (Nat×Nat) (List Wd)
 | [],ws=>.ok ws
 | x::r,ws=>if (zaQ nms zaG x.2.prs).2≠0 then .error (x.2.ln,(zaQ nms zaG x.2.prs).2)
   else if ((zbU ((zaQ nms zaG x.2.prs).1.getD 8 0) ((zaQ nms zaG x.2.prs).1.getD 10 0) x.1).any fun t=>decide ((N:Int)<t.1+t.2))=true then .error (x.2.ln,((x.2.prs.head?).map (·.col)).getD 0)
   else zcm nms N r (ws.set x.1 (zaQ nms zaG x.2.prs).1)
def zdB (nms:Nms) (N:Nat):List (Val×Nat×Nat)→Except (Nat×Nat) (List (List UInt8×Int))
 | []=>.ok []
 | e::r=>match zbZ nms e.1.nm with
   | none=>.error e.2
   | some x=>if x<0∨(N:Int)≤x then .error e.2 else match zdB nms N r with
     | .error z=>.error z
     | .ok es=>.ok ((e.1.nm,x)::es)
def zgh (l:Lay):Except (Nat×Nat) (List Wd×List (List UInt8×Int)):=match zcm l.nms (sizeT l) l.wds (List.replicate (sizeT l) zaG) with
 | .error z=>.error z
 | .ok ws=>match zdB l.nms (sizeT l) l.ents with
   | .error z=>.error z
   | .ok es=>.ok (ws,es)
def zk7 (t:List UInt8):Except (Nat×Nat) (List Wd×List (List UInt8×Int)):=match zfs t with
 | .error z=>.error z
 | .ok xs=>match zeh zdH xs with
   | .error z=>.error z
   | .ok l=>zgh l
theorem ziM {M:Nat} {l:Lay} (h:LayOk M l):(∀ x∈l.wds,x.1<sizeT l)∧sizeT l≤2048:=by
 unfold sizeT
 cases hg:l.wds.getLast? with
 | none=>
   have:l.wds=[]:=List.getLast?_eq_none_iff.1 hg
   rw [this]
   exact ⟨fun x hx=>(by cases hx),by simp⟩
 | some y=>
   obtain ⟨w,hw⟩:=List.getLast?_eq_some_iff.1 hg
   have hris:=h.ris
   rw [hw,List.pairwise_append] at hris
   have hy:=h.lt y (by rw [hw];simp)
   have hp:=h.pl
   refine ⟨fun x hx=>?_,by simp only;omega⟩
   rw [hw] at hx
   simp only
   rcases List.mem_append.1 hx with hx | hx
   ·have:=hris.2.2 x hx y (by simp);omega
   ·have:x=y:=by simpa using hx
    subst this
    omega
def zl8 (w:Wd):Prop:=w.length=12∧zdx w=true
theorem zpq {w:Wd}:zdx w=true↔∀ k,k<12→fitsT (w.getD k 0) (zaD k)=true:=by
 unfold zdx
 rw [List.all_eq_true]
 exact ⟨fun h k hk=>h k (List.mem_range.2 hk),fun h k hk=>h k (List.mem_range.1 hk)⟩
theorem zui {w:Wd} (hw:w.length=12) (hg:zdx w=true) (f:List UInt8) (x:Int) (h:(zbk w f x).2=0):zdx (zbk w f x).1=true:=by
 rw [zpq] at hg ⊢
 intro k hk
 unfold zbk at h ⊢
 cases hf:zdw f with
 | none=>rw [hf] at h;cases h
 | some i=>
   rw [hf] at h
   simp only at h
   obtain ⟨_,_,_,hi⟩:=ziG hf
   show fitsT ((if fitsT x (zaD i)=true then (w.set i x,(0:Int)) else (w,1)).1.getD k 0) _=true
   by_cases hfit:fitsT x (zaD i)=true
   ·rw [if_pos hfit]
    by_cases hki:k=i
    ·subst hki
     rw [List.getD_eq_getElem?_getD,List.getElem?_set_self (by omega)]
     exact hfit
    ·rw [List.getD_eq_getElem?_getD,List.getElem?_set_ne (fun e=>hki e.symm),← List.getD_eq_getElem?_getD]
     exact hg k hk
   ·rw [if_neg hfit] at h
    cases h
theorem zuj (nms:Nms) (prs:List Pr) (w:Wd) (hw:w.length=12) (hg:zdx w=true):zdx (zaQ nms w prs).1=true:=by
 induction prs generalizing w with
 | nil=>exact hg
 | cons p r ih=>
   unfold zaQ
   split
   ·exact hg
   ·split
    ·exact hg
    ·split
     ·rename_i h;exact ih _ (by rw [zcw,hw]) (zui hw hg _ _ h)
     ·exact hg
theorem zqM:zl8 zaG:=⟨rfl,by decide+kernel⟩
theorem zoU (nms:Nms) (prs:List Pr):zl8 (zaQ nms zaG prs).1:=⟨by rw [zk4];rfl,zuj nms prs zaG rfl zqM.2⟩
end Go.Proofs.YtifploedaacedaaGreatDoorE
namespace Go.Proofs.YtifploedaacedaaGreatDoorE
open Go Go.E Go.Proofs
structure OL where
 v:Value
 c:List Value
 z:Nat
 n:Nat
structure Owns (B:Nat) (st:SS) (L:List OL):Prop where
 own:∀ (k:Nat) o,L[k]?=some o→Own B st o.v o.c o.z o.n
 dis:∀ (k m:Nat) a b j,L[k]?=some a→L[m]?=some b→blkOf a.v=some j→blkOf b.v=some j→k=m
section
variable {B : Nat} {st st' : SS} {L : List OL}
theorem Owns.ext (h:Owns B st L) (x:Ext st st'):Owns B st' L:=⟨fun k o e=>(h.own k o e).ext x,h.dis⟩
theorem Owns.modLt {S:List Nat} (h:Owns B st L) (m:Mod S st st') (hS:∀ j,j∈S→j<B):Owns B st' L:=⟨fun k o e=>(h.own k o e).modLt m hS,h.dis⟩
theorem Owns.push (h:Owns B st L) {k:Nat} {v:Value} {c row:List Value} {z n bt:Nat} (hk:L[k]?=some ⟨v,c,z,n⟩) (hb:B≤st.next) (hl:st.lim≤B) (hr:row.length=z) (hz:0<z) (h1:row.all one=true) (hs:(n+2)*bt≤2^44) (hn:n+1≤2^44):
  ∃ j s',(st.new (.cells row z)).app z bt v (.slice (some ⟨st.next,0,none⟩) 1 1)=some (.slice (some ⟨j,0,none⟩) (n+1) (n+1),s')∧Owns B s' (L.set k ⟨.slice (some ⟨j,0,none⟩) (n+1) (n+1),c++row,z,n+1⟩)∧Keep B [] st s':=by
 obtain ⟨j,s',g1,g2,g3,g4,g5,g6⟩:=ziL (row:=row) (bt:=bt) (h.own k _ hk) hb hl hr hz h1 hs hn
 have hlt:k<L.length:=(List.getElem?_eq_some_iff.1 hk).1
 have hget:∀ m o,(L.set k ⟨.slice (some ⟨j,0,none⟩) (n+1) (n+1),c++row,z,n+1⟩)[m]?=some o→(m=k∧o=⟨.slice (some ⟨j,0,none⟩) (n+1) (n+1),c++row,z,n+1⟩)∨(m≠k∧L[m]?=some o):=fun m o ho=>by
  by_cases hm:m=k
  ·subst hm
   rw [List.getElem?_set_self hlt] at ho
   cases ho;exact .inl ⟨rfl,rfl⟩
  ·rw [List.getElem?_set_ne (fun e=>hm e.symm)] at ho
   exact .inr ⟨hm,ho⟩
 refine ⟨j,s',g1,⟨fun m o ho=>?_,fun m1 m2 a b q h1 h2 q1 q2=>?_⟩,⟨g5,g4,fun i hi _=>g6 i (by omega) fun e=>by have:=(zcZ (h.own k _ hk) e).1;omega⟩⟩
 ·rcases hget m o ho with ⟨_,rfl⟩ | ⟨hm,ho⟩
  ·exact g3
  ·exact zgg (h.own m o ho) g5 fun i hi e=>g6 i hi fun e'=>hm (h.dis m k _ _ i ho hk e e')
 ·rcases hget m1 a h1 with ⟨e1,rfl⟩ | ⟨e1,h1⟩<;>rcases hget m2 b h2 with ⟨e2,rfl⟩ | ⟨e2,h2⟩
  ·rw [e1,e2]
  ·cases q1
   have:=(zcZ (h.own m2 _ h2) q2).2
   omega
  ·cases q2
   have:=(zcZ (h.own m1 _ h1) q1).2
   omega
  ·exact h.dis m1 m2 a b q h1 h2 q1 q2
end
end Go.Proofs.YtifploedaacedaaGreatDoorE
namespace Go.Proofs.YtifploedaacedaaGreatDoorE
set_option maxRecDepth 20000
open Go Go.E Go.Proofs
def zgA:LoopI:=⟨[(0,.any),(2,.any),(3,.any),(4,.any),(103,.any),(104,.int .i64),(105,.int .i64)],[(.exit 4,[(2,.any),(3,.any),(4,.any)]),(.ret,[(2,.any),(3,.any)])]⟩
def zgB:LoopI:=⟨[(0,.any),(2,.any),(3,.any),(4,.any),(7,.any),(8,.any),(38,.any),(39,.int .i64),(40,.int .i64),(62,.any),(63,.int .i64),(64,.int .i64)],[(.exit 2,[(0,.any),(2,.any),(3,.any),(4,.any),(7,.any),(8,.any),(38,.any),(39,.int .i64),(40,.int .i64)]),(.ret,[(2,.any),(3,.any)])]⟩
def zg3:LoopI:=⟨[(0,.any),(2,.any),(3,.any),(4,.any),(38,.any),(39,.int .i64),(40,.int .i64)],[(.exit 0,[(0,.any),(2,.any),(3,.any),(4,.any)]),(.ret,[(2,.any),(3,.any)])]⟩
def zhc (n:Nat):Option LoopI:=cond (Nat.beq n 6) (some zg3) (cond (Nat.beq n 12) (some zgB) (cond (Nat.beq n 20) (some zgA) (none)))
noncomputable def zds (cf:zam) (lf:zad) (b':Value) (st:SS):Option (Value×SS):=
 let a:SS:=st.new (.cells [.slice none 0 0,.slice none 0 0] 0)
 let b:SS:=a.new (.cells [.int .i64 0,.int .i64 0] 0)
 let c:SS:=b.new (.cells [.slice none 0 0,.slice none 0 0] 0)
 (zak b').bind fun d=>
 (addr? d).bind fun e=>
 (c.ld e.1 (e.2+2)).bind fun f=>
 ((lenV f).bind (asI .i64)).bind fun g=>
 cond (decide (0<g)) (
 (zak b').bind fun h=>
 (addr? h).bind fun i=>
 (c.ld i.1 (i.2+2)).bind fun j=>
 let k:Int:=IntKind.wrap .i64 (g-1)
 (zah j k 6).bind fun l=>
 ((c.ld l.1 l.2).bind (asI .i64)).bind fun m=>
 let n:Int:=IntKind.wrap .i64 (m+1)
 (ze3 n n 8).bind fun _=>
 let o:SS:=c.new (.cells (zdO [.int .u64 0] n) 1)
 (o.st b.next 0 [.slice (some ⟨c.next,0,none⟩) ((n:Int).toNat) ((n:Int).toNat)]).bind fun p=>
 (zak b').bind fun q=>
 (addr? q).bind fun r=>
 (p.ld r.1 (r.2+2)).bind fun s=>
 ((lenV s).bind (asI .i64)).bind fun t=>
 (lf 6 [b',ptr st.next 0,ptr a.next 0,ptr b.next 0,s,.int .i64 t,.int .i64 0] p).bind fun u=>
 cond (Nat.beq u.1 0) (
 (u.2.1[0]?).bind fun v=>
 (u.2.1[1]?).bind fun w=>
 (u.2.1[2]?).bind fun x=>
 (u.2.1[3]?).bind fun y=>
 (zak v).bind fun z=>
 (addr? z).bind fun A=>
 (u.2.2.ld A.1 (A.2+4)).bind fun B=>
 ((lenV B).bind (asI .i64)).bind fun C=>
 (lf 20 [v,w,x,y,B,.int .i64 C,.int .i64 0] u.2.2).bind fun D=>
 cond (Nat.beq D.1 0) (
 (D.2.1[0]?).bind fun E=>
 (D.2.1[1]?).bind fun F=>
 (D.2.1[2]?).bind fun G=>
 (addr? G).bind fun H=>
 (D.2.2.ldN H.1 H.2 2).bind fun I=>
 (addr? E).bind fun J=>
 (D.2.2.stV J.1 J.2 2 I).bind fun K=>
 (addr? F).bind fun L=>
 (K.st L.1 L.2 [.int .i64 0,.int .i64 0]).bind fun M=>
 (addr? E).bind fun N=>
 (M.rdN N.1 N.2 2).bind fun O=>
 (addr? F).bind fun P=>
 (M.rdN P.1 P.2 2).bind fun Q=>
 some (.tuple #[O,Q],M)) (
 (D.2.1[0]?).bind fun R=>
 (D.2.1[1]?).bind fun S=>
 (addr? R).bind fun T=>
 (D.2.2.rdN T.1 T.2 2).bind fun U=>
 (addr? S).bind fun V=>
 (D.2.2.rdN V.1 V.2 2).bind fun W=>
 some (.tuple #[U,W],D.2.2))) (
 (u.2.1[0]?).bind fun X=>
 (u.2.1[1]?).bind fun Y=>
 (addr? X).bind fun Z=>
 (u.2.2.rdN Z.1 Z.2 2).bind fun aA=>
 (addr? Y).bind fun aB=>
 (u.2.2.rdN aB.1 aB.2 2).bind fun aC=>
 some (.tuple #[aA,aC],u.2.2))) (
 (zak b').bind fun aD=>
 (addr? aD).bind fun aE=>
 (c.ld aE.1 (aE.2+2)).bind fun aF=>
 ((lenV aF).bind (asI .i64)).bind fun aG=>
 (lf 6 [b',ptr st.next 0,ptr a.next 0,ptr b.next 0,aF,.int .i64 aG,.int .i64 0] c).bind fun aH=>
 cond (Nat.beq aH.1 0) (
 (aH.2.1[0]?).bind fun aI=>
 (aH.2.1[1]?).bind fun aJ=>
 (aH.2.1[2]?).bind fun aK=>
 (aH.2.1[3]?).bind fun aL=>
 (zak aI).bind fun aM=>
 (addr? aM).bind fun aN=>
 (aH.2.2.ld aN.1 (aN.2+4)).bind fun aO=>
 ((lenV aO).bind (asI .i64)).bind fun aP=>
 (lf 20 [aI,aJ,aK,aL,aO,.int .i64 aP,.int .i64 0] aH.2.2).bind fun aQ=>
 cond (Nat.beq aQ.1 0) (
 (aQ.2.1[0]?).bind fun aR=>
 (aQ.2.1[1]?).bind fun aS=>
 (aQ.2.1[2]?).bind fun aT=>
 (addr? aT).bind fun aU=>
 (aQ.2.2.ldN aU.1 aU.2 2).bind fun aV=>
 (addr? aR).bind fun aW=>
 (aQ.2.2.stV aW.1 aW.2 2 aV).bind fun aX=>
 (addr? aS).bind fun aY=>
 (aX.st aY.1 aY.2 [.int .i64 0,.int .i64 0]).bind fun aZ=>
 (addr? aR).bind fun bA=>
 (aZ.rdN bA.1 bA.2 2).bind fun bB=>
 (addr? aS).bind fun bC=>
 (aZ.rdN bC.1 bC.2 2).bind fun bD=>
 some (.tuple #[bB,bD],aZ)) (
 (aQ.2.1[0]?).bind fun bE=>
 (aQ.2.1[1]?).bind fun bF=>
 (addr? bE).bind fun bG=>
 (aQ.2.2.rdN bG.1 bG.2 2).bind fun bH=>
 (addr? bF).bind fun bI=>
 (aQ.2.2.rdN bI.1 bI.2 2).bind fun bJ=>
 some (.tuple #[bH,bJ],aQ.2.2))) (
 (aH.2.1[0]?).bind fun bK=>
 (aH.2.1[1]?).bind fun bL=>
 (addr? bK).bind fun bM=>
 (aH.2.2.rdN bM.1 bM.2 2).bind fun bN=>
 (addr? bL).bind fun bO=>
 (aH.2.2.rdN bO.1 bO.2 2).bind fun bP=>
 some (.tuple #[bN,bP],aH.2.2)))
noncomputable abbrev zat:zad:=lS Tryz.prog Lk0 Tryz.f44 zhc
theorem zls:Lk0.func 44=some (44,Tryz.f44):=by kernel_rfl
theorem zdC [Sym] (b':Value) (st:SS) {r:Value×SS} (h:zds cc zat b' st=some r):cc 44 [b'] st=some r:=
 zai (li:=zhc) zaj zao zls rfl (fun _=>rfl) (.trans (by kernel_rfl) h)
noncomputable def zcJ (cf:zam) (lf:zad) (b':Value) (t2':Value) (t3':Value) (r':Value) (t38':Value) (t39':Int) (t40':Int) (st:SS):Option (Nat×List Value×SS):=
 cond (decide (t40'<t39')) (
 (zah t38' t40' 6).bind fun a=>
 (st.ldN a.1 a.2 6).bind fun b=>
 let c:SS:=st.new (.cells [.int .i64 0,.int .i64 0,.string ⟨#[]⟩,.string ⟨#[]⟩,.slice none 0 0,.slice none 0 0] 0)
 (c.stV st.next 0 6 b).bind fun d=>
 (d.ldN st.next 1 5).bind fun e=>
 (cf 72 [b',e] d).bind fun f=>
 (zan f.1 0).bind fun g=>
 ((zan f.1 1).bind (asI .i64)).bind fun h=>
 let i:SS:=f.2.new (.cells [.int .i64 0,.int .i64 0,.int .i64 0,.int .i64 0,.int .i64 0,.int .i64 0,.int .i64 0,.int .i64 0,.int .i64 0,.int .i64 0,.int .i64 0,.int .i64 0] 0)
 (i.stV f.2.next 0 12 g).bind fun j=>
 cond (decide (0<h)) (
 ((j.ld st.next 1).bind (asI .i64)).bind fun k=>
 cond (zbt (ptr st.next 1) t2') (
 (addr? t2').bind fun l=>
 (j.st l.1 l.2 [.slice none 0 0,.slice none 0 0]).bind fun m=>
 (addr? t3').bind fun n=>
 (m.st n.1 n.2 [.int .i64 k,.int .i64 h]).bind fun o=>
 some (1,[t2',t3'],o)) (
 none)) (
 (j.ldN f.2.next 0 12).bind fun p=>
 ((j.ld st.next 0).bind (asI .i64)).bind fun q=>
 (cf 62 [p,.int .i64 q] j).bind fun r=>
 ((lenV r.1).bind (asI .i64)).bind fun s=>
 (lf 12 [b',t2',t3',r',ptr st.next 0,ptr f.2.next 0,t38',.int .i64 t39',.int .i64 t40',r.1,.int .i64 s,.int .i64 0] r.2).bind fun t=>
 cond (Nat.beq t.1 0) (
 (t.2.1[0]?).bind fun u=>
 (t.2.1[1]?).bind fun v=>
 (t.2.1[2]?).bind fun w=>
 (t.2.1[3]?).bind fun x=>
 (t.2.1[4]?).bind fun y=>
 (t.2.1[5]?).bind fun z=>
 (t.2.1[6]?).bind fun A=>
 ((t.2.1[7]?).bind (asI .i64)).bind fun B=>
 ((t.2.1[8]?).bind (asI .i64)).bind fun C=>
 (addr? x).bind fun D=>
 (t.2.2.ld D.1 D.2).bind fun E=>
 (addr? y).bind fun F=>
 ((t.2.2.ld F.1 F.2).bind (asI .i64)).bind fun G=>
 (addr? z).bind fun H=>
 (t.2.2.ldN H.1 H.2 12).bind fun I=>
 (cf 73 [I] (t.2.2.ro t.2.2.next)).bind fun J=>
 ((zan J.1 0).bind (asI .u64)).bind fun K=>
 ((zan J.1 1).bind (asI .i64)).bind fun L=>
 (zah E G 1).bind fun M=>
 ((J.2.ro t.2.2.lim).st M.1 M.2 [.int .u64 K]).bind fun N=>
 let O:Int:=IntKind.wrap .i64 (C+1)
 lf 6 [u,v,w,x,A,.int .i64 B,.int .i64 O] N) (
 (t.2.1[0]?).bind fun P=>
 (t.2.1[1]?).bind fun Q=>
 some (1,[P,Q],t.2.2)))) (
 some (0,[b',t2',t3',r'],st))
theorem zcV [Sym] (b':Value) (t2':Value) (t3':Value) (r':Value) (t38':Value) (t39':Int) (t40':Int) (st:SS) {r:Nat×List Value×SS} (h:zcJ cc zat b' t2' t3' r' t38' t39' t40' st=some r):zat 6 [b',t2',t3',r',t38',.int .i64 t39',.int .i64 t40'] st=some r:=
 zav zaj zao (key:=6) (I:=zg3) rfl (by kernel_rfl) (by kernel_rfl) rfl rfl (.trans (by kernel_rfl) h)
noncomputable def zdo (cf:zam) (lf:zad) (b':Value) (t2':Value) (t3':Value) (r':Value) (x':Value) (w':Value) (t38':Value) (t39':Int) (t40':Int) (t62':Value) (t63':Int) (t64':Int) (st:SS):Option (Nat×List Value×SS):=
 cond (decide (t64'<t63')) (
 (zah t62' t64' 2).bind fun a=>
 (st.ldN a.1 a.2 2).bind fun b=>
 let c:SS:=st.new (.cells [.int .i64 0,.int .i64 0] 0)
 (c.stV st.next 0 2 b).bind fun d=>
 (zbl (ptr st.next 0) 2 0 1).bind fun e=>
 ((d.ld e.1 e.2).bind (asI .i64)).bind fun f=>
 (zbl (ptr st.next 0) 2 1 1).bind fun g=>
 ((d.ld g.1 g.2).bind (asI .i64)).bind fun h=>
 let i:Int:=IntKind.wrap .i64 (f+h)
 (addr? r').bind fun j=>
 (d.ld j.1 j.2).bind fun k=>
 ((lenV k).bind (asI .i64)).bind fun l=>
 cond (decide (l<i)) (
 (addr? x').bind fun m=>
 ((d.ld m.1 (m.2+1)).bind (asI .i64)).bind fun n=>
 (addr? x').bind fun o=>
 (d.ld o.1 (o.2+1+4)).bind fun p=>
 (zah p 0 5).bind fun q=>
 ((d.ld q.1 (q.2+1)).bind (asI .i64)).bind fun r=>
 cond (zbt (ptr m.1 (m.2+1)) t2') (
 cond (zbt (ptr o.1 (o.2+1+4)) t2') (
 cond (zbt (ptr q.1 (q.2+1)) t2') (
 (addr? t2').bind fun s=>
 (d.st s.1 s.2 [.slice none 0 0,.slice none 0 0]).bind fun t=>
 (addr? t3').bind fun u=>
 (t.st u.1 u.2 [.int .i64 n,.int .i64 r]).bind fun v=>
 some (1,[t2',t3'],v)) (
 none)) (
 none)) (
 none)) (
 let w:Int:=IntKind.wrap .i64 (t64'+1)
 lf 12 [b',t2',t3',r',x',w',t38',.int .i64 t39',.int .i64 t40',t62',.int .i64 t63',.int .i64 w] d)) (
 some (0,[b',t2',t3',r',x',w',t38',.int .i64 t39',.int .i64 t40'],st))
theorem zdI [Sym] (b':Value) (t2':Value) (t3':Value) (r':Value) (x':Value) (w':Value) (t38':Value) (t39':Int) (t40':Int) (t62':Value) (t63':Int) (t64':Int) (st:SS) {r:Nat×List Value×SS} (h:zdo cc zat b' t2' t3' r' x' w' t38' t39' t40' t62' t63' t64' st=some r):zat 12 [b',t2',t3',r',x',w',t38',.int .i64 t39',.int .i64 t40',t62',.int .i64 t63',.int .i64 t64'] st=some r:=
 zav zaj zao (key:=12) (I:=zgB) rfl (by kernel_rfl) (by kernel_rfl) rfl rfl (.trans (by kernel_rfl) h)
noncomputable def zb0 (cf:zam) (lf:zad) (b':Value) (t2':Value) (t3':Value) (r':Value) (t103':Value) (t104':Int) (t105':Int) (st:SS):Option (Nat×List Value×SS):=
 cond (decide (t105'<t104')) (
 (zah t103' t105' 3).bind fun a=>
 (st.ldN a.1 a.2 3).bind fun b=>
 let c:SS:=st.new (.cells [.string ⟨#[]⟩,.int .i64 0,.int .i64 0] 0)
 (c.stV st.next 0 3 b).bind fun d=>
 (zak b').bind fun e=>
 (addr? e).bind fun f=>
 (d.ld f.1 (f.2+1)).bind fun g=>
 ((d.ld st.next 0).bind asS).bind fun h=>
 (d.mapF g h).bind fun i=>
 zgG i (
 (zak b').bind fun j=>
 (addr? j).bind fun k=>
 (d.ld k.1 (k.2+3)).bind fun l=>
 (zah l t105' 2).bind fun m=>
 (d.ldN m.1 m.2 2).bind fun n=>
 cond (zbt (ptr k.1 (k.2+3)) t2') (
 cond (zbt (ptr m.1 m.2) t2') (
 (addr? t2').bind fun o=>
 (d.st o.1 o.2 [.slice none 0 0,.slice none 0 0]).bind fun p=>
 (addr? t3').bind fun q=>
 (p.stV q.1 q.2 2 n).bind fun r=>
 some (1,[t2',t3'],r)) (
 none)) (
 none)) (fun s=>
 ((zan (.tuple #[s,.bool true]) 0).bind (asI .i64)).bind fun t=>
 cond (decide (t<0)) (
 (zak b').bind fun u=>
 (addr? u).bind fun v=>
 (d.ld v.1 (v.2+3)).bind fun w=>
 (zah w t105' 2).bind fun x=>
 (d.ldN x.1 x.2 2).bind fun y=>
 cond (zbt (ptr v.1 (v.2+3)) t2') (
 cond (zbt (ptr x.1 x.2) t2') (
 (addr? t2').bind fun z=>
 (d.st z.1 z.2 [.slice none 0 0,.slice none 0 0]).bind fun A=>
 (addr? t3').bind fun B=>
 (A.stV B.1 B.2 2 y).bind fun C=>
 some (1,[t2',t3'],C)) (
 none)) (
 none)) (
 (addr? r').bind fun D=>
 (d.ld D.1 D.2).bind fun E=>
 ((lenV E).bind (asI .i64)).bind fun F=>
 cond (decide (F≤t)) (
 (zak b').bind fun G=>
 (addr? G).bind fun H=>
 (d.ld H.1 (H.2+3)).bind fun I=>
 (zah I t105' 2).bind fun J=>
 (d.ldN J.1 J.2 2).bind fun K=>
 cond (zbt (ptr H.1 (H.2+3)) t2') (
 cond (zbt (ptr J.1 J.2) t2') (
 (addr? t2').bind fun L=>
 (d.st L.1 L.2 [.slice none 0 0,.slice none 0 0]).bind fun M=>
 (addr? t3').bind fun N=>
 (M.stV N.1 N.2 2 K).bind fun O=>
 some (1,[t2',t3'],O)) (
 none)) (
 none)) (
 (addr? r').bind fun P=>
 (d.ld P.1 (P.2+1)).bind fun Q=>
 ((d.ld st.next 0).bind asS).bind fun R=>
 let S:SS:=d.new (.cells ([.string R,.int .i64 t]) 2)
 (S.app 2 24 Q (.slice (some ⟨d.next,0,none⟩) 1 1)).bind fun T=>
 (addr? r').bind fun U=>
 (T.2.stV U.1 (U.2+1) 1 T.1).bind fun V=>
 let W:Int:=IntKind.wrap .i64 (t105'+1)
 lf 20 [b',t2',t3',r',t103',.int .i64 t104',.int .i64 W] V)))) (
 some (0,[t2',t3',r'],st))
theorem zb1 [Sym] (b':Value) (t2':Value) (t3':Value) (r':Value) (t103':Value) (t104':Int) (t105':Int) (st:SS) {r:Nat×List Value×SS} (h:zb0 cc zat b' t2' t3' r' t103' t104' t105' st=some r):zat 20 [b',t2',t3',r',t103',.int .i64 t104',.int .i64 t105'] st=some r:=
 zav zaj zao (key:=20) (I:=zgA) rfl (by kernel_rfl) (by kernel_rfl) rfl rfl (.trans (by kernel_rfl) h)
def zhV:LoopI:=⟨[(2,.any),(3,.any),(8,.any),(27,.any),(28,.int .i64),(29,.int .i64)],[(.exit 0,[(2,.any),(3,.any),(8,.any)]),(.ret,[(2,.any),(3,.any),(4,.int .i64)])]⟩
def ziN (n:Nat):Option LoopI:=cond (Nat.beq n 6) (some zhV) (none)
noncomputable def zeM (cf:zam) (lf:zad) (text':ByteArray) (st:SS):Option (Value×SS):=
 let a:SS:=st.new (.cells [.slice none 0 0,.slice none 0 0] 0)
 let b:SS:=a.new (.cells [.int .i64 0,.int .i64 0] 0)
 (cf 42 [.string text'] b).bind fun c=>
 (zan c.1 0).bind fun d=>
 (zan c.1 1).bind fun e=>
 ((zan c.1 2).bind (asI .i64)).bind fun f=>
 let g:SS:=c.2.new (.cells [.int .i64 0,.int .i64 0] 0)
 (g.stV c.2.next 0 2 e).bind fun h=>
 cond (!(decide (f=0))) (
 (h.ldN c.2.next 0 2).bind fun i=>
 cond (zbt (ptr c.2.next 0) (ptr st.next 0)) (
 (h.st st.next 0 [.slice none 0 0,.slice none 0 0]).bind fun j=>
 (j.stV a.next 0 2 i).bind fun k=>
 (k.rdN st.next 0 2).bind fun l=>
 (k.rdN a.next 0 2).bind fun m=>
 some (.tuple #[l,m,.int .i64 f],k)) (
 none)) (
 let n:SS:=h.new (.map [])
 let o:SS:=n.new (.cells [.int .i64 0,.map (some h.next),.slice none 0 0,.slice none 0 0,.slice none 0 0] 0)
 ((lenV d).bind (asI .i64)).bind fun p=>
 (lf 6 [ptr st.next 0,ptr a.next 0,ptr n.next 0,d,.int .i64 p,.int .i64 0] o).bind fun q=>
 cond (Nat.beq q.1 0) (
 (q.2.1[0]?).bind fun s=>
 (q.2.1[1]?).bind fun t=>
 (q.2.1[2]?).bind fun u=>
 (cf 44 [u] q.2.2).bind fun v=>
 (zan v.1 0).bind fun w=>
 (zan v.1 1).bind fun x=>
 let y:SS:=v.2.new (.cells [.slice none 0 0,.slice none 0 0] 0)
 let z:SS:=y.new (.cells [.int .i64 0,.int .i64 0] 0)
 (z.stV v.2.next 0 2 w).bind fun A=>
 (A.stV y.next 0 2 x).bind fun B=>
 (B.ldN y.next 0 2).bind fun C=>
 (((eqA Tryz.prog Lk0 97 C (.agg #[.int .i64 0,.int .i64 0])).bind fun r=>some (.bool !r)).bind asB).bind fun D=>
 cond D (
 (B.ldN y.next 0 2).bind fun E=>
 cond (zbt (ptr y.next 0) s) (
 (addr? s).bind fun F=>
 (B.st F.1 F.2 [.slice none 0 0,.slice none 0 0]).bind fun G=>
 (addr? t).bind fun H=>
 (G.stV H.1 H.2 2 E).bind fun I=>
 (addr? s).bind fun J=>
 (I.rdN J.1 J.2 2).bind fun K=>
 (addr? t).bind fun L=>
 (I.rdN L.1 L.2 2).bind fun M=>
 some (.tuple #[K,M,.int .i64 4],I)) (
 none)) (
 (B.ldN v.2.next 0 2).bind fun N=>
 (addr? s).bind fun O=>
 (B.stV O.1 O.2 2 N).bind fun P=>
 (addr? t).bind fun Q=>
 (P.st Q.1 Q.2 [.int .i64 0,.int .i64 0]).bind fun R=>
 (addr? s).bind fun S=>
 (R.rdN S.1 S.2 2).bind fun T=>
 (addr? t).bind fun U=>
 (R.rdN U.1 U.2 2).bind fun V=>
 some (.tuple #[T,V,.int .i64 0],R))) (
 (q.2.1[0]?).bind fun W=>
 (q.2.1[1]?).bind fun X=>
 ((q.2.1[2]?).bind (asI .i64)).bind fun Y=>
 (addr? W).bind fun Z=>
 (q.2.2.rdN Z.1 Z.2 2).bind fun aA=>
 (addr? X).bind fun aB=>
 (q.2.2.rdN aB.1 aB.2 2).bind fun aC=>
 some (.tuple #[aA,aC,.int .i64 Y],q.2.2)))
noncomputable abbrev zbV:zad:=lS Tryz.prog Lk0 Tryz.f16 ziN
theorem znw:Lk0.func 16=some (16,Tryz.f16):=by kernel_rfl
theorem zeE [Sym] (text':ByteArray) (st:SS) {r:Value×SS} (h:zeM cc zbV text' st=some r):cc 16 [.string text'] st=some r:=
 zai (li:=ziN) zaj zao znw rfl (fun _=>rfl) (.trans (by kernel_rfl) h)
noncomputable def zeF (cf:zam) (lf:zad) (t2':Value) (t3':Value) (b':Value) (t27':Value) (t28':Int) (t29':Int) (st:SS):Option (Nat×List Value×SS):=
 cond (decide (t29'<t28')) (
 (zah t27' t29' 5).bind fun a=>
 (st.ldN a.1 a.2 5).bind fun b=>
 let c:SS:=st.new (.cells [.int .i64 0,.string ⟨#[]⟩,.string ⟨#[]⟩,.slice none 0 0,.slice none 0 0] 0)
 (c.stV st.next 0 5 b).bind fun d=>
 (d.ldN st.next 0 5).bind fun e=>
 (cf 43 [b',e] d).bind fun f=>
 ((some f.1).bind asB).bind fun g=>
 cond (!g) (
 ((f.2.ld st.next 0).bind (asI .i64)).bind fun h=>
 cond (zbt (ptr st.next 0) t2') (
 (addr? t2').bind fun i=>
 (f.2.st i.1 i.2 [.slice none 0 0,.slice none 0 0]).bind fun j=>
 (addr? t3').bind fun k=>
 (j.st k.1 k.2 [.int .i64 h,.int .i64 1]).bind fun l=>
 some (1,[t2',t3',.int .i64 4],l)) (
 none)) (
 let m:Int:=IntKind.wrap .i64 (t29'+1)
 lf 6 [t2',t3',b',t27',.int .i64 t28',.int .i64 m] f.2)) (
 some (0,[t2',t3',b'],st))
theorem ze0 [Sym] (t2':Value) (t3':Value) (b':Value) (t27':Value) (t28':Int) (t29':Int) (st:SS) {r:Nat×List Value×SS} (h:zeF cc zbV t2' t3' b' t27' t28' t29' st=some r):zbV 6 [t2',t3',b',t27',.int .i64 t28',.int .i64 t29'] st=some r:=
 zav zaj zao (key:=6) (I:=zhV) rfl (by kernel_rfl) (by kernel_rfl) rfl rfl (.trans (by kernel_rfl) h)
noncomputable def zcq (cf:zam) (lf:zad) (l':Value) (name':ByteArray) (n':Int) (st:SS):Option (Value×SS):=
 (zak l').bind fun a=>
 (addr? a).bind fun b=>
 (st.ld b.1 b.2).bind fun c=>
 (cf 47 [c,.string name'] st).bind fun d=>
 ((some d.1).bind (asI .i64)).bind fun e=>
 cond (decide (0≤e)) (
 some (.bool false,d.2)) (
 cond (eqT name' ⟨#[]⟩) (
 some (.bool false,d.2)) (
 (zak l').bind fun f=>
 (addr? f).bind fun g=>
 (d.2.ld g.1 g.2).bind fun h=>
 let i:SS:=d.2.new (.cells ([.string name']) 1)
 (i.app 1 16 h (.slice (some ⟨d.2.next,0,none⟩) 1 1)).bind fun j=>
 (zak l').bind fun k=>
 (addr? k).bind fun l=>
 (j.2.stV l.1 l.2 1 j.1).bind fun m=>
 (zak l').bind fun n=>
 (addr? n).bind fun o=>
 (m.ld o.1 (o.2+1)).bind fun p=>
 let q:SS:=m.new (.cells ([.int .i64 n']) 1)
 (q.app 1 8 p (.slice (some ⟨m.next,0,none⟩) 1 1)).bind fun r=>
 (zak l').bind fun s=>
 (addr? s).bind fun t=>
 (r.2.stV t.1 (t.2+1) 1 r.1).bind fun u=>
 some (.bool true,u)))
noncomputable abbrev zhs:zad:=lS Tryz.prog Lk0 Tryz.f74 zaF
theorem zht:Lk0.func 74=some (74,Tryz.f74):=by kernel_rfl
theorem zcL [Sym] (l':Value) (name':ByteArray) (n':Int) (st:SS) {r:Value×SS} (h:zcq cc zhs l' name' n' st=some r):cc 74 [l',.string name',.int .i64 n'] st=some r:=
 zai (li:=zaF) zaj zao zht rfl (fun _=>rfl) (.trans (by kernel_rfl) h)
def zei:LoopI:=⟨[(0,.any),(3,.any),(5,.int .i64),(6,.any),(184,.any),(185,.int .i64),(186,.int .i64)],[(.exit 3,[(0,.any),(3,.any),(5,.int .i64),(6,.any)]),(.ret,[(4,.bool)])]⟩
def zej:LoopI:=⟨[(0,.any),(6,.any)],[(.exit 1,[(0,.any)])]⟩
def zeN (n:Nat):Option LoopI:=cond (Nat.beq n 22) (some zej) (cond (Nat.beq n 29) (some zei) (none))
noncomputable def zbE (cf:zam) (lf:zad) (l':Value) (x':Value) (st:SS):Option (Value×SS):=
 let a:SS:=st.new (.cells (x':Value).cells.toList 0)
 ((a.ld st.next 1).bind asS).bind fun b=>
 cond (!(eqT b ⟨#[]⟩)) (
 ((a.ld st.next 1).bind asS).bind fun c=>
 (zak l').bind fun d=>
 (addr? d).bind fun e=>
 ((a.ld e.1 (e.2+6)).bind (asI .i64)).bind fun f=>
 (cf 74 [l',.string c,.int .i64 f] a).bind fun g=>
 ((some g.1).bind asB).bind fun h=>
 cond (!h) (
 some (.bool false,g.2)) (
 ((g.2.ld st.next 2).bind asS).bind fun i=>
 cond (eqT i ⟨#[]⟩) (
 (g.2.ld st.next 4).bind fun j=>
 ((lenV j).bind (asI .i64)).bind fun k=>
 cond (decide (0<k)) (
 (zak l').bind fun l=>
 (addr? l).bind fun m=>
 (g.2.ld m.1 (m.2+2)).bind fun n=>
 (g.2.ldN st.next 0 5).bind fun o=>
 (zaB o 5).bind fun p=>
 let q:SS:=g.2.new (.cells (p++([])) 5)
 (q.app 5 88 n (.slice (some ⟨g.2.next,0,none⟩) 1 1)).bind fun r=>
 (zak l').bind fun s=>
 (addr? s).bind fun t=>
 (r.2.stV t.1 (t.2+2) 1 r.1).bind fun u=>
 (zak l').bind fun v=>
 (addr? v).bind fun w=>
 (u.ld w.1 (w.2+3)).bind fun x=>
 (zak l').bind fun y=>
 (addr? y).bind fun z=>
 ((u.ld z.1 (z.2+6)).bind (asI .i64)).bind fun A=>
 let B:SS:=u.new (.cells ([.int .i64 A]) 1)
 (B.app 1 8 x (.slice (some ⟨u.next,0,none⟩) 1 1)).bind fun C=>
 (zak l').bind fun D=>
 (addr? D).bind fun E=>
 (C.2.stV E.1 (E.2+3) 1 C.1).bind fun F=>
 (zak l').bind fun G=>
 (addr? G).bind fun H=>
 ((F.ld H.1 (H.2+6)).bind (asI .i64)).bind fun I=>
 let J:Int:=IntKind.wrap .i64 (I+1)
 (zak l').bind fun K=>
 (addr? K).bind fun L=>
 (F.st L.1 (L.2+6) [.int .i64 J]).bind fun M=>
 (zak l').bind fun N=>
 (addr? N).bind fun O=>
 ((M.ld O.1 (O.2+6)).bind (asI .i64)).bind fun P=>
 some (.bool (decide (P≤2048)),M)) (
 (zak l').bind fun Q=>
 (addr? Q).bind fun R=>
 ((g.2.ld R.1 (R.2+6)).bind (asI .i64)).bind fun S=>
 some (.bool (decide (S≤2048)),g.2))) (
 (g.2.ld st.next 3).bind fun T=>
 ((lenV T).bind (asI .i64)).bind fun U=>
 cond (decide (U=0)) (
 some (.bool false,g.2)) (
 (g.2.ld st.next 3).bind fun V=>
 (zah V 0 3).bind fun W=>
 (g.2.ldN W.1 W.2 3).bind fun X=>
 let Y:SS:=g.2.new (.cells [.string ⟨#[]⟩,.int .i64 0,.int .i64 0] 0)
 (Y.stV g.2.next 0 3 X).bind fun Z=>
 ((Z.ld st.next 2).bind asS).bind fun aA=>
 cond (eqT aA ⟨#[111,114,103]⟩) (
 cond (decide (U=1)) (
 ((Z.ld g.2.next 0).bind asS).bind fun aB=>
 cond (eqT aB ⟨#[]⟩) (
 ((Z.ld g.2.next 1).bind (asI .i64)).bind fun aC=>
 (zak l').bind fun aD=>
 (addr? aD).bind fun aE=>
 ((Z.ld aE.1 (aE.2+6)).bind (asI .i64)).bind fun aF=>
 cond (decide (aF≤aC)) (
 ((Z.ld g.2.next 1).bind (asI .i64)).bind fun aG=>
 cond (decide (aG≤2048)) (
 ((Z.ld g.2.next 1).bind (asI .i64)).bind fun aH=>
 (zak l').bind fun aI=>
 (addr? aI).bind fun aJ=>
 (Z.st aJ.1 (aJ.2+6) [.int .i64 aH]).bind fun aK=>
 some (.bool (decide (aG≤2048)),aK)) (
 some (.bool (decide (aG≤2048)),Z))) (
 some (.bool false,Z))) (
 some (.bool false,Z))) (
 some (.bool false,Z))) (
 cond (eqT aA ⟨#[97,108,105,103,110]⟩) (
 cond (!(decide (U=1))) (
 some (.bool false,Z)) (
 ((Z.ld g.2.next 0).bind asS).bind fun aL=>
 cond (!(eqT aL ⟨#[]⟩)) (
 some (.bool false,Z)) (
 ((Z.ld g.2.next 1).bind (asI .i64)).bind fun aM=>
 cond (decide (aM<1)) (
 some (.bool false,Z)) (
 ((Z.ld g.2.next 1).bind (asI .i64)).bind fun aN=>
 cond (decide (2048<aN)) (
 some (.bool false,Z)) (
 (lf 22 [l',ptr g.2.next 0] Z).bind fun aO=>
 (aO.2.1[0]?).bind fun aP=>
 (zak aP).bind fun aQ=>
 (addr? aQ).bind fun aR=>
 ((aO.2.2.ld aR.1 (aR.2+6)).bind (asI .i64)).bind fun aS=>
 some (.bool (decide (aS≤2048)),aO.2.2)))))) (
 cond (eqT aA ⟨#[115,101,116]⟩) (
 cond (decide (U=2)) (
 ((Z.ld g.2.next 0).bind asS).bind fun aT=>
 cond (!(eqT aT ⟨#[]⟩)) (
 ((Z.ld g.2.next 1).bind (asI .i64)).bind fun aU=>
 cond (decide (aU=0)) (
 (Z.ld st.next 3).bind fun aV=>
 (zah aV 1 3).bind fun aW=>
 ((Z.ld aW.1 aW.2).bind asS).bind fun aX=>
 cond (eqT aX ⟨#[]⟩) (
 ((Z.ld g.2.next 0).bind asS).bind fun aY=>
 (Z.ld st.next 3).bind fun aZ=>
 (zah aZ 1 3).bind fun bA=>
 ((Z.ld bA.1 (bA.2+1)).bind (asI .i64)).bind fun bB=>
 (cf 74 [l',.string aY,.int .i64 bB] Z).bind fun bC=>
 ((some bC.1).bind asB).bind fun bD=>
 some (.bool bD,bC.2)) (
 some (.bool false,Z))) (
 some (.bool false,Z))) (
 some (.bool false,Z))) (
 some (.bool false,Z))) (
 cond (eqT aA ⟨#[101,110,116,114,121]⟩) (
 (zak l').bind fun bE=>
 (addr? bE).bind fun bF=>
 (Z.ld bF.1 (bF.2+4)).bind fun bG=>
 ((lenV bG).bind (asI .i64)).bind fun bH=>
 (lf 29 [l',ptr st.next 0,.int .i64 U,ptr g.2.next 0,bG,.int .i64 bH,.int .i64 0] Z).bind fun bI=>
 cond (Nat.beq bI.1 0) (
 (bI.2.1[0]?).bind fun bJ=>
 (bI.2.1[1]?).bind fun bK=>
 ((bI.2.1[2]?).bind (asI .i64)).bind fun bL=>
 (bI.2.1[3]?).bind fun bM=>
 cond (!(decide (bL=1))) (
 some (.bool false,bI.2.2)) (
 (addr? bM).bind fun bN=>
 ((bI.2.2.ld bN.1 bN.2).bind asS).bind fun bO=>
 cond (eqT bO ⟨#[]⟩) (
 some (.bool false,bI.2.2)) (
 (addr? bM).bind fun bP=>
 ((bI.2.2.ld bP.1 (bP.2+1)).bind (asI .i64)).bind fun bQ=>
 cond (!(decide (bQ=0))) (
 some (.bool false,bI.2.2)) (
 (zak bJ).bind fun bR=>
 (addr? bR).bind fun bS=>
 (bI.2.2.ld bS.1 (bS.2+4)).bind fun bT=>
 (addr? bM).bind fun bU=>
 (bI.2.2.ldN bU.1 bU.2 3).bind fun bV=>
 (zaB bV 3).bind fun bW=>
 let bX:SS:=bI.2.2.new (.cells (bW++([])) 3)
 (bX.app 3 32 bT (.slice (some ⟨bI.2.2.next,0,none⟩) 1 1)).bind fun bY=>
 (zak bJ).bind fun bZ=>
 (addr? bZ).bind fun cA=>
 (bY.2.stV cA.1 (cA.2+4) 1 bY.1).bind fun cB=>
 (zak bJ).bind fun cC=>
 (addr? cC).bind fun cD=>
 (cB.ld cD.1 (cD.2+5)).bind fun cE=>
 (addr? bK).bind fun cF=>
 ((cB.ld cF.1 cF.2).bind (asI .i64)).bind fun cG=>
 (addr? bM).bind fun cH=>
 ((cB.ld cH.1 (cH.2+2)).bind (asI .i64)).bind fun cI=>
 let cJ:SS:=cB.new (.cells ([.int .i64 cG,.int .i64 cI]) 2)
 (cJ.app 2 16 cE (.slice (some ⟨cB.next,0,none⟩) 1 1)).bind fun cK=>
 (zak bJ).bind fun cL=>
 (addr? cL).bind fun cM=>
 (cK.2.stV cM.1 (cM.2+5) 1 cK.1).bind fun cN=>
 some (.bool true,cN))))) (
 ((bI.2.1[0]?).bind asB).bind fun cO=>
 some (.bool cO,bI.2.2))) (
 some (.bool false,Z))))))))) (
 ((a.ld st.next 2).bind asS).bind fun cP=>
 cond (eqT cP ⟨#[]⟩) (
 (a.ld st.next 4).bind fun cQ=>
 ((lenV cQ).bind (asI .i64)).bind fun cR=>
 cond (decide (0<cR)) (
 (zak l').bind fun cS=>
 (addr? cS).bind fun cT=>
 (a.ld cT.1 (cT.2+2)).bind fun cU=>
 (a.ldN st.next 0 5).bind fun cV=>
 (zaB cV 5).bind fun cW=>
 let cX:SS:=a.new (.cells (cW++([])) 5)
 (cX.app 5 88 cU (.slice (some ⟨a.next,0,none⟩) 1 1)).bind fun cY=>
 (zak l').bind fun cZ=>
 (addr? cZ).bind fun dA=>
 (cY.2.stV dA.1 (dA.2+2) 1 cY.1).bind fun dB=>
 (zak l').bind fun dC=>
 (addr? dC).bind fun dD=>
 (dB.ld dD.1 (dD.2+3)).bind fun dE=>
 (zak l').bind fun dF=>
 (addr? dF).bind fun dG=>
 ((dB.ld dG.1 (dG.2+6)).bind (asI .i64)).bind fun dH=>
 let dI:SS:=dB.new (.cells ([.int .i64 dH]) 1)
 (dI.app 1 8 dE (.slice (some ⟨dB.next,0,none⟩) 1 1)).bind fun dJ=>
 (zak l').bind fun dK=>
 (addr? dK).bind fun dL=>
 (dJ.2.stV dL.1 (dL.2+3) 1 dJ.1).bind fun dM=>
 (zak l').bind fun dN=>
 (addr? dN).bind fun dO=>
 ((dM.ld dO.1 (dO.2+6)).bind (asI .i64)).bind fun dP=>
 let dQ:Int:=IntKind.wrap .i64 (dP+1)
 (zak l').bind fun dR=>
 (addr? dR).bind fun dS=>
 (dM.st dS.1 (dS.2+6) [.int .i64 dQ]).bind fun dT=>
 (zak l').bind fun dU=>
 (addr? dU).bind fun dV=>
 ((dT.ld dV.1 (dV.2+6)).bind (asI .i64)).bind fun dW=>
 some (.bool (decide (dW≤2048)),dT)) (
 (zak l').bind fun dX=>
 (addr? dX).bind fun dY=>
 ((a.ld dY.1 (dY.2+6)).bind (asI .i64)).bind fun dZ=>
 some (.bool (decide (dZ≤2048)),a))) (
 (a.ld st.next 3).bind fun gA=>
 ((lenV gA).bind (asI .i64)).bind fun gB=>
 cond (decide (gB=0)) (
 some (.bool false,a)) (
 (a.ld st.next 3).bind fun gC=>
 (zah gC 0 3).bind fun gD=>
 (a.ldN gD.1 gD.2 3).bind fun gE=>
 let gF:SS:=a.new (.cells [.string ⟨#[]⟩,.int .i64 0,.int .i64 0] 0)
 (gF.stV a.next 0 3 gE).bind fun gG=>
 ((gG.ld st.next 2).bind asS).bind fun gH=>
 cond (eqT gH ⟨#[111,114,103]⟩) (
 cond (decide (gB=1)) (
 ((gG.ld a.next 0).bind asS).bind fun gI=>
 cond (eqT gI ⟨#[]⟩) (
 ((gG.ld a.next 1).bind (asI .i64)).bind fun gJ=>
 (zak l').bind fun gK=>
 (addr? gK).bind fun gL=>
 ((gG.ld gL.1 (gL.2+6)).bind (asI .i64)).bind fun gM=>
 cond (decide (gM≤gJ)) (
 ((gG.ld a.next 1).bind (asI .i64)).bind fun gN=>
 cond (decide (gN≤2048)) (
 ((gG.ld a.next 1).bind (asI .i64)).bind fun gO=>
 (zak l').bind fun gP=>
 (addr? gP).bind fun gQ=>
 (gG.st gQ.1 (gQ.2+6) [.int .i64 gO]).bind fun gR=>
 some (.bool (decide (gN≤2048)),gR)) (
 some (.bool (decide (gN≤2048)),gG))) (
 some (.bool false,gG))) (
 some (.bool false,gG))) (
 some (.bool false,gG))) (
 cond (eqT gH ⟨#[97,108,105,103,110]⟩) (
 cond (!(decide (gB=1))) (
 some (.bool false,gG)) (
 ((gG.ld a.next 0).bind asS).bind fun gS=>
 cond (!(eqT gS ⟨#[]⟩)) (
 some (.bool false,gG)) (
 ((gG.ld a.next 1).bind (asI .i64)).bind fun gT=>
 cond (decide (gT<1)) (
 some (.bool false,gG)) (
 ((gG.ld a.next 1).bind (asI .i64)).bind fun gU=>
 cond (decide (2048<gU)) (
 some (.bool false,gG)) (
 (lf 22 [l',ptr a.next 0] gG).bind fun gV=>
 (gV.2.1[0]?).bind fun gW=>
 (zak gW).bind fun gX=>
 (addr? gX).bind fun gY=>
 ((gV.2.2.ld gY.1 (gY.2+6)).bind (asI .i64)).bind fun gZ=>
 some (.bool (decide (gZ≤2048)),gV.2.2)))))) (
 cond (eqT gH ⟨#[115,101,116]⟩) (
 cond (decide (gB=2)) (
 ((gG.ld a.next 0).bind asS).bind fun hA=>
 cond (!(eqT hA ⟨#[]⟩)) (
 ((gG.ld a.next 1).bind (asI .i64)).bind fun hB=>
 cond (decide (hB=0)) (
 (gG.ld st.next 3).bind fun hC=>
 (zah hC 1 3).bind fun hD=>
 ((gG.ld hD.1 hD.2).bind asS).bind fun hE=>
 cond (eqT hE ⟨#[]⟩) (
 ((gG.ld a.next 0).bind asS).bind fun hF=>
 (gG.ld st.next 3).bind fun hG=>
 (zah hG 1 3).bind fun hH=>
 ((gG.ld hH.1 (hH.2+1)).bind (asI .i64)).bind fun hI=>
 (cf 74 [l',.string hF,.int .i64 hI] gG).bind fun hJ=>
 ((some hJ.1).bind asB).bind fun hK=>
 some (.bool hK,hJ.2)) (
 some (.bool false,gG))) (
 some (.bool false,gG))) (
 some (.bool false,gG))) (
 some (.bool false,gG))) (
 cond (eqT gH ⟨#[101,110,116,114,121]⟩) (
 (zak l').bind fun hL=>
 (addr? hL).bind fun hM=>
 (gG.ld hM.1 (hM.2+4)).bind fun hN=>
 ((lenV hN).bind (asI .i64)).bind fun hO=>
 (lf 29 [l',ptr st.next 0,.int .i64 gB,ptr a.next 0,hN,.int .i64 hO,.int .i64 0] gG).bind fun hP=>
 cond (Nat.beq hP.1 0) (
 (hP.2.1[0]?).bind fun hQ=>
 (hP.2.1[1]?).bind fun hR=>
 ((hP.2.1[2]?).bind (asI .i64)).bind fun hS=>
 (hP.2.1[3]?).bind fun hT=>
 cond (!(decide (hS=1))) (
 some (.bool false,hP.2.2)) (
 (addr? hT).bind fun hU=>
 ((hP.2.2.ld hU.1 hU.2).bind asS).bind fun hV=>
 cond (eqT hV ⟨#[]⟩) (
 some (.bool false,hP.2.2)) (
 (addr? hT).bind fun hW=>
 ((hP.2.2.ld hW.1 (hW.2+1)).bind (asI .i64)).bind fun hX=>
 cond (!(decide (hX=0))) (
 some (.bool false,hP.2.2)) (
 (zak hQ).bind fun hY=>
 (addr? hY).bind fun hZ=>
 (hP.2.2.ld hZ.1 (hZ.2+4)).bind fun iA=>
 (addr? hT).bind fun iB=>
 (hP.2.2.ldN iB.1 iB.2 3).bind fun iC=>
 (zaB iC 3).bind fun iD=>
 let iE:SS:=hP.2.2.new (.cells (iD++([])) 3)
 (iE.app 3 32 iA (.slice (some ⟨hP.2.2.next,0,none⟩) 1 1)).bind fun iF=>
 (zak hQ).bind fun iG=>
 (addr? iG).bind fun iH=>
 (iF.2.stV iH.1 (iH.2+4) 1 iF.1).bind fun iI=>
 (zak hQ).bind fun iJ=>
 (addr? iJ).bind fun iK=>
 (iI.ld iK.1 (iK.2+5)).bind fun iL=>
 (addr? hR).bind fun iM=>
 ((iI.ld iM.1 iM.2).bind (asI .i64)).bind fun iN=>
 (addr? hT).bind fun iO=>
 ((iI.ld iO.1 (iO.2+2)).bind (asI .i64)).bind fun iP=>
 let iQ:SS:=iI.new (.cells ([.int .i64 iN,.int .i64 iP]) 2)
 (iQ.app 2 16 iL (.slice (some ⟨iI.next,0,none⟩) 1 1)).bind fun iR=>
 (zak hQ).bind fun iS=>
 (addr? iS).bind fun iT=>
 (iR.2.stV iT.1 (iT.2+5) 1 iR.1).bind fun iU=>
 some (.bool true,iU))))) (
 ((hP.2.1[0]?).bind asB).bind fun iV=>
 some (.bool iV,hP.2.2))) (
 some (.bool false,gG))))))))
noncomputable abbrev zaw:zad:=lS Tryz.prog Lk0 Tryz.f45 zeN
theorem zhQ:Lk0.func 45=some (45,Tryz.f45):=by kernel_rfl
theorem zda [Sym] (l':Value) (x':Value) (st:SS) {r:Value×SS} (h:zbE cc zaw l' x' st=some r):cc 45 [l',x'] st=some r:=
 zai (li:=zeN) zaj zao zhQ rfl (fun _=>rfl) (.trans (by kernel_rfl) h)
noncomputable def zc0 (cf:zam) (lf:zad) (l':Value) (v':Value) (st:SS):Option (Nat×List Value×SS):=
 (zak l').bind fun a=>
 (addr? a).bind fun b=>
 ((st.ld b.1 (b.2+6)).bind (asI .i64)).bind fun c=>
 (addr? v').bind fun d=>
 ((st.ld d.1 (d.2+1)).bind (asI .i64)).bind fun e=>
 ((aI .rem .i64 c e).bind (asI .i64)).bind fun f=>
 cond (!(decide (f=0))) (
 (zak l').bind fun g=>
 (addr? g).bind fun h=>
 ((st.ld h.1 (h.2+6)).bind (asI .i64)).bind fun i=>
 let j:Int:=IntKind.wrap .i64 (i+1)
 (zak l').bind fun k=>
 (addr? k).bind fun l=>
 (st.st l.1 (l.2+6) [.int .i64 j]).bind fun m=>
 lf 22 [l',v'] m) (
 some (0,[l'],st))
theorem zdW [Sym] (l':Value) (v':Value) (st:SS) {r:Nat×List Value×SS} (h:zc0 cc zaw l' v' st=some r):zaw 22 [l',v'] st=some r:=
 zav zaj zao (key:=22) (I:=zej) rfl (by kernel_rfl) (by kernel_rfl) rfl rfl (.trans (by kernel_rfl) h)
noncomputable def zb6 (cf:zam) (lf:zad) (l':Value) (x':Value) (n':Int) (v':Value) (t184':Value) (t185':Int) (t186':Int) (st:SS):Option (Nat×List Value×SS):=
 cond (decide (t186'<t185')) (
 (zah t184' t186' 3).bind fun a=>
 (st.ldN a.1 a.2 3).bind fun b=>
 let c:SS:=st.new (.cells [.string ⟨#[]⟩,.int .i64 0,.int .i64 0] 0)
 (c.stV st.next 0 3 b).bind fun d=>
 ((d.ld st.next 0).bind asS).bind fun e=>
 (addr? v').bind fun f=>
 ((d.ld f.1 f.2).bind asS).bind fun g=>
 cond (eqT e g) (
 some (1,[.bool false],d)) (
 let h:Int:=IntKind.wrap .i64 (t186'+1)
 lf 29 [l',x',.int .i64 n',v',t184',.int .i64 t185',.int .i64 h] d)) (
 some (0,[l',x',.int .i64 n',v'],st))
theorem zcy [Sym] (l':Value) (x':Value) (n':Int) (v':Value) (t184':Value) (t185':Int) (t186':Int) (st:SS) {r:Nat×List Value×SS} (h:zb6 cc zaw l' x' n' v' t184' t185' t186' st=some r):zaw 29 [l',x',.int .i64 n',v',t184',.int .i64 t185',.int .i64 t186'] st=some r:=
 zav zaj zao (key:=29) (I:=zei) rfl (by kernel_rfl) (by kernel_rfl) rfl rfl (.trans (by kernel_rfl) h)
def zen:LoopI:=⟨[(0,.any),(4,.any),(6,.any),(15,.any),(16,.int .i64),(17,.int .i64)],[(.exit 0,[(4,.any),(6,.any)]),(.ret,[(4,.any),(5,.int .i64)])]⟩
def zeO (n:Nat):Option LoopI:=cond (Nat.beq n 3) (some zen) (none)
noncomputable def zdJ (cf:zam) (lf:zad) (l':Value) (x':Value) (st:SS):Option (Value×SS):=
 let a:SS:=(st.ro st.next).new (.cells (x':Value).cells.toList 0)
 let b:SS:=a.new (.cells [.int .i64 0,.int .i64 0,.int .i64 0,.int .i64 0,.int .i64 0,.int .i64 0,.int .i64 0,.int .i64 0,.int .i64 0,.int .i64 0,.int .i64 0,.int .i64 0] 0)
 let c:SS:=b.new (.cells [.int .i64 0,.int .i64 0,.int .i64 0,.int .i64 0,.int .i64 0,.int .i64 0,.int .i64 0,.int .i64 0,.int .i64 0,.int .i64 0,.int .i64 0,.int .i64 0] 0)
 (c.ld ((st.ro st.next).next) 4).bind fun d=>
 ((lenV d).bind (asI .i64)).bind fun e=>
 (lf 3 [l',ptr a.next 0,ptr b.next 0,d,.int .i64 e,.int .i64 0] c).bind fun f=>
 cond (Nat.beq f.1 0) (
 (f.2.1[0]?).bind fun g=>
 (f.2.1[1]?).bind fun h=>
 (addr? h).bind fun i=>
 (f.2.2.ldN i.1 i.2 12).bind fun j=>
 (addr? g).bind fun k=>
 (f.2.2.stV k.1 k.2 12 j).bind fun l=>
 (addr? g).bind fun m=>
 (l.rdN m.1 m.2 12).bind fun n=>
 cond (flat3 (.tuple #[n,.int .i64 0])) (some (.tuple #[n,.int .i64 0],st.adv l.next)) none) (
 (f.2.1[0]?).bind fun o=>
 ((f.2.1[1]?).bind (asI .i64)).bind fun p=>
 (addr? o).bind fun q=>
 (f.2.2.rdN q.1 q.2 12).bind fun r=>
 cond (flat3 (.tuple #[r,.int .i64 p])) (some (.tuple #[r,.int .i64 p],st.adv f.2.2.next)) none)
noncomputable abbrev zaH:zad:=lS Tryz.prog Lk0 Tryz.f46 zeO
theorem zhR:Lk0.func 46=some (46,Tryz.f46):=by kernel_rfl
theorem zeP [Sym] (l':Value) (x':Value) (st:SS) {r:Value×SS} (h:zdJ cc zaH l' x' st=some r):cc 46 [l',x'] st=some r:=
 zai (li:=zeO) zaj zao zhR rfl (fun _=>rfl) (.trans (by kernel_rfl) h)
noncomputable def za6 (cf:zam) (lf:zad) (l':Value) (t4':Value) (w':Value) (t15':Value) (t16':Int) (t17':Int) (st:SS):Option (Nat×List Value×SS):=
 cond (decide (t17'<t16')) (
 (zah t15' t17' 5).bind fun a=>
 (st.ldN a.1 a.2 5).bind fun b=>
 let c:SS:=st.new (.cells [.string ⟨#[]⟩,.int .i64 0,.string ⟨#[]⟩,.int .i64 0,.int .i64 0] 0)
 (c.stV st.next 0 5 b).bind fun d=>
 ((d.ld st.next 0).bind asS).bind fun e=>
 (cf 75 [.string e] d).bind fun f=>
 ((some f.1).bind (asI .i64)).bind fun g=>
 cond (decide (g<0)) (
 (addr? w').bind fun h=>
 (f.2.ldN h.1 h.2 12).bind fun i=>
 ((f.2.ld st.next 1).bind (asI .i64)).bind fun j=>
 cond (zbt (ptr st.next 1) t4') (
 (addr? t4').bind fun k=>
 (f.2.stV k.1 k.2 12 i).bind fun l=>
 some (1,[t4',.int .i64 j],l)) (
 none)) (
 ((f.2.ld st.next 3).bind (asI .i64)).bind fun m=>
 ((f.2.ld st.next 2).bind asS).bind fun n=>
 cond (!(eqT n ⟨#[]⟩)) (
 ((f.2.ld st.next 0).bind asS).bind fun o=>
 (cf 76 [.string o] (f.2.ro f.2.next)).bind fun p=>
 (((p.2.ro f.2.lim).ld st.next 2).bind asS).bind fun q=>
 (cf 47 [p.1,.string q] (p.2.ro f.2.lim)).bind fun r=>
 ((some r.1).bind (asI .i64)).bind fun s=>
 (zak l').bind fun t=>
 (addr? t).bind fun u=>
 (r.2.ld u.1 u.2).bind fun v=>
 ((r.2.ld st.next 2).bind asS).bind fun w=>
 (cf 47 [v,.string w] r.2).bind fun x=>
 ((some x.1).bind (asI .i64)).bind fun y=>
 cond (decide (s<0)) (
 cond (decide (y<0)) (
 (addr? w').bind fun z=>
 (x.2.ldN z.1 z.2 12).bind fun A=>
 ((x.2.ld st.next 4).bind (asI .i64)).bind fun B=>
 cond (zbt (ptr st.next 4) t4') (
 (addr? t4').bind fun C=>
 (x.2.stV C.1 C.2 12 A).bind fun D=>
 some (1,[t4',.int .i64 B],D)) (
 none)) (
 cond (decide (0≤s)) (
 let E:Int:=IntKind.wrap .i64 (m+s)
 (addr? w').bind fun F=>
 (x.2.ldN F.1 F.2 12).bind fun G=>
 ((x.2.ld st.next 0).bind asS).bind fun H=>
 (cf 77 [G,.string H,.int .i64 E] x.2).bind fun I=>
 (zan I.1 0).bind fun J=>
 ((zan I.1 1).bind (asI .i64)).bind fun K=>
 let L:SS:=I.2.new (.cells [.int .i64 0,.int .i64 0,.int .i64 0,.int .i64 0,.int .i64 0,.int .i64 0,.int .i64 0,.int .i64 0,.int .i64 0,.int .i64 0,.int .i64 0,.int .i64 0] 0)
 (L.stV I.2.next 0 12 J).bind fun M=>
 cond (!(decide (K=0))) (
 (addr? w').bind fun N=>
 (M.ldN N.1 N.2 12).bind fun O=>
 ((M.ld st.next 4).bind (asI .i64)).bind fun P=>
 cond (zbt (ptr st.next 4) t4') (
 (addr? t4').bind fun Q=>
 (M.stV Q.1 Q.2 12 O).bind fun R=>
 some (1,[t4',.int .i64 P],R)) (
 none)) (
 (M.ldN I.2.next 0 12).bind fun S=>
 (addr? w').bind fun T=>
 (M.stV T.1 T.2 12 S).bind fun U=>
 let V:Int:=IntKind.wrap .i64 (t17'+1)
 lf 3 [l',t4',w',t15',.int .i64 t16',.int .i64 V] U)) (
 (zak l').bind fun W=>
 (addr? W).bind fun X=>
 (x.2.ld X.1 (X.2+1)).bind fun Y=>
 (zah Y y 1).bind fun Z=>
 ((x.2.ld Z.1 Z.2).bind (asI .i64)).bind fun aA=>
 let aB:Int:=IntKind.wrap .i64 (m+aA)
 (addr? w').bind fun aC=>
 (x.2.ldN aC.1 aC.2 12).bind fun aD=>
 ((x.2.ld st.next 0).bind asS).bind fun aE=>
 (cf 77 [aD,.string aE,.int .i64 aB] x.2).bind fun aF=>
 (zan aF.1 0).bind fun aG=>
 ((zan aF.1 1).bind (asI .i64)).bind fun aH=>
 let aI:SS:=aF.2.new (.cells [.int .i64 0,.int .i64 0,.int .i64 0,.int .i64 0,.int .i64 0,.int .i64 0,.int .i64 0,.int .i64 0,.int .i64 0,.int .i64 0,.int .i64 0,.int .i64 0] 0)
 (aI.stV aF.2.next 0 12 aG).bind fun aJ=>
 cond (!(decide (aH=0))) (
 (addr? w').bind fun aK=>
 (aJ.ldN aK.1 aK.2 12).bind fun aL=>
 ((aJ.ld st.next 4).bind (asI .i64)).bind fun aM=>
 cond (zbt (ptr st.next 4) t4') (
 (addr? t4').bind fun aN=>
 (aJ.stV aN.1 aN.2 12 aL).bind fun aO=>
 some (1,[t4',.int .i64 aM],aO)) (
 none)) (
 (aJ.ldN aF.2.next 0 12).bind fun aP=>
 (addr? w').bind fun aQ=>
 (aJ.stV aQ.1 aQ.2 12 aP).bind fun aR=>
 let aS:Int:=IntKind.wrap .i64 (t17'+1)
 lf 3 [l',t4',w',t15',.int .i64 t16',.int .i64 aS] aR)))) (
 cond (decide (0≤s)) (
 let aT:Int:=IntKind.wrap .i64 (m+s)
 (addr? w').bind fun aU=>
 (x.2.ldN aU.1 aU.2 12).bind fun aV=>
 ((x.2.ld st.next 0).bind asS).bind fun aW=>
 (cf 77 [aV,.string aW,.int .i64 aT] x.2).bind fun aX=>
 (zan aX.1 0).bind fun aY=>
 ((zan aX.1 1).bind (asI .i64)).bind fun aZ=>
 let bA:SS:=aX.2.new (.cells [.int .i64 0,.int .i64 0,.int .i64 0,.int .i64 0,.int .i64 0,.int .i64 0,.int .i64 0,.int .i64 0,.int .i64 0,.int .i64 0,.int .i64 0,.int .i64 0] 0)
 (bA.stV aX.2.next 0 12 aY).bind fun bB=>
 cond (!(decide (aZ=0))) (
 (addr? w').bind fun bC=>
 (bB.ldN bC.1 bC.2 12).bind fun bD=>
 ((bB.ld st.next 4).bind (asI .i64)).bind fun bE=>
 cond (zbt (ptr st.next 4) t4') (
 (addr? t4').bind fun bF=>
 (bB.stV bF.1 bF.2 12 bD).bind fun bG=>
 some (1,[t4',.int .i64 bE],bG)) (
 none)) (
 (bB.ldN aX.2.next 0 12).bind fun bH=>
 (addr? w').bind fun bI=>
 (bB.stV bI.1 bI.2 12 bH).bind fun bJ=>
 let bK:Int:=IntKind.wrap .i64 (t17'+1)
 lf 3 [l',t4',w',t15',.int .i64 t16',.int .i64 bK] bJ)) (
 (zak l').bind fun bL=>
 (addr? bL).bind fun bM=>
 (x.2.ld bM.1 (bM.2+1)).bind fun bN=>
 (zah bN y 1).bind fun bO=>
 ((x.2.ld bO.1 bO.2).bind (asI .i64)).bind fun bP=>
 let bQ:Int:=IntKind.wrap .i64 (m+bP)
 (addr? w').bind fun bR=>
 (x.2.ldN bR.1 bR.2 12).bind fun bS=>
 ((x.2.ld st.next 0).bind asS).bind fun bT=>
 (cf 77 [bS,.string bT,.int .i64 bQ] x.2).bind fun bU=>
 (zan bU.1 0).bind fun bV=>
 ((zan bU.1 1).bind (asI .i64)).bind fun bW=>
 let bX:SS:=bU.2.new (.cells [.int .i64 0,.int .i64 0,.int .i64 0,.int .i64 0,.int .i64 0,.int .i64 0,.int .i64 0,.int .i64 0,.int .i64 0,.int .i64 0,.int .i64 0,.int .i64 0] 0)
 (bX.stV bU.2.next 0 12 bV).bind fun bY=>
 cond (!(decide (bW=0))) (
 (addr? w').bind fun bZ=>
 (bY.ldN bZ.1 bZ.2 12).bind fun cA=>
 ((bY.ld st.next 4).bind (asI .i64)).bind fun cB=>
 cond (zbt (ptr st.next 4) t4') (
 (addr? t4').bind fun cC=>
 (bY.stV cC.1 cC.2 12 cA).bind fun cD=>
 some (1,[t4',.int .i64 cB],cD)) (
 none)) (
 (bY.ldN bU.2.next 0 12).bind fun cE=>
 (addr? w').bind fun cF=>
 (bY.stV cF.1 cF.2 12 cE).bind fun cG=>
 let cH:Int:=IntKind.wrap .i64 (t17'+1)
 lf 3 [l',t4',w',t15',.int .i64 t16',.int .i64 cH] cG)))) (
 (addr? w').bind fun cI=>
 (f.2.ldN cI.1 cI.2 12).bind fun cJ=>
 ((f.2.ld st.next 0).bind asS).bind fun cK=>
 (cf 77 [cJ,.string cK,.int .i64 m] f.2).bind fun cL=>
 (zan cL.1 0).bind fun cM=>
 ((zan cL.1 1).bind (asI .i64)).bind fun cN=>
 let cO:SS:=cL.2.new (.cells [.int .i64 0,.int .i64 0,.int .i64 0,.int .i64 0,.int .i64 0,.int .i64 0,.int .i64 0,.int .i64 0,.int .i64 0,.int .i64 0,.int .i64 0,.int .i64 0] 0)
 (cO.stV cL.2.next 0 12 cM).bind fun cP=>
 cond (!(decide (cN=0))) (
 (addr? w').bind fun cQ=>
 (cP.ldN cQ.1 cQ.2 12).bind fun cR=>
 ((cP.ld st.next 4).bind (asI .i64)).bind fun cS=>
 cond (zbt (ptr st.next 4) t4') (
 (addr? t4').bind fun cT=>
 (cP.stV cT.1 cT.2 12 cR).bind fun cU=>
 some (1,[t4',.int .i64 cS],cU)) (
 none)) (
 (cP.ldN cL.2.next 0 12).bind fun cV=>
 (addr? w').bind fun cW=>
 (cP.stV cW.1 cW.2 12 cV).bind fun cX=>
 let cY:Int:=IntKind.wrap .i64 (t17'+1)
 lf 3 [l',t4',w',t15',.int .i64 t16',.int .i64 cY] cX)))) (
 some (0,[t4',w'],st))
theorem za9 [Sym] (l':Value) (t4':Value) (w':Value) (t15':Value) (t16':Int) (t17':Int) (st:SS) {r:Nat×List Value×SS} (h:za6 cc zaH l' t4' w' t15' t16' t17' st=some r):zaH 3 [l',t4',w',t15',.int .i64 t16',.int .i64 t17'] st=some r:=
 zav zaj zao (key:=3) (I:=zen) rfl (by kernel_rfl) (by kernel_rfl) rfl rfl (.trans (by kernel_rfl) h)
def zeo:LoopI:=⟨[(4,.any),(7,.any),(10,.any),(17,.any),(133,.any),(134,.int .i64),(135,.int .i64)],[(.exit 6,[(4,.any),(10,.any),(17,.any)]),(.ret,[(2,.any),(3,.any),(4,.any)])]⟩
def zep:LoopI:=⟨[(4,.any),(7,.any),(10,.any),(11,.int .i64),(12,.any),(13,.any),(69,.any),(70,.int .i64),(71,.int .i64),(96,.any),(97,.int .i64),(98,.int .i64)],[(.exit 4,[(4,.any),(7,.any),(10,.any),(11,.int .i64),(13,.any),(69,.any),(70,.int .i64),(71,.int .i64)]),(.ret,[(2,.any),(3,.any),(4,.any)])]⟩
def zeq:LoopI:=⟨[(4,.any),(7,.any),(10,.any),(69,.any),(70,.int .i64),(71,.int .i64)],[(.exit 2,[(4,.any),(7,.any),(10,.any)]),(.ret,[(2,.any),(3,.any),(4,.any)])]⟩
def zeQ:LoopI:=⟨[(4,.any),(7,.any),(32,.any),(33,.int .i64),(34,.int .i64)],[(.exit 0,[(4,.any),(7,.any)]),(.ret,[(2,.any),(3,.any),(4,.any)])]⟩
def ze6 (n:Nat):Option LoopI:=cond (Nat.beq n 6) (some zeQ) (cond (Nat.beq n 15) (some zeq) (cond (Nat.beq n 21) (some zep) (cond (Nat.beq n 30) (some zeo) (none))))
noncomputable def zca (cf:zam) (lf:zad) (text':ByteArray) (st:SS):Option (Value×SS):=
 let a:SS:=st.new (.cells [.int .i64 0,.int .i64 0] 0)
 (cf 19 [.string text'] a).bind fun b=>
 (zan b.1 0).bind fun c=>
 (zan b.1 1).bind fun d=>
 let e:SS:=b.2.new (.cells [.int .i64 0,.int .i64 0] 0)
 (e.stV b.2.next 0 2 d).bind fun f=>
 (zbl (ptr b.2.next 0) 2 0 1).bind fun g=>
 ((f.ld g.1 g.2).bind (asI .i64)).bind fun h=>
 cond (decide (0<h)) (
 (f.ldN b.2.next 0 2).bind fun i=>
 (f.stV st.next 0 2 i).bind fun j=>
 (j.rdN st.next 0 2).bind fun k=>
 some (.tuple #[.slice none 0 0,.slice none 0 0,k],j)) (
 let l:SS:=f.new (.cells [.slice none 0 0,.slice none 0 0,.slice none 0 0,.slice none 0 0,.slice none 0 0,.slice none 0 0,.int .i64 0] 0)
 ((lenV c).bind (asI .i64)).bind fun m=>
 (lf 6 [ptr st.next 0,ptr f.next 0,c,.int .i64 m,.int .i64 0] l).bind fun n=>
 cond (Nat.beq n.1 0) (
 (n.2.1[0]?).bind fun o=>
 (n.2.1[1]?).bind fun p=>
 (zak p).bind fun q=>
 (addr? q).bind fun r=>
 (n.2.2.ld r.1 (r.2+3)).bind fun s=>
 ((lenV s).bind (asI .i64)).bind fun t=>
 cond (decide (0<t)) (
 (zak p).bind fun u=>
 (addr? u).bind fun v=>
 (n.2.2.ld v.1 (v.2+3)).bind fun w=>
 (zak p).bind fun x=>
 (addr? x).bind fun y=>
 (n.2.2.ld y.1 (y.2+3)).bind fun z=>
 ((lenV z).bind (asI .i64)).bind fun A=>
 let B:Int:=IntKind.wrap .i64 (A-1)
 (zah w B 1).bind fun C=>
 ((n.2.2.ld C.1 C.2).bind (asI .i64)).bind fun D=>
 let E:Int:=IntKind.wrap .i64 (D+1)
 (ze3 E E 96).bind fun _=>
 let F:SS:=n.2.2.new (.cells (zdO [.int .i64 0,.int .i64 0,.int .i64 0,.int .i64 0,.int .i64 0,.int .i64 0,.int .i64 0,.int .i64 0,.int .i64 0,.int .i64 0,.int .i64 0,.int .i64 0] E) 12)
 (zak p).bind fun G=>
 (addr? G).bind fun H=>
 (F.ld H.1 (H.2+2)).bind fun I=>
 ((lenV I).bind (asI .i64)).bind fun J=>
 (lf 15 [o,p,.slice (some ⟨n.2.2.next,0,none⟩) ((E:Int).toNat) ((E:Int).toNat),I,.int .i64 J,.int .i64 0] F).bind fun K=>
 cond (Nat.beq K.1 0) (
 (K.2.1[0]?).bind fun L=>
 (K.2.1[1]?).bind fun M=>
 (K.2.1[2]?).bind fun N=>
 (zak M).bind fun O=>
 (addr? O).bind fun P=>
 (K.2.2.ld P.1 (P.2+4)).bind fun Q=>
 ((lenV Q).bind (asI .i64)).bind fun R=>
 (lf 30 [L,M,N,.slice none 0 0,Q,.int .i64 R,.int .i64 0] K.2.2).bind fun S=>
 cond (Nat.beq S.1 0) (
 (S.2.1[0]?).bind fun T=>
 (S.2.1[1]?).bind fun U=>
 (S.2.1[2]?).bind fun V=>
 (addr? T).bind fun W=>
 (S.2.2.st W.1 W.2 [.int .i64 0,.int .i64 0]).bind fun X=>
 (addr? T).bind fun Y=>
 (X.rdN Y.1 Y.2 2).bind fun Z=>
 some (.tuple #[U,V,Z],X)) (
 (S.2.1[0]?).bind fun aA=>
 (S.2.1[1]?).bind fun aB=>
 (S.2.1[2]?).bind fun aC=>
 (addr? aC).bind fun aD=>
 (S.2.2.rdN aD.1 aD.2 2).bind fun aE=>
 some (.tuple #[aA,aB,aE],S.2.2))) (
 (K.2.1[0]?).bind fun aF=>
 (K.2.1[1]?).bind fun aG=>
 (K.2.1[2]?).bind fun aH=>
 (addr? aH).bind fun aI=>
 (K.2.2.rdN aI.1 aI.2 2).bind fun aJ=>
 some (.tuple #[aF,aG,aJ],K.2.2))) (
 (zak p).bind fun aK=>
 (addr? aK).bind fun aL=>
 (n.2.2.ld aL.1 (aL.2+2)).bind fun aM=>
 ((lenV aM).bind (asI .i64)).bind fun aN=>
 (lf 15 [o,p,.slice none 0 0,aM,.int .i64 aN,.int .i64 0] n.2.2).bind fun aO=>
 cond (Nat.beq aO.1 0) (
 (aO.2.1[0]?).bind fun aP=>
 (aO.2.1[1]?).bind fun aQ=>
 (aO.2.1[2]?).bind fun aR=>
 (zak aQ).bind fun aS=>
 (addr? aS).bind fun aT=>
 (aO.2.2.ld aT.1 (aT.2+4)).bind fun aU=>
 ((lenV aU).bind (asI .i64)).bind fun aV=>
 (lf 30 [aP,aQ,aR,.slice none 0 0,aU,.int .i64 aV,.int .i64 0] aO.2.2).bind fun aW=>
 cond (Nat.beq aW.1 0) (
 (aW.2.1[0]?).bind fun aX=>
 (aW.2.1[1]?).bind fun aY=>
 (aW.2.1[2]?).bind fun aZ=>
 (addr? aX).bind fun bA=>
 (aW.2.2.st bA.1 bA.2 [.int .i64 0,.int .i64 0]).bind fun bB=>
 (addr? aX).bind fun bC=>
 (bB.rdN bC.1 bC.2 2).bind fun bD=>
 some (.tuple #[aY,aZ,bD],bB)) (
 (aW.2.1[0]?).bind fun bE=>
 (aW.2.1[1]?).bind fun bF=>
 (aW.2.1[2]?).bind fun bG=>
 (addr? bG).bind fun bH=>
 (aW.2.2.rdN bH.1 bH.2 2).bind fun bI=>
 some (.tuple #[bE,bF,bI],aW.2.2))) (
 (aO.2.1[0]?).bind fun bJ=>
 (aO.2.1[1]?).bind fun bK=>
 (aO.2.1[2]?).bind fun bL=>
 (addr? bL).bind fun bM=>
 (aO.2.2.rdN bM.1 bM.2 2).bind fun bN=>
 some (.tuple #[bJ,bK,bN],aO.2.2)))) (
 (n.2.1[0]?).bind fun bO=>
 (n.2.1[1]?).bind fun bP=>
 (n.2.1[2]?).bind fun bQ=>
 (addr? bQ).bind fun bR=>
 (n.2.2.rdN bR.1 bR.2 2).bind fun bS=>
 some (.tuple #[bO,bP,bS],n.2.2)))
noncomputable abbrev zaf:zad:=lS Tryz.prog Lk0 Tryz.f17 ze6
theorem zih:Lk0.func 17=some (17,Tryz.f17):=by kernel_rfl
theorem zcr [Sym] (text':ByteArray) (st:SS) {r:Value×SS} (h:zca cc zaf text' st=some r):cc 17 [.string text'] st=some r:=
 zai (li:=ze6) zaj zao zih rfl (fun _=>rfl) (.trans (by kernel_rfl) h)
noncomputable def zcs (cf:zam) (lf:zad) (t4':Value) (l':Value) (t32':Value) (t33':Int) (t34':Int) (st:SS):Option (Nat×List Value×SS):=
 cond (decide (t34'<t33')) (
 (zah t32' t34' 5).bind fun a=>
 (st.ldN a.1 a.2 5).bind fun b=>
 let c:SS:=st.new (.cells [.int .i64 0,.string ⟨#[]⟩,.string ⟨#[]⟩,.slice none 0 0,.slice none 0 0] 0)
 (c.stV st.next 0 5 b).bind fun d=>
 (d.ldN st.next 0 5).bind fun e=>
 (cf 45 [l',e] d).bind fun f=>
 ((some f.1).bind asB).bind fun g=>
 cond (!g) (
 ((f.2.ld st.next 0).bind (asI .i64)).bind fun h=>
 (addr? t4').bind fun i=>
 (f.2.st i.1 i.2 [.int .i64 h,.int .i64 1]).bind fun j=>
 some (1,[.slice none 0 0,.slice none 0 0,t4'],j)) (
 let k:Int:=IntKind.wrap .i64 (t34'+1)
 lf 6 [t4',l',t32',.int .i64 t33',.int .i64 k] f.2)) (
 some (0,[t4',l'],st))
theorem zcM [Sym] (t4':Value) (l':Value) (t32':Value) (t33':Int) (t34':Int) (st:SS) {r:Nat×List Value×SS} (h:zcs cc zaf t4' l' t32' t33' t34' st=some r):zaf 6 [t4',l',t32',.int .i64 t33',.int .i64 t34'] st=some r:=
 zav zaj zao (key:=6) (I:=zeQ) rfl (by kernel_rfl) (by kernel_rfl) rfl rfl (.trans (by kernel_rfl) h)
noncomputable def zbJ (cf:zam) (lf:zad) (t4':Value) (l':Value) (words':Value) (t69':Value) (t70':Int) (t71':Int) (st:SS):Option (Nat×List Value×SS):=
 cond (decide (t71'<t70')) (
 (zah t69' t71' 5).bind fun a=>
 (st.ldN a.1 a.2 5).bind fun b=>
 let c:SS:=st.new (.cells [.int .i64 0,.string ⟨#[]⟩,.string ⟨#[]⟩,.slice none 0 0,.slice none 0 0] 0)
 (c.stV st.next 0 5 b).bind fun d=>
 (d.ldN st.next 0 5).bind fun e=>
 (cf 46 [l',e] d).bind fun f=>
 (zan f.1 0).bind fun g=>
 ((zan f.1 1).bind (asI .i64)).bind fun h=>
 let i:SS:=f.2.new (.cells [.int .i64 0,.int .i64 0,.int .i64 0,.int .i64 0,.int .i64 0,.int .i64 0,.int .i64 0,.int .i64 0,.int .i64 0,.int .i64 0,.int .i64 0,.int .i64 0] 0)
 (i.stV f.2.next 0 12 g).bind fun j=>
 cond (decide (0<h)) (
 ((j.ld st.next 0).bind (asI .i64)).bind fun k=>
 (addr? t4').bind fun l=>
 (j.st l.1 l.2 [.int .i64 k,.int .i64 h]).bind fun m=>
 some (1,[.slice none 0 0,.slice none 0 0,t4'],m)) (
 (j.ldN f.2.next 0 12).bind fun n=>
 (zak l').bind fun o=>
 (addr? o).bind fun p=>
 (j.ld p.1 (p.2+3)).bind fun q=>
 (zah q t71' 1).bind fun r=>
 ((j.ld r.1 r.2).bind (asI .i64)).bind fun s=>
 (cf 21 [n,.int .i64 s] j).bind fun t=>
 ((lenV t.1).bind (asI .i64)).bind fun u=>
 (lf 21 [t4',l',words',.int .i64 t71',ptr st.next 0,ptr f.2.next 0,t69',.int .i64 t70',.int .i64 t71',t.1,.int .i64 u,.int .i64 0] t.2).bind fun v=>
 cond (Nat.beq v.1 0) (
 (v.2.1[0]?).bind fun w=>
 (v.2.1[1]?).bind fun x=>
 (v.2.1[2]?).bind fun y=>
 ((v.2.1[3]?).bind (asI .i64)).bind fun z=>
 (v.2.1[4]?).bind fun A=>
 (v.2.1[5]?).bind fun B=>
 ((v.2.1[6]?).bind (asI .i64)).bind fun C=>
 ((v.2.1[7]?).bind (asI .i64)).bind fun D=>
 (zak x).bind fun E=>
 (addr? E).bind fun F=>
 (v.2.2.ld F.1 (F.2+3)).bind fun G=>
 (zah G z 1).bind fun H=>
 ((v.2.2.ld H.1 H.2).bind (asI .i64)).bind fun I=>
 (addr? A).bind fun J=>
 (v.2.2.ldN J.1 J.2 12).bind fun K=>
 (zah y I 12).bind fun L=>
 (v.2.2.stV L.1 L.2 12 K).bind fun M=>
 let N:Int:=IntKind.wrap .i64 (D+1)
 lf 15 [w,x,y,B,.int .i64 C,.int .i64 N] M) (
 (v.2.1[0]?).bind fun O=>
 (v.2.1[1]?).bind fun P=>
 (v.2.1[2]?).bind fun Q=>
 some (1,[O,P,Q],v.2.2)))) (
 some (0,[t4',l',words'],st))
theorem zbQ [Sym] (t4':Value) (l':Value) (words':Value) (t69':Value) (t70':Int) (t71':Int) (st:SS) {r:Nat×List Value×SS} (h:zbJ cc zaf t4' l' words' t69' t70' t71' st=some r):zaf 15 [t4',l',words',t69',.int .i64 t70',.int .i64 t71'] st=some r:=
 zav zaj zao (key:=15) (I:=zeq) rfl (by kernel_rfl) (by kernel_rfl) rfl rfl (.trans (by kernel_rfl) h)
noncomputable def zcd (cf:zam) (lf:zad) (t4':Value) (l':Value) (words':Value) (i':Int) (x':Value) (w':Value) (t69':Value) (t70':Int) (t71':Int) (t96':Value) (t97':Int) (t98':Int) (st:SS):Option (Nat×List Value×SS):=
 cond (decide (t98'<t97')) (
 (zah t96' t98' 2).bind fun a=>
 (st.ldN a.1 a.2 2).bind fun b=>
 let c:SS:=st.new (.cells [.int .i64 0,.int .i64 0] 0)
 (c.stV st.next 0 2 b).bind fun d=>
 (zbl (ptr st.next 0) 2 0 1).bind fun e=>
 ((d.ld e.1 e.2).bind (asI .i64)).bind fun f=>
 (zbl (ptr st.next 0) 2 1 1).bind fun g=>
 ((d.ld g.1 g.2).bind (asI .i64)).bind fun h=>
 let i:Int:=IntKind.wrap .i64 (f+h)
 ((lenV words').bind (asI .i64)).bind fun j=>
 cond (decide (j<i)) (
 (addr? x').bind fun k=>
 ((d.ld k.1 k.2).bind (asI .i64)).bind fun l=>
 (addr? x').bind fun m=>
 (d.ld m.1 (m.2+4)).bind fun n=>
 (zah n 0 5).bind fun o=>
 ((d.ld o.1 (o.2+1)).bind (asI .i64)).bind fun p=>
 (addr? t4').bind fun q=>
 (d.st q.1 q.2 [.int .i64 l,.int .i64 p]).bind fun r=>
 some (1,[.slice none 0 0,.slice none 0 0,t4'],r)) (
 let s:Int:=IntKind.wrap .i64 (t98'+1)
 lf 21 [t4',l',words',.int .i64 i',x',w',t69',.int .i64 t70',.int .i64 t71',t96',.int .i64 t97',.int .i64 s] d)) (
 some (0,[t4',l',words',.int .i64 i',w',t69',.int .i64 t70',.int .i64 t71'],st))
theorem zcB [Sym] (t4':Value) (l':Value) (words':Value) (i':Int) (x':Value) (w':Value) (t69':Value) (t70':Int) (t71':Int) (t96':Value) (t97':Int) (t98':Int) (st:SS) {r:Nat×List Value×SS} (h:zcd cc zaf t4' l' words' i' x' w' t69' t70' t71' t96' t97' t98' st=some r):zaf 21 [t4',l',words',.int .i64 i',x',w',t69',.int .i64 t70',.int .i64 t71',t96',.int .i64 t97',.int .i64 t98'] st=some r:=
 zav zaj zao (key:=21) (I:=zep) rfl (by kernel_rfl) (by kernel_rfl) rfl rfl (.trans (by kernel_rfl) h)
noncomputable def zbo (cf:zam) (lf:zad) (t4':Value) (l':Value) (words':Value) (entries':Value) (t133':Value) (t134':Int) (t135':Int) (st:SS):Option (Nat×List Value×SS):=
 cond (decide (t135'<t134')) (
 (zah t133' t135' 3).bind fun a=>
 (st.ldN a.1 a.2 3).bind fun b=>
 let c:SS:=st.new (.cells [.string ⟨#[]⟩,.int .i64 0,.int .i64 0] 0)
 (c.stV st.next 0 3 b).bind fun d=>
 (zak l').bind fun e=>
 (addr? e).bind fun f=>
 (d.ld f.1 f.2).bind fun g=>
 ((d.ld st.next 0).bind asS).bind fun h=>
 (cf 47 [g,.string h] d).bind fun i=>
 ((some i.1).bind (asI .i64)).bind fun j=>
 cond (decide (j<0)) (
 (zak l').bind fun k=>
 (addr? k).bind fun l=>
 (i.2.ld l.1 (l.2+5)).bind fun m=>
 (zah m t135' 2).bind fun n=>
 (i.2.ldN n.1 n.2 2).bind fun o=>
 (addr? t4').bind fun p=>
 (i.2.stV p.1 p.2 2 o).bind fun q=>
 some (1,[.slice none 0 0,.slice none 0 0,t4'],q)) (
 (zak l').bind fun r=>
 (addr? r).bind fun s=>
 (i.2.ld s.1 (s.2+1)).bind fun t=>
 (zah t j 1).bind fun u=>
 ((i.2.ld u.1 u.2).bind (asI .i64)).bind fun v=>
 cond (decide (v<0)) (
 (zak l').bind fun w=>
 (addr? w).bind fun x=>
 (i.2.ld x.1 (x.2+5)).bind fun y=>
 (zah y t135' 2).bind fun z=>
 (i.2.ldN z.1 z.2 2).bind fun A=>
 (addr? t4').bind fun B=>
 (i.2.stV B.1 B.2 2 A).bind fun C=>
 some (1,[.slice none 0 0,.slice none 0 0,t4'],C)) (
 (zak l').bind fun D=>
 (addr? D).bind fun E=>
 (i.2.ld E.1 (E.2+1)).bind fun F=>
 (zah F j 1).bind fun G=>
 ((i.2.ld G.1 G.2).bind (asI .i64)).bind fun H=>
 ((lenV words').bind (asI .i64)).bind fun I=>
 cond (decide (I≤H)) (
 (zak l').bind fun J=>
 (addr? J).bind fun K=>
 (i.2.ld K.1 (K.2+5)).bind fun L=>
 (zah L t135' 2).bind fun M=>
 (i.2.ldN M.1 M.2 2).bind fun N=>
 (addr? t4').bind fun O=>
 (i.2.stV O.1 O.2 2 N).bind fun P=>
 some (1,[.slice none 0 0,.slice none 0 0,t4'],P)) (
 ((i.2.ld st.next 0).bind asS).bind fun Q=>
 (zak l').bind fun R=>
 (addr? R).bind fun S=>
 (i.2.ld S.1 (S.2+1)).bind fun T=>
 (zah T j 1).bind fun U=>
 ((i.2.ld U.1 U.2).bind (asI .i64)).bind fun V=>
 let W:SS:=i.2.new (.cells ([.string Q,.int .i64 V]) 2)
 (W.app 2 24 entries' (.slice (some ⟨i.2.next,0,none⟩) 1 1)).bind fun X=>
 let Y:Int:=IntKind.wrap .i64 (t135'+1)
 lf 30 [t4',l',words',X.1,t133',.int .i64 t134',.int .i64 Y] X.2)))) (
 some (0,[t4',words',entries'],st))
theorem zbv [Sym] (t4':Value) (l':Value) (words':Value) (entries':Value) (t133':Value) (t134':Int) (t135':Int) (st:SS) {r:Nat×List Value×SS} (h:zbo cc zaf t4' l' words' entries' t133' t134' t135' st=some r):zaf 30 [t4',l',words',entries',t133',.int .i64 t134',.int .i64 t135'] st=some r:=
 zav zaj zao (key:=30) (I:=zeo) rfl (by kernel_rfl) (by kernel_rfl) rfl rfl (.trans (by kernel_rfl) h)
end Go.Proofs.YtifploedaacedaaGreatDoorE
namespace Go.Proofs.YtifploedaacedaaGreatDoorE
open Go Go.E Go.Proofs
theorem zpr {α:Type} {f:α→List Value} {z:Nat} (hz:∀ x,(f x).length=z) (x:α):∀ (l:List α) (k:Nat),k<l.length→(rowsF f l).take (k*z)++(f x++(rowsF f l).drop (k*z+z))=rowsF f (l.set k x)
 | [],k,h=>by simp at h
 | a::r,0,_=>by
   rw [zdh,List.set_cons_zero,zdh,Nat.zero_mul,List.take_zero,List.nil_append,Nat.zero_add,List.drop_append,hz,Nat.sub_self,List.drop_of_length_le (by rw [hz];exact zlr _)]
   simp
 | a::r,k+1,h=>by
   have ih:=zpr hz x r k (by simpa using h)
   have e1:(k+1)*z-z=k*z:=by rw [Nat.add_mul];omega
   have e2:(k+1)*z+z-z=k*z+z:=by rw [Nat.add_mul];omega
   have e3:z≤(k+1)*z:=by rw [Nat.add_mul];omega
   rw [zdh,List.set_cons_succ,zdh,List.take_append,List.drop_append,hz,e1,e2,List.take_of_length_le (by rw [hz];exact e3),List.drop_of_length_le (by rw [hz];omega),List.nil_append,List.append_assoc,ih]
theorem zuk {α:Type} {f:α→List Value} {z:Nat} (hz:∀ x,(f x).length=z) (l:List α) (k:Nat) (x:α) (hk:k<l.length):zdq (rowsF f l) (k*z) (f x)=some (rowsF f (l.set k x)):=by
 have h1:(k+1)*z≤l.length*z:=Nat.mul_le_mul_right _ hk
 rw [Nat.add_mul,Nat.one_mul] at h1
 rw [zbL (by rw [hz,zhG hz];exact h1),hz,zpr hz x l k hk]
theorem Own.put {b:Nat} {st:SS} {v:Value} {α:Type} {f:α→List Value} {z:Nat} (hz:∀ x,(f x).length=z) {l:List α} {n:Nat} (h:Own b st v (rowsF f l) z n) (hn:l.length=n) (hl:st.lim≤b) {k:Nat} (hk:k<n) (x:α) (h1:(f x).all one=true):
  ∃ i st',zah v (k:Int) z=some (i,k*z)∧b≤i∧i<st.next∧st.st i (k*z) (f x)=some st'∧(∀ u:Value,u.cells.toList=f x→st.stV i (k*z) z u=some st')∧Own b st' v (rowsF f (l.set k x)) z n∧Mod [i] st st'∧st'.next=st.next:=by
 obtain ⟨h2,⟨rfl,h0⟩ | ⟨i,rfl,h0,hm,hb,hi⟩⟩:=h
 ·omega
 ·have hs:=SS.st_cells hm (by omega) h1 (zuk hz l k x (by omega))
  refine ⟨i,_,?_,hb,hi,hs,fun u hu=>?_,⟨?_,.inr ⟨i,rfl,h0,by simp,hb,by simpa using hi⟩⟩,⟨zlr _,rfl,fun j hj hS=>SS.set_old (by simpa using hS)⟩,rfl⟩
  ·unfold zah
   simp [hk]
  ·unfold SS.stV
   have:u.cells.size=z:=by rw [← hz x,← hu];simp
   rw [this,hu,hs]
   simp
  ·rw [zhG hz,List.length_set,hn]
def zeG (w:Wd):List Value:=[.int .u64 (zf2 w)]
def zce (e:List UInt8×Int):List Value:=[.string (mkS e.1),.int .i64 e.2]
abbrev NN:List Value:=[.slice none 0 0,.slice none 0 0]
abbrev Z2:List Value:=[.int .i64 0,.int .i64 0]
def inR (N:Nat) (T:List (Int×Int)):Bool:=T.any fun t=>decide ((N:Int)<t.1+t.2)
theorem zul {x:Int} {n:Nat}:fitsT x n=true↔0≤x∧x<2^n:=by unfold fitsT;rw [decide_eq_true_eq]
theorem zl9 {s tw a:Int} (ha:0≤a∧a≤4096) (ht:0≤tw∧tw<2048):∀ t∈zbU s tw a,0≤t.1∧t.1≤100000∧0≤t.2∧t.2≤100000:=by
 intro t h
 unfold zbU at h
 repeat' (split at h)
 all_goals first
  | (cases h;done)
  | (simp only [List.mem_cons,List.not_mem_nil,or_false] at h
     rcases h with rfl | rfl<;>simp only<;>omega)
  | (simp only [List.mem_cons,List.not_mem_nil,or_false] at h
     subst h
     simp only
     omega)
theorem zrS {w:Wd} (h:zl8 w):0≤w.getD 10 0∧w.getD 10 0<2048:=by
 have h1:=zpq.1 h.2 10 (by omega)
 have e:zaD 10=11:=rfl
 rw [zul,e] at h1
 exact ⟨h1.1,by have:=h1.2;simpa using this⟩
theorem getD_some {w:Wd} {k:Nat} (h:k<w.length):w[k]?=some (w.getD k 0):=by
 rw [List.getD_eq_getElem?_getD,zge h];rfl
theorem zvi [Sym] {base st0:SS} (hx0:Ext base st0) (hll:base.lim≤base.next) {T:List (Int×Int)} (hT:∀ t∈T,0≤t.1∧t.1≤100000∧0≤t.2∧t.2≤100000) (hTl:T.length≤10) {x:WItem} {b' w' t38 v wv ev:Value} {n j:Int} {t2 t3 r xb N:Nat}
  (hN:(lenV wv).bind (asI .i64)=some (N:Int)) (hr:At st0 r [wv,ev]) (a2:At st0 t2 NN) (a3:At st0 t3 Z2) (ax:At st0 xb (wdRow x)) (hne:t2≠t3) (h2:base.next≤t2) (h3:base.next≤t3) (hxb:xb≠t2) (p0:Pr) (ps:List Pr) (hps:x.2.1.prs=p0::ps) (hp:Rd base x.2.2.2 (rowsF prRow x.2.1.prs) 5 x.2.1.prs.length)
  (hv:Rd st0 v (rowsF zcn T) 2 T.length):∀ (k i:Nat) (s:SS),T.length=k+i→Ext st0 s→
  ∃ s',if inR N (T.drop i)=true then zat 12 [b',ptr t2 0,ptr t3 0,ptr r 0,ptr xb 0,w',t38,.int .i64 n,.int .i64 j,v,.int .i64 T.length,.int .i64 i] s=some (1,[ptr t2 0,ptr t3 0],s')∧Ext base s'∧At s' t2 NN∧At s' t3 [.int .i64 x.2.1.ln,.int .i64 p0.col]
   else zat 12 [b',ptr t2 0,ptr t3 0,ptr r 0,ptr xb 0,w',t38,.int .i64 n,.int .i64 j,v,.int .i64 T.length,.int .i64 i] s=some (0,[b',ptr t2 0,ptr t3 0,ptr r 0,ptr xb 0,w',t38,.int .i64 n,.int .i64 j],s')∧Ext st0 s':=by
 intro k
 induction k with
 | zero=>
   intro i s hk he
   have h:¬ (i:Int)<(T.length:Int):=by omega
   rw [List.drop_of_length_le (by omega)]
   refine ⟨s,?_⟩
   rw [if_neg (by simp [inR])]
   refine ⟨zdI _ _ _ _ _ _ _ _ _ _ _ _ s ?_,he⟩
   simp only [zdo,zdf h,zcf]
 | succ k ih=>
   intro i s hk he
   have h:(i:Int)<(T.length:Int):=by omega
   obtain ⟨t,ht⟩:∃ t,T[i]?=some t:=⟨_,zge (by omega)⟩
   obtain ⟨q1,q2,q3,q4⟩:=hT t (zmg ht)
   obtain ⟨p,b1,b2,_⟩:=(hv.ext he).load (j:=(i:Int)) (by omega) h (zaW (f:=zcn) (z:=2) (fun _=>rfl) T i t ht) rfl
   have b2':s.ldN p.1 p.2 2=some (.agg (zcn t).toArray):=b2
   have hlm:s.lim≤s.next:=((hx0.trans he).ll hll)
   obtain ⟨s4,e4,a4,x4,n4⟩:=zaO (st:=s) hlm (r:=Z2) (row:=zcn t) (v:=.agg (zcn t).toArray) (zaC _) rfl rfl rfl
   have e4':(s.new (.cells [.int .i64 0,.int .i64 0] 0)).stV s.next 0 2 (.agg (zcn t).toArray)=some s4:=e4
   have he4:=he.trans x4
   have c5:zbl (ptr s.next 0) 2 0 1=some (s.next,0):=rfl
   have c7:zbl (ptr s.next 0) 2 1 1=some (s.next,1):=rfl
   have l6:s4.ld s.next 0=some (.int .i64 t.1):=a4.ld
   have l8:s4.ld s.next 1=some (.int .i64 t.2):=a4.ld
   have hw9:IntKind.wrap .i64 (t.1+t.2)=t.1+t.2:=wrap64 (by omega) (by omega)
   have l11:s4.ld r 0=some wv:=(hr.ext he4).ld
   have hd:=drop_cons ht
   by_cases hc:(N:Int)<t.1+t.2
   ·obtain ⟨i15,z15,g1,g2,g3⟩:=hp.elem (j:=(0:Int)) (by omega) (by rw [hps];simp)
    obtain ⟨p17,f1,_,f3⟩:=((hp.ext hx0).ext he4).load (j:=(0:Int)) (by omega) (by rw [hps];simp) (row:=prRow p0) (by rw [hps];rfl) rfl
    have hp17:p17.1<base.next:=by rw [g1] at f1;cases f1;exact g3
    have l18:s4.ld p17.1 (p17.2+1)=some (.int .i64 p0.col):=f3 1 (by omega)
    have l14:s4.ld xb (0+1)=some (.int .i64 x.2.1.ln):=(ax.ext he4).ld
    have l16:s4.ld xb (0+1+4)=some x.2.2.2:=(ax.ext he4).ld
    have a24:=a2.ext he4
    have a34:=a3.ext he4
    obtain ⟨s20,e20,a20,m20,n20⟩:=a24.sto (k:=0) (vs:=NN) (row':=NN) rfl rfl
    obtain ⟨s22,e22,a22,m22,n22⟩:=(a34.mod m20 (by simpa using hne.symm)).sto (k:=0) (vs:=[.int .i64 x.2.1.ln,.int .i64 p0.col]) (row':=[.int .i64 x.2.1.ln,.int .i64 p0.col]) rfl rfl
    refine ⟨s22,?_⟩
    rw [if_pos (by unfold inR;rw [hd,List.any_cons,zdt hc];rfl)]
    refine ⟨zdI _ _ _ _ _ _ _ _ _ _ _ _ s ?_,zax (zax (hx0.trans he4) m20 h2) m22 h3,a20.mod m22 (by simpa using hne),a22⟩
    simp only [zdo,zdt h,zct,b1,b2',e4',c5,c7,l6,l8,zob,zaa,hw9,zac,l11,hN,zdt hc,l14,l16,f1,l18,zc9 hxb,zc9 (show p17.1≠t2 by omega),e20,e22]
   ·obtain ⟨s',hs'⟩:=ih (i+1) s4 (by omega) he4
    have hw1:=za4 (i:=i) (by omega)
    refine ⟨s',?_⟩
    have e:inR N (T.drop i)=inR N (T.drop (i+1)):=by unfold inR;rw [hd,List.any_cons,zdf hc,Bool.false_or]
    rw [e]
    have go:∀ z,zat 12 [b',ptr t2 0,ptr t3 0,ptr r 0,ptr xb 0,w',t38,.int .i64 n,.int .i64 j,v,.int .i64 T.length,.int .i64 ((i+1:Nat):Int)] s4=some z→zat 12 [b',ptr t2 0,ptr t3 0,ptr r 0,ptr xb 0,w',t38,.int .i64 n,.int .i64 j,v,.int .i64 T.length,.int .i64 i] s=some z:=fun z hz=>by
     refine zdI _ _ _ _ _ _ _ _ _ _ _ _ s ?_
     simp only [zdo,zdt h,zct,b1,b2',e4',c5,c7,l6,l8,zob,zaa,hw9,zac,l11,hN,zdf hc,zcf,hw1]
     exact hz
    split
    ·rename_i hh
     rw [if_pos hh] at hs'
     exact ⟨go _ hs'.1,hs'.2⟩
    ·rename_i hh
     rw [if_neg hh] at hs'
     exact ⟨go _ hs'.1,hs'.2⟩
theorem zqN {M:Nat} {x:PLine} (h:LineOk M x) (hM:M≤1099511627776):zon x.prs:=⟨zlt h.sp hM,fun p hp=>by
 obtain ⟨h1,h2,h3,h4⟩:=h.prs p hp
 exact ⟨h1,h2,by omega,by omega⟩⟩
def LayW (base:SS) (t2 t3 r N:Nat) (b' wv:Value) (res:Option (Nat×List Value×SS)):Except (Nat×Nat) (List Wd)→Prop
 | .error e=>∃ s',res=some (1,[ptr t2 0,ptr t3 0],s')∧Ext base s'∧At s' t2 NN∧At s' t3 [.int .i64 e.1,.int .i64 e.2]
 | .ok ws=>∃ s',res=some (0,[b',ptr t2 0,ptr t3 0,ptr r 0],s')∧Ext base s'∧At s' t2 NN∧At s' t3 Z2∧At s' r [wv,.slice none 0 0]∧Own (base.next+3) s' wv (rowsF zeG ws) 1 N∧ws.length=N
theorem zwj [Sym] {st0 base:SS} {B b i M:Nat} {vw ve vv wv:Value} {l:Lay} {its:List WItem} (hB:Bld st0 base B b i vw ve vv l its) (hL:LayOk M l) (hM:M≤100000) (hg:Gd base)
  (hN:(lenV wv).bind (asI .i64)=some ((sizeT l:Nat):Int)):∀ (k j:Nat) (ws:List Wd) (s:SS),its.length=k+j→ws.length=sizeT l→Ext base s→At s base.next NN→At s (base.next+1) Z2→At s (base.next+2) [wv,.slice none 0 0]→Own (base.next+3) s wv (rowsF zeG ws) 1 (sizeT l)→
  LayW base base.next (base.next+1) (base.next+2) (sizeT l) (ptr b 0) wv (zat 6 [ptr b 0,ptr base.next 0,ptr (base.next+1) 0,ptr (base.next+2) 0,vw,.int .i64 its.length,.int .i64 j] s) (zcm l.nms (sizeT l) (l.wds.drop j) ws):=by
 have hll:base.lim≤base.next:=by rw [hB.ext.lim];have:=hB.ll;have:=hB.ext.next;omega
 have hil:its.length≤2048:=by
  have h1:=hL.wlen
  have h2:=hL.pl
  rw [← hB.wds,List.length_map] at h1
  omega
 obtain ⟨hat,hNb⟩:=ziM hL
 intro k
 induction k with
 | zero=>
   intro j ws s hk hws he a2 a3 ar ow
   have h:¬ (j:Int)<(its.length:Int):=by omega
   have hd:l.wds.drop j=[]:=List.drop_of_length_le (by rw [← hB.wds,List.length_map];omega)
   rw [hd]
   refine ⟨s,zcV _ _ _ _ _ _ _ s ?_,he,a2,a3,ar,ow,hws⟩
   simp only [zcJ,zdf h,zcf]
 | succ k ih=>
   intro j ws s hk hws he a2 a3 ar ow
   have h:(j:Int)<(its.length:Int):=by omega
   obtain ⟨x,hx⟩:∃ x,its[j]?=some x:=⟨_,zge (by omega)⟩
   have hwx:l.wds[j]?=some (x.1,x.2.1):=by rw [← hB.wds,List.getElem?_map,hx];rfl
   have hmem:=zmg hwx
   obtain ⟨hlo,hpne,hln⟩:=hL.prs _ hmem
   have hxat:x.1<sizeT l:=hat _ hmem
   have hd:=drop_cons hwx
   obtain ⟨p0,ps,hps⟩:∃ p0 ps,x.2.1.prs=p0::ps:=by
    cases hp:x.2.1.prs with
    | nil=>exact absurd hp hpne
    | cons a r=>exact ⟨a,r,rfl⟩
   have hsb:=hB.then he
   have hlm:s.lim≤s.next:=he.ll hll
   obtain ⟨p1,b1,b2,_⟩:=hsb.ow.rd.load (j:=(j:Int)) (by omega) h (zaW (f:=wdRow) (z:=6) (fun _=>rfl) its j x hx) rfl
   have b2':s.ldN p1.1 p1.2 6=some (.agg (wdRow x).toArray):=b2
   obtain ⟨s4,e4,a4,x4,n4⟩:=zaO (st:=s) hlm (r:=wdRow (0,⟨0,[],[],[],[]⟩,.slice none 0 0,.slice none 0 0)) (row:=wdRow x) (v:=.agg (wdRow x).toArray) (zaC _) rfl (by
    obtain ⟨hr1,hr2⟩:=hB.itr x (zmg hx)
    have o1:one x.2.2.1=true:=by obtain ⟨_,⟨e,_⟩ | ⟨i,c,e,_⟩⟩:=hr1<;>rw [e]<;>rfl
    have o2:one x.2.2.2=true:=by obtain ⟨_,⟨e,_⟩ | ⟨i,c,e,_⟩⟩:=hr2<;>rw [e]<;>rfl
    simp only [wdRow,lnRow,List.all_cons,List.all_nil,o1,o2]
    rfl) rfl
   have e4':(s.new (.cells [.int .i64 0,.int .i64 0,.string ⟨#[]⟩,.string ⟨#[]⟩,.slice none 0 0,.slice none 0 0] 0)).stV s.next 0 6 (.agg (wdRow x).toArray)=some s4:=e4
   have he4:=he.trans x4
   have hsb4:=hB.then he4
   have l5:s4.ldN s.next 1 5=some (.agg (lnRow x.2).toArray):=a4.ldC rfl
   have hpr:Rd st0 x.2.2.2 (rowsF prRow x.2.1.prs) 5 x.2.1.prs.length:=(hB.itr x (zmg hx)).2
   have hprb:=hpr.ext hB.ext
   obtain ⟨n6,u,hn6,hu,huo,c6⟩:=zuf l.nms hL.nms x.2 (zqN hlo (by omega)) b i (.int .i64 l.pl) vw ve vv s4 (hg.ext he4) hsb4.row.1 hsb4.row.lt hsb4.mp (by have:=hsb4.iB;have:=hsb4.BN;omega) (hprb.ext he4)
   have x6:Ext s4 (s4.adv n6):=(Ext.refl _).adv hn6
   have he6:=he4.trans x6
   obtain ⟨s10,e10,a10,x10,n10⟩:=zaO (n:=12) (st:=s4.adv n6) (he6.ll hll) (r:=Z12) (row:=wRow u) (v:=wV u) (zaC _) (by rw [zaK,hu]) (zcK u) rfl
   have e10':((s4.adv n6).new (.cells [.int .i64 0,.int .i64 0,.int .i64 0,.int .i64 0,.int .i64 0,.int .i64 0,.int .i64 0,.int .i64 0,.int .i64 0,.int .i64 0,.int .i64 0,.int .i64 0] 0)).stV n6 0 12 (wV u)=some s10:=e10
   have he10:=he6.trans x10
   have he4_10:Ext s4 s10:=x6.trans x10
   have a4_10:=a4.ext he4_10
   have t0:∀ (a:Value) (z:Int),zan (.tuple #[a,.int .i64 z]) 0=some a:=fun _ _=>rfl
   have t1:∀ (a:Value) (z:Int),(zan (.tuple #[a,.int .i64 z]) 1).bind (asI .i64)=some z:=fun _ _=>rfl
   have hE:zcm l.nms (sizeT l) (l.wds.drop j) ws=if (zaQ l.nms zaG x.2.1.prs).2≠0 then .error (x.2.1.ln,(zaQ l.nms zaG x.2.1.prs).2)
    else if inR (sizeT l) (zbU ((zaQ l.nms zaG x.2.1.prs).1.getD 8 0) ((zaQ l.nms zaG x.2.1.prs).1.getD 10 0) x.1)=true then .error (x.2.1.ln,((x.2.1.prs.head?).map (·.col)).getD 0)
    else zcm l.nms (sizeT l) (l.wds.drop (j+1)) (ws.set x.1 (zaQ l.nms zaG x.2.1.prs).1):=by rw [hd];rfl
   have hlt2:base.next<s.next:=a2.lt
   have hlt3:base.next+1<s.next:=a3.lt
   by_cases hc:(zaQ l.nms zaG x.2.1.prs).2=0
   ·rw [if_neg (fun hh=>hh hc)] at hE
    have hcz:¬ (0:Int)<(((zaQ l.nms zaG x.2.1.prs).2:Nat):Int):=by omega
    have hue:=huo hc
    have hwok:=zoU l.nms x.2.1.prs
    generalize hw:(zaQ l.nms zaG x.2.1.prs).1=w at*
    subst hue
    have l16:s10.ldN n6 0 12=some (wV u):=a10.ldN (by rw [zaK,hu])
    have l17:s10.ld s.next 0=some (.int .i64 x.1):=a4_10.ld
    have hto:=zrS hwok
    obtain ⟨v18,s18,c18,x18,o18⟩:=zuX u (x.1:Int) (u.getD 8 0) (u.getD 10 0) (getD_some (by omega)) (getD_some (by omega)) (by omega) (by omega) s10 (he10.ll hll)
    have he18:=he10.trans x18
    have hT:=zl9 (s:=u.getD 8 0) (a:=(x.1:Int)) (by omega) hto
    have hTl:(zbU (u.getD 8 0) (u.getD 10 0) (x.1:Int)).length≤10:=by
     unfold zbU
     repeat' split
     all_goals simp
    obtain ⟨s20,h20⟩:=zvi (b':=ptr b 0) (w':=ptr n6 0) (t38:=vw) (n:=its.length) (j:=j) he18 hll hT hTl (x:=x) (N:=sizeT l) hN (ar.ext ((x4.trans he4_10).trans x18)) (a2.ext ((x4.trans he4_10).trans x18)) (a3.ext ((x4.trans he4_10).trans x18)) (a4_10.ext x18) (by omega) (zlr _) (by omega) (by omega) p0 ps hps hprb o18.rd
     _ 0 s18 rfl (Ext.refl _)
    rw [List.drop_zero] at h20
    have hlen:(lenV v18).bind (asI .i64)=some ((zbU (u.getD 8 0) (u.getD 10 0) (x.1:Int)).length:Int):=by rw [o18.len];rfl
    have b0:Nat.beq 0 0=true:=rfl
    have b1':Nat.beq 1 0=false:=rfl
    by_cases hr:inR (sizeT l) (zbU (u.getD 8 0) (u.getD 10 0) (x.1:Int))=true
    ·rw [if_pos hr] at hE h20
     rw [hE]
     obtain ⟨g1,g2,g3,g4⟩:=h20
     have g1':zat 12 [ptr b 0,ptr base.next 0,ptr (base.next+1) 0,ptr (base.next+2) 0,ptr s.next 0,ptr n6 0,vw,.int .i64 its.length,.int .i64 j,v18,.int .i64 (zbU (u.getD 8 0) (u.getD 10 0) (x.1:Int)).length,.int .i64 0] s18=_:=g1
     refine ⟨s20,zcV _ _ _ _ _ _ _ s ?_,g2,g3,by rw [hps];exact g4⟩
     simp only [zcJ,zdt h,zct,b1,b2',e4',l5,c6,t0,t1,zob,SS.adv_next,e10',zdf hcz,zcf,l16,l17,zaa,c18,hlen]
     rw [g1',zob]
     simp only [b1',zcf,zob,zgs,zgz]
    ·rw [if_neg hr] at hE h20
     rw [hE]
     obtain ⟨g1,g2⟩:=h20
     have g1':zat 12 [ptr b 0,ptr base.next 0,ptr (base.next+1) 0,ptr (base.next+2) 0,ptr s.next 0,ptr n6 0,vw,.int .i64 its.length,.int .i64 j,v18,.int .i64 (zbU (u.getD 8 0) (u.getD 10 0) (x.1:Int)).length,.int .i64 0] s18=_:=g1
     have he20:=he18.trans g2
     have xs20:Ext s s20:=((x4.trans he4_10).trans x18).trans g2
     have l31:s20.ld (base.next+2) 0=some wv:=(ar.ext xs20).ld
     have l33:s20.ld s.next 0=some (.int .i64 x.1):=(a4_10.ext (x18.trans g2)).ld
     have l35:s20.ldN n6 0 12=some (wV u):=(a10.ext (x18.trans g2)).ldN (by rw [zaK,hu])
     obtain ⟨n36,hn36,c36⟩:=zv4 u hu (s20.ro s20.next) (hg.ext he20).ro
     rw [if_pos hwok.2] at c36
     have hn36':s20.next≤n36:=hn36
     have x36:Ext s20 (s20.adv n36):=(Ext.refl _).adv hn36'
     have hst:((s20.ro s20.next).adv n36).ro s20.lim=s20.adv n36:=rfl
     have u0:∀ (a:Int) (z:Int),(zan (.tuple #[.int .u64 a,.int .i64 z]) 0).bind (asI .u64)=some a:=fun _ _=>rfl
     have u1:∀ (a:Int) (z:Int),(zan (.tuple #[.int .u64 a,.int .i64 z]) 1).bind (asI .i64)=some z:=fun _ _=>rfl
     have he36:=he20.trans x36
     obtain ⟨iw,s40,f1,f2,f3,f4,_,f6,f7,f8⟩:=Own.put (f:=zeG) (fun _=>rfl) ((ow.ext xs20).ext x36) hws (by rw [he36.lim];omega) hxat u rfl
     rw [Nat.mul_one] at f1 f4
     have f4':(s20.adv n36).st iw x.1 [.int .u64 (zf2 u)]=some s40:=f4
     have xs36:=xs20.trans x36
     have next:=ih (j+1) (ws.set x.1 u) s40 (by omega) (by rw [List.length_set,hws]) (zax he36 f7 (by omega)) ((a2.ext xs36).mod f7 (by simp;omega)) ((a3.ext xs36).mod f7 (by simp;omega)) ((ar.ext xs36).mod f7 (by simp;omega)) f6
     have hw1:=za4 (i:=j) (by omega)
     have step:∀ z,zat 6 [ptr b 0,ptr base.next 0,ptr (base.next+1) 0,ptr (base.next+2) 0,vw,.int .i64 its.length,.int .i64 ((j+1:Nat):Int)] s40=some z→zat 6 [ptr b 0,ptr base.next 0,ptr (base.next+1) 0,ptr (base.next+2) 0,vw,.int .i64 its.length,.int .i64 j] s=some z:=fun z hz=>by
      refine zcV _ _ _ _ _ _ _ s ?_
      simp only [zcJ,zdt h,zct,b1,b2',e4',l5,c6,t0,t1,zob,SS.adv_next,e10',zdf hcz,zcf,l16,l17,zaa,c18,hlen]
      rw [g1',zob]
      simp only [b0,zct,zaa,zob,zgs,zgz,zac,l31,l33,l35,c36,u0,u1,hst,f1,f4',hw1]
      exact hz
     cases hz:zcm l.nms (sizeT l) (l.wds.drop (j+1)) (ws.set x.1 u) with
     | error e=>
       rw [hz] at next
       obtain ⟨s',d1,d2⟩:=next
       exact ⟨s',step _ d1,d2⟩
     | ok ws'=>
       rw [hz] at next
       obtain ⟨s',d1,d2⟩:=next
       exact ⟨s',step _ d1,d2⟩
   ·rw [if_pos hc] at hE
    rw [hE]
    have hcz:(0:Int)<(((zaQ l.nms zaG x.2.1.prs).2:Nat):Int):=by omega
    have xs10:Ext s s10:=x4.trans he4_10
    have l11:s10.ld s.next 1=some (.int .i64 x.2.1.ln):=a4_10.ld
    obtain ⟨s13,e13,a13,m13,n13⟩:=(a2.ext xs10).sto (k:=0) (vs:=NN) (row':=NN) rfl rfl
    obtain ⟨s15,e15,a15,m15,n15⟩:=((a3.ext xs10).mod m13 (by simp)).sto (k:=0) (vs:=[.int .i64 x.2.1.ln,.int .i64 (zaQ l.nms zaG x.2.1.prs).2]) (row':=[.int .i64 x.2.1.ln,.int .i64 (zaQ l.nms zaG x.2.1.prs).2]) rfl rfl
    refine ⟨s15,zcV _ _ _ _ _ _ _ s ?_,zax (zax he10 m13 (zlr _)) m15 (by omega),a13.mod m15 (by simp),a15⟩
    simp only [zcJ,zdt h,zct,b1,b2',e4',l5,c6,t0,t1,zob,SS.adv_next,e10',zdt hcz,l11,zaa,zc9 (show s.next≠base.next by omega),zac,e13,e15]
end Go.Proofs.YtifploedaacedaaGreatDoorE
namespace Go.Proofs.YtifploedaacedaaGreatDoorE
open Go Go.E Go.Proofs
def LayE (base:SS) (t2 t3 r N:Nat) (wv:Value) (ws:List Wd) (es:List (List UInt8×Int)) (res:Option (Nat×List Value×SS)):Except (Nat×Nat) (List (List UInt8×Int))→Prop
 | .error e=>∃ s',res=some (1,[ptr t2 0,ptr t3 0],s')∧Ext base s'∧At s' t2 NN∧At s' t3 [.int .i64 e.1,.int .i64 e.2]
 | .ok es'=>∃ s' ev',res=some (0,[ptr t2 0,ptr t3 0,ptr r 0],s')∧Ext base s'∧At s' t2 NN∧At s' t3 Z2∧At s' r [wv,ev']∧Owns (base.next+3) s' [⟨wv,rowsF zeG ws,1,N⟩,⟨ev',rowsF zce (es++es'),2,(es++es').length⟩]
theorem zvj [Sym] {st0 base:SS} {B b i M N:Nat} {vw ve vv wv:Value} {l:Lay} {its:List WItem} (hB:Bld st0 base B b i vw ve vv l its) (hL:LayOk M l) (hn:l.ents.length≤100000) (ws:List Wd)
  (hN:(lenV wv).bind (asI .i64)=some (N:Int)):∀ (k j:Nat) (es:List (List UInt8×Int)) (ev:Value) (s:SS),l.ents.length=k+j→es.length≤j→Ext base s→At s base.next NN→At s (base.next+1) Z2→At s (base.next+2) [wv,ev]→Owns (base.next+3) s [⟨wv,rowsF zeG ws,1,N⟩,⟨ev,rowsF zce es,2,es.length⟩]→
  LayE base base.next (base.next+1) (base.next+2) N wv ws es (zat 20 [ptr b 0,ptr base.next 0,ptr (base.next+1) 0,ptr (base.next+2) 0,vv,.int .i64 l.ents.length,.int .i64 j] s) (zdB l.nms N (l.ents.drop j)):=by
 have hll:base.lim≤base.next:=by rw [hB.ext.lim];have:=hB.ll;have:=hB.ext.next;omega
 intro k
 induction k with
 | zero=>
   intro j es ev s hk hes he a2 a3 ar ow
   have h:¬ (j:Int)<(l.ents.length:Int):=by omega
   rw [List.drop_of_length_le (by omega)]
   refine ⟨s,ev,zb1 _ _ _ _ _ _ _ s ?_,he,a2,a3,ar,by rw [List.append_nil];exact ow⟩
   simp only [zb0,zdf h,zcf]
 | succ k ih=>
   intro j es ev s hk hes he a2 a3 ar ow
   have h:(j:Int)<(l.ents.length:Int):=by omega
   obtain ⟨e,hx⟩:∃ e,l.ents[j]?=some e:=⟨_,zge (by omega)⟩
   have hd:=drop_cons hx
   have hE:zdB l.nms N (l.ents.drop j)=match zbZ l.nms e.1.nm with
    | none=>.error e.2
    | some x=>if x<0∨(N:Int)≤x then .error e.2 else match zdB l.nms N (l.ents.drop (j+1)) with
      | .error z=>.error z
      | .ok es=>.ok ((e.1.nm,x)::es):=by rw [hd];rfl
   have hsb:=hB.then he
   have hlm:s.lim≤s.next:=he.ll hll
   have ov:=hsb.ov
   rw [show l.ents.length=(l.ents.map (·.1)).length by simp] at ov
   have hmx:(l.ents.map (·.1))[j]?=some e.1:=by rw [List.getElem?_map,hx];rfl
   obtain ⟨p1,b1,b2,_⟩:=ov.rd.load (j:=(j:Int)) (by omega) (by simpa using h) (zaW (f:=valRow) (z:=3) (fun _=>rfl) _ j e.1 hmx) rfl
   have b2':s.ldN p1.1 p1.2 3=some (.agg (valRow e.1).toArray):=b2
   obtain ⟨s4,e4,a4,x4,n4⟩:=zaO (n:=3) (st:=s) hlm (r:=valRow ⟨[],0,0⟩) (row:=valRow e.1) (v:=.agg (valRow e.1).toArray) (zaC _) rfl rfl rfl
   have e4':(s.new (.cells [.string ⟨#[]⟩,.int .i64 0,.int .i64 0] 0)).stV s.next 0 3 (.agg (valRow e.1).toArray)=some s4:=e4
   have he4:=he.trans x4
   have hsb4:=hB.then he4
   have hnl:zak (ptr b 0)=some (ptr b 0):=rfl
   have l7:s4.ld b (0+1)=some (.map (some i)):=hsb4.row.ld
   have l8:s4.ld s.next 0=some (.string (mkS e.1.nm)):=a4.ld
   have l13:s4.ld b (0+3)=some ve:=hsb4.row.ld
   have m7:s4.mapF (.map (some i)) (mkS e.1.nm)=some ((zbZ l.nms e.1.nm).map (.int .i64)):=by
    unfold SS.mapF
    simp only [hsb4.mp,zob,znu]
   obtain ⟨p14,c1,c2,_⟩:=hsb4.oe.rd.load (j:=(j:Int)) (by omega) h (zaW (f:=entRow) (z:=2) (fun _=>rfl) l.ents j e hx) rfl
   have c2':s4.ldN p14.1 p14.2 2=some (.agg (entRow e).toArray):=c2
   have hp14:p14.1<base.next:=by
    obtain ⟨i',z',g1,g2,g3⟩:=hB.oe.rd.elem (j:=(j:Int)) (by omega) h
    rw [g1] at c1;cases c1;exact g3
   have hbt:b≠base.next:=by have:=hB.row.lt;omega
   have a24:=a2.ext x4
   have a34:=a3.ext x4
   obtain ⟨s17,e17,a17,m17,n17⟩:=a24.sto (k:=0) (vs:=NN) (row':=NN) rfl rfl
   obtain ⟨s19,e19,a19,m19,n19⟩:=(a34.mod m17 (by simp)).stV (k:=0) (n:=2) (v:=.agg (entRow e).toArray) (zaC _) rfl rfl (row':=entRow e) rfl
   have hbad:∀ z,z=some (1,[ptr base.next 0,ptr (base.next+1) 0],s19)→LayE base base.next (base.next+1) (base.next+2) N wv ws es z (.error e.2):=fun z hz=>⟨s19,hz,zax (zax he4 m17 (zlr _)) m19 (by omega),a17.mod m19 (by simp),a19⟩
   have hp2:zbt (ptr p14.1 p14.2) (ptr base.next 0)=true:=zc9 (by omega)
   have hp1:zbt (ptr b (0+3)) (ptr base.next 0)=true:=zc9 hbt
   rw [hE]
   cases hf:zbZ l.nms e.1.nm with
   | none=>
     rw [hf] at m7
     refine hbad _ (zb1 _ _ _ _ _ _ _ s ?_)
     simp only [zb0,zdt h,zct,b1,b2',e4',hnl,zac,l7,l8,m7,zob,zab,Option.map_none,zgG,l13,c1,c2',hp1,hp2,e17,e19]
   | some y=>
     rw [hf] at m7
     have ht:(zan (.tuple #[.int .i64 y,.bool true]) 0).bind (asI .i64)=some y:=rfl
     by_cases hy:y<0
     ·simp only [if_pos (show y<0∨(N:Int)≤y from .inl hy)]
      refine hbad _ (zb1 _ _ _ _ _ _ _ s ?_)
      simp only [zb0,zdt h,zct,b1,b2',e4',hnl,zac,l7,l8,m7,zob,zab,Option.map_some,zgG,ht,zdt hy,l13,c1,c2',hp1,hp2,e17,e19]
     ·have l31:s4.ld (base.next+2) 0=some wv:=(ar.ext x4).ld
      by_cases hyN:(N:Int)≤y
      ·simp only [if_pos (show y<0∨(N:Int)≤y from .inr hyN)]
       refine hbad _ (zb1 _ _ _ _ _ _ _ s ?_)
       simp only [zb0,zdt h,zct,b1,b2',e4',hnl,zac,l7,l8,m7,zob,zab,Option.map_some,zgG,ht,zdf hy,zcf,l31,hN,zdt hyN,l13,c1,c2',hp1,hp2,e17,e19]
      ·simp only [if_neg (show ¬ (y<0∨(N:Int)≤y) by omega)]
       have l43:s4.ld (base.next+2) (0+1)=some ev:=(ar.ext x4).ld
       have hlt2:base.next+2<s.next:=ar.lt
       obtain ⟨q,s46,f1,f2,f3⟩:=(ow.ext x4).push (k:=1) (row:=zce (e.1.nm,y)) (bt:=24) rfl (by have:=x4.next;omega) (by rw [he4.lim];omega) rfl (by omega) rfl (by omega) (by omega)
       have f1':(s4.new (.cells ([.string (mkS e.1.nm),.int .i64 y]) 2)).app 2 24 ev (.slice (some ⟨s4.next,0,none⟩) 1 1)=some (.slice (some ⟨q,0,none⟩) (es.length+1) (es.length+1),s46):=f1
       have ar46:At s46 (base.next+2) [wv,ev]:=(ar.ext x4).keepB f3 (by omega) (by simp)
       have a246:=a24.keepB f3 (by omega) (by simp)
       have a346:=a34.keepB f3 (by omega) (by simp)
       obtain ⟨s48,e48,a48,m48,n48⟩:=ar46.stV (k:=1) (n:=1) (v:=.slice (some ⟨q,0,none⟩) (es.length+1) (es.length+1)) (zmt _ _ _) rfl rfl (row':=[wv,.slice (some ⟨q,0,none⟩) (es.length+1) (es.length+1)]) rfl
       have e48':s46.stV (base.next+2) (0+1) 1 (.slice (some ⟨q,0,none⟩) (es.length+1) (es.length+1))=some s48:=e48
       have he46:Ext base s46:=⟨zlt he4.next f3.next,f3.lim.trans he4.lim,fun m hm=>(f3.keep m (by omega) (by simp)).trans (he4.keep m hm)⟩
       have hw1:=za4 (i:=j) (by omega)
       have ow48:=f2.modLt m48 (by intro m hm;have e:m=base.next+2:=(by simpa using hm);omega)
       have ow48':Owns (base.next+3) s48 [⟨wv,rowsF zeG ws,1,N⟩,⟨.slice (some ⟨q,0,none⟩) (es.length+1) (es.length+1),rowsF zce (es++[(e.1.nm,y)]),2,(es++[(e.1.nm,y)]).length⟩]:=by
        rw [zbz,zcg,List.length_append]
        exact ow48
       have next:=ih (j+1) (es++[(e.1.nm,y)]) _ s48 (by omega) (by simp;omega) (zax he46 m48 (by omega)) (a246.mod m48 (by simp)) (a346.mod m48 (by simp)) a48 ow48'
       have step:∀ z,zat 20 [ptr b 0,ptr base.next 0,ptr (base.next+1) 0,ptr (base.next+2) 0,vv,.int .i64 l.ents.length,.int .i64 ((j+1:Nat):Int)] s48=some z→zat 20 [ptr b 0,ptr base.next 0,ptr (base.next+1) 0,ptr (base.next+2) 0,vv,.int .i64 l.ents.length,.int .i64 j] s=some z:=fun z hz=>by
        refine zb1 _ _ _ _ _ _ _ s ?_
        simp only [zb0,zdt h,zct,b1,b2',e4',hnl,zac,l7,l8,m7,zob,zab,Option.map_some,zgG,ht,zdf hy,zcf,l31,hN,zdf hyN,l43,List.append_nil,f1',e48',hw1]
        exact hz
       cases hz:zdB l.nms N (l.ents.drop (j+1)) with
       | error z=>
         rw [hz] at next
         obtain ⟨s',d1,d2⟩:=next
         exact ⟨s',step _ d1,d2⟩
       | ok es'=>
         rw [hz] at next
         obtain ⟨s',ev',d1,d2,d3,d4,d5,d6⟩:=next
         refine ⟨s',ev',step _ d1,d2,d3,d4,d5,?_⟩
         rw [List.append_assoc] at d6
         exact d6
def zma (w e:Value):Value:=.agg #[w,e]
def LayR (base:SS) (res:Option (Value×SS)):Except (Nat×Nat) (List Wd×List (List UInt8×Int))→Prop
 | .error e=>∃ s',res=some (.tuple #[zma (.slice none 0 0) (.slice none 0 0),zaX e],s')∧Ext base s'∧e≠(0,0)
 | .ok (ws,es)=>∃ s' wv ev,res=some (.tuple #[zma wv ev,zaX (0,0)],s')∧Ext base s'∧Own base.next s' wv (rowsF zeG ws) 1 ws.length∧Own base.next s' ev (rowsF zce es) 2 es.length
theorem zk8 {M:Nat} {nms:Nms} {N:Nat}:∀ (xs:List (Nat×PLine)) (ws:List Wd) (e:Nat×Nat),(∀ x∈xs,LineOk M x.2∧x.2.prs≠[]∧0<x.2.ln)→zcm nms N xs ws=.error e→0<e.1
 | [],ws,e,_,h=>by cases h
 | x::r,ws,e,hx,h=>by
   unfold zcm at h
   have:=(hx x (by simp)).2.2
   split at h
   ·cases h;exact this
   ·split at h
    ·cases h;exact this
    ·exact zk8 r _ e (fun y hy=>hx y (by simp [hy])) h
theorem zmb {nms:Nms} {N:Nat}:∀ (xs:List (Val×Nat×Nat)) (e:Nat×Nat),(∀ x∈xs,x.1.nm≠[]∧0<x.2.1∧0<x.2.2)→zdB nms N xs=.error e→0<e.1
 | [],e,_,h=>by cases h
 | x::r,e,hx,h=>by
   unfold zdB at h
   have:=(hx x (by simp)).2.1
   split at h
   ·cases h;exact this
   ·split at h
    ·cases h;exact this
    ·split at h
     ·rename_i hz
      cases h
      exact zmb r _ (fun y hy=>hx y (by simp [hy])) hz
     ·cases h
theorem zsM:zf2 zaG=0:=by decide+kernel
theorem zps (n:Nat):rowsF zeG (List.replicate n zaG)=List.replicate n (.int .u64 0):=by
 induction n with
 | zero=>rfl
 | succ n ih=>rw [List.replicate_succ,zdh,ih,List.replicate_succ];unfold zeG;rw [zsM];rfl
theorem zg4 {nms:Nms} {N:Nat}:∀ (xs:List (Nat×PLine)) (ws ws':List Wd),zcm nms N xs ws=.ok ws'→ws'.length=ws.length
 | [],ws,ws',h=>by cases h;rfl
 | x::r,ws,ws',h=>by
   unfold zcm at h
   split at h
   ·cases h
   ·split at h
    ·cases h
    ·rw [zg4 r _ ws' h,List.length_set]
theorem lay_ok [Sym] {st0 base:SS} {B b i M:Nat} {vw ve vv:Value} {l:Lay} {its:List WItem} (hB:Bld st0 base B b i vw ve vv l its) (hL:LayOk M l) (hM:M≤100000) (hn:l.ents.length≤100000) (hg:Gd base):
  LayR base (cc 44 [ptr b 0] base) (zgh l):=by
 have hll:base.lim≤base.next:=by rw [hB.ext.lim];have:=hB.ll;have:=hB.ext.next;omega
 have hil:its.length=l.wds.length:=by rw [← hB.wds,List.length_map]
 have hil2:its.length≤2048:=by
  have h1:=hL.wlen
  have h2:=hL.pl
  omega
 have x1:Ext base (base.new (.cells NN 0)):=(Ext.refl _).new _
 have x2:Ext (base.new (.cells NN 0)) ((base.new (.cells NN 0)).new (.cells Z2 0)):=(Ext.refl _).new _
 have x3:Ext ((base.new (.cells NN 0)).new (.cells Z2 0)) (((base.new (.cells NN 0)).new (.cells Z2 0)).new (.cells NN 0)):=(Ext.refl _).new _
 have a2:At (((base.new (.cells NN 0)).new (.cells Z2 0)).new (.cells NN 0)) base.next NN:=((At.new hll NN).ext x2).ext x3
 have a3:At (((base.new (.cells NN 0)).new (.cells Z2 0)).new (.cells NN 0)) (base.next+1) Z2:=(At.new (st:=base.new (.cells NN 0)) (x1.ll hll) Z2).ext x3
 have ar:At (((base.new (.cells NN 0)).new (.cells Z2 0)).new (.cells NN 0)) (base.next+2) NN:=At.new (st:=(base.new (.cells NN 0)).new (.cells Z2 0)) ((x1.trans x2).ll hll) NN
 have he3:Ext base (((base.new (.cells NN 0)).new (.cells Z2 0)).new (.cells NN 0)):=x1.trans (x2.trans x3)
 have hn1:(base.new (.cells NN 0)).next=base.next+1:=rfl
 have hn2:((base.new (.cells NN 0)).new (.cells Z2 0)).next=base.next+2:=rfl
 have hn3:(((base.new (.cells NN 0)).new (.cells Z2 0)).new (.cells NN 0)).next=base.next+3:=rfl
 generalize hs3:((base.new (.cells NN 0)).new (.cells Z2 0)).new (.cells NN 0)=s3 at*
 have hsb:=hB.then he3
 have hnl:zak (ptr b 0)=some (ptr b 0):=rfl
 have l6:s3.ld b (0+2)=some vw:=hsb.row.ld
 have hlen:(lenV vw).bind (asI .i64)=some (its.length:Int):=by rw [hB.ow.len];rfl
 have rest:∀ (s:SS) (wv:Value),Ext base s→At s base.next NN→At s (base.next+1) Z2→At s (base.next+2) [wv,.slice none 0 0]→Own (base.next+3) s wv (rowsF zeG (List.replicate (sizeT l) zaG)) 1 (sizeT l)→
   LayR base ((zat 6 [ptr b 0,ptr base.next 0,ptr (base.next+1) 0,ptr (base.next+2) 0,vw,.int .i64 its.length,.int .i64 0] s).bind fun r21=>cond (Nat.beq r21.1 0) (
  (r21.2.1[0]?).bind fun v22=>
  (r21.2.1[1]?).bind fun v23=>
  (r21.2.1[2]?).bind fun v24=>
  (r21.2.1[3]?).bind fun v25=>
  (zak v22).bind fun v26=>
  (addr? v26).bind fun p27=>
  (r21.2.2.ld p27.1 (p27.2+4)).bind fun v28=>
  ((lenV v28).bind (asI .i64)).bind fun n29=>
  (zat 20 [v22,v23,v24,v25,v28,.int .i64 n29,.int .i64 0] r21.2.2).bind fun r30=>
  cond (Nat.beq r30.1 0) (
   (r30.2.1[0]?).bind fun v31=>
   (r30.2.1[1]?).bind fun v32=>
   (r30.2.1[2]?).bind fun v33=>
   (addr? v33).bind fun p34=>
   (r30.2.2.ldN p34.1 p34.2 2).bind fun v35=>
   (addr? v31).bind fun p36=>
   (r30.2.2.stV p36.1 p36.2 2 v35).bind fun st37=>
   (addr? v32).bind fun p38=>
   (st37.st p38.1 p38.2 [.int .i64 0,.int .i64 0]).bind fun st39=>
   (addr? v31).bind fun p40=>
   (st39.rdN p40.1 p40.2 2).bind fun v41=>
   (addr? v32).bind fun p42=>
   (st39.rdN p42.1 p42.2 2).bind fun v43=>
   some (.tuple #[v41,v43],st39)) (
   (r30.2.1[0]?).bind fun v44=>
   (r30.2.1[1]?).bind fun v45=>
   (addr? v44).bind fun p46=>
   (r30.2.2.rdN p46.1 p46.2 2).bind fun v47=>
   (addr? v45).bind fun p48=>
   (r30.2.2.rdN p48.1 p48.2 2).bind fun v49=>
   some (.tuple #[v47,v49],r30.2.2))) (
  (r21.2.1[0]?).bind fun v50=>
  (r21.2.1[1]?).bind fun v51=>
  (addr? v50).bind fun p52=>
  (r21.2.2.rdN p52.1 p52.2 2).bind fun v53=>
  (addr? v51).bind fun p54=>
  (r21.2.2.rdN p54.1 p54.2 2).bind fun v55=>
  some (.tuple #[v53,v55],r21.2.2))) (zgh l):=by
  intro s wv he b2 b3 br bo
  have hN:(lenV wv).bind (asI .i64)=some ((sizeT l:Nat):Int):=by rw [bo.len];rfl
  have hw:=zwj hB hL hM hg hN its.length 0 (List.replicate (sizeT l) zaG) s rfl (by simp) he b2 b3 br bo
  rw [List.drop_zero] at hw
  have b0:Nat.beq 0 0=true:=rfl
  have b1:Nat.beq 1 0=false:=rfl
  unfold zgh
  cases hws:zcm l.nms (sizeT l) l.wds (List.replicate (sizeT l) zaG) with
  | error e=>
    rw [hws] at hw
    obtain ⟨s',c1,c2,c3,c4⟩:=hw
    have c1':zat 6 [ptr b 0,ptr base.next 0,ptr (base.next+1) 0,ptr (base.next+2) 0,vw,.int .i64 its.length,.int .i64 0] s=_:=c1
    have r1:=c3.rdN (n:=2) rfl
    have r2:=c4.rdN (n:=2) rfl
    refine ⟨s',?_,c2,fun hh=>by have:=zk8 _ _ _ hL.prs hws;rw [hh] at this;omega⟩
    rw [c1',zob]
    simp only [b1,zcf,zgs,zgz,zob,zac,r1,r2]
    rfl
  | ok ws=>
    rw [hws] at hw
    obtain ⟨s',c1,c2,c3,c4,c5,c6,c7⟩:=hw
    have c1':zat 6 [ptr b 0,ptr base.next 0,ptr (base.next+1) 0,ptr (base.next+2) 0,vw,.int .i64 its.length,.int .i64 0] s=_:=c1
    have hsb':=hB.then c2
    have l28:s'.ld b (0+4)=some vv:=hsb'.row.ld
    have hlen2:(lenV vv).bind (asI .i64)=some (l.ents.length:Int):=by rw [hB.ov.len];rfl
    have ow:Owns (base.next+3) s' [⟨wv,rowsF zeG ws,1,sizeT l⟩,⟨.slice none 0 0,rowsF zce [],2,([]:List (List UInt8×Int)).length⟩]:=by
     refine ⟨fun k o ho=>?_,fun k m a b' j ha hb h1 h2=>?_⟩
     ·match k,ho with
      | 0,ho=>cases ho;exact c6
      | 1,ho=>cases ho;exact Own.nil _ _ _
      | k+2,ho=>simp at ho
     ·match k,m,ha,hb with
      | 0,0,_,_=>rfl
      | 1,1,_,_=>rfl
      | 0,1,_,hb=>cases hb;cases h2
      | 1,0,ha,_=>cases ha;cases h1
      | k+2,_,ha,_=>simp at ha
      | _,k+2,_,hb=>simp at hb
    have hen:=zvj hB hL hn ws hN l.ents.length 0 [] _ s' rfl (by simp) c2 c3 c4 c5 ow
    rw [List.drop_zero] at hen
    rw [c1',zob]
    simp only [b0,zct,zgs,zgz,zob,hnl,zac,l28,hlen2]
    cases hes:zdB l.nms (sizeT l) l.ents with
    | error e=>
      rw [hes] at hen
      obtain ⟨s2,d1,d2,d3,d4⟩:=hen
      have d1':zat 20 [ptr b 0,ptr base.next 0,ptr (base.next+1) 0,ptr (base.next+2) 0,vv,.int .i64 l.ents.length,.int .i64 0] s'=_:=d1
      have r1:=d3.rdN (n:=2) rfl
      have r2:=d4.rdN (n:=2) rfl
      refine ⟨s2,?_,d2,fun hh=>by have:=zmb _ _ hL.ent hes;rw [hh] at this;omega⟩
      rw [d1',zob]
      simp only [b1,zcf,zgs,zgz,zob,zac,r1,r2]
      rfl
    | ok es=>
      rw [hes] at hen
      obtain ⟨s2,ev,d1,d2,d3,d4,d5,d6⟩:=hen
      have d1':zat 20 [ptr b 0,ptr base.next 0,ptr (base.next+1) 0,ptr (base.next+2) 0,vv,.int .i64 l.ents.length,.int .i64 0] s'=_:=d1
      have l35:=d5.ldN (n:=2) rfl
      have o1:=d6.own 0 _ rfl
      have o2:=d6.own 1 _ rfl
      simp only [List.nil_append] at o2
      have w1:one wv=true:=(Own.cell o1).2
      have w2:one ev=true:=(Own.cell o2).2
      obtain ⟨s37,e37,a37,m37,n37⟩:=d3.stV (k:=0) (n:=2) (v:=.agg [wv,ev].toArray) (zaC _) rfl (by simp [w1,w2]) (row':=[wv,ev]) rfl
      obtain ⟨s39,e39,a39,m39,n39⟩:=(d4.mod m37 (by simp)).sto (k:=0) (vs:=Z2) (row':=Z2) rfl rfl
      have r1:=(a37.mod m39 (by simp)).rdN (n:=2) rfl
      have r2:=a39.rdN (n:=2) rfl
      have hlw:=zg4 _ _ _ hws
      rw [List.length_replicate] at hlw
      have q1:∀ m,m∈[base.next]→m<base.next+3:=(by intro m hm;have e:m=base.next:=(by simpa using hm);omega)
      have q2:∀ m,m∈[base.next+1]→m<base.next+3:=(by intro m hm;have e:m=base.next+1:=(by simpa using hm);omega)
      refine ⟨s39,wv,ev,?_,zax (zax d2 m37 (zlr _)) m39 (by omega),?_,((o2.modLt m37 q1).modLt m39 q2).low (by omega)⟩
      ·rw [d1',zob]
       simp only [b0,zct,zgs,zgz,zob,zac,l35,e37,e39,r1,r2]
       rfl
      ·rw [hlw]
       exact ((o1.modLt m37 q1).modLt m39 q2).low (by omega)
 by_cases hw0:0<its.length
 ·have hp:(0:Int)<(its.length:Int):=by omega
  obtain ⟨x,hx⟩:∃ x,its[its.length-1]?=some x:=⟨_,zge (by omega)⟩
  have hwx:l.wds.getLast?=some (x.1,x.2.1):=by
   rw [List.getLast?_eq_getElem?,← hB.wds,List.length_map,List.getElem?_map,hx];rfl
  have hsz:sizeT l=x.1+1:=by unfold sizeT;rw [hwx]
  have hszb:=(ziM hL).2
  have n11:IntKind.wrap .i64 ((its.length:Int)-1)=((its.length-1:Nat):Int):=by rw [wrap64 (by omega) (by omega)];omega
  obtain ⟨p12,b1,_,b3⟩:=hsb.ow.rd.load (j:=((its.length-1:Nat):Int)) (by omega) (by omega) (zaW (f:=wdRow) (z:=6) (fun _=>rfl) its (its.length-1) x hx) rfl
  have l13:s3.ld p12.1 p12.2=some (.int .i64 x.1):=b3 0 (by omega)
  have n14:IntKind.wrap .i64 ((x.1:Int)+1)=((sizeT l:Nat):Int):=by rw [wrap64 (by omega) (by omega),hsz];omega
  have hmk:ze3 ((sizeT l:Nat):Int) ((sizeT l:Nat):Int) 8=some ():=zkL (by omega) (by omega) (by omega)
  have x15:Ext s3 (s3.new (.cells (List.replicate (sizeT l) (.int .u64 0)) 1)):=(Ext.refl _).new _
  obtain ⟨s16,e16,a16,m16,n16⟩:=(ar.ext x15).sto (k:=0) (vs:=[.slice (some ⟨s3.next,0,none⟩) (sizeT l) (sizeT l)]) (row':=[.slice (some ⟨s3.next,0,none⟩) (sizeT l) (sizeT l),.slice none 0 0]) rfl rfl
  have ow16:Own (base.next+3) s16 (.slice (some ⟨s3.next,0,none⟩) (sizeT l) (sizeT l)) (rowsF zeG (List.replicate (sizeT l) zaG)) 1 (sizeT l):=by
   refine ⟨by rw [zps];simp,.inr ⟨s3.next,rfl,by omega,?_,by omega,by rw [n16];simp⟩⟩
   rw [zps]
   exact m16.get (by simp) (by simp;omega) (SS.new_get)
  have hr:=rest s16 _ (zax (he3.trans x15) m16 (by omega)) ((a2.ext x15).mod m16 (by simp)) ((a3.ext x15).mod m16 (by simp)) a16 ow16
  have l19:s16.ld b (0+2)=some vw:=(hB.then (zax (he3.trans x15) m16 (by omega))).row.ld
  have hst:∀ z,z=zds cc zat (ptr b 0) base→LayR base z (zgh l):=fun z hz=>by
   rw [hz]
   simp only [zds,hs3,hn1,hn2,hnl,zob,zac,l6,hlen,zdt hp,zct,n11,b1,l13,zaa,n14,hmk,zkM,Int.toNat_natCast,e16,l19]
   exact hr
  have hfin:=hst _ rfl
  cases hro:zgh l with
  | error e=>
    rw [hro] at hfin
    obtain ⟨s',c,d⟩:=hfin
    exact ⟨s',zdC _ base c,d⟩
  | ok y=>
    obtain ⟨ws,es⟩:=y
    rw [hro] at hfin
    obtain ⟨s',wv,ev,c,d⟩:=hfin
    exact ⟨s',wv,ev,zdC _ base c,d⟩
 ·have hp:¬ (0:Int)<(its.length:Int):=by omega
  have hwn:l.wds=[]:=List.length_eq_zero_iff.1 (by omega)
  have hsz:sizeT l=0:=by unfold sizeT;rw [hwn];rfl
  have hr:=rest s3 (.slice none 0 0) he3 a2 a3 ar (by rw [hsz];exact Own.nil _ _ _)
  have hst:∀ z,z=zds cc zat (ptr b 0) base→LayR base z (zgh l):=fun z hz=>by
   rw [hz]
   simp only [zds,hs3,hn1,hn2,hnl,zob,zac,l6,hlen,zdf hp,zcf]
   exact hr
  have hfin:=hst _ rfl
  cases hro:zgh l with
  | error e=>
    rw [hro] at hfin
    obtain ⟨s',c,d⟩:=hfin
    exact ⟨s',zdC _ base c,d⟩
  | ok y=>
    obtain ⟨ws,es⟩:=y
    rw [hro] at hfin
    obtain ⟨s',wv,ev,c,d⟩:=hfin
    exact ⟨s',wv,ev,zdC _ base c,d⟩
end Go.Proofs.YtifploedaacedaaGreatDoorE
namespace Go.Proofs.YtifploedaacedaaGreatDoorE
open Go Go.E Go.Proofs
theorem zqO (a b c d:Int):eqA Tryz.prog Lk0 97 (.agg #[.int .i64 a,.int .i64 b]) (.agg #[.int .i64 c,.int .i64 d])=some (decide (a=c)&&(decide (b=d)&&true)):=by kernel_rfl
theorem At.frm {b i j:Nat} {vw:Value} {st st':SS} {row:List Value} (h:At st j row) (f:Frm b i vw st st') (h1:j≠b) (h2:j≠i) (h3:blkOf vw≠some j):At st' j row:=⟨(f.keep j h.lt h1 h2 h3).trans h.1,zll h.lt f.next,by rw [f.lim];exact h.2.2⟩
theorem zhM {st:SS} {v:Value} {c:List Value} {z n:Nat} (h:Rd st v c z n):one v=true:=by obtain ⟨_,⟨e,_⟩ | ⟨i,c,e,_⟩⟩:=h<;>rw [e]<;>rfl
def AsmL (base st0:SS) (B b i t2 t3:Nat) (res:Option (Nat×List Value×SS)):Except (Nat×Nat) Lay→Prop
 | .error e=>∃ s',res=some (1,[ptr t2 0,ptr t3 0,.int .i64 4],s')∧Ext base s'∧At s' t2 NN∧At s' t3 [.int .i64 e.1,.int .i64 e.2]
 | .ok l=>∃ s' vw ve vv its,res=some (0,[ptr t2 0,ptr t3 0,ptr b 0],s')∧Bld st0 s' B b i vw ve vv l its
theorem zwk [Sym] {base st0:SS} {B b i M:Nat} (hM:M≤100000) (items:List Item) (hits:items.length≤99999) (hok:∀ x∈items,LineOk M x.1∧0<x.1.ln) (v:Value) (hv:Rd st0 v (rowsF lnRow items) 5 items.length)
  (hrd:∀ x∈items,Rd st0 x.2.1 (rowsF valRow x.1.args) 3 x.1.args.length∧Rd st0 x.2.2 (rowsF prRow x.1.prs) 5 x.1.prs.length) (hx0:Ext base st0) (hb2:base.next+2≤st0.next) (a2:At st0 base.next NN) (a3:At st0 (base.next+1) Z2):
  ∀ (k j:Nat) (l:Lay) (vw ve vv:Value) (its:List WItem) (s:SS),items.length=k+j→Bld st0 s B b i vw ve vv l its→LayOk M l→l.ents.length≤j→
  AsmL base st0 B b i base.next (base.next+1) (zbV 6 [ptr base.next 0,ptr (base.next+1) 0,ptr b 0,v,.int .i64 items.length,.int .i64 j] s) (zeh l ((items.drop j).map (·.1))):=by
 intro k
 induction k with
 | zero=>
   intro j l vw ve vv its s hk hB hL hen
   have h:¬ (j:Int)<(items.length:Int):=by omega
   rw [List.drop_of_length_le (by omega)]
   refine ⟨s,vw,ve,vv,its,ze0 _ _ _ _ _ _ s ?_,hB⟩
   simp only [zeF,zdf h,zcf]
 | succ k ih=>
   intro j l vw ve vv its s hk hB hL hen
   have h:(j:Int)<(items.length:Int):=by omega
   obtain ⟨x,hx⟩:∃ x,items[j]?=some x:=⟨_,zge (by omega)⟩
   have hmem:=zmg hx
   have hd:=drop_cons hx
   have hlm:s.lim≤s.next:=hB.ext.ll hB.ll
   have hil:its.length≤2048:=by
    have h1:=hL.wlen
    have h2:=hL.pl
    rw [← hB.wds,List.length_map] at h1
    omega
   obtain ⟨p1,b1,b2,_⟩:=(hv.ext hB.ext).load (j:=(j:Int)) (by omega) h (zaW (f:=lnRow) (z:=5) (fun _=>rfl) items j x hx) rfl
   have b2':s.ldN p1.1 p1.2 5=some (.agg (lnRow x).toArray):=b2
   have ho:one x.2.1=true∧one x.2.2=true:=⟨zhM (hrd x hmem).1,zhM (hrd x hmem).2⟩
   obtain ⟨s4,e4,a4,x4,n4⟩:=zaO (n:=5) (st:=s) hlm (r:=lnRow (⟨0,[],[],[],[]⟩,.slice none 0 0,.slice none 0 0)) (row:=lnRow x) (v:=.agg (lnRow x).toArray) (zaC _) rfl (by
    simp only [lnRow,List.all_cons,List.all_nil,ho.1,ho.2]
    rfl) rfl
   have e4':(s.new (.cells [.int .i64 0,.string ⟨#[]⟩,.string ⟨#[]⟩,.slice none 0 0,.slice none 0 0] 0)).stV s.next 0 5 (.agg (lnRow x).toArray)=some s4:=e4
   have l5:s4.ldN s.next 0 5=some (.agg (lnRow x).toArray):=a4.ldN rfl
   have hf:=zvf (hB.then x4) x (hrd x hmem) ho hL.pl (by omega) (by omega) (by have:=(hok x hmem).1.sa;omega)
   have hL6:zeh l ((items.drop j).map (·.1))=match zg1 l x.1 with
    | none=>.error (x.1.ln,1)
    | some l'=>zeh l' ((items.drop (j+1)).map (·.1)):=by rw [hd];rfl
   rw [hL6]
   cases hln:zg1 l x.1 with
   | none=>
     rw [hln] at hf
     obtain ⟨s6,c6,f6⟩:=hf
     have hxs:∀ q,q<st0.next→q≠b∧q≠i∧blkOf vw≠some q:=fun q hq=>⟨by have:=hB.b0;omega,by have:=hB.i0;omega,fun e=>by have:=(zcZ hB.ow e).1;have:=hB.b0;have:=hB.bB;omega⟩
     have a46:At s6 s.next (lnRow x):=At.frm a4 f6 (by have:=hB.bB;have:=hB.BN;omega) (by have:=hB.iB;have:=hB.BN;omega) fun e=>by have:=(zcZ hB.ow e).2;omega
     have a26:At s6 base.next NN:=At.frm (a2.ext (hB.ext.trans x4)) f6 (hxs _ (by omega)).1 (hxs _ (by omega)).2.1 (hxs _ (by omega)).2.2
     have a36:At s6 (base.next+1) Z2:=At.frm (a3.ext (hB.ext.trans x4)) f6 (hxs _ (by omega)).1 (hxs _ (by omega)).2.1 (hxs _ (by omega)).2.2
     have x6:Ext base s6:=by
      have y:=(hx0.trans hB.ext).trans x4
      exact ⟨zlt y.next f6.next,f6.lim.trans y.lim,fun q hq=>(f6.keep q (zll hq y.next) (hxs q (by omega)).1 (hxs q (by omega)).2.1 (hxs q (by omega)).2.2).trans (y.keep q hq)⟩
     have l8:s6.ld s.next 0=some (.int .i64 x.1.ln):=a46.ld
     obtain ⟨s10,e10,a10,m10,n10⟩:=a26.sto (k:=0) (vs:=NN) (row':=NN) rfl rfl
     obtain ⟨s12,e12,a12,m12,n12⟩:=(a36.mod m10 (by simp)).sto (k:=0) (vs:=[.int .i64 x.1.ln,.int .i64 1]) (row':=[.int .i64 x.1.ln,.int .i64 1]) rfl rfl
     have hne:zbt (ptr s.next 0) (ptr base.next 0)=true:=zc9 (by have:=hB.ext.next;omega)
     refine ⟨s12,ze0 _ _ _ _ _ _ s ?_,zax (zax x6 m10 (zlr _)) m12 (by omega),a10.mod m12 (by simp),a12⟩
     simp only [zeF,zdt h,zct,b1,b2',e4',l5,c6,zob,zal,znf,l8,zaa,hne,zac,e10,e12]
   | some l'=>
     rw [hln] at hf
     obtain ⟨s6,vw',ve',vv',its',c6,h6,_⟩:=hf
     obtain ⟨g1,g2⟩:=znv hL (hok x hmem).1 (hok x hmem).2 hln
     have next:=ih (j+1) l' vw' ve' vv' its' s6 (by omega) h6 g1 (by omega)
     have hw1:=za4 (i:=j) (by omega)
     have step:∀ z,zbV 6 [ptr base.next 0,ptr (base.next+1) 0,ptr b 0,v,.int .i64 items.length,.int .i64 ((j+1:Nat):Int)] s6=some z→zbV 6 [ptr base.next 0,ptr (base.next+1) 0,ptr b 0,v,.int .i64 items.length,.int .i64 j] s=some z:=fun z hz=>by
      refine ze0 _ _ _ _ _ _ s ?_
      simp only [zeF,zdt h,zct,b1,b2',e4',l5,c6,zob,zal,znt,zcf,hw1]
      exact hz
     simp only
     cases hz:zeh l' ((items.drop (j+1)).map (·.1)) with
     | error e=>
       rw [hz] at next
       obtain ⟨s',d1,d2⟩:=next
       exact ⟨s',step _ d1,d2⟩
     | ok l2=>
       rw [hz] at next
       obtain ⟨s',w1,w2,w3,w4,d1,d2⟩:=next
       exact ⟨s',w1,w2,w3,w4,step _ d1,d2⟩
def AsmR (st:SS) (res:Option (Value×SS)):Except (Nat×Nat) (List Wd×List (List UInt8×Int))→Prop
 | .error e=>∃ s',res=some (.tuple #[zma (.slice none 0 0) (.slice none 0 0),zaX e,.int .i64 4],s')∧Ext st s'
 | .ok (ws,es)=>∃ s' wv ev,res=some (.tuple #[zma wv ev,zaX (0,0),.int .i64 0],s')∧Ext st s'∧Own st.next s' wv (rowsF zeG ws) 1 ws.length∧Own st.next s' ev (rowsF zce es) 2 es.length
theorem asm_ok [Sym] {st:SS} (hg:Gd st) (hl:st.lim≤st.next) (s:ByteArray) (hs:s.size≤65536):AsmR st (cc 16 [.string s] st) (zk7 (bl s)):=by
 have x1:Ext st (st.new (.cells NN 0)):=(Ext.refl _).new _
 have x2:Ext (st.new (.cells NN 0)) ((st.new (.cells NN 0)).new (.cells Z2 0)):=(Ext.refl _).new _
 have a2:At ((st.new (.cells NN 0)).new (.cells Z2 0)) st.next NN:=(At.new hl NN).ext x2
 have a3:At ((st.new (.cells NN 0)).new (.cells Z2 0)) (st.next+1) Z2:=At.new (st:=st.new (.cells NN 0)) (x1.ll hl) Z2
 have hn1:(st.new (.cells NN 0)).next=st.next+1:=rfl
 have hn2:((st.new (.cells NN 0)).new (.cells Z2 0)).next=st.next+2:=rfl
 have x02:=x1.trans x2
 generalize hs2:(st.new (.cells NN 0)).new (.cells Z2 0)=s2 at*
 have hp:=zu6 (hg.ext x02) (x02.ll hl) s hs
 have t0:∀ (a b c:Value),zan (.tuple #[a,b,c]) 0=some a:=fun _ _ _=>rfl
 have t1:∀ (a b c:Value),zan (.tuple #[a,b,c]) 1=some b:=fun _ _ _=>rfl
 have t2:∀ (a b c:Value),zan (.tuple #[a,b,c]) 2=some c:=fun _ _ _=>rfl
 have u0:∀ (a b:Value),zan (.tuple #[a,b]) 0=some a:=fun _ _=>rfl
 have u1:∀ (a b:Value),zan (.tuple #[a,b]) 1=some b:=fun _ _=>rfl
 unfold zk7
 cases hpt:zfs (bl s) with
 | error e=>
   rw [hpt] at hp
   obtain ⟨s3,c3,x3⟩:=hp
   obtain ⟨s8,e8,a8,x8,n8⟩:=zaO (n:=2) (st:=s3) ((x02.trans x3).ll hl) (r:=Z2) (row:=[.int .i64 e.1,.int .i64 e.2]) (v:=zaX e) rfl rfl rfl rfl
   have e8':(s3.new (.cells [.int .i64 0,.int .i64 0] 0)).stV s3.next 0 2 (zaX e)=some s8:=e8
   have h4:¬ (4:Int)=0:=by decide
   have a28:=(a2.ext x3).ext x8
   have a38:=(a3.ext x3).ext x8
   have l9:s8.ldN s3.next 0 2=some (zaX e):=a8.ldN rfl
   have hne:zbt (ptr s3.next 0) (ptr st.next 0)=true:=zc9 (by have:=x3.next;omega)
   obtain ⟨s10,e10,a10,m10,n10⟩:=a28.sto (k:=0) (vs:=NN) (row':=NN) rfl rfl
   obtain ⟨s11,e11,a11,m11,n11⟩:=(a38.mod m10 (by simp)).stV (k:=0) (n:=2) (v:=zaX e) (vs:=[.int .i64 e.1,.int .i64 e.2]) rfl rfl rfl (row':=[.int .i64 e.1,.int .i64 e.2]) rfl
   have r1:=(a10.mod m11 (by simp)).rdN (n:=2) rfl
   have r2:=a11.rdN (n:=2) rfl
   refine ⟨s11,zeE _ st ?_,zax (zax ((x02.trans x3).trans x8) m10 (zlr _)) m11 (by omega)⟩
   simp only [zeM,hs2,hn1,c3,t0,t1,t2,zob,zaa,e8',zdf h4,znf,zct,l9,hne,e10,e11,r1,r2]
   rfl
 | ok xs=>
   rw [hpt] at hp
   obtain ⟨v,s3,c3,x3,items,hxs,hv,hrd⟩:=hp
   obtain ⟨hok,hlen⟩:=zmu hpt
   rw [zaJ] at hok hlen
   obtain ⟨s8,e8,a8,x8,n8⟩:=zaO (n:=2) (st:=s3) ((x02.trans x3).ll hl) (r:=Z2) (row:=Z2) (v:=zaX (0,0)) rfl rfl rfl rfl
   have e8':(s3.new (.cells [.int .i64 0,.int .i64 0] 0)).stV s3.next 0 2 (zaX (0,0))=some s8:=e8
   have h0:(0:Int)=0:=rfl
   have x08:=(x02.trans x3).trans x8
   have hl8:=x08.ll hl
   have hlen':(lenV v).bind (asI .i64)=some (items.length:Int):=by rw [hv.len];rfl
   have hil:items.length=xs.length:=by rw [← hxs,List.length_map]
   have hmp:((s8.new (.map [])).new (.cells (bldRow 0 s8.next (.slice none 0 0) (.slice none 0 0) (.slice none 0 0)) 0)).mem.get s8.next=some (.map []):=by
    rw [SS.new_old (by simp)];exact SS.new_get
   have hB0:Bld s8 ((s8.new (.map [])).new (.cells (bldRow 0 s8.next (.slice none 0 0) (.slice none 0 0) (.slice none 0 0)) 0)) (s8.next+2) (s8.next+1) s8.next (.slice none 0 0) (.slice none 0 0) (.slice none 0 0) zdH []:=
    ⟨((Ext.refl s8).new _).new _,hl8,At.new (st:=s8.new (.map [])) (by simp;omega) _,hmp,by omega,zlr _,by omega,by omega,by omega,by simp,Own.nil _ _ _,Own.nil _ _ _,Own.nil _ _ _,fun j hj=>(by cases hj),fun j hj=>(by cases hj),rfl,fun x hx=>(by cases hx)⟩
   have hb2:st.next+2≤s8.next:=by have:=x3.next;have:=x8.next;omega
   have hloop:=zwk (base:=st) (st0:=s8) (B:=s8.next+2) (b:=s8.next+1) (i:=s8.next) (M:=s.size+1) (by omega) items (by omega) (fun x hx=>hok x.1 (by rw [← hxs];exact List.mem_map_of_mem hx)) v (hv.ext x8) (fun x hx=>⟨(hrd x hx).1.ext x8,(hrd x hx).2.ext x8⟩) x08 hb2 ((a2.ext x3).ext x8) ((a3.ext x3).ext x8)
    items.length 0 zdH _ _ _ [] _ rfl hB0 (zil _) (by simp [zdH])
   rw [List.drop_zero,hxs] at hloop
   have b0:Nat.beq 0 0=true:=rfl
   have b1:Nat.beq 1 0=false:=rfl
   simp only
   cases hly:zeh zdH xs with
   | error e=>
     rw [hly] at hloop
     obtain ⟨s17,d1,d2,d3,d4⟩:=hloop
     have d1':zbV 6 [ptr st.next 0,ptr (st.next+1) 0,ptr (s8.new (.map [])).next 0,v,.int .i64 items.length,.int .i64 0] ((s8.new (.map [])).new (.cells [.int .i64 0,.map (some s8.next),.slice none 0 0,.slice none 0 0,.slice none 0 0] 0))=_:=d1
     have r1:=d3.rdN (n:=2) rfl
     have r2:=d4.rdN (n:=2) rfl
     refine ⟨s17,zeE _ st ?_,d2⟩
     simp only [zeM,hs2,hn1,c3,t0,t1,t2,zob,zaa,e8',decide_true,znt,zcf,hlen']
     rw [d1',zob]
     simp only [b1,zcf,zgs,zgz,zob,zac,zaa,r1,r2]
     rfl
   | ok l=>
     rw [hly] at hloop
     obtain ⟨s17,vw,ve,vv,its,d1,hB⟩:=hloop
     have d1':zbV 6 [ptr st.next 0,ptr (st.next+1) 0,ptr (s8.new (.map [])).next 0,v,.int .i64 items.length,.int .i64 0] ((s8.new (.map [])).new (.cells [.int .i64 0,.map (some s8.next),.slice none 0 0,.slice none 0 0,.slice none 0 0] 0))=_:=d1
     obtain ⟨hL,hen⟩:=zmv xs zdH l (zil (s.size+1)) hok hly
     simp only [zdH,List.length_nil,Nat.zero_add] at hen
     have x017:=x08.trans hB.ext
     have hlay:=lay_ok hB hL (by omega) (by omega) (hg.ext x017)
     have a217:=((a2.ext x3).ext x8).ext hB.ext
     have a317:=((a3.ext x3).ext x8).ext hB.ext
     have hn17:st.next+2≤s17.next:=zlt hb2 hB.ext.next
     simp only
     cases hro:zgh l with
     | error e=>
       rw [hro] at hlay
       obtain ⟨s21,c21,x21,hne⟩:=hlay
       have hll21:=x21.ll (x017.ll hl)
       have y1:Ext s21 (s21.new (.cells NN 0)):=(Ext.refl _).new _
       have y2:Ext (s21.new (.cells NN 0)) ((s21.new (.cells NN 0)).new (.cells Z2 0)):=(Ext.refl _).new _
       have q1:At ((s21.new (.cells NN 0)).new (.cells Z2 0)) s21.next NN:=(At.new hll21 NN).ext y2
       have q2:At ((s21.new (.cells NN 0)).new (.cells Z2 0)) (s21.new (.cells NN 0)).next Z2:=At.new (st:=s21.new (.cells NN 0)) (y1.ll hll21) Z2
       have hnn:(s21.new (.cells NN 0)).next=s21.next+1:=rfl
       obtain ⟨s26,e26,a26,m26,n26⟩:=q1.stV (k:=0) (n:=2) (v:=zma (.slice none 0 0) (.slice none 0 0)) (vs:=NN) rfl rfl rfl (row':=NN) rfl
       obtain ⟨s27,e27,a27,m27,n27⟩:=(q2.mod m26 (by simp)).stV (k:=0) (n:=2) (v:=zaX e) (vs:=[.int .i64 e.1,.int .i64 e.2]) rfl rfl rfl (row':=[.int .i64 e.1,.int .i64 e.2]) rfl
       have l28:s27.ldN (s21.new (.cells NN 0)).next 0 2=some (.agg #[.int .i64 e.1,.int .i64 e.2]):=a27.ldN rfl
       have heq:(decide ((e.1:Int)=0)&&(decide ((e.2:Int)=0)&&true))=false:=by
        rw [Bool.and_true,← Bool.decide_and,decide_eq_false_iff_not]
        exact fun hh=>hne (Prod.ext (by omega) (by omega))
       have x27:Ext s21 s27:=zax (zax (y1.trans y2) m26 (zlr _)) m27 (by simp)
       have xx27:=(x017.trans x21).trans x27
       have hp1:zbt (ptr (s21.new (.cells NN 0)).next 0) (ptr st.next 0)=true:=zc9 (by have:=x21.next;simp;omega)
       obtain ⟨s32,e32,a32,m32,n32⟩:=((a217.ext x21).ext x27).sto (k:=0) (vs:=NN) (row':=NN) rfl rfl
       obtain ⟨s34,e34,a34,m34,n34⟩:=(((a317.ext x21).ext x27).mod m32 (by simp)).stV (k:=0) (n:=2) (v:=.agg #[.int .i64 e.1,.int .i64 e.2]) (vs:=[.int .i64 e.1,.int .i64 e.2]) rfl rfl rfl (row':=[.int .i64 e.1,.int .i64 e.2]) rfl
       have r1:=(a32.mod m34 (by simp)).rdN (n:=2) rfl
       have r2:=a34.rdN (n:=2) rfl
       refine ⟨s34,zeE _ st ?_,zax (zax xx27 m32 (zlr _)) m34 (by omega)⟩
       simp only [zeM,hs2,hn1,c3,t0,t1,t2,zob,zaa,e8',decide_true,znt,zcf,hlen']
       rw [d1',zob]
       simp only [b0,zct,zgs,zgz,zob]
       rw [c21,zob]
       simp only [u0,u1,zob,e26,e27,l28,zqO,heq,znf,zal,zct,hp1,zac,e32,e34,r1,r2]
       rfl
     | ok y=>
       obtain ⟨ws,es⟩:=y
       rw [hro] at hlay
       obtain ⟨s21,wv,ev,c21,x21,o1,o2⟩:=hlay
       have hll21:=x21.ll (x017.ll hl)
       have w1:one wv=true:=(Own.cell o1).2
       have w2:one ev=true:=(Own.cell o2).2
       have y1:Ext s21 (s21.new (.cells NN 0)):=(Ext.refl _).new _
       have y2:Ext (s21.new (.cells NN 0)) ((s21.new (.cells NN 0)).new (.cells Z2 0)):=(Ext.refl _).new _
       have q1:At ((s21.new (.cells NN 0)).new (.cells Z2 0)) s21.next NN:=(At.new hll21 NN).ext y2
       have q2:At ((s21.new (.cells NN 0)).new (.cells Z2 0)) (s21.new (.cells NN 0)).next Z2:=At.new (st:=s21.new (.cells NN 0)) (y1.ll hll21) Z2
       obtain ⟨s26,e26,a26,m26,n26⟩:=q1.stV (k:=0) (n:=2) (v:=zma wv ev) (vs:=[wv,ev]) rfl rfl (by simp [w1,w2]) (row':=[wv,ev]) rfl
       obtain ⟨s27,e27,a27,m27,n27⟩:=(q2.mod m26 (by simp)).stV (k:=0) (n:=2) (v:=zaX (0,0)) (vs:=Z2) rfl rfl rfl (row':=Z2) rfl
       have l28:s27.ldN (s21.new (.cells NN 0)).next 0 2=some (.agg #[.int .i64 0,.int .i64 0]):=a27.ldN rfl
       have heq:(decide ((0:Int)=0)&&(decide ((0:Int)=0)&&true))=true:=rfl
       have x27:Ext s21 s27:=zax (zax (y1.trans y2) m26 (zlr _)) m27 (by simp)
       have xx27:=(x017.trans x21).trans x27
       have l39:s27.ldN s21.next 0 2=some (.agg [wv,ev].toArray):=(a26.mod m27 (by simp)).ldN rfl
       obtain ⟨s41,e41,a41,m41,n41⟩:=((a217.ext x21).ext x27).stV (k:=0) (n:=2) (v:=.agg [wv,ev].toArray) (vs:=[wv,ev]) (zaC _) rfl (by simp [w1,w2]) (row':=[wv,ev]) rfl
       obtain ⟨s43,e43,a43,m43,n43⟩:=(((a317.ext x21).ext x27).mod m41 (by simp)).sto (k:=0) (vs:=Z2) (row':=Z2) rfl rfl
       have r1:=(a41.mod m43 (by simp)).rdN (n:=2) rfl
       have r2:=a43.rdN (n:=2) rfl
       have z1:∀ m,m∈[st.next]→m<s17.next:=by intro m hm;have e:m=st.next:=(by simpa using hm);omega
       have z2:∀ m,m∈[st.next+1]→m<s17.next:=by intro m hm;have e:m=st.next+1:=(by simpa using hm);omega
       refine ⟨s43,wv,ev,zeE _ st ?_,zax (zax xx27 m41 (zlr _)) m43 (by omega),(((o1.ext x27).modLt m41 z1).modLt m43 z2).low (by omega),(((o2.ext x27).modLt m41 z1).modLt m43 z2).low (by omega)⟩
       simp only [zeM,hs2,hn1,c3,t0,t1,t2,zob,zaa,e8',decide_true,znt,zcf,hlen']
       rw [d1',zob]
       simp only [b0,zct,zgs,zgz,zob]
       rw [c21,zob]
       simp only [u0,u1,zob,e26,e27,l28,zqO,heq,znt,zal,zcf,l39,zac,e41,e43,r1,r2]
       rfl
end Go.Proofs.YtifploedaacedaaGreatDoorE
namespace Go.Proofs.YtifploedaacedaaGreatDoorE
open Go Go.E Go.Proofs
def Free (L:List OL) (j:Nat):Prop:=∀ (k:Nat) (o:OL),L[k]?=some o→blkOf o.v≠some j
structure FrL (b:Nat) (st:SS) (L:List OL) (st':SS) (L':List OL):Prop where
 next:st.next≤st'.next
 lim:st'.lim=st.lim
 keep:∀ j,j<st.next→j≠b→Free L j→st'.mem.get j=st.mem.get j∧Free L' j
section
variable {b B : Nat} {st st' st'' : SS} {L L' L'' : List OL}
theorem FrL.trans (h:FrL b st L st' L') (k:FrL b st' L' st'' L''):FrL b st L st'' L'':=⟨zlt h.next k.next,k.lim.trans h.lim,fun j h1 h2 h3=>by
 obtain ⟨a,c⟩:=h.keep j h1 h2 h3
 obtain ⟨d,e⟩:=k.keep j (zll h1 h.next) h2 c
 exact ⟨d.trans a,e⟩⟩
theorem FrL.ext (x:Ext st st'):FrL b st L st' L:=⟨x.next,x.lim,fun j h1 _ h3=>⟨x.keep j h1,h3⟩⟩
theorem FrL.mod (m:Mod [b] st st'):FrL b st L st' L:=⟨m.next,m.lim,fun j h1 h2 h3=>⟨m.keep j h1 (by simpa using h2),h3⟩⟩
theorem Owns.free (h:Owns B st L) {j:Nat} (hj:j<B):Free L j:=fun k o ho e=>by have:=(zcZ (h.own k o ho) e).1;omega
theorem Owns.freeN (h:Owns B st L) {j:Nat} (hj:st.next≤j):Free L j:=fun k o ho e=>by have:=(zcZ (h.own k o ho) e).2;omega
theorem FrL.at (f:FrL b st L st' L') {j:Nat} {row:List Value} (h:At st j row) (h1:j≠b) (h2:Free L j):At st' j row:=⟨(f.keep j h.lt h1 h2).1.trans h.1,zll h.lt f.next,by rw [f.lim];exact h.2.2⟩
theorem FrL.toExt {st0:SS} (f:FrL b st L st' L') (x:Ext st0 st) (hb:st0.next≤b) (ow:Owns B st L) (hB:st0.next≤B):Ext st0 st':=⟨zlt x.next f.next,f.lim.trans x.lim,fun j hj=>(f.keep j (zll hj x.next) (by omega) (ow.free (by omega))).1.trans (x.keep j hj)⟩
theorem Owns.grow {row:List Value} (ha:At st b row) (hb:b<B) (hB:B≤st.next) (hl:st.lim≤B) (ow:Owns B st L) {k:Nat} {v:Value} {c rw':List Value} {z n bt:Nat} (hk:L[k]?=some ⟨v,c,z,n⟩) (hkr:k<row.length) (hr:rw'.length=z) (hz:0<z) (h1:rw'.all one=true) (hs:(n+2)*bt≤2^44) (hn:n+1≤2^44):
  ∃ w s1 s2,(st.new (.cells rw' z)).app z bt v (.slice (some ⟨st.next,0,none⟩) 1 1)=some (w,s1)∧s1.stV b k 1 w=some s2∧At s2 b (row.set k w)∧Owns B s2 (L.set k ⟨w,c++rw',z,n+1⟩)∧FrL b st L s2 (L.set k ⟨w,c++rw',z,n+1⟩):=by
 obtain ⟨j,s1,f1,f2,f3⟩:=ow.push hk hB hl hr hz h1 hs hn
 have a1:=ha.keepB f3 hb (by simp)
 obtain ⟨s2,e2,a2,m2,n2⟩:=a1.stV (k:=k) (n:=1) (v:=.slice (some ⟨j,0,none⟩) (n+1) (n+1)) (zmt _ _ _) rfl rfl (zkW hkr _)
 refine ⟨_,s1,s2,f1,e2,a2,f2.modLt m2 (by intro m hm;have e:m=b:=(by simpa using hm);omega),?_⟩
 have hlt:k<L.length:=(List.getElem?_eq_some_iff.1 hk).1
 obtain ⟨j',s1',g1,g2,g3,g4,g5,g6⟩:=ziL (row:=rw') (bt:=bt) (ow.own k _ hk) hB hl hr hz h1 hs hn
 have hsame:=f1.symm.trans g1
 simp only [zsj,zpj,Value.slice.injEq,Addr.mk.injEq,and_true,true_and] at hsame
 obtain ⟨e1,e2'⟩:=hsame
 subst e1
 subst e2'
 refine ⟨zlt f3.next m2.next,m2.lim.trans f3.lim,fun q h1 h2 h3=>⟨(m2.keep q (zll h1 f3.next) (by simpa using h2)).trans (g6 q h1 (h3 k _ hk)),fun m o ho e=>?_⟩⟩
 by_cases hm:m=k
 ·subst hm
  rw [List.getElem?_set_self hlt] at ho
  cases ho
  cases e
  omega
 ·rw [List.getElem?_set_ne (fun e=>hm e.symm)] at ho
  exact h3 m o ho e
end
structure V6 where
 n:Value
 m:Value
 l:Value
 p:Value
 e:Value
 a:Value
def nmR (x:List UInt8×Int):List Value:=[.string (mkS x.1)]
def nuR (x:List UInt8×Int):List Value:=[.int .i64 x.2]
def lnR (x:WItem):List Value:=lnRow x.2
def plR (x:WItem):List Value:=[.int .i64 x.1]
def veR (x:Val×Nat×Nat):List Value:=valRow x.1
theorem znx (l:Nms):rowsF nmR l=strs (l.map (·.1)):=by
 induction l with
 | nil=>rfl
 | cons x r ih=>rw [zdh,ih];rfl
def LO (v:V6) (l:Lay) (its:List WItem):List OL:=[⟨v.n,rowsF nmR l.nms,1,l.nms.length⟩,⟨v.m,rowsF nuR l.nms,1,l.nms.length⟩,⟨v.l,rowsF lnR its,5,its.length⟩,⟨v.p,rowsF plR its,1,its.length⟩,⟨v.e,rowsF veR l.ents,3,l.ents.length⟩,⟨v.a,rowsF entRow l.ents,2,l.ents.length⟩]
def ldRow (v:V6) (pl:Nat):List Value:=[v.n,v.m,v.l,v.p,v.e,v.a,.int .i64 pl]
structure Rld (st0 st:SS) (B b:Nat) (v:V6) (l:Lay) (its:List WItem):Prop where
 ext:Ext st0 st
 ll:st0.lim≤st0.next
 row:At st b (ldRow v l.pl)
 b0:st0.next≤b
 bB:b<B
 BN:B≤st.next
 ow:Owns B st (LO v l its)
 wds:its.map (fun x=>(x.1,x.2.1))=l.wds
 itr:∀ x∈its,Rd st0 x.2.2.1 (rowsF valRow x.2.1.args) 3 x.2.1.args.length∧Rd st0 x.2.2.2 (rowsF prRow x.2.1.prs) 5 x.2.1.prs.length
section
variable {st0 st st' : SS} {B b : Nat} {v : V6} {l : Lay} {its : List WItem}
theorem Rld.then (h:Rld st0 st B b v l its) (x:Ext st st'):Rld st0 st' B b v l its:=
 { h with ext:=h.ext.trans x,row:=h.row.ext x,BN:=zlt h.BN x.next,ow:=h.ow.ext x }
theorem Rld.limB (h:Rld st0 st B b v l its):st.lim≤B:=by rw [h.ext.lim];have:=h.ll;have:=h.b0;have:=h.bB;omega
theorem Rld.llm (h:Rld st0 st B b v l its):st.lim≤st.next:=zlt h.limB h.BN
theorem Rld.place (h:Rld st0 st B b v l its) (p:Nat):∃ st',st.st b 6 [.int .i64 p]=some st'∧Rld st0 st' B b v { l with pl:=p } its∧Mod [b] st st':=by
 obtain ⟨s',e,a,m,_⟩:=h.row.sto (k:=6) (vs:=[.int .i64 p]) (row':=ldRow v p) rfl rfl
 exact ⟨s',e,{ h with ext:=zax h.ext m h.b0,row:=a,BN:=zlt h.BN m.next,ow:=h.ow.modLt m (by intro j hj;have e:j=b:=(by simpa using hj);have:=h.bB;omega) },m⟩
theorem zk9:∀ (l:Nms) (n:List UInt8),match zbZ l n with
  | none=>inT (l.map (·.1)) n= -1
  | some x=>∃ k:Nat,inT (l.map (·.1)) n=k∧∃ y,l[k]?=some (y,x)
 | [],n=>rfl
 | a::r,n=>by
   have ih:=zk9 r n
   unfold zbZ inT
   rw [List.find?_cons,List.map_cons,List.findIdx?_cons]
   by_cases h:n=a.1
   ·rw [zdt h,zdt h.symm]
    exact ⟨0,rfl,a.1,rfl⟩
   ·rw [zdf h,zdf (fun e=>h e.symm)]
    unfold zbZ inT at ih
    simp only
    cases hf:r.find? (fun x=>decide (n=x.1)) with
    | none=>
      rw [hf] at ih
      cases hi:(r.map (·.1)).findIdx? (fun x=>decide (x=n)) with
      | none=>simp [hi]
      | some k=>rw [hi] at ih;simp at ih
    | some y=>
      rw [hf] at ih
      simp only [Option.map_some] at ih ⊢
      obtain ⟨k,h1,h2⟩:=ih
      cases hi:(r.map (·.1)).findIdx? (fun x=>decide (x=n)) with
      | none=>rw [hi] at h1;simp at h1
      | some j=>
        rw [hi] at h1
        refine ⟨j+1,by simp,?_⟩
        have:k=j:=by simp only at h1;omega
        subst this
        simpa using h2
theorem Rld.define [Sym] (h:Rld st0 st B b v l its) (hsz:l.nms.length≤1000000) (n:List UInt8) (x:Int):
  match l.define n x with
  | none=>∃ st',cc 74 [ptr b 0,.string (mkS n),.int .i64 x] st=some (.bool false,st')∧Ext st st'
  | some l'=>∃ st' v',cc 74 [ptr b 0,.string (mkS n),.int .i64 x] st=some (.bool true,st')∧Rld st0 st' B b v' l' its∧FrL b st (LO v l its) st' (LO v' l' its):=by
 have hnl:zak (ptr b 0)=some (ptr b 0):=rfl
 have l3:st.ld b 0=some v.n:=h.row.ld
 have on:Rd st v.n (strs (l.nms.map (·.1))) 1 (l.nms.map (·.1)).length:=by
  have:=(h.ow.own 0 _ rfl).rd
  rw [znx] at this
  rw [List.length_map]
  exact this
 obtain ⟨n4,hn4,c4⟩:=zpQ (l.nms.map (·.1)) (by simp;omega) (mkS n) v.n st on
 rw [zbu] at c4
 have x4:Ext st (st.adv n4):=(Ext.refl _).adv hn4
 have hfi:=zk9 l.nms n
 unfold Lay.define
 cases hf:zbZ l.nms n with
 | some y=>
   rw [hf] at hfi
   obtain ⟨k,h1,_⟩:=hfi
   rw [if_pos (.inl rfl)]
   refine ⟨_,zcL _ _ _ st ?_,x4⟩
   have h0:(0:Int)≤inT (l.nms.map (·.1)) n:=by omega
   simp only [zcq,hnl,zob,zac,l3,c4,zaa,zdt h0,zct]
 | none=>
   rw [hf] at hfi
   simp only at hfi
   have h0:¬ (0:Int)≤inT (l.nms.map (·.1)) n:=by omega
   have he:eqT (mkS n) ⟨#[]⟩=decide (n=[]):=zc3 _
   by_cases hn:n=[]
   ·rw [if_pos (.inr hn)]
    refine ⟨_,zcL _ _ _ st ?_,x4⟩
    simp only [zcq,hnl,zob,zac,l3,c4,zaa,zdf h0,zcf,he,zdt hn,zct]
   ·rw [if_neg (by rintro (e | e);cases e;exact hn e)]
    have h4:=h.then x4
    have l8:(st.adv n4).ld b 0=some v.n:=h4.row.ld
    obtain ⟨w1,s10,s13,f1,f2,f3,f4,f5⟩:=Owns.grow (k:=0) (bt:=16) (rw':=nmR (n,x)) h4.row h4.bB h4.BN h4.limB h4.ow rfl (by simp [ldRow]) rfl (by omega) rfl (by omega) (by omega)
    have f1':((st.adv n4).new (.cells [.string (mkS n)] 1)).app 1 16 v.n (.slice (some ⟨n4,0,none⟩) 1 1)=some (w1,s10):=f1
    have l16:s13.ld b (0+1)=some v.m:=f3.ld
    obtain ⟨w2,s18,s21,g1,g2,g3,g4,g5⟩:=Owns.grow (k:=1) (bt:=8) (rw':=nuR (n,x)) f3 h4.bB (zlt h4.BN f5.next) (by rw [f5.lim];exact h4.limB) f4 rfl (by simp [ldRow]) rfl (by omega) rfl (by omega) (by omega)
    have g1':(s13.new (.cells [.int .i64 x] 1)).app 1 8 v.m (.slice (some ⟨s13.next,0,none⟩) 1 1)=some (w2,s18):=g1
    have g2':s18.stV b (0+1) 1 w2=some s21:=g2
    have e2:LO { v with n:=w1,m:=w2 } { l with nms:=l.nms++[(n,x)] } its=((LO v l its).set 0 ⟨w1,rowsF nmR l.nms++nmR (n,x),1,l.nms.length+1⟩).set 1 ⟨w2,rowsF nuR l.nms++nuR (n,x),1,l.nms.length+1⟩:=by
     simp only [LO,zbz,zcg,List.length_append,List.length_cons,List.length_nil]
     rfl
    have fr:FrL b st (LO v l its) s21 (LO { v with n:=w1,m:=w2 } { l with nms:=l.nms++[(n,x)] } its):=by
     rw [e2]
     exact ((FrL.ext x4).trans f5).trans g5
    refine ⟨s21,{ v with n:=w1,m:=w2 },zcL _ _ _ st ?_,{ h with ext:=fr.toExt h.ext h.b0 h.ow (by have:=h.b0;have:=h.bB;omega),row:=g3,BN:=zlt h.BN fr.next,ow:=by rw [e2];exact g4 },fr⟩
    simp only [zcq,hnl,zob,zac,l3,c4,zaa,zdf h0,zcf,he,zdf hn,l8,List.append_nil,SS.adv_next,f1',f2,l16,g1',g2']
end
end Go.Proofs.YtifploedaacedaaGreatDoorE
namespace Go.Proofs.YtifploedaacedaaGreatDoorE
open Go Go.E Go.Proofs
noncomputable def zbf [Sym] (l':Value) (a:Nat) (s:SS):Option (Value×SS):=
  ((s.ld a 2).bind asS).bind fun b=>
  cond (eqT b ⟨#[]⟩) (
   (s.ld a 4).bind fun c=>
   ((lenV c).bind (asI .i64)).bind fun d=>
   cond (decide (0<d)) (
    (zak l').bind fun e=>
    (addr? e).bind fun f=>
    (s.ld f.1 (f.2+2)).bind fun g=>
    (s.ldN a 0 5).bind fun h=>
    (zaB h 5).bind fun i=>
    let j:SS:=s.new (.cells (i++([])) 5)
    (j.app 5 88 g (.slice (some ⟨s.next,0,none⟩) 1 1)).bind fun k=>
    (zak l').bind fun l=>
    (addr? l).bind fun m=>
    (k.2.stV m.1 (m.2+2) 1 k.1).bind fun n=>
    (zak l').bind fun o=>
    (addr? o).bind fun p=>
    (n.ld p.1 (p.2+3)).bind fun q=>
    (zak l').bind fun r=>
    (addr? r).bind fun t=>
    ((n.ld t.1 (t.2+6)).bind (asI .i64)).bind fun u=>
    let v:SS:=n.new (.cells ([.int .i64 u]) 1)
    (v.app 1 8 q (.slice (some ⟨n.next,0,none⟩) 1 1)).bind fun w=>
    (zak l').bind fun x=>
    (addr? x).bind fun y=>
    (w.2.stV y.1 (y.2+3) 1 w.1).bind fun z=>
    (zak l').bind fun A=>
    (addr? A).bind fun B=>
    ((z.ld B.1 (B.2+6)).bind (asI .i64)).bind fun C=>
    let D:Int:=IntKind.wrap .i64 (C+1)
    (zak l').bind fun E=>
    (addr? E).bind fun F=>
    (z.st F.1 (F.2+6) [.int .i64 D]).bind fun G=>
    (zak l').bind fun H=>
    (addr? H).bind fun I=>
    ((G.ld I.1 (I.2+6)).bind (asI .i64)).bind fun J=>
    some (.bool (decide (J≤2048)),G)) (
    (zak l').bind fun K=>
    (addr? K).bind fun L=>
    ((s.ld L.1 (L.2+6)).bind (asI .i64)).bind fun M=>
    some (.bool (decide (M≤2048)),s))) (
   (s.ld a 3).bind fun N=>
   ((lenV N).bind (asI .i64)).bind fun O=>
   cond (decide (O=0)) (
    some (.bool false,s)) (
    (s.ld a 3).bind fun P=>
    (zah P 0 3).bind fun Q=>
    (s.ldN Q.1 Q.2 3).bind fun R=>
    let S:SS:=s.new (.cells [.string ⟨#[]⟩,.int .i64 0,.int .i64 0] 0)
    (S.stV s.next 0 3 R).bind fun T=>
    ((T.ld a 2).bind asS).bind fun U=>
    cond (eqT U ⟨#[111,114,103]⟩) (
     cond (decide (O=1)) (
      ((T.ld s.next 0).bind asS).bind fun V=>
      cond (eqT V ⟨#[]⟩) (
       ((T.ld s.next 1).bind (asI .i64)).bind fun W=>
       (zak l').bind fun X=>
       (addr? X).bind fun Y=>
       ((T.ld Y.1 (Y.2+6)).bind (asI .i64)).bind fun Z=>
       cond (decide (Z≤W)) (
        ((T.ld s.next 1).bind (asI .i64)).bind fun aA=>
        cond (decide (aA≤2048)) (
         ((T.ld s.next 1).bind (asI .i64)).bind fun aB=>
         (zak l').bind fun aC=>
         (addr? aC).bind fun aD=>
         (T.st aD.1 (aD.2+6) [.int .i64 aB]).bind fun aE=>
         some (.bool (decide (aA≤2048)),aE)) (
         some (.bool (decide (aA≤2048)),T))) (
        some (.bool false,T))) (
       some (.bool false,T))) (
      some (.bool false,T))) (
     cond (eqT U ⟨#[97,108,105,103,110]⟩) (
      cond (!(decide (O=1))) (
       some (.bool false,T)) (
       ((T.ld s.next 0).bind asS).bind fun aF=>
       cond (!(eqT aF ⟨#[]⟩)) (
        some (.bool false,T)) (
        ((T.ld s.next 1).bind (asI .i64)).bind fun aG=>
        cond (decide (aG<1)) (
         some (.bool false,T)) (
         ((T.ld s.next 1).bind (asI .i64)).bind fun aH=>
         cond (decide (2048<aH)) (
          some (.bool false,T)) (
          (zaw 22 [l',ptr s.next 0] T).bind fun aI=>
          (aI.2.1[0]?).bind fun aJ=>
          (zak aJ).bind fun aK=>
          (addr? aK).bind fun aL=>
          ((aI.2.2.ld aL.1 (aL.2+6)).bind (asI .i64)).bind fun aM=>
          some (.bool (decide (aM≤2048)),aI.2.2)))))) (
      cond (eqT U ⟨#[115,101,116]⟩) (
       cond (decide (O=2)) (
        ((T.ld s.next 0).bind asS).bind fun aN=>
        cond (!(eqT aN ⟨#[]⟩)) (
         ((T.ld s.next 1).bind (asI .i64)).bind fun aO=>
         cond (decide (aO=0)) (
          (T.ld a 3).bind fun aP=>
          (zah aP 1 3).bind fun aQ=>
          ((T.ld aQ.1 aQ.2).bind asS).bind fun aR=>
          cond (eqT aR ⟨#[]⟩) (
           ((T.ld s.next 0).bind asS).bind fun aS=>
           (T.ld a 3).bind fun aT=>
           (zah aT 1 3).bind fun aU=>
           ((T.ld aU.1 (aU.2+1)).bind (asI .i64)).bind fun aV=>
           (cc 74 [l',.string aS,.int .i64 aV] T).bind fun aW=>
           ((some aW.1).bind asB).bind fun aX=>
           some (.bool aX,aW.2)) (
           some (.bool false,T))) (
          some (.bool false,T))) (
         some (.bool false,T))) (
        some (.bool false,T))) (
       cond (eqT U ⟨#[101,110,116,114,121]⟩) (
        (zak l').bind fun aY=>
        (addr? aY).bind fun aZ=>
        (T.ld aZ.1 (aZ.2+4)).bind fun bA=>
        ((lenV bA).bind (asI .i64)).bind fun bB=>
        (zaw 29 [l',ptr a 0,.int .i64 O,ptr s.next 0,bA,.int .i64 bB,.int .i64 0] T).bind fun bC=>
        cond (Nat.beq bC.1 0) (
         (bC.2.1[0]?).bind fun bD=>
         (bC.2.1[1]?).bind fun bE=>
         ((bC.2.1[2]?).bind (asI .i64)).bind fun bF=>
         (bC.2.1[3]?).bind fun bG=>
         cond (!(decide (bF=1))) (
          some (.bool false,bC.2.2)) (
          (addr? bG).bind fun bH=>
          ((bC.2.2.ld bH.1 bH.2).bind asS).bind fun bI=>
          cond (eqT bI ⟨#[]⟩) (
           some (.bool false,bC.2.2)) (
           (addr? bG).bind fun bJ=>
           ((bC.2.2.ld bJ.1 (bJ.2+1)).bind (asI .i64)).bind fun bK=>
           cond (!(decide (bK=0))) (
            some (.bool false,bC.2.2)) (
            (zak bD).bind fun bL=>
            (addr? bL).bind fun bM=>
            (bC.2.2.ld bM.1 (bM.2+4)).bind fun bN=>
            (addr? bG).bind fun bO=>
            (bC.2.2.ldN bO.1 bO.2 3).bind fun bP=>
            (zaB bP 3).bind fun bQ=>
            let bR:SS:=bC.2.2.new (.cells (bQ++([])) 3)
            (bR.app 3 32 bN (.slice (some ⟨bC.2.2.next,0,none⟩) 1 1)).bind fun bS=>
            (zak bD).bind fun bT=>
            (addr? bT).bind fun bU=>
            (bS.2.stV bU.1 (bU.2+4) 1 bS.1).bind fun bV=>
            (zak bD).bind fun bW=>
            (addr? bW).bind fun bX=>
            (bV.ld bX.1 (bX.2+5)).bind fun bY=>
            (addr? bE).bind fun bZ=>
            ((bV.ld bZ.1 bZ.2).bind (asI .i64)).bind fun cA=>
            (addr? bG).bind fun cB=>
            ((bV.ld cB.1 (cB.2+2)).bind (asI .i64)).bind fun cC=>
            let cD:SS:=bV.new (.cells ([.int .i64 cA,.int .i64 cC]) 2)
            (cD.app 2 16 bY (.slice (some ⟨bV.next,0,none⟩) 1 1)).bind fun cE=>
            (zak bD).bind fun cF=>
            (addr? cF).bind fun cG=>
            (cE.2.stV cG.1 (cG.2+5) 1 cE.1).bind fun cH=>
            some (.bool true,cH))))) (
         ((bC.2.1[0]?).bind asB).bind fun cI=>
         some (.bool cI,bC.2.2))) (
        some (.bool false,T)))))))
def RLn (st0 s:SS) (B b:Nat) (v:V6) (l:Lay) (its:List WItem) (res:Option (Value×SS)):Option Lay→Prop
 | none=>∃ st' L',res=some (.bool false,st')∧FrL b s (LO v l its) st' L'
 | some l'=>∃ st' v' its',res=some (.bool true,st')∧Rld st0 st' B b v' l' its'∧FrL b s (LO v l its) st' (LO v' l' its')
section
variable {st0 : SS} {B b : Nat} {v : V6} {l : Lay} {its : List WItem}
theorem zrk [Sym] (n:Nat) (h1:1≤n) (h2:n≤2048) (p0:Nat) (hp0:p0≤2048) (vb:Nat) (v0:Val) (hx:v0.x=(n:Int)) (hne:vb≠b):∀ (k p:Nat) (s:SS),(p0+n-1)/n*n=p+k→p0≤p→Rld st0 s B b v { l with pl:=p } its→At s vb (valRow v0)→
  ∃ s',zaw 22 [ptr b 0,ptr vb 0] s=some (0,[ptr b 0],s')∧Rld st0 s' B b v { l with pl:=(p0+n-1)/n*n } its∧Mod [b] s s':=by
 have hT:(p0+n-1)/n*n<p0+n:=by
  have:=Nat.div_mul_le_self (p0+n-1) n
  omega
 intro k
 induction k with
 | zero=>
   intro p s hk hp h hv
   have e:p=(p0+n-1)/n*n:=by omega
   have hnl:zak (ptr b 0)=some (ptr b 0):=rfl
   have l3:s.ld b (0+6)=some (.int .i64 p):=h.row.ld
   have l5:s.ld vb (0+1)=some (.int .i64 (n:Int)):=by rw [← hx];exact hv.ld
   have hz:¬ ((n:Int)=0):=by omega
   have hrem:(aI .rem .i64 (p:Int) (n:Int)).bind (asI .i64)=some 0:=by
    have:(p:Int).tmod (n:Int)=0:=by rw [Int.tmod_eq_emod_of_nonneg (by omega),← Int.natCast_emod,e,Nat.mul_mod_left];rfl
    simp only [aI,zdf hz,zcf,zob,zaa,this]
   refine ⟨s,zdW _ _ s ?_,by rw [← e];exact h,Mod.refl _⟩
   simp only [zc0,hnl,zob,zac,l3,l5,zaa,hrem,decide_true,znt,zcf]
 | succ k ih=>
   intro p s hk hp h hv
   have hnl:zak (ptr b 0)=some (ptr b 0):=rfl
   have l3:s.ld b (0+6)=some (.int .i64 p):=h.row.ld
   have l5:s.ld vb (0+1)=some (.int .i64 (n:Int)):=by rw [← hx];exact hv.ld
   have hz:¬ ((n:Int)=0):=by omega
   have hpm:p%n≠0:=fun e=>by
    have d1:n∣p:=Nat.dvd_of_mod_eq_zero e
    have d2:n∣(p0+n-1)/n*n:=Nat.dvd_mul_left _ _
    rw [hk] at d2
    have d3:n∣k+1:=(Nat.dvd_add_right d1).1 d2
    have:=Nat.le_of_dvd (Nat.succ_pos k) d3
    omega
   have hrem:(aI .rem .i64 (p:Int) (n:Int)).bind (asI .i64)=some ((p%n:Nat):Int):=by
    have:(p:Int).tmod (n:Int)=((p%n:Nat):Int):=by rw [Int.tmod_eq_emod_of_nonneg (by omega),← Int.natCast_emod]
    have hlt:=Nat.mod_lt p (show 0<n by omega)
    simp only [aI,zdf hz,zcf,zob,zaa,this]
   have hm0:¬ (((p%n:Nat):Int)=0):=by omega
   obtain ⟨s13,e13,h13,m13⟩:=h.place (p+1)
   have hw1:=za4 (i:=p) (by omega)
   obtain ⟨s',c,d,m⟩:=ih (p+1) s13 (by omega) (by omega) h13 (hv.mod m13 (by simpa using hne))
   refine ⟨s',zdW _ _ s ?_,d,m13.then m⟩
   have e13':s.st b (0+6) [.int .i64 ((p+1:Nat):Int)]=some s13:=e13
   simp only [zc0,hnl,zob,zac,l3,l5,zaa,hrem,zdf hm0,znf,zct,hw1,e13']
   exact c
theorem zsN [Sym] (n:Int) (a vb:Nat) (v0:Val) (ents:List (Val×Nat×Nat)) (hsz:ents.length≤1000000) (ve:Value) (s0:SS) (hll:s0.lim≤s0.next) (hv:At s0 vb (valRow v0)) (he:Rd s0 ve (rowsF veR ents) 3 ents.length):∀ (k i:Nat) (s:SS),ents.length=k+i→Ext s0 s→
  ∃ s',Ext s0 s'∧(if ((ents.drop i).any fun e=>decide (e.1.nm=v0.nm))=true then zaw 29 [ptr b 0,ptr a 0,.int .i64 n,ptr vb 0,ve,.int .i64 ents.length,.int .i64 i] s=some (1,[.bool false],s')
   else zaw 29 [ptr b 0,ptr a 0,.int .i64 n,ptr vb 0,ve,.int .i64 ents.length,.int .i64 i] s=some (0,[ptr b 0,ptr a 0,.int .i64 n,ptr vb 0],s')):=by
 intro k
 induction k with
 | zero=>
   intro i s hk hx
   have h:¬ (i:Int)<(ents.length:Int):=by omega
   rw [List.drop_of_length_le (by omega)]
   refine ⟨s,hx,?_⟩
   rw [if_neg (by simp)]
   refine zcy _ _ _ _ _ _ _ s ?_
   simp only [zb6,zdf h,zcf]
 | succ k ih=>
   intro i s hk hx
   have h:(i:Int)<(ents.length:Int):=by omega
   obtain ⟨e,hg⟩:∃ e,ents[i]?=some e:=⟨_,zge (by omega)⟩
   obtain ⟨p,b1,b2,_⟩:=(he.ext hx).load (j:=(i:Int)) (by omega) h (zaW (f:=veR) (z:=3) (fun _=>rfl) ents i e hg) rfl
   have b2':s.ldN p.1 p.2 3=some (.agg (valRow e.1).toArray):=b2
   obtain ⟨s4,e4,a4,x4,n4⟩:=zaO (n:=3) (st:=s) (hx.ll hll) (r:=valRow ⟨[],0,0⟩) (row:=valRow e.1) (v:=.agg (valRow e.1).toArray) (zaC _) rfl rfl rfl
   have e4':(s.new (.cells [.string ⟨#[]⟩,.int .i64 0,.int .i64 0] 0)).stV s.next 0 3 (.agg (valRow e.1).toArray)=some s4:=e4
   have hx4:=hx.trans x4
   have l5:s4.ld s.next 0=some (.string (mkS e.1.nm)):=a4.ld
   have l7:s4.ld vb 0=some (.string (mkS v0.nm)):=(hv.ext hx4).ld
   have hd:=drop_cons hg
   rw [hd,List.any_cons]
   by_cases hc:e.1.nm=v0.nm
   ·have hq:eqT (mkS e.1.nm) (mkS v0.nm)=true:=by rw [zdK];exact zdt hc
    refine ⟨s4,hx4,?_⟩
    rw [if_pos (by rw [zdt hc];rfl)]
    refine zcy _ _ _ _ _ _ _ s ?_
    simp only [zb6,zdt h,zct,b1,b2',e4',l5,zob,zab,zac,l7,hq]
   ·have hq:eqT (mkS e.1.nm) (mkS v0.nm)=false:=by rw [zdK];exact zdf hc
    obtain ⟨s',hx',r⟩:=ih (i+1) s4 (by omega) hx4
    have hw1:=za4 (i:=i) (by omega)
    have go:∀ z,zaw 29 [ptr b 0,ptr a 0,.int .i64 n,ptr vb 0,ve,.int .i64 ents.length,.int .i64 ((i+1:Nat):Int)] s4=some z→zaw 29 [ptr b 0,ptr a 0,.int .i64 n,ptr vb 0,ve,.int .i64 ents.length,.int .i64 i] s=some z:=fun z hz=>by
     refine zcy _ _ _ _ _ _ _ s ?_
     simp only [zb6,zdt h,zct,b1,b2',e4',l5,zob,zab,zac,l7,hq,zcf,hw1]
     exact hz
    refine ⟨s',hx',?_⟩
    rw [zdf hc,Bool.false_or]
    split
    ·rename_i hh;rw [if_pos hh] at r;exact go _ r
    ·rename_i hh;rw [if_neg hh] at r;exact go _ r
theorem zpt [Sym] {s:SS} {a:Nat} (h:Rld st0 s B b v l its) (x:Item) (ha:At s a (lnRow x)) (hab:a≠b) (haf:Free (LO v l its) a) (hx:Rd st0 x.2.1 (rowsF valRow x.1.args) 3 x.1.args.length∧Rd st0 x.2.2 (rowsF prRow x.1.prs) 5 x.1.prs.length)
  (hpl:l.pl≤2048) (hn:l.ents.length≤100000) (hnm:l.nms.length≤1000000) (hni:its.length≤100000) (hsz:x.1.args.length≤100000):RLn st0 s B b v l its (zbf (ptr b 0) a s) (zg2 l x.1):=by
 have l2:s.ld a 2=some (.string (mkS x.1.dir)):=ha.ld
 have l4:s.ld a 4=some x.2.2:=ha.ld
 have l3:s.ld a 3=some x.2.1:=ha.ld
 have l5:s.ldN a 0 5=some (.agg (lnRow x).toArray):=ha.ldN rfl
 have ho:one x.2.1=true∧one x.2.2=true:=⟨zhM hx.1,zhM hx.2⟩
 have hd0:eqT (mkS x.1.dir) ⟨#[]⟩=decide (x.1.dir=[]):=zc3 _
 have hnl:zak (ptr b 0)=some (ptr b 0):=rfl
 have hb60:st0.next≤B:=by have:=h.b0;have:=h.bB;omega
 unfold zg2
 by_cases c1:x.1.dir=[]
 ·rw [if_neg (fun hh=>hh c1)]
  have hlen:(lenV x.2.2).bind (asI .i64)=some (x.1.prs.length:Int):=by rw [hx.2.len];rfl
  by_cases c2:x.1.prs=[]
  ·rw [if_pos c2]
   have h0:¬ (0:Int)<(x.1.prs.length:Int):=by rw [c2];simp
   have lp:s.ld b (0+6)=some (.int .i64 l.pl):=h.row.ld
   have hp:(l.pl:Int)≤2048:=by omega
   refine ⟨s,v,its,?_,h,FrL.ext (Ext.refl _)⟩
   simp only [zbf,l2,l4,zob,zab,hd0,zdt c1,zct,hlen,zdf h0,zcf,hnl,zac,lp,zaa,zdt hp]
  ·rw [if_neg c2]
   have h0:(0:Int)<(x.1.prs.length:Int):=by have:=List.length_pos_iff.2 c2;omega
   have l14:s.ld b (0+2)=some v.l:=h.row.ld
   have e5:zaB (.agg (lnRow x).toArray) 5=some (lnRow x):=rfl
   obtain ⟨w1,s18,s21,f1,f2,f3,f4,f5⟩:=Owns.grow (k:=2) (bt:=88) (rw':=lnR (l.pl,x)) h.row h.bB h.BN h.limB h.ow rfl (by simp [ldRow]) rfl (by omega) (by simp only [lnR,lnRow,List.all_cons,List.all_nil,ho.1,ho.2];rfl) (by omega) (by omega)
   have f1':(s.new (.cells (lnRow x) 5)).app 5 88 v.l (.slice (some ⟨s.next,0,none⟩) 1 1)=some (w1,s18):=f1
   have f2':s18.stV b (0+2) 1 w1=some s21:=f2
   have l24:s21.ld b (0+3)=some v.p:=f3.ld
   have l27:s21.ld b (0+6)=some (.int .i64 l.pl):=f3.ld
   obtain ⟨w2,s29,s32,g1,g2,g3,g4,g5⟩:=Owns.grow (k:=3) (bt:=8) (rw':=plR (l.pl,x)) f3 h.bB (zlt h.BN f5.next) (by rw [f5.lim];exact h.limB) f4 rfl (by simp [ldRow]) rfl (by omega) rfl (by omega) (by omega)
   have g1':(s21.new (.cells [.int .i64 l.pl] 1)).app 1 8 v.p (.slice (some ⟨s21.next,0,none⟩) 1 1)=some (w2,s29):=g1
   have g2':s29.stV b (0+3) 1 w2=some s32:=g2
   have e2:LO { v with l:=w1,p:=w2 } { l with wds:=l.wds++[(l.pl,x.1)] } (its++[(l.pl,x)])=((LO v l its).set 2 ⟨w1,rowsF lnR its++lnR (l.pl,x),5,its.length+1⟩).set 3 ⟨w2,rowsF plR its++plR (l.pl,x),1,its.length+1⟩:=by
    simp only [LO,zbz,zcg,List.length_append,List.length_cons,List.length_nil]
    rfl
   have fr:FrL b s (LO v l its) s32 (LO { v with l:=w1,p:=w2 } { l with wds:=l.wds++[(l.pl,x.1)] } (its++[(l.pl,x)])):=by
    rw [e2]
    exact f5.trans g5
   have h32:Rld st0 s32 B b { v with l:=w1,p:=w2 } { l with wds:=l.wds++[(l.pl,x.1)] } (its++[(l.pl,x)]):={ h with ext:=fr.toExt h.ext h.b0 h.ow hb60,row:=g3,BN:=zlt h.BN fr.next,ow:=(by rw [e2];exact g4),wds:=(by simp only [List.map_append,h.wds];rfl),itr:=fun y hy=>(by
     rcases List.mem_append.1 hy with hy | hy
     ·exact h.itr y hy
     ·have:y=(l.pl,x):=by simpa using hy
      subst this
      exact hx) }
   have l35:s32.ld b (0+6)=some (.int .i64 l.pl):=h32.row.ld
   have hw1:=za4 (i:=l.pl) (by omega)
   obtain ⟨s39,e39,h39,m39⟩:=h32.place (l.pl+1)
   have e39':s32.st b (0+6) [.int .i64 ((l.pl+1:Nat):Int)]=some s39:=e39
   have l42:s39.ld b (0+6)=some (.int .i64 ((l.pl+1:Nat):Int)):=h39.row.ld
   have run:zbf (ptr b 0) a s=some (.bool (decide (((l.pl+1:Nat):Int)≤2048)),s39):=by
    simp only [zbf,l2,l4,l5,zob,zab,hd0,zdt c1,zct,hlen,zdt h0,hnl,zac,l14,e5,List.append_nil,f1',f2',l24,l27,zaa,g1',g2',l35,hw1,e39',l42]
   by_cases c3:l.pl+1≤2048
   ·rw [if_pos c3]
    have c3':((l.pl+1:Nat):Int)≤2048:=by omega
    exact ⟨s39,_,_,by rw [run,zdt c3'],h39,fr.trans (FrL.mod m39)⟩
   ·rw [if_neg c3]
    have c3':¬ ((l.pl+1:Nat):Int)≤2048:=by omega
    exact ⟨s39,_,by rw [run,zdf c3'],fr.trans (FrL.mod m39)⟩
 ·rw [if_pos c1]
  have hlen:(lenV x.2.1).bind (asI .i64)=some (x.1.args.length:Int):=by rw [hx.1.len];rfl
  have fl:∀ st' L',zbf (ptr b 0) a s=some (.bool false,st')→FrL b s (LO v l its) st' L'→zbI l x.1=none→RLn st0 s B b v l its (zbf (ptr b 0) a s) (zbI l x.1):=fun st' L' hc hf hdn=>by
   rw [hdn];exact ⟨st',L',hc,hf⟩
  cases hargs:x.1.args with
  | nil=>
    have h0:((([]:List Val).length:Nat):Int)=0:=rfl
    rw [hargs] at hlen
    refine fl s _ ?_ (FrL.ext (Ext.refl _)) (by unfold zbI;rw [hargs])
    simp only [zbf,l2,l3,zob,zab,hd0,zdf c1,zcf,hlen,zdt h0,zct]
  | cons v0 r=>
    rw [hargs] at hlen hsz
    have hr0:Rd s x.2.1 (rowsF valRow (v0::r)) 3 (v0::r).length:=by have:=hx.1.ext h.ext;rwa [hargs] at this
    obtain ⟨p49,b1,b2,_⟩:=hr0.load (j:=(0:Int)) (by omega) (by simp) (row:=valRow v0) rfl rfl
    have b2':s.ldN p49.1 p49.2 3=some (.agg (valRow v0).toArray):=b2
    obtain ⟨s52,e52,a52,x52,n52⟩:=zaO (n:=3) (st:=s) h.llm (r:=valRow ⟨[],0,0⟩) (row:=valRow v0) (v:=.agg (valRow v0).toArray) (zaC _) rfl rfl rfl
    have e52':(s.new (.cells [.string ⟨#[]⟩,.int .i64 0,.int .i64 0] 0)).stV s.next 0 3 (.agg (valRow v0).toArray)=some s52:=e52
    have h52:=h.then x52
    have fr52:FrL b s (LO v l its) s52 (LO v l its):=FrL.ext x52
    have ha52:=ha.ext x52
    have hn1:¬ (((v0::r).length:Nat):Int)=0:=by simp;omega
    have l53:s52.ld a 2=some (.string (mkS x.1.dir)):=ha52.ld
    have l54:s52.ld s.next 0=some (.string (mkS v0.nm)):=a52.ld
    have l55:s52.ld s.next 1=some (.int .i64 v0.x):=a52.ld
    have l56:s52.ld s.next 2=some (.int .i64 v0.col):=a52.ld
    have l58:s52.ld b (0+6)=some (.int .i64 l.pl):=h52.row.ld
    have l74:s52.ld a 3=some x.2.1:=ha52.ld
    have hvn:eqT (mkS v0.nm) ⟨#[]⟩=decide (v0.nm=[]):=zc3 _
    have hlr:decide ((((v0::r).length:Nat):Int)=1)=decide (r=[]):=by
     cases r with
     | nil=>rfl
     | cons a t=>rw [zdf (by simp;omega),zdf (by simp)]
    have hvb:s.next≠b:=by have:=h.row.lt;omega
    by_cases d1:x.1.dir=[111,114,103]
    ·have q1:eqT (mkS x.1.dir) ⟨#[111,114,103]⟩=true:=zdt d1
     have hd:zbI l x.1=if v0.nm=[]∧r=[]∧(l.pl:Int)≤v0.x∧v0.x≤2048 then some { l with pl:=v0.x.toNat } else none:=by unfold zbI;rw [hargs];simp only;rw [if_pos d1]
     by_cases c2:r=[]
     ·by_cases c3:v0.nm=[]
      ·by_cases c4:(l.pl:Int)≤v0.x
       ·by_cases c5:v0.x≤2048
        ·rw [hd,if_pos ⟨c3,c2,c4,c5⟩]
         obtain ⟨s63,e63,h63,m63⟩:=h52.place v0.x.toNat
         have ez:((v0.x.toNat:Nat):Int)=v0.x:=by omega
         rw [ez] at e63
         have e63':s52.st b (0+6) [.int .i64 v0.x]=some s63:=e63
         refine ⟨s63,v,its,?_,h63,fr52.trans (FrL.mod m63)⟩
         simp only [zbf,l2,l3,zob,zab,hd0,zdf c1,zcf,hlen,zdf hn1,b1,b2',e52',l53,q1,zct,hlr,zdt c2,l54,hvn,zdt c3,l55,zaa,hnl,zac,l58,zdt c4,zdt c5,e63']
        ·refine fl s52 _ ?_ fr52 (by rw [hd,if_neg (fun hh=>c5 hh.2.2.2)])
         simp only [zbf,l2,l3,zob,zab,hd0,zdf c1,zcf,hlen,zdf hn1,b1,b2',e52',l53,q1,zct,hlr,zdt c2,l54,hvn,zdt c3,l55,zaa,hnl,zac,l58,zdt c4,zdf c5]
       ·refine fl s52 _ ?_ fr52 (by rw [hd,if_neg (fun hh=>c4 hh.2.2.1)])
        simp only [zbf,l2,l3,zob,zab,hd0,zdf c1,zcf,hlen,zdf hn1,b1,b2',e52',l53,q1,zct,hlr,zdt c2,l54,hvn,zdt c3,l55,zaa,hnl,zac,l58,zdf c4]
      ·refine fl s52 _ ?_ fr52 (by rw [hd,if_neg (fun hh=>c3 hh.1)])
       simp only [zbf,l2,l3,zob,zab,hd0,zdf c1,zcf,hlen,zdf hn1,b1,b2',e52',l53,q1,zct,hlr,zdt c2,l54,hvn,zdf c3]
     ·refine fl s52 _ ?_ fr52 (by rw [hd,if_neg (fun hh=>c2 hh.2.1)])
      simp only [zbf,l2,l3,zob,zab,hd0,zdf c1,zcf,hlen,zdf hn1,b1,b2',e52',l53,q1,zct,hlr,zdf c2]
    have n1:eqT (mkS x.1.dir) ⟨#[111,114,103]⟩=false:=zdf d1
    by_cases d2:x.1.dir=[97,108,105,103,110]
    ·have q1:eqT (mkS x.1.dir) ⟨#[97,108,105,103,110]⟩=true:=zdt d2
     have hd:zbI l x.1=if v0.nm=[]∧r=[]∧1≤v0.x∧v0.x≤2048∧(l.pl+v0.x.toNat-1)/v0.x.toNat*v0.x.toNat≤2048 then some { l with pl:=(l.pl+v0.x.toNat-1)/v0.x.toNat*v0.x.toNat } else none:=by unfold zbI;rw [hargs];simp only;rw [if_neg d1,if_pos d2]
     by_cases c2:r=[]
     ·by_cases c3:v0.nm=[]
      ·by_cases c4:v0.x<1
       ·refine fl s52 _ ?_ fr52 (by rw [hd,if_neg (fun hh=>by omega)])
        simp only [zbf,l2,l3,zob,zab,hd0,zdf c1,zcf,hlen,zdf hn1,b1,b2',e52',l53,n1,q1,zct,hlr,zdt c2,znt,l54,hvn,zdt c3,l55,zaa,zdt c4]
       ·by_cases c5:2048<v0.x
        ·refine fl s52 _ ?_ fr52 (by rw [hd,if_neg (fun hh=>by omega)])
         simp only [zbf,l2,l3,zob,zab,hd0,zdf c1,zcf,hlen,zdf hn1,b1,b2',e52',l53,n1,q1,zct,hlr,zdt c2,znt,l54,hvn,zdt c3,l55,zaa,zdf c4,zdt c5]
        ·have hge:=zqL (p:=l.pl) (n:=v0.x.toNat) (by omega)
         obtain ⟨s67,e67,h67,m67⟩:=zrk (st0:=st0) (B:=B) (b:=b) (v:=v) (l:=l) (its:=its) v0.x.toNat (by omega) (by omega) l.pl hpl s.next v0 (by omega) hvb ((l.pl+v0.x.toNat-1)/v0.x.toNat*v0.x.toNat-l.pl) l.pl s52 (by omega) (zlr _) h52 a52
         have l71:s67.ld b (0+6)=some (.int .i64 (((l.pl+v0.x.toNat-1)/v0.x.toNat*v0.x.toNat:Nat):Int)):=h67.row.ld
         have run:zbf (ptr b 0) a s=some (.bool (decide ((((l.pl+v0.x.toNat-1)/v0.x.toNat*v0.x.toNat:Nat):Int)≤2048)),s67):=by
          simp only [zbf,l2,l3,zob,zab,hd0,zdf c1,zcf,hlen,zdf hn1,b1,b2',e52',l53,n1,q1,zct,hlr,zdt c2,znt,l54,hvn,zdt c3,l55,zaa,zdf c4,zdf c5]
          rw [e67,zob]
          simp only [zgz,zob,hnl,zac,l71,zaa]
         by_cases c6:(l.pl+v0.x.toNat-1)/v0.x.toNat*v0.x.toNat≤2048
         ·rw [hd,if_pos ⟨c3,c2,by omega,by omega,c6⟩]
          have c6':(((l.pl+v0.x.toNat-1)/v0.x.toNat*v0.x.toNat:Nat):Int)≤2048:=by omega
          exact ⟨s67,v,its,by rw [run,zdt c6'],h67,fr52.trans (FrL.mod m67)⟩
         ·have c6':¬ (((l.pl+v0.x.toNat-1)/v0.x.toNat*v0.x.toNat:Nat):Int)≤2048:=by omega
          exact fl s67 _ (by rw [run,zdf c6']) (fr52.trans (FrL.mod m67)) (by rw [hd,if_neg (fun hh=>c6 hh.2.2.2.2)])
      ·refine fl s52 _ ?_ fr52 (by rw [hd,if_neg (fun hh=>c3 hh.1)])
       simp only [zbf,l2,l3,zob,zab,hd0,zdf c1,zcf,hlen,zdf hn1,b1,b2',e52',l53,n1,q1,zct,hlr,zdt c2,znt,l54,hvn,zdf c3,znf]
     ·refine fl s52 _ ?_ fr52 (by rw [hd,if_neg (fun hh=>c2 hh.2.1)])
      simp only [zbf,l2,l3,zob,zab,hd0,zdf c1,zcf,hlen,zdf hn1,b1,b2',e52',l53,n1,q1,zct,hlr,zdf c2,znf]
    have n2:eqT (mkS x.1.dir) ⟨#[97,108,105,103,110]⟩=false:=zdf d2
    by_cases d3:x.1.dir=[115,101,116]
    ·have q1:eqT (mkS x.1.dir) ⟨#[115,101,116]⟩=true:=zdt d3
     have hd:zbI l x.1=zqI l v0 r:=zqJ hargs d1 d2 d3
     by_cases hy:∃ y,r=[y]
     ·obtain ⟨y,rfl⟩:=hy
      have hd:zbI l x.1=if v0.nm≠[]∧v0.x=0∧y.nm=[] then l.define v0.nm y.x else none:=hd
      have h2:(((([v0,y]:List Val).length:Nat)):Int)=2:=rfl
      by_cases c2:v0.nm=[]
      ·refine fl s52 _ ?_ fr52 (by rw [hd,if_neg (fun hh=>hh.1 c2)])
       simp only [zbf,l2,l3,zob,zab,hd0,zdf c1,zcf,hlen,zdf hn1,b1,b2',e52',l53,n1,n2,q1,zct,zdt h2,l54,hvn,zdt c2,znt]
      ·by_cases c3:v0.x=0
       ·obtain ⟨p75,t1,_,t3⟩:=(hr0.ext x52).load (j:=(1:Int)) (by omega) (by rw [h2];omega) (row:=valRow y) rfl rfl
        have t30:s52.ld p75.1 p75.2=some (.string (mkS y.nm)):=t3 0 (by omega)
        have t31:s52.ld p75.1 (p75.2+1)=some (.int .i64 y.x):=t3 1 (by omega)
        have hy0:eqT (mkS y.nm) ⟨#[]⟩=decide (y.nm=[]):=zc3 _
        by_cases c4:y.nm=[]
        ·have hd':zbI l x.1=l.define v0.nm y.x:=by rw [hd,if_pos ⟨c2,c3,c4⟩]
         have hdef:=h52.define hnm v0.nm y.x
         have run:∀ z s',cc 74 [ptr b 0,.string (mkS v0.nm),.int .i64 y.x] s52=some (.bool z,s')→zbf (ptr b 0) a s=some (.bool z,s'):=fun z s' hc=>by
          simp only [zbf,l2,l3,zob,zab,hd0,zdf c1,zcf,hlen,zdf hn1,b1,b2',e52',l53,n1,n2,q1,zct,zdt h2,l54,hvn,zdf c2,znf,l55,zaa,zdt c3,l74,t1,t30,t31,hy0,zdt c4,hc,zal]
         cases hdf:l.define v0.nm y.x with
         | none=>
           rw [hdf] at hdef
           obtain ⟨s9,c9,x9⟩:=hdef
           exact fl s9 _ (run _ _ c9) (fr52.trans (FrL.ext x9)) (by rw [hd',hdf])
         | some l'=>
           rw [hdf] at hdef
           obtain ⟨s9,v9,c9,h9,fr9⟩:=hdef
           rw [hd',hdf]
           exact ⟨s9,v9,its,run _ _ c9,h9,fr52.trans fr9⟩
        ·refine fl s52 _ ?_ fr52 (by rw [hd,if_neg (fun hh=>c4 hh.2.2)])
         simp only [zbf,l2,l3,zob,zab,hd0,zdf c1,zcf,hlen,zdf hn1,b1,b2',e52',l53,n1,n2,q1,zct,zdt h2,l54,hvn,zdf c2,znf,l55,zaa,zdt c3,l74,t1,t30,hy0,zdf c4]
       ·refine fl s52 _ ?_ fr52 (by rw [hd,if_neg (fun hh=>c3 hh.2.1)])
        simp only [zbf,l2,l3,zob,zab,hd0,zdf c1,zcf,hlen,zdf hn1,b1,b2',e52',l53,n1,n2,q1,zct,zdt h2,l54,hvn,zdf c2,znf,l55,zaa,zdf c3]
     ·have hno:¬ ((((v0::r).length:Nat):Int)=2)∧zbI l x.1=none:=by
       rw [hd]
       match r,hy with
       | [],_=>exact ⟨by simp,rfl⟩
       | [y],hy=>exact absurd ⟨y,rfl⟩ hy
       | _::_::_,_=>exact ⟨by simp;omega,rfl⟩
      refine fl s52 _ ?_ fr52 hno.2
      simp only [zbf,l2,l3,zob,zab,hd0,zdf c1,zcf,hlen,zdf hn1,b1,b2',e52',l53,n1,n2,q1,zct,zdf hno.1]
    have n3:eqT (mkS x.1.dir) ⟨#[115,101,116]⟩=false:=zdf d3
    by_cases d4:x.1.dir=[101,110,116,114,121]
    ·have q1:eqT (mkS x.1.dir) ⟨#[101,110,116,114,121]⟩=true:=zdt d4
     have hd:zbI l x.1=if v0.nm≠[]∧r=[]∧v0.x=0∧(l.ents.any fun e=>decide (e.1.nm=v0.nm))=false then some { l with ents:=l.ents++[(v0,x.1.ln,v0.col)] } else none:=by unfold zbI;rw [hargs];simp only;rw [if_neg d1,if_neg d2,if_neg d3,if_pos d4]
     have l85:s52.ld b (0+4)=some v.e:=h52.row.ld
     have oe:=(h52.ow.own 4 _ rfl).rd
     have hle:(lenV v.e).bind (asI .i64)=some (l.ents.length:Int):=by rw [oe.len];rfl
     obtain ⟨s87,x87,hlp⟩:=zsN (b:=b) (((v0::r).length:Nat):Int) a s.next v0 l.ents (by omega) v.e s52 h52.llm a52 oe l.ents.length 0 s52 rfl (Ext.refl _)
     rw [List.drop_zero] at hlp
     have h87:=h52.then x87
     have fr87:FrL b s (LO v l its) s87 (LO v l its):=fr52.trans (FrL.ext x87)
     have a87:=a52.ext x87
     have ha87:=ha52.ext x87
     have b0:Nat.beq 0 0=true:=rfl
     have b1':Nat.beq 1 0=false:=rfl
     have m93:s87.ld s.next 0=some (.string (mkS v0.nm)):=a87.ld
     have m95:s87.ld s.next (0+1)=some (.int .i64 v0.x):=a87.ld
     cases hany:l.ents.any fun e=>decide (e.1.nm=v0.nm) with
     | true=>
       rw [if_pos hany] at hlp
       have hlp':zaw 29 [ptr b 0,ptr a 0,.int .i64 (((v0::r).length:Nat):Int),ptr s.next 0,v.e,.int .i64 l.ents.length,.int .i64 0] s52=_:=hlp
       refine fl s87 _ ?_ fr87 (by rw [hd,if_neg (fun hh=>by rw [hany] at hh;cases hh.2.2.2)])
       simp only [zbf,l2,l3,zob,zab,hd0,zdf c1,zcf,hlen,zdf hn1,b1,b2',e52',l53,n1,n2,n3,q1,zct,hnl,zac,l85,hle]
       rw [hlp',zob]
       simp only [b1',zcf,zgz,zob,zal]
     | false=>
       rw [if_neg (by rw [hany];simp)] at hlp
       have hlp':zaw 29 [ptr b 0,ptr a 0,.int .i64 (((v0::r).length:Nat):Int),ptr s.next 0,v.e,.int .i64 l.ents.length,.int .i64 0] s52=_:=hlp
       by_cases c2:r=[]
       ·by_cases c3:v0.nm=[]
        ·refine fl s87 _ ?_ fr87 (by rw [hd,if_neg (fun hh=>hh.1 c3)])
         simp only [zbf,l2,l3,zob,zab,hd0,zdf c1,zcf,hlen,zdf hn1,b1,b2',e52',l53,n1,n2,n3,q1,zct,hnl,zac,l85,hle]
         rw [hlp',zob]
         simp only [b0,zct,zgz,zgs,zob,zaa,hlr,zdt c2,znt,zcf,zac,m93,zab,hvn,zdt c3]
        ·by_cases c4:v0.x=0
         ·rw [hd,if_pos ⟨c3,c2,c4,hany⟩]
          have l98:s87.ld b (0+4)=some v.e:=h87.row.ld
          have l100:s87.ldN s.next 0 3=some (.agg (valRow v0).toArray):=a87.ldN rfl
          have e3:zaB (.agg (valRow v0).toArray) 3=some (valRow v0):=rfl
          obtain ⟨w1,s103,s106,f1,f2,f3,f4,f5⟩:=Owns.grow (k:=4) (bt:=32) (rw':=veR (v0,x.1.ln,v0.col)) h87.row h87.bB h87.BN h87.limB h87.ow rfl (by simp [ldRow]) rfl (by omega) rfl (by omega) (by omega)
          have f1':(s87.new (.cells (valRow v0) 3)).app 3 32 v.e (.slice (some ⟨s87.next,0,none⟩) 1 1)=some (w1,s103):=f1
          have f2':s103.stV b (0+4) 1 w1=some s106:=f2
          have l109:s106.ld b (0+5)=some v.a:=f3.ld
          have aa:At s106 a (lnRow x):=f5.at ha87 hab haf
          have av:At s106 s.next (valRow v0):=f5.at a87 hvb (h.ow.freeN (zlr _))
          have l111:s106.ld a 0=some (.int .i64 x.1.ln):=aa.ld
          have l113:s106.ld s.next (0+2)=some (.int .i64 v0.col):=av.ld
          obtain ⟨w2,s115,s118,g1,g2,g3,g4,g5⟩:=Owns.grow (k:=5) (bt:=16) (rw':=entRow (v0,x.1.ln,v0.col)) f3 h87.bB (zlt h87.BN f5.next) (by rw [f5.lim];exact h87.limB) f4 rfl (by simp [ldRow]) rfl (by omega) rfl (by omega) (by omega)
          have g1':(s106.new (.cells [.int .i64 x.1.ln,.int .i64 v0.col] 2)).app 2 16 v.a (.slice (some ⟨s106.next,0,none⟩) 1 1)=some (w2,s115):=g1
          have g2':s115.stV b (0+5) 1 w2=some s118:=g2
          have e2:LO { v with e:=w1,a:=w2 } { l with ents:=l.ents++[(v0,x.1.ln,v0.col)] } its=((LO v l its).set 4 ⟨w1,rowsF veR l.ents++veR (v0,x.1.ln,v0.col),3,l.ents.length+1⟩).set 5 ⟨w2,rowsF entRow l.ents++entRow (v0,x.1.ln,v0.col),2,l.ents.length+1⟩:=by
           simp only [LO,zbz,zcg,List.length_append,List.length_cons,List.length_nil]
           rfl
          have fr:FrL b s (LO v l its) s118 (LO { v with e:=w1,a:=w2 } { l with ents:=l.ents++[(v0,x.1.ln,v0.col)] } its):=by
           rw [e2]
           exact (fr87.trans f5).trans g5
          refine ⟨s118,{ v with e:=w1,a:=w2 },its,?_,{ h with ext:=fr.toExt h.ext h.b0 h.ow hb60,row:=g3,BN:=zlt h.BN fr.next,ow:=(by rw [e2];exact g4) },fr⟩
          simp only [zbf,l2,l3,zob,zab,hd0,zdf c1,zcf,hlen,zdf hn1,b1,b2',e52',l53,n1,n2,n3,q1,zct,hnl,zac,l85,hle]
          rw [hlp',zob]
          simp only [b0,zct,zgz,zgs,zob,zaa,hlr,zdt c2,znt,zcf,zac,m93,zab,hvn,zdf c3,m95,zdt c4,hnl,l98,l100,e3,List.append_nil,f1',f2',l109,l111,l113,g1',g2']
         ·refine fl s87 _ ?_ fr87 (by rw [hd,if_neg (fun hh=>c4 hh.2.2.1)])
          simp only [zbf,l2,l3,zob,zab,hd0,zdf c1,zcf,hlen,zdf hn1,b1,b2',e52',l53,n1,n2,n3,q1,zct,hnl,zac,l85,hle]
          rw [hlp',zob]
          simp only [b0,zct,zgz,zgs,zob,zaa,hlr,zdt c2,znt,zcf,zac,m93,zab,hvn,zdf c3,m95,zdf c4,znf]
       ·refine fl s87 _ ?_ fr87 (by rw [hd,if_neg (fun hh=>c2 hh.2.1)])
        simp only [zbf,l2,l3,zob,zab,hd0,zdf c1,zcf,hlen,zdf hn1,b1,b2',e52',l53,n1,n2,n3,q1,zct,hnl,zac,l85,hle]
        rw [hlp',zob]
        simp only [b0,zct,zgz,zgs,zob,zaa,hlr,zdf c2,znf]
    have n4:eqT (mkS x.1.dir) ⟨#[101,110,116,114,121]⟩=false:=zdf d4
    refine fl s52 _ ?_ fr52 (by unfold zbI;rw [hargs];simp only;rw [if_neg d1,if_neg d2,if_neg d3,if_neg d4])
    simp only [zbf,l2,l3,zob,zab,hd0,zdf c1,zcf,hlen,zdf hn1,b1,b2',e52',l53,n1,n2,n3,n4]
end
end Go.Proofs.YtifploedaacedaaGreatDoorE
namespace Go.Proofs.YtifploedaacedaaGreatDoorE
open Go Go.E Go.Proofs
section
variable {st0 : SS} {B b : Nat} {v : V6} {l : Lay} {its : List WItem}
theorem zla {l l':Lay} {n:List UInt8} {x:Int} (h:l.define n x=some l'):l'.pl=l.pl∧l'.ents=l.ents∧l'.nms.length≤l.nms.length+1:=by
 unfold Lay.define at h
 split at h
 ·cases h
 ·cases h;exact ⟨rfl,rfl,by simp⟩
theorem zpu {l l':Lay} {x:PLine} (h:zg1 l x=some l'):l'.nms.length≤l.nms.length+2:=by
 rw [zk5] at h
 have hlab:∃ l1,l1.nms.length≤l.nms.length+1∧zg2 l1 x=some l':=by
  cases hc:(if x.lab=[] then some l else l.define x.lab l.pl) with
  | none=>rw [hc] at h;cases h
  | some l1=>
    rw [hc] at h
    refine ⟨l1,?_,h⟩
    split at hc
    ·cases hc;omega
    ·exact (zla hc).2.2
 obtain ⟨l1,h2,h3⟩:=hlab
 unfold zg2 at h3
 split at h3
 ·unfold zbI at h3
  repeat' (split at h3)
  all_goals first
   | (cases h3;done)
   | (cases h3;simp only;omega)
   | (have:=(zla h3).2.2;omega)
 ·split at h3
  ·cases h3;omega
  ·split at h3
   ·cases h3;simp only;omega
   ·cases h3
theorem zum [Sym] {st:SS} (h:Rld st0 st B b v l its) (x:Item) (hx:Rd st0 x.2.1 (rowsF valRow x.1.args) 3 x.1.args.length∧Rd st0 x.2.2 (rowsF prRow x.1.prs) 5 x.1.prs.length)
  (hpl:l.pl≤2048) (hn:l.ents.length≤100000) (hnm:l.nms.length≤900000) (hni:its.length≤100000) (hsz:x.1.args.length≤100000):
  RLn st0 st B b v l its (cc 45 [ptr b 0,.agg (lnRow x).toArray] st) (zg1 l x.1):=by
 have x1:Ext st (st.new (.cells (lnRow x) 0)):=(Ext.refl st).new _
 have a1:At (st.new (.cells (lnRow x) 0)) st.next (lnRow x):=At.new h.llm _
 have l1:(st.new (.cells (lnRow x) 0)).ld st.next 1=some (.string (mkS x.1.lab)):=a1.ld
 have hlb:eqT (mkS x.1.lab) ⟨#[]⟩=decide (x.1.lab=[]):=zc3 _
 have hnb:st.next≠b:=by have:=h.row.lt;omega
 have h1:=h.then x1
 have up:∀ (r:Option (Value×SS)) (s:SS) (v':V6) (l':Lay) (o:Option Lay),FrL b st (LO v l its) s (LO v' l' its)→(∀ y,r=some y→cc 45 [ptr b 0,.agg (lnRow x).toArray] st=some y)→RLn st0 s B b v' l' its r o→
   RLn st0 st B b v l its (cc 45 [ptr b 0,.agg (lnRow x).toArray] st) o:=by
  intro r s v' l' o fr hr hres
  cases o with
  | none=>
    obtain ⟨st',L',c,d⟩:=hres
    exact ⟨st',L',hr _ c,fr.trans d⟩
  | some l2=>
    obtain ⟨st',v2,its',c,d,e⟩:=hres
    exact ⟨st',v2,its',hr _ c,d,fr.trans e⟩
 rw [zk5]
 by_cases c1:x.1.lab=[]
 ·rw [if_pos c1,zob]
  have e:zbE cc zaw (ptr b 0) (.agg (lnRow x).toArray) st=zbf (ptr b 0) st.next (st.new (.cells (lnRow x) 0)):=by
   simp only [zbE,zaC,l1,zob,zab,hlb,zdt c1,znt,zcf]
   rfl
  exact up _ _ v l _ (FrL.ext x1) (fun y hy=>zda _ _ st (e.trans hy)) (zpt h1 x a1 hnb (h.ow.freeN (zlr _)) hx hpl hn (by omega) hni hsz)
 ·rw [if_neg c1]
  have lp:(st.new (.cells (lnRow x) 0)).ld b (0+6)=some (.int .i64 l.pl):=h1.row.ld
  have hnl:zak (ptr b 0)=some (ptr b 0):=rfl
  have hdef:=h1.define (by omega) x.1.lab l.pl
  cases hd:l.define x.1.lab l.pl with
  | none=>
    rw [hd] at hdef
    obtain ⟨s2,c2,x2⟩:=hdef
    refine ⟨s2,_,zda _ _ st ?_,FrL.ext (x1.trans x2)⟩
    simp only [zbE,zaC,l1,zob,zab,zaa,hlb,zdf c1,znf,zct,hnl,zac,lp,c2,zal]
  | some l1'=>
    rw [hd] at hdef
    obtain ⟨s2,v2,c2,h2,f2⟩:=hdef
    rw [zob]
    obtain ⟨e1,e2,e3⟩:=zla hd
    have hlt:st.next<(st.new (.cells (lnRow x) 0)).next:=by simp
    have hfr:Free (LO v l its) st.next:=h.ow.freeN (zlr _)
    have a2:At s2 st.next (lnRow x):=f2.at a1 hnb hfr
    have e:zbE cc zaw (ptr b 0) (.agg (lnRow x).toArray) st=zbf (ptr b 0) st.next s2:=by
     simp only [zbE,zaC,l1,zob,zab,zaa,hlb,zdf c1,znf,zct,hnl,zac,lp,c2,zal,znt,zcf]
     rfl
    exact up _ _ v2 l1' _ ((FrL.ext x1).trans f2) (fun y hy=>zda _ _ st (e.trans hy)) (zpt h2 x a2 hnb (f2.keep st.next hlt hnb hfr).2 hx (by omega) (by rw [e2];exact hn) (by omega) hni hsz)
end
noncomputable def zmw [Sym] (l' t4' w' t15':Value) (t16' j:Int) (a:Nat) (s:SS) (y:Int):Option (Nat×List Value×SS):=
 (addr? w').bind fun b=>
 (s.ldN b.1 b.2 12).bind fun c=>
 ((s.ld a 0).bind asS).bind fun d=>
 (cc 77 [c,.string d,.int .i64 y] s).bind fun e=>
 (zan e.1 0).bind fun f=>
 ((zan e.1 1).bind (asI .i64)).bind fun g=>
 let h:SS:=e.2.new (.cells [.int .i64 0,.int .i64 0,.int .i64 0,.int .i64 0,.int .i64 0,.int .i64 0,.int .i64 0,.int .i64 0,.int .i64 0,.int .i64 0,.int .i64 0,.int .i64 0] 0)
 (h.stV e.2.next 0 12 f).bind fun i=>
 cond (!(decide (g=0))) (
  (addr? w').bind fun k=>
  (i.ldN k.1 k.2 12).bind fun l=>
  ((i.ld a 4).bind (asI .i64)).bind fun m=>
  cond (zbt (ptr a 4) t4') (
   (addr? t4').bind fun n=>
   (i.stV n.1 n.2 12 l).bind fun o=>
   some (1,[t4',.int .i64 m],o)) (
   none)) (
  (i.ldN e.2.next 0 12).bind fun p=>
  (addr? w').bind fun q=>
  (i.stV q.1 q.2 12 p).bind fun r=>
  let t:Int:=IntKind.wrap .i64 (j+1)
  zaH 3 [l',t4',w',t15',.int .i64 t16',.int .i64 t] r)
theorem zqP {f:List UInt8}:ixI (zdw f)<0↔zfq f=0:=by
 unfold zfq
 cases h:zdw f with
 | none=>simp [ixI]
 | some k=>
   obtain ⟨_,_,_,hk⟩:=ziG h
   have:=(zrJ hk).2
   simp only [ixI]
   omega
theorem zwl (l:Nms) (f:List UInt8) (v:Val) (hnm:v.nm≠[]):zeZ l f v=if 0≤inT (namesT f) v.nm then some (inT (namesT f) v.nm+v.x) else (zbZ l v.nm).map (·+v.x):=by
 unfold zeZ
 rw [if_neg hnm]
theorem zsO [Sym] (l:Nms) (hl:NmsOk l) (hln:l.length≤1000000) (prs:List Pr) (hprs:zon prs) (b t4 wb:Nat) (rest:List Value) (vn vm v:Value) (st0:SS) (hll:st0.lim≤st0.next) (hb:st0.mem.get b=some (.cells (vn::vm::rest) 0)) (hbl:b<st0.next)
  (hvn:Rd st0 vn (strs (l.map (·.1))) 1 (l.map (·.1)).length) (hvm:Rd st0 vm (rowsF nuR l) 1 l.length) (hv:Rd st0 v (rowsF prRow prs) 5 prs.length) (hne:t4≠wb) (h4:st0.next≤t4) (hw0:st0.next≤wb):∀ (k j:Nat) (w:Wd) (st:SS),prs.length=k+j→w.length=12→Ext st0 st→At st wb (wRow w)→At st t4 Z12→
  ∃ st',Ext st0 st'∧((zaQ l w (prs.drop j)).2=0∧zaH 3 [ptr b 0,ptr t4 0,ptr wb 0,v,.int .i64 prs.length,.int .i64 j] st=some (0,[ptr t4 0,ptr wb 0],st')∧At st' wb (wRow (zaQ l w (prs.drop j)).1)∧At st' t4 Z12∨
   0<(zaQ l w (prs.drop j)).2∧zaH 3 [ptr b 0,ptr t4 0,ptr wb 0,v,.int .i64 prs.length,.int .i64 j] st=some (1,[ptr t4 0,.int .i64 (zaQ l w (prs.drop j)).2],st')∧∃ u:Wd,u.length=12∧At st' t4 (wRow u)):=by
 intro k
 induction k with
 | zero=>
   intro j w st hk hw he aw a4
   have h:¬ (j:Int)<(prs.length:Int):=by omega
   rw [List.drop_of_length_le (by omega)]
   refine ⟨st,he,.inl ⟨rfl,za9 _ _ _ _ _ _ st ?_,aw,a4⟩⟩
   simp only [za6,zdf h,zcf]
 | succ k ih=>
   intro j w st hk hw he aw a4
   have h:(j:Int)<(prs.length:Int):=by omega
   obtain ⟨q,hq⟩:∃ q,prs[j]?=some q:=⟨_,zge (by omega)⟩
   obtain ⟨x,b1,b2,_⟩:=(hv.ext he).load (j:=(j:Int)) (by omega) h (zaW zja prs j q hq) rfl
   have b2':st.ldN x.1 x.2 5=some (.agg (prRow q).toArray):=b2
   obtain ⟨q1,q2,q3,q4⟩:=hprs.2 q (zmg hq)
   have hlmn:st.lim≤st.next:=he.ll hll
   obtain ⟨s4,e4,a5,x4,n4⟩:=zaO (n:=5) (st:=st) hlmn (r:=prRow ⟨[],0,⟨[],0,0⟩⟩) (row:=prRow q) (v:=.agg (prRow q).toArray) (zaC _) rfl rfl rfl
   have e4':(st.new (.cells [.string ⟨#[]⟩,.int .i64 0,.string ⟨#[]⟩,.int .i64 0,.int .i64 0] 0)).stV st.next 0 5 (.agg (prRow q).toArray)=some s4:=e4
   have he4:Ext st0 s4:=he.trans x4
   obtain ⟨n6,hn6,c6⟩:=at_ok q.fd s4
   have x6:Ext s4 (s4.adv n6):=(Ext.refl _).adv hn6
   have he6:=he4.trans x6
   have a56:=a5.ext x6
   have aw6:=(aw.ext x4).ext x6
   have a46:=(a4.ext x4).ext x6
   have l0:s4.ld st.next 0=some (.string (mkS q.fd)):=a5.ld
   have hd:=drop_cons hq
   have hE:zaQ l w (prs.drop j)=if zfq q.fd=0 then (w,q.col) else match zeZ l q.fd q.v with
    | none=>(w,q.v.col)
    | some x=>if (zbk w q.fd x).2=0 then zaQ l (zbk w q.fd x).1 (prs.drop (j+1)) else (w,q.v.col):=by rw [hd];rfl
   have hpne:st.next≠t4:=by have:=a4.lt;omega
   have hpw:st.next≠wb:=by have:=aw.lt;omega
   have hw1:=za4 (i:=j) (by have:=hprs.1;omega)
   have hpt:∀ c,zbt (ptr st.next c) (ptr t4 0)=true:=fun c=>zc9 hpne
   have tail:∀ (s:SS) (y:Int),Ext (s4.adv n6) s→zfq q.fd≠0→zeZ l q.fd q.v=some y→∃ st',Ext st0 st'∧((zaQ l w (prs.drop j)).2=0∧zmw (ptr b 0) (ptr t4 0) (ptr wb 0) v prs.length j st.next s y=some (0,[ptr t4 0,ptr wb 0],st')∧At st' wb (wRow (zaQ l w (prs.drop j)).1)∧At st' t4 Z12∨
    0<(zaQ l w (prs.drop j)).2∧zmw (ptr b 0) (ptr t4 0) (ptr wb 0) v prs.length j st.next s y=some (1,[ptr t4 0,.int .i64 (zaQ l w (prs.drop j)).2],st')∧∃ u:Wd,u.length=12∧At st' t4 (wRow u)):=by
    intro s y xs hbt hnum
    rw [if_neg hbt,hnum] at hE
    simp only at hE
    have hes:=he6.trans xs
    have aws:=aw6.ext xs
    have a4s:=a46.ext xs
    have a5s:=a56.ext xs
    have l33:s.ldN wb 0 12=some (wV w):=aws.ldN (by rw [zaK,hw])
    have l34:s.ld st.next 0=some (.string (mkS q.fd)):=a5s.ld
    obtain ⟨n35,hn35,c35⟩:=zv6 w hw q.fd y s
    have x35:Ext s (s.adv n35):=(Ext.refl _).adv hn35
    obtain ⟨s39,e39,a39,x39,n39⟩:=zaO (n:=12) (st:=s.adv n35) ((hes.trans x35).ll hll) (r:=Z12) (row:=wRow (zbk w q.fd y).1) (v:=wV (zbk w q.fd y).1) (zaC _) (by rw [zaK,zcw,hw]) (zcK _) rfl
    have e39':((s.adv n35).new (.cells [.int .i64 0,.int .i64 0,.int .i64 0,.int .i64 0,.int .i64 0,.int .i64 0,.int .i64 0,.int .i64 0,.int .i64 0,.int .i64 0,.int .i64 0,.int .i64 0] 0)).stV n35 0 12 (wV (zbk w q.fd y).1)=some s39:=e39
    have xs39:=x35.trans x39
    have he39:=hes.trans xs39
    have aw39:=aws.ext xs39
    have a439:=a4s.ext xs39
    have a539:=a5s.ext xs39
    have ht0:∀ (a:Value) (z:Int),zan (.tuple #[a,.int .i64 z]) 0=some a:=fun _ _=>rfl
    have ht1:∀ (a:Value) (z:Int),(zan (.tuple #[a,.int .i64 z]) 1).bind (asI .i64)=some z:=fun _ _=>rfl
    by_cases hs:(zbk w q.fd y).2=0
    ·rw [if_pos hs] at hE
     rw [hE]
     have l45:s39.ldN n35 0 12=some (wV (zbk w q.fd y).1):=a39.ldN (by rw [zaK,zcw,hw])
     obtain ⟨s47,e47,a47,m47⟩:=At.setW aw39 (by rw [zaK,hw]) (zbk w q.fd y).1 (by rw [zcw,hw])
     obtain ⟨s',f1,f2⟩:=ih (j+1) (zbk w q.fd y).1 s47 (by omega) (by rw [zcw,hw]) (zax he39 m47 hw0) a47 (a439.mod m47 (by simpa using hne))
     have go:∀ r,zaH 3 [ptr b 0,ptr t4 0,ptr wb 0,v,.int .i64 prs.length,.int .i64 ((j+1:Nat):Int)] s47=some r→zmw (ptr b 0) (ptr t4 0) (ptr wb 0) v prs.length j st.next s y=some r:=fun r hr=>by
      simp only [zmw,zac,zob,l33,l34,zab,c35,ht0,ht1,SS.adv_next,e39',zdt hs,znt,zcf,l45,e47,hw1]
      exact hr
     refine ⟨s',f1,?_⟩
     rcases f2 with ⟨g1,g2,g3,g4⟩ | ⟨g1,g2,g3⟩
     ·exact .inl ⟨g1,go _ g2,g3,g4⟩
     ·exact .inr ⟨g1,go _ g2,g3⟩
    ·rw [if_neg hs] at hE
     rw [hE]
     have l41:s39.ldN wb 0 12=some (wV w):=aw39.ldN (by rw [zaK,hw])
     have l42:s39.ld st.next 4=some (.int .i64 q.v.col):=a539.ld
     obtain ⟨s44,e44,a44,m44⟩:=At.setW a439 rfl w hw
     refine ⟨s44,zax he39 m44 h4,.inr ⟨q2,?_,w,hw,a44⟩⟩
     simp only [zmw,zac,zob,l33,l34,zab,c35,ht0,ht1,SS.adv_next,e39',zdf hs,znf,zct,l41,l42,zaa,hpt,e44]
   have lift:∀ (s:SS) (y:Int),(∀ z,zmw (ptr b 0) (ptr t4 0) (ptr wb 0) v prs.length j st.next s y=some z→zaH 3 [ptr b 0,ptr t4 0,ptr wb 0,v,.int .i64 prs.length,.int .i64 j] st=some z)→Ext (s4.adv n6) s→zfq q.fd≠0→zeZ l q.fd q.v=some y→
    ∃ st',Ext st0 st'∧((zaQ l w (prs.drop j)).2=0∧zaH 3 [ptr b 0,ptr t4 0,ptr wb 0,v,.int .i64 prs.length,.int .i64 j] st=some (0,[ptr t4 0,ptr wb 0],st')∧At st' wb (wRow (zaQ l w (prs.drop j)).1)∧At st' t4 Z12∨
    0<(zaQ l w (prs.drop j)).2∧zaH 3 [ptr b 0,ptr t4 0,ptr wb 0,v,.int .i64 prs.length,.int .i64 j] st=some (1,[ptr t4 0,.int .i64 (zaQ l w (prs.drop j)).2],st')∧∃ u:Wd,u.length=12∧At st' t4 (wRow u)):=by
    intro s y hgo xs hbt hnum
    obtain ⟨st',f1,f2⟩:=tail s y xs hbt hnum
    refine ⟨st',f1,?_⟩
    rcases f2 with ⟨g1,g2,g3,g4⟩ | ⟨g1,g2,g3⟩
    ·exact .inl ⟨g1,hgo _ g2,g3,g4⟩
    ·exact .inr ⟨g1,hgo _ g2,g3⟩
   by_cases hbt:zfq q.fd=0
   ·rw [if_pos hbt] at hE
    rw [hE]
    have hz:ixI (zdw q.fd)<0:=zqP.2 hbt
    obtain ⟨s12,e12,a12,m12⟩:=At.setW a46 rfl w hw
    have l9:(s4.adv n6).ldN wb 0 12=some (wV w):=aw6.ldN (by rw [zaK,hw])
    have l10:(s4.adv n6).ld st.next 1=some (.int .i64 q.col):=a56.ld
    refine ⟨s12,zax he6 m12 h4,.inr ⟨q1,za9 _ _ _ _ _ _ st ?_,w,hw,a12⟩⟩
    simp only [za6,zdt h,zct,b1,b2',e4',l0,c6,zob,zab,zaa,zdt hz,zac,l9,l10,hpt,e12]
   ·have hz:¬ ixI (zdw q.fd)<0:=fun hh=>hbt (zqP.1 hh)
    have l13:(s4.adv n6).ld st.next 3=some (.int .i64 q.v.x):=a56.ld
    have l14:(s4.adv n6).ld st.next 2=some (.string (mkS q.v.nm)):=a56.ld
    have l15:(s4.adv n6).ld st.next 0=some (.string (mkS q.fd)):=a56.ld
    have hnm:eqT (mkS q.v.nm) ⟨#[]⟩=decide (q.v.nm=[]):=zc3 _
    by_cases hn:q.v.nm=[]
    ·have hs:zeZ l q.fd q.v=some q.v.x:=by unfold zeZ;rw [if_pos hn]
     refine lift (s4.adv n6) q.v.x (fun z hz'=>za9 _ _ _ _ _ _ st ?_) (Ext.refl _) hbt hs
     simp only [za6,zdt h,zct,b1,b2',e4',l0,c6,zob,zab,zaa,zdf hz,zcf,l13,l14,hnm,zdt hn,znt]
     exact hz'
    ·obtain ⟨v16,s16,c16,x16,o16⟩:=ztK (mkS q.fd) ((s4.adv n6).ro (s4.adv n6).next) (zlr _)
     rw [zbu] at o16
     have x16':Ext (s4.adv n6) (s16.ro (s4.adv n6).lim):=⟨x16.next,rfl,fun i hi=>x16.keep i hi⟩
     have r16:Rd (s16.ro (s4.adv n6).lim) v16 (strs (namesT q.fd)) 1 (namesT q.fd).length:=o16.rd
     have l17:(s16.ro (s4.adv n6).lim).ld st.next 2=some (.string (mkS q.v.nm)):=(a56.ext x16').ld
     obtain ⟨n18,hn18,c18⟩:=zpQ (namesT q.fd) (by have:=zie q.fd;omega) (mkS q.v.nm) v16 (s16.ro (s4.adv n6).lim) r16
     rw [zbu] at c18
     have x18:Ext (s16.ro (s4.adv n6).lim) ((s16.ro (s4.adv n6).lim).adv n18):=(Ext.refl _).adv hn18
     have xx18:=x16'.trans x18
     have he18:=he6.trans xx18
     have hnl:zak (ptr b 0)=some (ptr b 0):=rfl
     have mb:((s16.ro (s4.adv n6).lim).adv n18).mem.get b=some (.cells (vn::vm::rest) 0):=he18.get hbl hb
     have l22:((s16.ro (s4.adv n6).lim).adv n18).ld b 0=some vn:=by rw [SS.ld_cells mb];rfl
     have l23:((s16.ro (s4.adv n6).lim).adv n18).ld st.next 2=some (.string (mkS q.v.nm)):=(a56.ext xx18).ld
     obtain ⟨n24,hn24,c24⟩:=zpQ (l.map (·.1)) (by simp;omega) (mkS q.v.nm) vn ((s16.ro (s4.adv n6).lim).adv n18) (hvn.ext he18)
     rw [zbu] at c24
     have x24:Ext ((s16.ro (s4.adv n6).lim).adv n18) (((s16.ro (s4.adv n6).lim).adv n18).adv n24):=(Ext.refl _).adv hn24
     have xx24:=xx18.trans x24
     have he24:=he6.trans xx24
     generalize hs24:((s16.ro (s4.adv n6).lim).adv n18).adv n24=s24 at*
     have hin:=zua (namesT q.fd) q.v.nm
     have hnl':=zie q.fd
     have hfi:=zk9 l q.v.nm
     have hnumT:=zwl l q.fd q.v hn
     by_cases hk:0≤inT (namesT q.fd) q.v.nm
     ·have hk':¬ inT (namesT q.fd) q.v.nm<0:=by omega
      rw [if_pos hk,Int.add_comm] at hnumT
      have hw31:IntKind.wrap .i64 (q.v.x+inT (namesT q.fd) q.v.nm)=q.v.x+inT (namesT q.fd) q.v.nm:=wrap64 (by omega) (by omega)
      refine lift s24 _ (fun z hz'=>za9 _ _ _ _ _ _ st ?_) xx24 hbt hnumT
      simp only [za6,zdt h,zct,b1,b2',e4',l0,c6,zob,zab,zaa,zdf hz,zcf,l13,l14,l15,hnm,zdf hn,znf,c16,l17,c18,hnl,zac,l22,l23,c24,zdf hk',zdt hk,hw31]
      exact hz'
     ·have hk':inT (namesT q.fd) q.v.nm<0:=by omega
      rw [if_neg hk] at hnumT
      cases hf:zbZ l q.v.nm with
      | none=>
        rw [hf] at hnumT hfi
        simp only at hfi
        rw [if_neg hbt,hnumT] at hE
        simp only [Option.map_none] at hE
        rw [hE]
        have h25:inT (l.map (·.1)) q.v.nm<0:=by omega
        obtain ⟨s30,e30,a30,m30⟩:=At.setW (a46.ext xx24) rfl w hw
        have l27:s24.ldN wb 0 12=some (wV w):=(aw6.ext xx24).ldN (by rw [zaK,hw])
        have l28:s24.ld st.next 4=some (.int .i64 q.v.col):=(a56.ext xx24).ld
        refine ⟨s30,zax he24 m30 h4,.inr ⟨q2,za9 _ _ _ _ _ _ st ?_,w,hw,a30⟩⟩
        simp only [za6,zdt h,zct,b1,b2',e4',l0,c6,zob,zab,zaa,zdf hz,zcf,l13,l14,l15,hnm,zdf hn,znf,c16,l17,c18,hnl,zac,l22,l23,c24,zdt hk',zdt h25,l27,l28,hpt,e30]
      | some y=>
        rw [hf] at hnumT hfi
        obtain ⟨kk,h1,yn,h2⟩:=hfi
        have h25:¬ inT (l.map (·.1)) q.v.nm<0:=by omega
        have mb24:s24.mem.get b=some (.cells (vn::vm::rest) 0):=he24.get hbl hb
        have l51:s24.ld b (0+1)=some vm:=by rw [SS.ld_cells mb24];rfl
        have hkl:kk<l.length:=(List.getElem?_eq_some_iff.1 h2).1
        obtain ⟨p52,d1,_,d3⟩:=(hvm.ext he24).load (j:=(kk:Int)) (by omega) (by omega) (zaW (f:=nuR) (z:=1) (fun _=>rfl) l kk (yn,y) h2) rfl
        have l53:s24.ld p52.1 p52.2=some (.int .i64 y):=d3 0 (by omega)
        have hyb:=hl _ (zmg h2)
        simp only at hyb
        have hw54:IntKind.wrap .i64 (q.v.x+y)=q.v.x+y:=wrap64 (by omega) (by omega)
        rw [h1] at c24 h25
        have hnumT':zeZ l q.fd q.v=some (q.v.x+y):=by rw [hnumT,Option.map_some,Int.add_comm]
        refine lift s24 _ (fun z hz'=>za9 _ _ _ _ _ _ st ?_) xx24 hbt hnumT'
        simp only [za6,zdt h,zct,b1,b2',e4',l0,c6,zob,zab,zaa,zdf hz,zcf,l13,l14,l15,hnm,zdf hn,znf,c16,l17,c18,hnl,zac,l22,l23,c24,zdt hk',zdf h25,zdf hk,l51,d1,l53,hw54]
        exact hz'
theorem zvk [Sym] (l:Nms) (hl:NmsOk l) (hln:l.length≤1000000) (x:Item) (hprs:zon x.1.prs) (b:Nat) (rest:List Value) (vn vm:Value) (st:SS) (hb:st.mem.get b=some (.cells (vn::vm::rest) 0)) (hbl:b<st.next)
  (hvn:Rd st vn (strs (l.map (·.1))) 1 (l.map (·.1)).length) (hvm:Rd st vm (rowsF nuR l) 1 l.length) (hv:Rd st x.2.2 (rowsF prRow x.1.prs) 5 x.1.prs.length):
  ∃ n u,st.next≤n∧u.length=12∧((zaQ l zaG x.1.prs).2=0→u=(zaQ l zaG x.1.prs).1)∧cc 46 [ptr b 0,.agg (lnRow x).toArray] st=some (.tuple #[wV u,.int .i64 (zaQ l zaG x.1.prs).2],st.adv n):=by
 have x1:Ext (st.ro st.next) ((st.ro st.next).new (.cells (lnRow x) 0)):=(Ext.refl _).new _
 have a2:At (((st.ro st.next).new (.cells (lnRow x) 0)).new (.cells Z12 0)) (st.next+1) Z12:=At.new (st:=(st.ro st.next).new (.cells (lnRow x) 0)) (by simp) _
 have x2:Ext ((st.ro st.next).new (.cells (lnRow x) 0)) (((st.ro st.next).new (.cells (lnRow x) 0)).new (.cells Z12 0)):=(Ext.refl _).new _
 have a3:At ((((st.ro st.next).new (.cells (lnRow x) 0)).new (.cells Z12 0)).new (.cells Z12 0)) (st.next+2) Z12:=At.new (st:=((st.ro st.next).new (.cells (lnRow x) 0)).new (.cells Z12 0)) (by simp;omega) _
 have x3:Ext (((st.ro st.next).new (.cells (lnRow x) 0)).new (.cells Z12 0)) ((((st.ro st.next).new (.cells (lnRow x) 0)).new (.cells Z12 0)).new (.cells Z12 0)):=(Ext.refl _).new _
 have he:=x1.trans (x2.trans x3)
 have l4:((((st.ro st.next).new (.cells (lnRow x) 0)).new (.cells Z12 0)).new (.cells Z12 0)).ld st.next 4=some x.2.2:=by
  have hm:((((st.ro st.next).new (.cells (lnRow x) 0)).new (.cells Z12 0)).new (.cells Z12 0)).mem.get st.next=some (.cells (lnRow x) 0):=(x2.trans x3).get (by simp) (SS.new_get (st:=st.ro st.next))
  rw [SS.ld_cells hm];rfl
 obtain ⟨s',f1,f2⟩:=zsO l hl hln x.1.prs hprs b (st.next+1) (st.next+2) rest vn vm x.2.2 (st.ro st.next) (zlr _) hb hbl hvn hvm hv (by omega) (by simp) (by simp) x.1.prs.length 0 zaG _ (by omega) rfl he a3 (a2.ext x3)
 rw [List.drop_zero] at f2
 have hlen:(lenV x.2.2).bind (asI .i64)=some (x.1.prs.length:Int):=by rw [hv.len];rfl
 have b0:Nat.beq 0 0=true:=rfl
 have b1:Nat.beq 1 0=false:=rfl
 have hn1:((st.ro st.next).new (.cells (lnRow x) 0)).next=st.next+1:=rfl
 have hn2:(((st.ro st.next).new (.cells (lnRow x) 0)).new (.cells Z12 0)).next=st.next+2:=rfl
 have hnx:=f1.next
 simp only [SS.ro_next] at hnx
 have hel:=zk4 l x.1.prs zaG
 rcases f2 with ⟨g1,g2,g3,g4⟩ | ⟨g1,g2,u,g3,g4⟩
 ·have g2':zaH 3 [ptr b 0,ptr (st.next+1) 0,ptr (st.next+2) 0,x.2.2,.int .i64 x.1.prs.length,.int .i64 0] ((((st.ro st.next).new (.cells (lnRow x) 0)).new (.cells Z12 0)).new (.cells Z12 0))=_:=g2
  obtain ⟨s12,e12,a12,m12⟩:=At.setW g4 rfl (zaQ l zaG x.1.prs).1 (by rw [hel];rfl)
  have l10:s'.ldN (st.next+2) 0 12=some (wV (zaQ l zaG x.1.prs).1):=g3.ldN (by rw [zaK,hel];rfl)
  have l14:s12.rdN (st.next+1) 0 12=some (wV (zaQ l zaG x.1.prs).1):=a12.rdN (by rw [zaK,hel];rfl)
  have hz:=zgU (zaQ l zaG x.1.prs).1 0
  refine ⟨s12.next,_,by have:=m12.next;omega,by rw [hel];rfl,fun _=>rfl,zeP _ _ st ?_⟩
  rw [g1]
  simp only [zdJ,zaC,SS.ro_next,hn1,hn2,l4,zob,hlen,g2',b0,zct,zgs,zgz,zac,l10,e12,l14,hz]
  rfl
 ·have g2':zaH 3 [ptr b 0,ptr (st.next+1) 0,ptr (st.next+2) 0,x.2.2,.int .i64 x.1.prs.length,.int .i64 0] ((((st.ro st.next).new (.cells (lnRow x) 0)).new (.cells Z12 0)).new (.cells Z12 0))=_:=g2
  have l18:s'.rdN (st.next+1) 0 12=some (wV u):=g4.rdN (by rw [zaK,g3])
  have hz:=zgU u (zaQ l zaG x.1.prs).2
  refine ⟨s'.next,u,hnx,g3,fun h=>by omega,zeP _ _ st ?_⟩
  simp only [zdJ,zaC,SS.ro_next,hn1,hn2,l4,zob,hlen,g2',b1,zcf,zgs,zgz,zac,zaa,l18,hz,zct]
end Go.Proofs.YtifploedaacedaaGreatDoorE
