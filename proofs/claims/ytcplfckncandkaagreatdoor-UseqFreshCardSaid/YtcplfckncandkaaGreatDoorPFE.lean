/- Parts of the proof of UseqFresh, packed by a program: an evaluator over the given code, functions as plain texts, their laws. -/
import Derived.ChangeSame
import Derived.Test.YtcplfckncandkaaGreatDoorPFD
set_option linter.unusedVariables false
set_option linter.unusedSimpArgs false
namespace Go.Proofs.YtcplfckncandkaaGreatDoorE
set_option maxRecDepth 20000
open Go Go.E Go.Proofs
def zfr:LoopI:=⟨[(0,.any),(2,.any),(3,.any),(4,.any),(103,.any),(104,.int .i64),(105,.int .i64)],[(.exit 4,[(2,.any),(3,.any),(4,.any)]),(.ret,[(2,.any),(3,.any)])]⟩
def zfs:LoopI:=⟨[(0,.any),(2,.any),(3,.any),(4,.any),(7,.any),(8,.any),(38,.any),(39,.int .i64),(40,.int .i64),(62,.any),(63,.int .i64),(64,.int .i64)],[(.exit 2,[(0,.any),(2,.any),(3,.any),(4,.any),(7,.any),(8,.any),(38,.any),(39,.int .i64),(40,.int .i64)]),(.ret,[(2,.any),(3,.any)])]⟩
def zfJ:LoopI:=⟨[(0,.any),(2,.any),(3,.any),(4,.any),(38,.any),(39,.int .i64),(40,.int .i64)],[(.exit 0,[(0,.any),(2,.any),(3,.any),(4,.any)]),(.ret,[(2,.any),(3,.any)])]⟩
def zfU (n:Nat):Option LoopI:=cond (Nat.beq n 6) (some zfJ) (cond (Nat.beq n 12) (some zfs) (cond (Nat.beq n 20) (some zfr) (none)))
noncomputable def zcP (cf:zak) (lf:zab) (b':Value) (st:SS):Option (Value×SS):=
 let a:SS:=st.new (.cells [.slice none 0 0,.slice none 0 0] 0)
 let b:SS:=a.new (.cells [.int .i64 0,.int .i64 0] 0)
 let c:SS:=b.new (.cells [.slice none 0 0,.slice none 0 0] 0)
 (zaj b').bind fun d=>
 (addr? d).bind fun e=>
 (c.ld e.1 (e.2+2)).bind fun f=>
 ((lenV f).bind (asI .i64)).bind fun g=>
 cond (decide (0<g)) (
 (zaj b').bind fun h=>
 (addr? h).bind fun i=>
 (c.ld i.1 (i.2+2)).bind fun j=>
 let k:Int:=IntKind.wrap .i64 (g-1)
 (zau j k 6).bind fun l=>
 ((c.ld l.1 l.2).bind (asI .i64)).bind fun m=>
 let n:Int:=IntKind.wrap .i64 (m+1)
 (ze9 n n 8).bind fun _=>
 let o:SS:=c.new (.cells (zeW [.int .u64 0] n) 1)
 (o.st b.next 0 [.slice (some ⟨c.next,0,none⟩) ((n:Int).toNat) ((n:Int).toNat)]).bind fun p=>
 (zaj b').bind fun q=>
 (addr? q).bind fun r=>
 (p.ld r.1 (r.2+2)).bind fun s=>
 ((lenV s).bind (asI .i64)).bind fun t=>
 (lf 6 [b',ptr st.next 0,ptr a.next 0,ptr b.next 0,s,.int .i64 t,.int .i64 0] p).bind fun u=>
 cond (Nat.beq u.1 0) (
 (u.2.1[0]?).bind fun v=>
 (u.2.1[1]?).bind fun w=>
 (u.2.1[2]?).bind fun x=>
 (u.2.1[3]?).bind fun y=>
 (zaj v).bind fun z=>
 (addr? z).bind fun A=>
 (u.2.2.ld A.1 (A.2+4)).bind fun B=>
 ((lenV B).bind (asI .i64)).bind fun C=>
 (lf 20 [v,w,x,y,B,.int .i64 C,.int .i64 0] u.2.2).bind fun D=>
 cond (Nat.beq D.1 0) (
 (D.2.1[0]?).bind fun E=>
 (D.2.1[1]?).bind fun F=>
 (D.2.1[2]?).bind fun G=>
 (addr? G).bind fun H=>
 (D.2.2.ldN H.1 H.2 2).bind fun I=>
 (addr? E).bind fun J=>
 (D.2.2.stV J.1 J.2 2 I).bind fun K=>
 (addr? F).bind fun L=>
 (K.st L.1 L.2 [.int .i64 0,.int .i64 0]).bind fun M=>
 (addr? E).bind fun N=>
 (M.rdN N.1 N.2 2).bind fun O=>
 (addr? F).bind fun P=>
 (M.rdN P.1 P.2 2).bind fun Q=>
 some (.tuple #[O,Q],M)) (
 (D.2.1[0]?).bind fun R=>
 (D.2.1[1]?).bind fun S=>
 (addr? R).bind fun T=>
 (D.2.2.rdN T.1 T.2 2).bind fun U=>
 (addr? S).bind fun V=>
 (D.2.2.rdN V.1 V.2 2).bind fun W=>
 some (.tuple #[U,W],D.2.2))) (
 (u.2.1[0]?).bind fun X=>
 (u.2.1[1]?).bind fun Y=>
 (addr? X).bind fun Z=>
 (u.2.2.rdN Z.1 Z.2 2).bind fun aA=>
 (addr? Y).bind fun aB=>
 (u.2.2.rdN aB.1 aB.2 2).bind fun aC=>
 some (.tuple #[aA,aC],u.2.2))) (
 (zaj b').bind fun aD=>
 (addr? aD).bind fun aE=>
 (c.ld aE.1 (aE.2+2)).bind fun aF=>
 ((lenV aF).bind (asI .i64)).bind fun aG=>
 (lf 6 [b',ptr st.next 0,ptr a.next 0,ptr b.next 0,aF,.int .i64 aG,.int .i64 0] c).bind fun aH=>
 cond (Nat.beq aH.1 0) (
 (aH.2.1[0]?).bind fun aI=>
 (aH.2.1[1]?).bind fun aJ=>
 (aH.2.1[2]?).bind fun aK=>
 (aH.2.1[3]?).bind fun aL=>
 (zaj aI).bind fun aM=>
 (addr? aM).bind fun aN=>
 (aH.2.2.ld aN.1 (aN.2+4)).bind fun aO=>
 ((lenV aO).bind (asI .i64)).bind fun aP=>
 (lf 20 [aI,aJ,aK,aL,aO,.int .i64 aP,.int .i64 0] aH.2.2).bind fun aQ=>
 cond (Nat.beq aQ.1 0) (
 (aQ.2.1[0]?).bind fun aR=>
 (aQ.2.1[1]?).bind fun aS=>
 (aQ.2.1[2]?).bind fun aT=>
 (addr? aT).bind fun aU=>
 (aQ.2.2.ldN aU.1 aU.2 2).bind fun aV=>
 (addr? aR).bind fun aW=>
 (aQ.2.2.stV aW.1 aW.2 2 aV).bind fun aX=>
 (addr? aS).bind fun aY=>
 (aX.st aY.1 aY.2 [.int .i64 0,.int .i64 0]).bind fun aZ=>
 (addr? aR).bind fun bA=>
 (aZ.rdN bA.1 bA.2 2).bind fun bB=>
 (addr? aS).bind fun bC=>
 (aZ.rdN bC.1 bC.2 2).bind fun bD=>
 some (.tuple #[bB,bD],aZ)) (
 (aQ.2.1[0]?).bind fun bE=>
 (aQ.2.1[1]?).bind fun bF=>
 (addr? bE).bind fun bG=>
 (aQ.2.2.rdN bG.1 bG.2 2).bind fun bH=>
 (addr? bF).bind fun bI=>
 (aQ.2.2.rdN bI.1 bI.2 2).bind fun bJ=>
 some (.tuple #[bH,bJ],aQ.2.2))) (
 (aH.2.1[0]?).bind fun bK=>
 (aH.2.1[1]?).bind fun bL=>
 (addr? bK).bind fun bM=>
 (aH.2.2.rdN bM.1 bM.2 2).bind fun bN=>
 (addr? bL).bind fun bO=>
 (aH.2.2.rdN bO.1 bO.2 2).bind fun bP=>
 some (.tuple #[bN,bP],aH.2.2)))
noncomputable abbrev zao:zab:=lS Tryz.prog Lk0 Tryz.f17 zfU
theorem zkk:Lk0.func 17=some (17,Tryz.f17):=by kernel_rfl
theorem zcT [Sym] (b':Value) (st:SS) {r:Value×SS} (h:zcP cc zao b' st=some r):cc 17 [b'] st=some r:=
 zaf (li:=zfU) zah zal zkk rfl (fun _=>rfl) (.trans (by kernel_rfl) h)
noncomputable def zb8 (cf:zak) (lf:zab) (b':Value) (t2':Value) (t3':Value) (r':Value) (t38':Value) (t39':Int) (t40':Int) (st:SS):Option (Nat×List Value×SS):=
 cond (decide (t40'<t39')) (
 (zau t38' t40' 6).bind fun a=>
 (st.ldN a.1 a.2 6).bind fun b=>
 let c:SS:=st.new (.cells [.int .i64 0,.int .i64 0,.string ⟨#[]⟩,.string ⟨#[]⟩,.slice none 0 0,.slice none 0 0] 0)
 (c.stV st.next 0 6 b).bind fun d=>
 (d.ldN st.next 1 5).bind fun e=>
 (cf 35 [b',e] d).bind fun f=>
 (zan f.1 0).bind fun g=>
 ((zan f.1 1).bind (asI .i64)).bind fun h=>
 let i:SS:=f.2.new (.cells [.int .i64 0,.int .i64 0,.int .i64 0,.int .i64 0,.int .i64 0,.int .i64 0,.int .i64 0,.int .i64 0,.int .i64 0,.int .i64 0,.int .i64 0,.int .i64 0] 0)
 (i.stV f.2.next 0 12 g).bind fun j=>
 cond (decide (0<h)) (
 ((j.ld st.next 1).bind (asI .i64)).bind fun k=>
 cond (zbJ (ptr st.next 1) t2') (
 (addr? t2').bind fun l=>
 (j.st l.1 l.2 [.slice none 0 0,.slice none 0 0]).bind fun m=>
 (addr? t3').bind fun n=>
 (m.st n.1 n.2 [.int .i64 k,.int .i64 h]).bind fun o=>
 some (1,[t2',t3'],o)) (
 none)) (
 (j.ldN f.2.next 0 12).bind fun p=>
 ((j.ld st.next 0).bind (asI .i64)).bind fun q=>
 (cf 25 [p,.int .i64 q] j).bind fun r=>
 ((lenV r.1).bind (asI .i64)).bind fun s=>
 (lf 12 [b',t2',t3',r',ptr st.next 0,ptr f.2.next 0,t38',.int .i64 t39',.int .i64 t40',r.1,.int .i64 s,.int .i64 0] r.2).bind fun t=>
 cond (Nat.beq t.1 0) (
 (t.2.1[0]?).bind fun u=>
 (t.2.1[1]?).bind fun v=>
 (t.2.1[2]?).bind fun w=>
 (t.2.1[3]?).bind fun x=>
 (t.2.1[4]?).bind fun y=>
 (t.2.1[5]?).bind fun z=>
 (t.2.1[6]?).bind fun A=>
 ((t.2.1[7]?).bind (asI .i64)).bind fun B=>
 ((t.2.1[8]?).bind (asI .i64)).bind fun C=>
 (addr? x).bind fun D=>
 (t.2.2.ld D.1 D.2).bind fun E=>
 (addr? y).bind fun F=>
 ((t.2.2.ld F.1 F.2).bind (asI .i64)).bind fun G=>
 (addr? z).bind fun H=>
 (t.2.2.ldN H.1 H.2 12).bind fun I=>
 (cf 36 [I] (t.2.2.ro t.2.2.next)).bind fun J=>
 ((zan J.1 0).bind (asI .u64)).bind fun K=>
 ((zan J.1 1).bind (asI .i64)).bind fun L=>
 (zau E G 1).bind fun M=>
 ((J.2.ro t.2.2.lim).st M.1 M.2 [.int .u64 K]).bind fun N=>
 let O:Int:=IntKind.wrap .i64 (C+1)
 lf 6 [u,v,w,x,A,.int .i64 B,.int .i64 O] N) (
 (t.2.1[0]?).bind fun P=>
 (t.2.1[1]?).bind fun Q=>
 some (1,[P,Q],t.2.2)))) (
 some (0,[b',t2',t3',r'],st))
theorem zch [Sym] (b':Value) (t2':Value) (t3':Value) (r':Value) (t38':Value) (t39':Int) (t40':Int) (st:SS) {r:Nat×List Value×SS} (h:zb8 cc zao b' t2' t3' r' t38' t39' t40' st=some r):zao 6 [b',t2',t3',r',t38',.int .i64 t39',.int .i64 t40'] st=some r:=
 zay zah zal (key:=6) (I:=zfJ) rfl (by kernel_rfl) (by kernel_rfl) rfl rfl (.trans (by kernel_rfl) h)
noncomputable def zcG (cf:zak) (lf:zab) (b':Value) (t2':Value) (t3':Value) (r':Value) (x':Value) (w':Value) (t38':Value) (t39':Int) (t40':Int) (t62':Value) (t63':Int) (t64':Int) (st:SS):Option (Nat×List Value×SS):=
 cond (decide (t64'<t63')) (
 (zau t62' t64' 2).bind fun a=>
 (st.ldN a.1 a.2 2).bind fun b=>
 let c:SS:=st.new (.cells [.int .i64 0,.int .i64 0] 0)
 (c.stV st.next 0 2 b).bind fun d=>
 (zaR (ptr st.next 0) 2 0 1).bind fun e=>
 ((d.ld e.1 e.2).bind (asI .i64)).bind fun f=>
 (zaR (ptr st.next 0) 2 1 1).bind fun g=>
 ((d.ld g.1 g.2).bind (asI .i64)).bind fun h=>
 let i:Int:=IntKind.wrap .i64 (f+h)
 (addr? r').bind fun j=>
 (d.ld j.1 j.2).bind fun k=>
 ((lenV k).bind (asI .i64)).bind fun l=>
 cond (decide (l<i)) (
 (addr? x').bind fun m=>
 ((d.ld m.1 (m.2+1)).bind (asI .i64)).bind fun n=>
 (addr? x').bind fun o=>
 (d.ld o.1 (o.2+1+4)).bind fun p=>
 (zau p 0 5).bind fun q=>
 ((d.ld q.1 (q.2+1)).bind (asI .i64)).bind fun r=>
 cond (zbJ (ptr m.1 (m.2+1)) t2') (
 cond (zbJ (ptr o.1 (o.2+1+4)) t2') (
 cond (zbJ (ptr q.1 (q.2+1)) t2') (
 (addr? t2').bind fun s=>
 (d.st s.1 s.2 [.slice none 0 0,.slice none 0 0]).bind fun t=>
 (addr? t3').bind fun u=>
 (t.st u.1 u.2 [.int .i64 n,.int .i64 r]).bind fun v=>
 some (1,[t2',t3'],v)) (
 none)) (
 none)) (
 none)) (
 let w:Int:=IntKind.wrap .i64 (t64'+1)
 lf 12 [b',t2',t3',r',x',w',t38',.int .i64 t39',.int .i64 t40',t62',.int .i64 t63',.int .i64 w] d)) (
 some (0,[b',t2',t3',r',x',w',t38',.int .i64 t39',.int .i64 t40'],st))
theorem zcV [Sym] (b':Value) (t2':Value) (t3':Value) (r':Value) (x':Value) (w':Value) (t38':Value) (t39':Int) (t40':Int) (t62':Value) (t63':Int) (t64':Int) (st:SS) {r:Nat×List Value×SS} (h:zcG cc zao b' t2' t3' r' x' w' t38' t39' t40' t62' t63' t64' st=some r):zao 12 [b',t2',t3',r',x',w',t38',.int .i64 t39',.int .i64 t40',t62',.int .i64 t63',.int .i64 t64'] st=some r:=
 zay zah zal (key:=12) (I:=zfs) rfl (by kernel_rfl) (by kernel_rfl) rfl rfl (.trans (by kernel_rfl) h)
noncomputable def zbB (cf:zak) (lf:zab) (b':Value) (t2':Value) (t3':Value) (r':Value) (t103':Value) (t104':Int) (t105':Int) (st:SS):Option (Nat×List Value×SS):=
 cond (decide (t105'<t104')) (
 (zau t103' t105' 3).bind fun a=>
 (st.ldN a.1 a.2 3).bind fun b=>
 let c:SS:=st.new (.cells [.string ⟨#[]⟩,.int .i64 0,.int .i64 0] 0)
 (c.stV st.next 0 3 b).bind fun d=>
 (zaj b').bind fun e=>
 (addr? e).bind fun f=>
 (d.ld f.1 (f.2+1)).bind fun g=>
 ((d.ld st.next 0).bind asS).bind fun h=>
 (d.mapF g h).bind fun i=>
 zfw i (
 (zaj b').bind fun j=>
 (addr? j).bind fun k=>
 (d.ld k.1 (k.2+3)).bind fun l=>
 (zau l t105' 2).bind fun m=>
 (d.ldN m.1 m.2 2).bind fun n=>
 cond (zbJ (ptr k.1 (k.2+3)) t2') (
 cond (zbJ (ptr m.1 m.2) t2') (
 (addr? t2').bind fun o=>
 (d.st o.1 o.2 [.slice none 0 0,.slice none 0 0]).bind fun p=>
 (addr? t3').bind fun q=>
 (p.stV q.1 q.2 2 n).bind fun r=>
 some (1,[t2',t3'],r)) (
 none)) (
 none)) (fun s=>
 ((zan (.tuple #[s,.bool true]) 0).bind (asI .i64)).bind fun t=>
 cond (decide (t<0)) (
 (zaj b').bind fun u=>
 (addr? u).bind fun v=>
 (d.ld v.1 (v.2+3)).bind fun w=>
 (zau w t105' 2).bind fun x=>
 (d.ldN x.1 x.2 2).bind fun y=>
 cond (zbJ (ptr v.1 (v.2+3)) t2') (
 cond (zbJ (ptr x.1 x.2) t2') (
 (addr? t2').bind fun z=>
 (d.st z.1 z.2 [.slice none 0 0,.slice none 0 0]).bind fun A=>
 (addr? t3').bind fun B=>
 (A.stV B.1 B.2 2 y).bind fun C=>
 some (1,[t2',t3'],C)) (
 none)) (
 none)) (
 (addr? r').bind fun D=>
 (d.ld D.1 D.2).bind fun E=>
 ((lenV E).bind (asI .i64)).bind fun F=>
 cond (decide (F≤t)) (
 (zaj b').bind fun G=>
 (addr? G).bind fun H=>
 (d.ld H.1 (H.2+3)).bind fun I=>
 (zau I t105' 2).bind fun J=>
 (d.ldN J.1 J.2 2).bind fun K=>
 cond (zbJ (ptr H.1 (H.2+3)) t2') (
 cond (zbJ (ptr J.1 J.2) t2') (
 (addr? t2').bind fun L=>
 (d.st L.1 L.2 [.slice none 0 0,.slice none 0 0]).bind fun M=>
 (addr? t3').bind fun N=>
 (M.stV N.1 N.2 2 K).bind fun O=>
 some (1,[t2',t3'],O)) (
 none)) (
 none)) (
 (addr? r').bind fun P=>
 (d.ld P.1 (P.2+1)).bind fun Q=>
 ((d.ld st.next 0).bind asS).bind fun R=>
 let S:SS:=d.new (.cells ([.string R,.int .i64 t]) 2)
 (S.app 2 24 Q (.slice (some ⟨d.next,0,none⟩) 1 1)).bind fun T=>
 (addr? r').bind fun U=>
 (T.2.stV U.1 (U.2+1) 1 T.1).bind fun V=>
 let W:Int:=IntKind.wrap .i64 (t105'+1)
 lf 20 [b',t2',t3',r',t103',.int .i64 t104',.int .i64 W] V)))) (
 some (0,[t2',t3',r'],st))
theorem zbD [Sym] (b':Value) (t2':Value) (t3':Value) (r':Value) (t103':Value) (t104':Int) (t105':Int) (st:SS) {r:Nat×List Value×SS} (h:zbB cc zao b' t2' t3' r' t103' t104' t105' st=some r):zao 20 [b',t2',t3',r',t103',.int .i64 t104',.int .i64 t105'] st=some r:=
 zay zah zal (key:=20) (I:=zfr) rfl (by kernel_rfl) (by kernel_rfl) rfl rfl (.trans (by kernel_rfl) h)
def zgL:LoopI:=⟨[(2,.any),(3,.any),(8,.any),(27,.any),(28,.int .i64),(29,.int .i64)],[(.exit 0,[(2,.any),(3,.any),(8,.any)]),(.ret,[(2,.any),(3,.any),(4,.int .i64)])]⟩
def zhP (n:Nat):Option LoopI:=cond (Nat.beq n 6) (some zgL) (none)
noncomputable def zdT (cf:zak) (lf:zab) (text':ByteArray) (st:SS):Option (Value×SS):=
 let a:SS:=st.new (.cells [.slice none 0 0,.slice none 0 0] 0)
 let b:SS:=a.new (.cells [.int .i64 0,.int .i64 0] 0)
 (cf 15 [.string text'] b).bind fun c=>
 (zan c.1 0).bind fun d=>
 (zan c.1 1).bind fun e=>
 ((zan c.1 2).bind (asI .i64)).bind fun f=>
 let g:SS:=c.2.new (.cells [.int .i64 0,.int .i64 0] 0)
 (g.stV c.2.next 0 2 e).bind fun h=>
 cond (!(decide (f=0))) (
 (h.ldN c.2.next 0 2).bind fun i=>
 cond (zbJ (ptr c.2.next 0) (ptr st.next 0)) (
 (h.st st.next 0 [.slice none 0 0,.slice none 0 0]).bind fun j=>
 (j.stV a.next 0 2 i).bind fun k=>
 (k.rdN st.next 0 2).bind fun l=>
 (k.rdN a.next 0 2).bind fun m=>
 some (.tuple #[l,m,.int .i64 f],k)) (
 none)) (
 let n:SS:=h.new (.map [])
 let o:SS:=n.new (.cells [.int .i64 0,.map (some h.next),.slice none 0 0,.slice none 0 0,.slice none 0 0] 0)
 ((lenV d).bind (asI .i64)).bind fun p=>
 (lf 6 [ptr st.next 0,ptr a.next 0,ptr n.next 0,d,.int .i64 p,.int .i64 0] o).bind fun q=>
 cond (Nat.beq q.1 0) (
 (q.2.1[0]?).bind fun s=>
 (q.2.1[1]?).bind fun t=>
 (q.2.1[2]?).bind fun u=>
 (cf 17 [u] q.2.2).bind fun v=>
 (zan v.1 0).bind fun w=>
 (zan v.1 1).bind fun x=>
 let y:SS:=v.2.new (.cells [.slice none 0 0,.slice none 0 0] 0)
 let z:SS:=y.new (.cells [.int .i64 0,.int .i64 0] 0)
 (z.stV v.2.next 0 2 w).bind fun A=>
 (A.stV y.next 0 2 x).bind fun B=>
 (B.ldN y.next 0 2).bind fun C=>
 (((eqA Tryz.prog Lk0 62 C (.agg #[.int .i64 0,.int .i64 0])).bind fun r=>some (.bool !r)).bind asB).bind fun D=>
 cond D (
 (B.ldN y.next 0 2).bind fun E=>
 cond (zbJ (ptr y.next 0) s) (
 (addr? s).bind fun F=>
 (B.st F.1 F.2 [.slice none 0 0,.slice none 0 0]).bind fun G=>
 (addr? t).bind fun H=>
 (G.stV H.1 H.2 2 E).bind fun I=>
 (addr? s).bind fun J=>
 (I.rdN J.1 J.2 2).bind fun K=>
 (addr? t).bind fun L=>
 (I.rdN L.1 L.2 2).bind fun M=>
 some (.tuple #[K,M,.int .i64 4],I)) (
 none)) (
 (B.ldN v.2.next 0 2).bind fun N=>
 (addr? s).bind fun O=>
 (B.stV O.1 O.2 2 N).bind fun P=>
 (addr? t).bind fun Q=>
 (P.st Q.1 Q.2 [.int .i64 0,.int .i64 0]).bind fun R=>
 (addr? s).bind fun S=>
 (R.rdN S.1 S.2 2).bind fun T=>
 (addr? t).bind fun U=>
 (R.rdN U.1 U.2 2).bind fun V=>
 some (.tuple #[T,V,.int .i64 0],R))) (
 (q.2.1[0]?).bind fun W=>
 (q.2.1[1]?).bind fun X=>
 ((q.2.1[2]?).bind (asI .i64)).bind fun Y=>
 (addr? W).bind fun Z=>
 (q.2.2.rdN Z.1 Z.2 2).bind fun aA=>
 (addr? X).bind fun aB=>
 (q.2.2.rdN aB.1 aB.2 2).bind fun aC=>
 some (.tuple #[aA,aC,.int .i64 Y],q.2.2)))
noncomputable abbrev zby:zab:=lS Tryz.prog Lk0 Tryz.f7 zhP
theorem zmY:Lk0.func 7=some (7,Tryz.f7):=by kernel_rfl
theorem zdM [Sym] (text':ByteArray) (st:SS) {r:Value×SS} (h:zdT cc zby text' st=some r):cc 7 [.string text'] st=some r:=
 zaf (li:=zhP) zah zal zmY rfl (fun _=>rfl) (.trans (by kernel_rfl) h)
noncomputable def zdN (cf:zak) (lf:zab) (t2':Value) (t3':Value) (b':Value) (t27':Value) (t28':Int) (t29':Int) (st:SS):Option (Nat×List Value×SS):=
 cond (decide (t29'<t28')) (
 (zau t27' t29' 5).bind fun a=>
 (st.ldN a.1 a.2 5).bind fun b=>
 let c:SS:=st.new (.cells [.int .i64 0,.string ⟨#[]⟩,.string ⟨#[]⟩,.slice none 0 0,.slice none 0 0] 0)
 (c.stV st.next 0 5 b).bind fun d=>
 (d.ldN st.next 0 5).bind fun e=>
 (cf 16 [b',e] d).bind fun f=>
 ((some f.1).bind asB).bind fun g=>
 cond (!g) (
 ((f.2.ld st.next 0).bind (asI .i64)).bind fun h=>
 cond (zbJ (ptr st.next 0) t2') (
 (addr? t2').bind fun i=>
 (f.2.st i.1 i.2 [.slice none 0 0,.slice none 0 0]).bind fun j=>
 (addr? t3').bind fun k=>
 (j.st k.1 k.2 [.int .i64 h,.int .i64 1]).bind fun l=>
 some (1,[t2',t3',.int .i64 4],l)) (
 none)) (
 let m:Int:=IntKind.wrap .i64 (t29'+1)
 lf 6 [t2',t3',b',t27',.int .i64 t28',.int .i64 m] f.2)) (
 some (0,[t2',t3',b'],st))
theorem zd8 [Sym] (t2':Value) (t3':Value) (b':Value) (t27':Value) (t28':Int) (t29':Int) (st:SS) {r:Nat×List Value×SS} (h:zdN cc zby t2' t3' b' t27' t28' t29' st=some r):zby 6 [t2',t3',b',t27',.int .i64 t28',.int .i64 t29'] st=some r:=
 zay zah zal (key:=6) (I:=zgL) rfl (by kernel_rfl) (by kernel_rfl) rfl rfl (.trans (by kernel_rfl) h)
end Go.Proofs.YtcplfckncandkaaGreatDoorE
namespace Go.Proofs.YtcplfckncandkaaGreatDoorE
open Go Go.E Go.Proofs
theorem zpv {α:Type} {f:α→List Value} {z:Nat} (hz:∀ x,(f x).length=z) (x:α):∀ (l:List α) (k:Nat),k<l.length→(rowsF f l).take (k*z)++(f x++(rowsF f l).drop (k*z+z))=rowsF f (l.set k x)
 | [],k,h=>by simp at h
 | a::r,0,_=>by
   rw [zbX,List.set_cons_zero,zbX,Nat.zero_mul,List.take_zero,List.nil_append,Nat.zero_add,List.drop_append,hz,Nat.sub_self,List.drop_of_length_le (by rw [hz];exact zlr _)]
   simp
 | a::r,k+1,h=>by
   have ih:=zpv hz x r k (by simpa using h)
   have e1:(k+1)*z-z=k*z:=by rw [Nat.add_mul];omega
   have e2:(k+1)*z+z-z=k*z+z:=by rw [Nat.add_mul];omega
   have e3:z≤(k+1)*z:=by rw [Nat.add_mul];omega
   rw [zbX,List.set_cons_succ,zbX,List.take_append,List.drop_append,hz,e1,e2,List.take_of_length_le (by rw [hz];exact e3),List.drop_of_length_le (by rw [hz];omega),List.nil_append,List.append_assoc,ih]
theorem zuT {α:Type} {f:α→List Value} {z:Nat} (hz:∀ x,(f x).length=z) (l:List α) (k:Nat) (x:α) (hk:k<l.length):zcK (rowsF f l) (k*z) (f x)=some (rowsF f (l.set k x)):=by
 have h1:(k+1)*z≤l.length*z:=Nat.mul_le_mul_right _ hk
 rw [Nat.add_mul,Nat.one_mul] at h1
 rw [zbu (by rw [hz,zh6 hz];exact h1),hz,zpv hz x l k hk]
theorem Own.put {b:Nat} {st:SS} {v:Value} {α:Type} {f:α→List Value} {z:Nat} (hz:∀ x,(f x).length=z) {l:List α} {n:Nat} (h:Own b st v (rowsF f l) z n) (hn:l.length=n) (hl:st.lim≤b) {k:Nat} (hk:k<n) (x:α) (h1:(f x).all one=true):
  ∃ i st',zau v (k:Int) z=some (i,k*z)∧b≤i∧i<st.next∧st.st i (k*z) (f x)=some st'∧(∀ u:Value,u.cells.toList=f x→st.stV i (k*z) z u=some st')∧Own b st' v (rowsF f (l.set k x)) z n∧Mod [i] st st'∧st'.next=st.next:=by
 obtain ⟨h2,⟨rfl,h0⟩ | ⟨i,rfl,h0,hm,hb,hi⟩⟩:=h
 ·omega
 ·have hs:=SS.st_cells hm (by omega) h1 (zuT hz l k x (by omega))
  refine ⟨i,_,?_,hb,hi,hs,fun u hu=>?_,⟨?_,.inr ⟨i,rfl,h0,by simp,hb,by simpa using hi⟩⟩,⟨zlr _,rfl,fun j hj hS=>SS.set_old (by simpa using hS)⟩,rfl⟩
  ·unfold zau
   simp [hk]
  ·unfold SS.stV
   have:u.cells.size=z:=by rw [← hz x,← hu];simp
   rw [this,hu,hs]
   simp
  ·rw [zh6 hz,List.length_set,hn]
def zdl (w:Wd):List Value:=[.int .u64 (zef w)]
def zaZ (e:List UInt8×Int):List Value:=[.string (mkS e.1),.int .i64 e.2]
abbrev NN:List Value:=[.slice none 0 0,.slice none 0 0]
abbrev Z2:List Value:=[.int .i64 0,.int .i64 0]
def inR (N:Nat) (T:List (Int×Int)):Bool:=T.any fun t=>decide ((N:Int)<t.1+t.2)
theorem zuU {x:Int} {n:Nat}:fitsT x n=true↔0≤x∧x<2^n:=by unfold fitsT;rw [decide_eq_true_eq]
theorem zqT {s tw a:Int} (ha:0≤a∧a≤4096) (ht:0≤tw∧tw<2048):∀ t∈zbq s tw a,0≤t.1∧t.1≤100000∧0≤t.2∧t.2≤100000:=by
 intro t h
 unfold zbq at h
 repeat' (split at h)
 all_goals first
  | (cases h;done)
  | (simp only [List.mem_cons,List.not_mem_nil,or_false] at h
     rcases h with rfl | rfl<;>simp only<;>omega)
  | (simp only [List.mem_cons,List.not_mem_nil,or_false] at h
     subst h
     simp only
     omega)
theorem zxA {w:Wd} (h:zhO w):0≤w.getD 10 0∧w.getD 10 0<2048:=by
 have h1:=zpu.1 h.2 10 (by omega)
 have e:zax 10=11:=rfl
 rw [zuU,e] at h1
 exact ⟨h1.1,by have:=h1.2;simpa using this⟩
theorem getD_some {w:Wd} {k:Nat} (h:k<w.length):w[k]?=some (w.getD k 0):=by
 rw [List.getD_eq_getElem?_getD,zge h];rfl
theorem zwt [Sym] {base st0:SS} (hx0:Ext base st0) (hll:base.lim≤base.next) {T:List (Int×Int)} (hT:∀ t∈T,0≤t.1∧t.1≤100000∧0≤t.2∧t.2≤100000) (hTl:T.length≤10) {x:WItem} {b' w' t38 v wv ev:Value} {n j:Int} {t2 t3 r xb N:Nat}
  (hN:(lenV wv).bind (asI .i64)=some (N:Int)) (hr:At st0 r [wv,ev]) (a2:At st0 t2 NN) (a3:At st0 t3 Z2) (ax:At st0 xb (wdRow x)) (hne:t2≠t3) (h2:base.next≤t2) (h3:base.next≤t3) (hxb:xb≠t2) (p0:Pr) (ps:List Pr) (hps:x.2.1.prs=p0::ps) (hp:Rd base x.2.2.2 (rowsF prRow x.2.1.prs) 5 x.2.1.prs.length)
  (hv:Rd st0 v (rowsF zcE T) 2 T.length):∀ (k i:Nat) (s:SS),T.length=k+i→Ext st0 s→
  ∃ s',if inR N (T.drop i)=true then zao 12 [b',ptr t2 0,ptr t3 0,ptr r 0,ptr xb 0,w',t38,.int .i64 n,.int .i64 j,v,.int .i64 T.length,.int .i64 i] s=some (1,[ptr t2 0,ptr t3 0],s')∧Ext base s'∧At s' t2 NN∧At s' t3 [.int .i64 x.2.1.ln,.int .i64 p0.col]
   else zao 12 [b',ptr t2 0,ptr t3 0,ptr r 0,ptr xb 0,w',t38,.int .i64 n,.int .i64 j,v,.int .i64 T.length,.int .i64 i] s=some (0,[b',ptr t2 0,ptr t3 0,ptr r 0,ptr xb 0,w',t38,.int .i64 n,.int .i64 j],s')∧Ext st0 s':=by
 intro k
 induction k with
 | zero=>
   intro i s hk he
   have h:¬ (i:Int)<(T.length:Int):=by omega
   rw [List.drop_of_length_le (by omega)]
   refine ⟨s,?_⟩
   rw [if_neg (by simp [inR])]
   refine ⟨zcV _ _ _ _ _ _ _ _ _ _ _ _ s ?_,he⟩
   simp only [zcG,zdf h,zcf]
 | succ k ih=>
   intro i s hk he
   have h:(i:Int)<(T.length:Int):=by omega
   obtain ⟨t,ht⟩:∃ t,T[i]?=some t:=⟨_,zge (by omega)⟩
   obtain ⟨q1,q2,q3,q4⟩:=hT t (zmg ht)
   obtain ⟨p,b1,b2,_⟩:=(hv.ext he).load (j:=(i:Int)) (by omega) h (zaU (f:=zcE) (z:=2) (fun _=>rfl) T i t ht) rfl
   have b2':s.ldN p.1 p.2 2=some (.agg (zcE t).toArray):=b2
   have hlm:s.lim≤s.next:=((hx0.trans he).ll hll)
   obtain ⟨s4,e4,a4,x4,n4⟩:=zaV (st:=s) hlm (r:=Z2) (row:=zcE t) (v:=.agg (zcE t).toArray) (zaG _) rfl rfl rfl
   have e4':(s.new (.cells [.int .i64 0,.int .i64 0] 0)).stV s.next 0 2 (.agg (zcE t).toArray)=some s4:=e4
   have he4:=he.trans x4
   have c5:zaR (ptr s.next 0) 2 0 1=some (s.next,0):=rfl
   have c7:zaR (ptr s.next 0) 2 1 1=some (s.next,1):=rfl
   have l6:s4.ld s.next 0=some (.int .i64 t.1):=a4.ld
   have l8:s4.ld s.next 1=some (.int .i64 t.2):=a4.ld
   have hw9:IntKind.wrap .i64 (t.1+t.2)=t.1+t.2:=wrap64 (by omega) (by omega)
   have l11:s4.ld r 0=some wv:=(hr.ext he4).ld
   have hd:=drop_cons ht
   by_cases hc:(N:Int)<t.1+t.2
   ·obtain ⟨i15,z15,g1,g2,g3⟩:=hp.elem (j:=(0:Int)) (by omega) (by rw [hps];simp)
    obtain ⟨p17,f1,_,f3⟩:=((hp.ext hx0).ext he4).load (j:=(0:Int)) (by omega) (by rw [hps];simp) (row:=prRow p0) (by rw [hps];rfl) rfl
    have hp17:p17.1<base.next:=by rw [g1] at f1;cases f1;exact g3
    have l18:s4.ld p17.1 (p17.2+1)=some (.int .i64 p0.col):=f3 1 (by omega)
    have l14:s4.ld xb (0+1)=some (.int .i64 x.2.1.ln):=(ax.ext he4).ld
    have l16:s4.ld xb (0+1+4)=some x.2.2.2:=(ax.ext he4).ld
    have a24:=a2.ext he4
    have a34:=a3.ext he4
    obtain ⟨s20,e20,a20,m20,n20⟩:=a24.sto (k:=0) (vs:=NN) (row':=NN) rfl rfl
    obtain ⟨s22,e22,a22,m22,n22⟩:=(a34.mod m20 (by simpa using hne.symm)).sto (k:=0) (vs:=[.int .i64 x.2.1.ln,.int .i64 p0.col]) (row':=[.int .i64 x.2.1.ln,.int .i64 p0.col]) rfl rfl
    refine ⟨s22,?_⟩
    rw [if_pos (by unfold inR;rw [hd,List.any_cons,zdt hc];rfl)]
    refine ⟨zcV _ _ _ _ _ _ _ _ _ _ _ _ s ?_,zaD (zaD (hx0.trans he4) m20 h2) m22 h3,a20.mod m22 (by simpa using hne),a22⟩
    simp only [zcG,zdt h,zct,b1,b2',e4',c5,c7,l6,l8,zob,zaa,hw9,zad,l11,hN,zdt hc,l14,l16,f1,l18,zcO hxb,zcO (show p17.1≠t2 by omega),e20,e22]
   ·obtain ⟨s',hs'⟩:=ih (i+1) s4 (by omega) he4
    have hw1:=zaX (i:=i) (by omega)
    refine ⟨s',?_⟩
    have e:inR N (T.drop i)=inR N (T.drop (i+1)):=by unfold inR;rw [hd,List.any_cons,zdf hc,Bool.false_or]
    rw [e]
    have go:∀ z,zao 12 [b',ptr t2 0,ptr t3 0,ptr r 0,ptr xb 0,w',t38,.int .i64 n,.int .i64 j,v,.int .i64 T.length,.int .i64 ((i+1:Nat):Int)] s4=some z→zao 12 [b',ptr t2 0,ptr t3 0,ptr r 0,ptr xb 0,w',t38,.int .i64 n,.int .i64 j,v,.int .i64 T.length,.int .i64 i] s=some z:=fun z hz=>by
     refine zcV _ _ _ _ _ _ _ _ _ _ _ _ s ?_
     simp only [zcG,zdt h,zct,b1,b2',e4',c5,c7,l6,l8,zob,zaa,hw9,zad,l11,hN,zdf hc,zcf,hw1]
     exact hz
    split
    ·rename_i hh
     rw [if_pos hh] at hs'
     exact ⟨go _ hs'.1,hs'.2⟩
    ·rename_i hh
     rw [if_neg hh] at hs'
     exact ⟨go _ hs'.1,hs'.2⟩
theorem zwu {M:Nat} {x:PLine} (h:LineOk M x) (hM:M≤1099511627776):ztm x.prs:=⟨zlt h.sp hM,fun p hp=>by
 obtain ⟨h1,h2,h3,h4⟩:=h.prs p hp
 exact ⟨h1,h2,by omega,by omega⟩⟩
def LayW (base:SS) (t2 t3 r N:Nat) (b' wv:Value) (res:Option (Nat×List Value×SS)):Except (Nat×Nat) (List Wd)→Prop
 | .error e=>∃ s',res=some (1,[ptr t2 0,ptr t3 0],s')∧Ext base s'∧At s' t2 NN∧At s' t3 [.int .i64 e.1,.int .i64 e.2]
 | .ok ws=>∃ s',res=some (0,[b',ptr t2 0,ptr t3 0,ptr r 0],s')∧Ext base s'∧At s' t2 NN∧At s' t3 Z2∧At s' r [wv,.slice none 0 0]∧Own (base.next+3) s' wv (rowsF zdl ws) 1 N∧ws.length=N
theorem zxB [Sym] {st0 base:SS} {B b i M:Nat} {vw ve vv wv:Value} {l:Lay} {its:List WItem} (hB:Bld st0 base B b i vw ve vv l its) (hL:LayOk M l) (hM:M≤100000) (hg:Gd base)
  (hN:(lenV wv).bind (asI .i64)=some ((sizeT l:Nat):Int)):∀ (k j:Nat) (ws:List Wd) (s:SS),its.length=k+j→ws.length=sizeT l→Ext base s→At s base.next NN→At s (base.next+1) Z2→At s (base.next+2) [wv,.slice none 0 0]→Own (base.next+3) s wv (rowsF zdl ws) 1 (sizeT l)→
  LayW base base.next (base.next+1) (base.next+2) (sizeT l) (ptr b 0) wv (zao 6 [ptr b 0,ptr base.next 0,ptr (base.next+1) 0,ptr (base.next+2) 0,vw,.int .i64 its.length,.int .i64 j] s) (zbR l.nms (sizeT l) (l.wds.drop j) ws):=by
 have hll:base.lim≤base.next:=by rw [hB.ext.lim];have:=hB.ll;have:=hB.ext.next;omega
 have hil:its.length≤2048:=by
  have h1:=hL.wlen
  have h2:=hL.pl
  rw [← hB.wds,List.length_map] at h1
  omega
 obtain ⟨hat,hNb⟩:=zj5 hL
 intro k
 induction k with
 | zero=>
   intro j ws s hk hws he a2 a3 ar ow
   have h:¬ (j:Int)<(its.length:Int):=by omega
   have hd:l.wds.drop j=[]:=List.drop_of_length_le (by rw [← hB.wds,List.length_map];omega)
   rw [hd]
   refine ⟨s,zch _ _ _ _ _ _ _ s ?_,he,a2,a3,ar,ow,hws⟩
   simp only [zb8,zdf h,zcf]
 | succ k ih=>
   intro j ws s hk hws he a2 a3 ar ow
   have h:(j:Int)<(its.length:Int):=by omega
   obtain ⟨x,hx⟩:∃ x,its[j]?=some x:=⟨_,zge (by omega)⟩
   have hwx:l.wds[j]?=some (x.1,x.2.1):=by rw [← hB.wds,List.getElem?_map,hx];rfl
   have hmem:=zmg hwx
   obtain ⟨hlo,hpne,hln⟩:=hL.prs _ hmem
   have hxat:x.1<sizeT l:=hat _ hmem
   have hd:=drop_cons hwx
   obtain ⟨p0,ps,hps⟩:∃ p0 ps,x.2.1.prs=p0::ps:=by
    cases hp:x.2.1.prs with
    | nil=>exact absurd hp hpne
    | cons a r=>exact ⟨a,r,rfl⟩
   have hsb:=hB.then he
   have hlm:s.lim≤s.next:=he.ll hll
   obtain ⟨p1,b1,b2,_⟩:=hsb.ow.rd.load (j:=(j:Int)) (by omega) h (zaU (f:=wdRow) (z:=6) (fun _=>rfl) its j x hx) rfl
   have b2':s.ldN p1.1 p1.2 6=some (.agg (wdRow x).toArray):=b2
   obtain ⟨s4,e4,a4,x4,n4⟩:=zaV (st:=s) hlm (r:=wdRow (0,⟨0,[],[],[],[]⟩,.slice none 0 0,.slice none 0 0)) (row:=wdRow x) (v:=.agg (wdRow x).toArray) (zaG _) rfl (by
    obtain ⟨hr1,hr2⟩:=hB.itr x (zmg hx)
    have o1:one x.2.2.1=true:=by obtain ⟨_,⟨e,_⟩ | ⟨i,c,e,_⟩⟩:=hr1<;>rw [e]<;>rfl
    have o2:one x.2.2.2=true:=by obtain ⟨_,⟨e,_⟩ | ⟨i,c,e,_⟩⟩:=hr2<;>rw [e]<;>rfl
    simp only [wdRow,lnRow,List.all_cons,List.all_nil,o1,o2]
    rfl) rfl
   have e4':(s.new (.cells [.int .i64 0,.int .i64 0,.string ⟨#[]⟩,.string ⟨#[]⟩,.slice none 0 0,.slice none 0 0] 0)).stV s.next 0 6 (.agg (wdRow x).toArray)=some s4:=e4
   have he4:=he.trans x4
   have hsb4:=hB.then he4
   have l5:s4.ldN s.next 1 5=some (.agg (lnRow x.2).toArray):=a4.ldC rfl
   have hpr:Rd st0 x.2.2.2 (rowsF prRow x.2.1.prs) 5 x.2.1.prs.length:=(hB.itr x (zmg hx)).2
   have hprb:=hpr.ext hB.ext
   obtain ⟨n6,u,hn6,hu,huo,c6⟩:=zuN l.nms hL.nms x.2 (zwu hlo (by omega)) b i (.int .i64 l.pl) vw ve vv s4 (hg.ext he4) hsb4.row.1 hsb4.row.lt hsb4.mp (by have:=hsb4.iB;have:=hsb4.BN;omega) (hprb.ext he4)
   have x6:Ext s4 (s4.adv n6):=(Ext.refl _).adv hn6
   have he6:=he4.trans x6
   obtain ⟨s10,e10,a10,x10,n10⟩:=zaV (n:=12) (st:=s4.adv n6) (he6.ll hll) (r:=Z12) (row:=wRow u) (v:=wV u) (zaG _) (by rw [zbc,hu]) (zde u) rfl
   have e10':((s4.adv n6).new (.cells [.int .i64 0,.int .i64 0,.int .i64 0,.int .i64 0,.int .i64 0,.int .i64 0,.int .i64 0,.int .i64 0,.int .i64 0,.int .i64 0,.int .i64 0,.int .i64 0] 0)).stV n6 0 12 (wV u)=some s10:=e10
   have he10:=he6.trans x10
   have he4_10:Ext s4 s10:=x6.trans x10
   have a4_10:=a4.ext he4_10
   have t0:∀ (a:Value) (z:Int),zan (.tuple #[a,.int .i64 z]) 0=some a:=fun _ _=>rfl
   have t1:∀ (a:Value) (z:Int),(zan (.tuple #[a,.int .i64 z]) 1).bind (asI .i64)=some z:=fun _ _=>rfl
   have hE:zbR l.nms (sizeT l) (l.wds.drop j) ws=if (zbe l.nms zaE x.2.1.prs).2≠0 then .error (x.2.1.ln,(zbe l.nms zaE x.2.1.prs).2)
    else if inR (sizeT l) (zbq ((zbe l.nms zaE x.2.1.prs).1.getD 8 0) ((zbe l.nms zaE x.2.1.prs).1.getD 10 0) x.1)=true then .error (x.2.1.ln,((x.2.1.prs.head?).map (·.col)).getD 0)
    else zbR l.nms (sizeT l) (l.wds.drop (j+1)) (ws.set x.1 (zbe l.nms zaE x.2.1.prs).1):=by rw [hd];rfl
   have hlt2:base.next<s.next:=a2.lt
   have hlt3:base.next+1<s.next:=a3.lt
   by_cases hc:(zbe l.nms zaE x.2.1.prs).2=0
   ·rw [if_neg (fun hh=>hh hc)] at hE
    have hcz:¬ (0:Int)<(((zbe l.nms zaE x.2.1.prs).2:Nat):Int):=by omega
    have hue:=huo hc
    have hwok:=zsd l.nms x.2.1.prs
    generalize hw:(zbe l.nms zaE x.2.1.prs).1=w at*
    subst hue
    have l16:s10.ldN n6 0 12=some (wV u):=a10.ldN (by rw [zbc,hu])
    have l17:s10.ld s.next 0=some (.int .i64 x.1):=a4_10.ld
    have hto:=zxA hwok
    obtain ⟨v18,s18,c18,x18,o18⟩:=zqH u (x.1:Int) (u.getD 8 0) (u.getD 10 0) (getD_some (by omega)) (getD_some (by omega)) (by omega) (by omega) s10 (he10.ll hll)
    have he18:=he10.trans x18
    have hT:=zqT (s:=u.getD 8 0) (a:=(x.1:Int)) (by omega) hto
    have hTl:(zbq (u.getD 8 0) (u.getD 10 0) (x.1:Int)).length≤10:=by
     unfold zbq
     repeat' split
     all_goals simp
    obtain ⟨s20,h20⟩:=zwt (b':=ptr b 0) (w':=ptr n6 0) (t38:=vw) (n:=its.length) (j:=j) he18 hll hT hTl (x:=x) (N:=sizeT l) hN (ar.ext ((x4.trans he4_10).trans x18)) (a2.ext ((x4.trans he4_10).trans x18)) (a3.ext ((x4.trans he4_10).trans x18)) (a4_10.ext x18) (by omega) (zlr _) (by omega) (by omega) p0 ps hps hprb o18.rd
     _ 0 s18 rfl (Ext.refl _)
    rw [List.drop_zero] at h20
    have hlen:(lenV v18).bind (asI .i64)=some ((zbq (u.getD 8 0) (u.getD 10 0) (x.1:Int)).length:Int):=by rw [o18.len];rfl
    have b0:Nat.beq 0 0=true:=rfl
    have b1':Nat.beq 1 0=false:=rfl
    by_cases hr:inR (sizeT l) (zbq (u.getD 8 0) (u.getD 10 0) (x.1:Int))=true
    ·rw [if_pos hr] at hE h20
     rw [hE]
     obtain ⟨g1,g2,g3,g4⟩:=h20
     have g1':zao 12 [ptr b 0,ptr base.next 0,ptr (base.next+1) 0,ptr (base.next+2) 0,ptr s.next 0,ptr n6 0,vw,.int .i64 its.length,.int .i64 j,v18,.int .i64 (zbq (u.getD 8 0) (u.getD 10 0) (x.1:Int)).length,.int .i64 0] s18=_:=g1
     refine ⟨s20,zch _ _ _ _ _ _ _ s ?_,g2,g3,by rw [hps];exact g4⟩
     simp only [zb8,zdt h,zct,b1,b2',e4',l5,c6,t0,t1,zob,SS.adv_next,e10',zdf hcz,zcf,l16,l17,zaa,c18,hlen]
     rw [g1',zob]
     simp only [b1',zcf,zob,zgs,zgz]
    ·rw [if_neg hr] at hE h20
     rw [hE]
     obtain ⟨g1,g2⟩:=h20
     have g1':zao 12 [ptr b 0,ptr base.next 0,ptr (base.next+1) 0,ptr (base.next+2) 0,ptr s.next 0,ptr n6 0,vw,.int .i64 its.length,.int .i64 j,v18,.int .i64 (zbq (u.getD 8 0) (u.getD 10 0) (x.1:Int)).length,.int .i64 0] s18=_:=g1
     have he20:=he18.trans g2
     have xs20:Ext s s20:=((x4.trans he4_10).trans x18).trans g2
     have l31:s20.ld (base.next+2) 0=some wv:=(ar.ext xs20).ld
     have l33:s20.ld s.next 0=some (.int .i64 x.1):=(a4_10.ext (x18.trans g2)).ld
     have l35:s20.ldN n6 0 12=some (wV u):=(a10.ext (x18.trans g2)).ldN (by rw [zbc,hu])
     obtain ⟨n36,hn36,c36⟩:=zxp u hu (s20.ro s20.next) (hg.ext he20).ro
     rw [if_pos hwok.2] at c36
     have hn36':s20.next≤n36:=hn36
     have x36:Ext s20 (s20.adv n36):=(Ext.refl _).adv hn36'
     have hst:((s20.ro s20.next).adv n36).ro s20.lim=s20.adv n36:=rfl
     have u0:∀ (a:Int) (z:Int),(zan (.tuple #[.int .u64 a,.int .i64 z]) 0).bind (asI .u64)=some a:=fun _ _=>rfl
     have u1:∀ (a:Int) (z:Int),(zan (.tuple #[.int .u64 a,.int .i64 z]) 1).bind (asI .i64)=some z:=fun _ _=>rfl
     have he36:=he20.trans x36
     obtain ⟨iw,s40,f1,f2,f3,f4,_,f6,f7,f8⟩:=Own.put (f:=zdl) (fun _=>rfl) ((ow.ext xs20).ext x36) hws (by rw [he36.lim];omega) hxat u rfl
     rw [Nat.mul_one] at f1 f4
     have f4':(s20.adv n36).st iw x.1 [.int .u64 (zef u)]=some s40:=f4
     have xs36:=xs20.trans x36
     have next:=ih (j+1) (ws.set x.1 u) s40 (by omega) (by rw [List.length_set,hws]) (zaD he36 f7 (by omega)) ((a2.ext xs36).mod f7 (by simp;omega)) ((a3.ext xs36).mod f7 (by simp;omega)) ((ar.ext xs36).mod f7 (by simp;omega)) f6
     have hw1:=zaX (i:=j) (by omega)
     have step:∀ z,zao 6 [ptr b 0,ptr base.next 0,ptr (base.next+1) 0,ptr (base.next+2) 0,vw,.int .i64 its.length,.int .i64 ((j+1:Nat):Int)] s40=some z→zao 6 [ptr b 0,ptr base.next 0,ptr (base.next+1) 0,ptr (base.next+2) 0,vw,.int .i64 its.length,.int .i64 j] s=some z:=fun z hz=>by
      refine zch _ _ _ _ _ _ _ s ?_
      simp only [zb8,zdt h,zct,b1,b2',e4',l5,c6,t0,t1,zob,SS.adv_next,e10',zdf hcz,zcf,l16,l17,zaa,c18,hlen]
      rw [g1',zob]
      simp only [b0,zct,zaa,zob,zgs,zgz,zad,l31,l33,l35,c36,u0,u1,hst,f1,f4',hw1]
      exact hz
     cases hz:zbR l.nms (sizeT l) (l.wds.drop (j+1)) (ws.set x.1 u) with
     | error e=>
       rw [hz] at next
       obtain ⟨s',d1,d2⟩:=next
       exact ⟨s',step _ d1,d2⟩
     | ok ws'=>
       rw [hz] at next
       obtain ⟨s',d1,d2⟩:=next
       exact ⟨s',step _ d1,d2⟩
   ·rw [if_pos hc] at hE
    rw [hE]
    have hcz:(0:Int)<(((zbe l.nms zaE x.2.1.prs).2:Nat):Int):=by omega
    have xs10:Ext s s10:=x4.trans he4_10
    have l11:s10.ld s.next 1=some (.int .i64 x.2.1.ln):=a4_10.ld
    obtain ⟨s13,e13,a13,m13,n13⟩:=(a2.ext xs10).sto (k:=0) (vs:=NN) (row':=NN) rfl rfl
    obtain ⟨s15,e15,a15,m15,n15⟩:=((a3.ext xs10).mod m13 (by simp)).sto (k:=0) (vs:=[.int .i64 x.2.1.ln,.int .i64 (zbe l.nms zaE x.2.1.prs).2]) (row':=[.int .i64 x.2.1.ln,.int .i64 (zbe l.nms zaE x.2.1.prs).2]) rfl rfl
    refine ⟨s15,zch _ _ _ _ _ _ _ s ?_,zaD (zaD he10 m13 (zlr _)) m15 (by omega),a13.mod m15 (by simp),a15⟩
    simp only [zb8,zdt h,zct,b1,b2',e4',l5,c6,t0,t1,zob,SS.adv_next,e10',zdt hcz,l11,zaa,zcO (show s.next≠base.next by omega),zad,e13,e15]
end Go.Proofs.YtcplfckncandkaaGreatDoorE
namespace Go.Proofs.YtcplfckncandkaaGreatDoorE
open Go Go.E Go.Proofs
def LayE (base:SS) (t2 t3 r N:Nat) (wv:Value) (ws:List Wd) (es:List (List UInt8×Int)) (res:Option (Nat×List Value×SS)):Except (Nat×Nat) (List (List UInt8×Int))→Prop
 | .error e=>∃ s',res=some (1,[ptr t2 0,ptr t3 0],s')∧Ext base s'∧At s' t2 NN∧At s' t3 [.int .i64 e.1,.int .i64 e.2]
 | .ok es'=>∃ s' ev',res=some (0,[ptr t2 0,ptr t3 0,ptr r 0],s')∧Ext base s'∧At s' t2 NN∧At s' t3 Z2∧At s' r [wv,ev']∧Owns (base.next+3) s' [⟨wv,rowsF zdl ws,1,N⟩,⟨ev',rowsF zaZ (es++es'),2,(es++es').length⟩]
theorem zwv [Sym] {st0 base:SS} {B b i M N:Nat} {vw ve vv wv:Value} {l:Lay} {its:List WItem} (hB:Bld st0 base B b i vw ve vv l its) (hL:LayOk M l) (hn:l.ents.length≤100000) (ws:List Wd)
  (hN:(lenV wv).bind (asI .i64)=some (N:Int)):∀ (k j:Nat) (es:List (List UInt8×Int)) (ev:Value) (s:SS),l.ents.length=k+j→es.length≤j→Ext base s→At s base.next NN→At s (base.next+1) Z2→At s (base.next+2) [wv,ev]→Owns (base.next+3) s [⟨wv,rowsF zdl ws,1,N⟩,⟨ev,rowsF zaZ es,2,es.length⟩]→
  LayE base base.next (base.next+1) (base.next+2) N wv ws es (zao 20 [ptr b 0,ptr base.next 0,ptr (base.next+1) 0,ptr (base.next+2) 0,vv,.int .i64 l.ents.length,.int .i64 j] s) (zdk l.nms N (l.ents.drop j)):=by
 have hll:base.lim≤base.next:=by rw [hB.ext.lim];have:=hB.ll;have:=hB.ext.next;omega
 intro k
 induction k with
 | zero=>
   intro j es ev s hk hes he a2 a3 ar ow
   have h:¬ (j:Int)<(l.ents.length:Int):=by omega
   rw [List.drop_of_length_le (by omega)]
   refine ⟨s,ev,zbD _ _ _ _ _ _ _ s ?_,he,a2,a3,ar,by rw [List.append_nil];exact ow⟩
   simp only [zbB,zdf h,zcf]
 | succ k ih=>
   intro j es ev s hk hes he a2 a3 ar ow
   have h:(j:Int)<(l.ents.length:Int):=by omega
   obtain ⟨e,hx⟩:∃ e,l.ents[j]?=some e:=⟨_,zge (by omega)⟩
   have hd:=drop_cons hx
   have hE:zdk l.nms N (l.ents.drop j)=match zb1 l.nms e.1.nm with
    | none=>.error e.2
    | some x=>if x<0∨(N:Int)≤x then .error e.2 else match zdk l.nms N (l.ents.drop (j+1)) with
      | .error z=>.error z
      | .ok es=>.ok ((e.1.nm,x)::es):=by rw [hd];rfl
   have hsb:=hB.then he
   have hlm:s.lim≤s.next:=he.ll hll
   have ov:=hsb.ov
   rw [show l.ents.length=(l.ents.map (·.1)).length by simp] at ov
   have hmx:(l.ents.map (·.1))[j]?=some e.1:=by rw [List.getElem?_map,hx];rfl
   obtain ⟨p1,b1,b2,_⟩:=ov.rd.load (j:=(j:Int)) (by omega) (by simpa using h) (zaU (f:=valRow) (z:=3) (fun _=>rfl) _ j e.1 hmx) rfl
   have b2':s.ldN p1.1 p1.2 3=some (.agg (valRow e.1).toArray):=b2
   obtain ⟨s4,e4,a4,x4,n4⟩:=zaV (n:=3) (st:=s) hlm (r:=valRow ⟨[],0,0⟩) (row:=valRow e.1) (v:=.agg (valRow e.1).toArray) (zaG _) rfl rfl rfl
   have e4':(s.new (.cells [.string ⟨#[]⟩,.int .i64 0,.int .i64 0] 0)).stV s.next 0 3 (.agg (valRow e.1).toArray)=some s4:=e4
   have he4:=he.trans x4
   have hsb4:=hB.then he4
   have hnl:zaj (ptr b 0)=some (ptr b 0):=rfl
   have l7:s4.ld b (0+1)=some (.map (some i)):=hsb4.row.ld
   have l8:s4.ld s.next 0=some (.string (mkS e.1.nm)):=a4.ld
   have l13:s4.ld b (0+3)=some ve:=hsb4.row.ld
   have m7:s4.mapF (.map (some i)) (mkS e.1.nm)=some ((zb1 l.nms e.1.nm).map (.int .i64)):=by
    unfold SS.mapF
    simp only [hsb4.mp,zob,zmV]
   obtain ⟨p14,c1,c2,_⟩:=hsb4.oe.rd.load (j:=(j:Int)) (by omega) h (zaU (f:=entRow) (z:=2) (fun _=>rfl) l.ents j e hx) rfl
   have c2':s4.ldN p14.1 p14.2 2=some (.agg (entRow e).toArray):=c2
   have hp14:p14.1<base.next:=by
    obtain ⟨i',z',g1,g2,g3⟩:=hB.oe.rd.elem (j:=(j:Int)) (by omega) h
    rw [g1] at c1;cases c1;exact g3
   have hbt:b≠base.next:=by have:=hB.row.lt;omega
   have a24:=a2.ext x4
   have a34:=a3.ext x4
   obtain ⟨s17,e17,a17,m17,n17⟩:=a24.sto (k:=0) (vs:=NN) (row':=NN) rfl rfl
   obtain ⟨s19,e19,a19,m19,n19⟩:=(a34.mod m17 (by simp)).stV (k:=0) (n:=2) (v:=.agg (entRow e).toArray) (zaG _) rfl rfl (row':=entRow e) rfl
   have hbad:∀ z,z=some (1,[ptr base.next 0,ptr (base.next+1) 0],s19)→LayE base base.next (base.next+1) (base.next+2) N wv ws es z (.error e.2):=fun z hz=>⟨s19,hz,zaD (zaD he4 m17 (zlr _)) m19 (by omega),a17.mod m19 (by simp),a19⟩
   have hp2:zbJ (ptr p14.1 p14.2) (ptr base.next 0)=true:=zcO (by omega)
   have hp1:zbJ (ptr b (0+3)) (ptr base.next 0)=true:=zcO hbt
   rw [hE]
   cases hf:zb1 l.nms e.1.nm with
   | none=>
     rw [hf] at m7
     refine hbad _ (zbD _ _ _ _ _ _ _ s ?_)
     simp only [zbB,zdt h,zct,b1,b2',e4',hnl,zad,l7,l8,m7,zob,zac,Option.map_none,zfw,l13,c1,c2',hp1,hp2,e17,e19]
   | some y=>
     rw [hf] at m7
     have ht:(zan (.tuple #[.int .i64 y,.bool true]) 0).bind (asI .i64)=some y:=rfl
     by_cases hy:y<0
     ·simp only [if_pos (show y<0∨(N:Int)≤y from .inl hy)]
      refine hbad _ (zbD _ _ _ _ _ _ _ s ?_)
      simp only [zbB,zdt h,zct,b1,b2',e4',hnl,zad,l7,l8,m7,zob,zac,Option.map_some,zfw,ht,zdt hy,l13,c1,c2',hp1,hp2,e17,e19]
     ·have l31:s4.ld (base.next+2) 0=some wv:=(ar.ext x4).ld
      by_cases hyN:(N:Int)≤y
      ·simp only [if_pos (show y<0∨(N:Int)≤y from .inr hyN)]
       refine hbad _ (zbD _ _ _ _ _ _ _ s ?_)
       simp only [zbB,zdt h,zct,b1,b2',e4',hnl,zad,l7,l8,m7,zob,zac,Option.map_some,zfw,ht,zdf hy,zcf,l31,hN,zdt hyN,l13,c1,c2',hp1,hp2,e17,e19]
      ·simp only [if_neg (show ¬ (y<0∨(N:Int)≤y) by omega)]
       have l43:s4.ld (base.next+2) (0+1)=some ev:=(ar.ext x4).ld
       have hlt2:base.next+2<s.next:=ar.lt
       obtain ⟨q,s46,f1,f2,f3⟩:=(ow.ext x4).push (k:=1) (row:=zaZ (e.1.nm,y)) (bt:=24) rfl (by have:=x4.next;omega) (by rw [he4.lim];omega) rfl (by omega) rfl (by omega) (by omega)
       have f1':(s4.new (.cells ([.string (mkS e.1.nm),.int .i64 y]) 2)).app 2 24 ev (.slice (some ⟨s4.next,0,none⟩) 1 1)=some (.slice (some ⟨q,0,none⟩) (es.length+1) (es.length+1),s46):=f1
       have ar46:At s46 (base.next+2) [wv,ev]:=(ar.ext x4).keepB f3 (by omega) (by simp)
       have a246:=a24.keepB f3 (by omega) (by simp)
       have a346:=a34.keepB f3 (by omega) (by simp)
       obtain ⟨s48,e48,a48,m48,n48⟩:=ar46.stV (k:=1) (n:=1) (v:=.slice (some ⟨q,0,none⟩) (es.length+1) (es.length+1)) (zoM _ _ _) rfl rfl (row':=[wv,.slice (some ⟨q,0,none⟩) (es.length+1) (es.length+1)]) rfl
       have e48':s46.stV (base.next+2) (0+1) 1 (.slice (some ⟨q,0,none⟩) (es.length+1) (es.length+1))=some s48:=e48
       have he46:Ext base s46:=⟨zlt he4.next f3.next,f3.lim.trans he4.lim,fun m hm=>(f3.keep m (by omega) (by simp)).trans (he4.keep m hm)⟩
       have hw1:=zaX (i:=j) (by omega)
       have ow48:=f2.modLt m48 (by intro m hm;have e:m=base.next+2:=(by simpa using hm);omega)
       have ow48':Owns (base.next+3) s48 [⟨wv,rowsF zdl ws,1,N⟩,⟨.slice (some ⟨q,0,none⟩) (es.length+1) (es.length+1),rowsF zaZ (es++[(e.1.nm,y)]),2,(es++[(e.1.nm,y)]).length⟩]:=by
        rw [zcj,zdz,List.length_append]
        exact ow48
       have next:=ih (j+1) (es++[(e.1.nm,y)]) _ s48 (by omega) (by simp;omega) (zaD he46 m48 (by omega)) (a246.mod m48 (by simp)) (a346.mod m48 (by simp)) a48 ow48'
       have step:∀ z,zao 20 [ptr b 0,ptr base.next 0,ptr (base.next+1) 0,ptr (base.next+2) 0,vv,.int .i64 l.ents.length,.int .i64 ((j+1:Nat):Int)] s48=some z→zao 20 [ptr b 0,ptr base.next 0,ptr (base.next+1) 0,ptr (base.next+2) 0,vv,.int .i64 l.ents.length,.int .i64 j] s=some z:=fun z hz=>by
        refine zbD _ _ _ _ _ _ _ s ?_
        simp only [zbB,zdt h,zct,b1,b2',e4',hnl,zad,l7,l8,m7,zob,zac,Option.map_some,zfw,ht,zdf hy,zcf,l31,hN,zdf hyN,l43,List.append_nil,f1',e48',hw1]
        exact hz
       cases hz:zdk l.nms N (l.ents.drop (j+1)) with
       | error z=>
         rw [hz] at next
         obtain ⟨s',d1,d2⟩:=next
         exact ⟨s',step _ d1,d2⟩
       | ok es'=>
         rw [hz] at next
         obtain ⟨s',ev',d1,d2,d3,d4,d5,d6⟩:=next
         refine ⟨s',ev',step _ d1,d2,d3,d4,d5,?_⟩
         rw [List.append_assoc] at d6
         exact d6
def zbW (w e:Value):Value:=.agg #[w,e]
def LayR (base:SS) (res:Option (Value×SS)):Except (Nat×Nat) (List Wd×List (List UInt8×Int))→Prop
 | .error e=>∃ s',res=some (.tuple #[zbW (.slice none 0 0) (.slice none 0 0),zbs e],s')∧Ext base s'∧e≠(0,0)
 | .ok (ws,es)=>∃ s' wv ev,res=some (.tuple #[zbW wv ev,zbs (0,0)],s')∧Ext base s'∧Own base.next s' wv (rowsF zdl ws) 1 ws.length∧Own base.next s' ev (rowsF zaZ es) 2 es.length
theorem zn0 {M:Nat} {nms:Nms} {N:Nat}:∀ (xs:List (Nat×PLine)) (ws:List Wd) (e:Nat×Nat),(∀ x∈xs,LineOk M x.2∧x.2.prs≠[]∧0<x.2.ln)→zbR nms N xs ws=.error e→0<e.1
 | [],ws,e,_,h=>by cases h
 | x::r,ws,e,hx,h=>by
   unfold zbR at h
   have:=(hx x (by simp)).2.2
   split at h
   ·cases h;exact this
   ·split at h
    ·cases h;exact this
    ·exact zn0 r _ e (fun y hy=>hx y (by simp [hy])) h
theorem zpw {nms:Nms} {N:Nat}:∀ (xs:List (Val×Nat×Nat)) (e:Nat×Nat),(∀ x∈xs,x.1.nm≠[]∧0<x.2.1∧0<x.2.2)→zdk nms N xs=.error e→0<e.1
 | [],e,_,h=>by cases h
 | x::r,e,hx,h=>by
   unfold zdk at h
   have:=(hx x (by simp)).2.1
   split at h
   ·cases h;exact this
   ·split at h
    ·cases h;exact this
    ·split at h
     ·rename_i hz
      cases h
      exact zpw r _ (fun y hy=>hx y (by simp [hy])) hz
     ·cases h
theorem zn1:zef zaE=0:=by decide+kernel
theorem zpx (n:Nat):rowsF zdl (List.replicate n zaE)=List.replicate n (.int .u64 0):=by
 induction n with
 | zero=>rfl
 | succ n ih=>rw [List.replicate_succ,zbX,ih,List.replicate_succ];unfold zdl;rw [zn1];rfl
theorem zeG {nms:Nms} {N:Nat}:∀ (xs:List (Nat×PLine)) (ws ws':List Wd),zbR nms N xs ws=.ok ws'→ws'.length=ws.length
 | [],ws,ws',h=>by cases h;rfl
 | x::r,ws,ws',h=>by
   unfold zbR at h
   split at h
   ·cases h
   ·split at h
    ·cases h
    ·rw [zeG r _ ws' h,List.length_set]
theorem lay_ok [Sym] {st0 base:SS} {B b i M:Nat} {vw ve vv:Value} {l:Lay} {its:List WItem} (hB:Bld st0 base B b i vw ve vv l its) (hL:LayOk M l) (hM:M≤100000) (hn:l.ents.length≤100000) (hg:Gd base):
  LayR base (cc 17 [ptr b 0] base) (zgf l):=by
 have hll:base.lim≤base.next:=by rw [hB.ext.lim];have:=hB.ll;have:=hB.ext.next;omega
 have hil:its.length=l.wds.length:=by rw [← hB.wds,List.length_map]
 have hil2:its.length≤2048:=by
  have h1:=hL.wlen
  have h2:=hL.pl
  omega
 have x1:Ext base (base.new (.cells NN 0)):=(Ext.refl _).new _
 have x2:Ext (base.new (.cells NN 0)) ((base.new (.cells NN 0)).new (.cells Z2 0)):=(Ext.refl _).new _
 have x3:Ext ((base.new (.cells NN 0)).new (.cells Z2 0)) (((base.new (.cells NN 0)).new (.cells Z2 0)).new (.cells NN 0)):=(Ext.refl _).new _
 have a2:At (((base.new (.cells NN 0)).new (.cells Z2 0)).new (.cells NN 0)) base.next NN:=((At.new hll NN).ext x2).ext x3
 have a3:At (((base.new (.cells NN 0)).new (.cells Z2 0)).new (.cells NN 0)) (base.next+1) Z2:=(At.new (st:=base.new (.cells NN 0)) (x1.ll hll) Z2).ext x3
 have ar:At (((base.new (.cells NN 0)).new (.cells Z2 0)).new (.cells NN 0)) (base.next+2) NN:=At.new (st:=(base.new (.cells NN 0)).new (.cells Z2 0)) ((x1.trans x2).ll hll) NN
 have he3:Ext base (((base.new (.cells NN 0)).new (.cells Z2 0)).new (.cells NN 0)):=x1.trans (x2.trans x3)
 have hn1:(base.new (.cells NN 0)).next=base.next+1:=rfl
 have hn2:((base.new (.cells NN 0)).new (.cells Z2 0)).next=base.next+2:=rfl
 have hn3:(((base.new (.cells NN 0)).new (.cells Z2 0)).new (.cells NN 0)).next=base.next+3:=rfl
 generalize hs3:((base.new (.cells NN 0)).new (.cells Z2 0)).new (.cells NN 0)=s3 at*
 have hsb:=hB.then he3
 have hnl:zaj (ptr b 0)=some (ptr b 0):=rfl
 have l6:s3.ld b (0+2)=some vw:=hsb.row.ld
 have hlen:(lenV vw).bind (asI .i64)=some (its.length:Int):=by rw [hB.ow.len];rfl
 have rest:∀ (s:SS) (wv:Value),Ext base s→At s base.next NN→At s (base.next+1) Z2→At s (base.next+2) [wv,.slice none 0 0]→Own (base.next+3) s wv (rowsF zdl (List.replicate (sizeT l) zaE)) 1 (sizeT l)→
   LayR base ((zao 6 [ptr b 0,ptr base.next 0,ptr (base.next+1) 0,ptr (base.next+2) 0,vw,.int .i64 its.length,.int .i64 0] s).bind fun r21=>cond (Nat.beq r21.1 0) (
  (r21.2.1[0]?).bind fun v22=>
  (r21.2.1[1]?).bind fun v23=>
  (r21.2.1[2]?).bind fun v24=>
  (r21.2.1[3]?).bind fun v25=>
  (zaj v22).bind fun v26=>
  (addr? v26).bind fun p27=>
  (r21.2.2.ld p27.1 (p27.2+4)).bind fun v28=>
  ((lenV v28).bind (asI .i64)).bind fun n29=>
  (zao 20 [v22,v23,v24,v25,v28,.int .i64 n29,.int .i64 0] r21.2.2).bind fun r30=>
  cond (Nat.beq r30.1 0) (
   (r30.2.1[0]?).bind fun v31=>
   (r30.2.1[1]?).bind fun v32=>
   (r30.2.1[2]?).bind fun v33=>
   (addr? v33).bind fun p34=>
   (r30.2.2.ldN p34.1 p34.2 2).bind fun v35=>
   (addr? v31).bind fun p36=>
   (r30.2.2.stV p36.1 p36.2 2 v35).bind fun st37=>
   (addr? v32).bind fun p38=>
   (st37.st p38.1 p38.2 [.int .i64 0,.int .i64 0]).bind fun st39=>
   (addr? v31).bind fun p40=>
   (st39.rdN p40.1 p40.2 2).bind fun v41=>
   (addr? v32).bind fun p42=>
   (st39.rdN p42.1 p42.2 2).bind fun v43=>
   some (.tuple #[v41,v43],st39)) (
   (r30.2.1[0]?).bind fun v44=>
   (r30.2.1[1]?).bind fun v45=>
   (addr? v44).bind fun p46=>
   (r30.2.2.rdN p46.1 p46.2 2).bind fun v47=>
   (addr? v45).bind fun p48=>
   (r30.2.2.rdN p48.1 p48.2 2).bind fun v49=>
   some (.tuple #[v47,v49],r30.2.2))) (
  (r21.2.1[0]?).bind fun v50=>
  (r21.2.1[1]?).bind fun v51=>
  (addr? v50).bind fun p52=>
  (r21.2.2.rdN p52.1 p52.2 2).bind fun v53=>
  (addr? v51).bind fun p54=>
  (r21.2.2.rdN p54.1 p54.2 2).bind fun v55=>
  some (.tuple #[v53,v55],r21.2.2))) (zgf l):=by
  intro s wv he b2 b3 br bo
  have hN:(lenV wv).bind (asI .i64)=some ((sizeT l:Nat):Int):=by rw [bo.len];rfl
  have hw:=zxB hB hL hM hg hN its.length 0 (List.replicate (sizeT l) zaE) s rfl (by simp) he b2 b3 br bo
  rw [List.drop_zero] at hw
  have b0:Nat.beq 0 0=true:=rfl
  have b1:Nat.beq 1 0=false:=rfl
  unfold zgf
  cases hws:zbR l.nms (sizeT l) l.wds (List.replicate (sizeT l) zaE) with
  | error e=>
    rw [hws] at hw
    obtain ⟨s',c1,c2,c3,c4⟩:=hw
    have c1':zao 6 [ptr b 0,ptr base.next 0,ptr (base.next+1) 0,ptr (base.next+2) 0,vw,.int .i64 its.length,.int .i64 0] s=_:=c1
    have r1:=c3.rdN (n:=2) rfl
    have r2:=c4.rdN (n:=2) rfl
    refine ⟨s',?_,c2,fun hh=>by have:=zn0 _ _ _ hL.prs hws;rw [hh] at this;omega⟩
    rw [c1',zob]
    simp only [b1,zcf,zgs,zgz,zob,zad,r1,r2]
    rfl
  | ok ws=>
    rw [hws] at hw
    obtain ⟨s',c1,c2,c3,c4,c5,c6,c7⟩:=hw
    have c1':zao 6 [ptr b 0,ptr base.next 0,ptr (base.next+1) 0,ptr (base.next+2) 0,vw,.int .i64 its.length,.int .i64 0] s=_:=c1
    have hsb':=hB.then c2
    have l28:s'.ld b (0+4)=some vv:=hsb'.row.ld
    have hlen2:(lenV vv).bind (asI .i64)=some (l.ents.length:Int):=by rw [hB.ov.len];rfl
    have ow:Owns (base.next+3) s' [⟨wv,rowsF zdl ws,1,sizeT l⟩,⟨.slice none 0 0,rowsF zaZ [],2,([]:List (List UInt8×Int)).length⟩]:=by
     refine ⟨fun k o ho=>?_,fun k m a b' j ha hb h1 h2=>?_⟩
     ·match k,ho with
      | 0,ho=>cases ho;exact c6
      | 1,ho=>cases ho;exact Own.nil _ _ _
      | k+2,ho=>simp at ho
     ·match k,m,ha,hb with
      | 0,0,_,_=>rfl
      | 1,1,_,_=>rfl
      | 0,1,_,hb=>cases hb;cases h2
      | 1,0,ha,_=>cases ha;cases h1
      | k+2,_,ha,_=>simp at ha
      | _,k+2,_,hb=>simp at hb
    have hen:=zwv hB hL hn ws hN l.ents.length 0 [] _ s' rfl (by simp) c2 c3 c4 c5 ow
    rw [List.drop_zero] at hen
    rw [c1',zob]
    simp only [b0,zct,zgs,zgz,zob,hnl,zad,l28,hlen2]
    cases hes:zdk l.nms (sizeT l) l.ents with
    | error e=>
      rw [hes] at hen
      obtain ⟨s2,d1,d2,d3,d4⟩:=hen
      have d1':zao 20 [ptr b 0,ptr base.next 0,ptr (base.next+1) 0,ptr (base.next+2) 0,vv,.int .i64 l.ents.length,.int .i64 0] s'=_:=d1
      have r1:=d3.rdN (n:=2) rfl
      have r2:=d4.rdN (n:=2) rfl
      refine ⟨s2,?_,d2,fun hh=>by have:=zpw _ _ hL.ent hes;rw [hh] at this;omega⟩
      rw [d1',zob]
      simp only [b1,zcf,zgs,zgz,zob,zad,r1,r2]
      rfl
    | ok es=>
      rw [hes] at hen
      obtain ⟨s2,ev,d1,d2,d3,d4,d5,d6⟩:=hen
      have d1':zao 20 [ptr b 0,ptr base.next 0,ptr (base.next+1) 0,ptr (base.next+2) 0,vv,.int .i64 l.ents.length,.int .i64 0] s'=_:=d1
      have l35:=d5.ldN (n:=2) rfl
      have o1:=d6.own 0 _ rfl
      have o2:=d6.own 1 _ rfl
      simp only [List.nil_append] at o2
      have w1:one wv=true:=(Own.cell o1).2
      have w2:one ev=true:=(Own.cell o2).2
      obtain ⟨s37,e37,a37,m37,n37⟩:=d3.stV (k:=0) (n:=2) (v:=.agg [wv,ev].toArray) (zaG _) rfl (by simp [w1,w2]) (row':=[wv,ev]) rfl
      obtain ⟨s39,e39,a39,m39,n39⟩:=(d4.mod m37 (by simp)).sto (k:=0) (vs:=Z2) (row':=Z2) rfl rfl
      have r1:=(a37.mod m39 (by simp)).rdN (n:=2) rfl
      have r2:=a39.rdN (n:=2) rfl
      have hlw:=zeG _ _ _ hws
      rw [List.length_replicate] at hlw
      have q1:∀ m,m∈[base.next]→m<base.next+3:=(by intro m hm;have e:m=base.next:=(by simpa using hm);omega)
      have q2:∀ m,m∈[base.next+1]→m<base.next+3:=(by intro m hm;have e:m=base.next+1:=(by simpa using hm);omega)
      refine ⟨s39,wv,ev,?_,zaD (zaD d2 m37 (zlr _)) m39 (by omega),?_,((o2.modLt m37 q1).modLt m39 q2).low (by omega)⟩
      ·rw [d1',zob]
       simp only [b0,zct,zgs,zgz,zob,zad,l35,e37,e39,r1,r2]
       rfl
      ·rw [hlw]
       exact ((o1.modLt m37 q1).modLt m39 q2).low (by omega)
 by_cases hw0:0<its.length
 ·have hp:(0:Int)<(its.length:Int):=by omega
  obtain ⟨x,hx⟩:∃ x,its[its.length-1]?=some x:=⟨_,zge (by omega)⟩
  have hwx:l.wds.getLast?=some (x.1,x.2.1):=by
   rw [List.getLast?_eq_getElem?,← hB.wds,List.length_map,List.getElem?_map,hx];rfl
  have hsz:sizeT l=x.1+1:=by unfold sizeT;rw [hwx]
  have hszb:=(zj5 hL).2
  have n11:IntKind.wrap .i64 ((its.length:Int)-1)=((its.length-1:Nat):Int):=by rw [wrap64 (by omega) (by omega)];omega
  obtain ⟨p12,b1,_,b3⟩:=hsb.ow.rd.load (j:=((its.length-1:Nat):Int)) (by omega) (by omega) (zaU (f:=wdRow) (z:=6) (fun _=>rfl) its (its.length-1) x hx) rfl
  have l13:s3.ld p12.1 p12.2=some (.int .i64 x.1):=b3 0 (by omega)
  have n14:IntKind.wrap .i64 ((x.1:Int)+1)=((sizeT l:Nat):Int):=by rw [wrap64 (by omega) (by omega),hsz];omega
  have hmk:ze9 ((sizeT l:Nat):Int) ((sizeT l:Nat):Int) 8=some ():=zmF (by omega) (by omega) (by omega)
  have x15:Ext s3 (s3.new (.cells (List.replicate (sizeT l) (.int .u64 0)) 1)):=(Ext.refl _).new _
  obtain ⟨s16,e16,a16,m16,n16⟩:=(ar.ext x15).sto (k:=0) (vs:=[.slice (some ⟨s3.next,0,none⟩) (sizeT l) (sizeT l)]) (row':=[.slice (some ⟨s3.next,0,none⟩) (sizeT l) (sizeT l),.slice none 0 0]) rfl rfl
  have ow16:Own (base.next+3) s16 (.slice (some ⟨s3.next,0,none⟩) (sizeT l) (sizeT l)) (rowsF zdl (List.replicate (sizeT l) zaE)) 1 (sizeT l):=by
   refine ⟨by rw [zpx];simp,.inr ⟨s3.next,rfl,by omega,?_,by omega,by rw [n16];simp⟩⟩
   rw [zpx]
   exact m16.get (by simp) (by simp;omega) (SS.new_get)
  have hr:=rest s16 _ (zaD (he3.trans x15) m16 (by omega)) ((a2.ext x15).mod m16 (by simp)) ((a3.ext x15).mod m16 (by simp)) a16 ow16
  have l19:s16.ld b (0+2)=some vw:=(hB.then (zaD (he3.trans x15) m16 (by omega))).row.ld
  have hst:∀ z,z=zcP cc zao (ptr b 0) base→LayR base z (zgf l):=fun z hz=>by
   rw [hz]
   simp only [zcP,hs3,hn1,hn2,hnl,zob,zad,l6,hlen,zdt hp,zct,n11,b1,l13,zaa,n14,hmk,zjE,Int.toNat_natCast,e16,l19]
   exact hr
  have hfin:=hst _ rfl
  cases hro:zgf l with
  | error e=>
    rw [hro] at hfin
    obtain ⟨s',c,d⟩:=hfin
    exact ⟨s',zcT _ base c,d⟩
  | ok y=>
    obtain ⟨ws,es⟩:=y
    rw [hro] at hfin
    obtain ⟨s',wv,ev,c,d⟩:=hfin
    exact ⟨s',wv,ev,zcT _ base c,d⟩
 ·have hp:¬ (0:Int)<(its.length:Int):=by omega
  have hwn:l.wds=[]:=List.length_eq_zero_iff.1 (by omega)
  have hsz:sizeT l=0:=by unfold sizeT;rw [hwn];rfl
  have hr:=rest s3 (.slice none 0 0) he3 a2 a3 ar (by rw [hsz];exact Own.nil _ _ _)
  have hst:∀ z,z=zcP cc zao (ptr b 0) base→LayR base z (zgf l):=fun z hz=>by
   rw [hz]
   simp only [zcP,hs3,hn1,hn2,hnl,zob,zad,l6,hlen,zdf hp,zcf]
   exact hr
  have hfin:=hst _ rfl
  cases hro:zgf l with
  | error e=>
    rw [hro] at hfin
    obtain ⟨s',c,d⟩:=hfin
    exact ⟨s',zcT _ base c,d⟩
  | ok y=>
    obtain ⟨ws,es⟩:=y
    rw [hro] at hfin
    obtain ⟨s',wv,ev,c,d⟩:=hfin
    exact ⟨s',wv,ev,zcT _ base c,d⟩
end Go.Proofs.YtcplfckncandkaaGreatDoorE
namespace Go.Proofs.YtcplfckncandkaaGreatDoorE
open Go Go.E Go.Proofs
abbrev En:=List UInt8×Int
def zgA (N:Nat) (es:List En) (i:Nat):Bool:=match es[i]? with
 | none=>true
 | some e=>zjS e.1&&(!decide (e.2<0)&&(!decide ((N:Int)≤e.2)&&!decide (e.1∈(es.take i).map (·.1))))
theorem ziH {N i:Nat} {es:List En} {e:En} (h:es[i]?=some e):zgA N es i=(zjS e.1&&(!decide (e.2<0)&&(!decide ((N:Int)≤e.2)&&!decide (e.1∈(es.take i).map (·.1))))):=by unfold zgA;rw [h]
def zfK (N:Nat) (es:List En):Bool:=Nat.ble N 2048&&(Nat.ble es.length 255&&(List.range es.length).all (zgA N es))
theorem zgB {st st':SS} {q k:Nat} (he:Ext st st') (hq:q<st.next):st'.ld q k=st.ld q k:=by unfold SS.ld;rw [he.keep q hq]
theorem zim (e:En):(zaZ e).length=2:=rfl
theorem zww [Sym] (x:En) (f:List UInt8) (q:Nat) (st:SS) (hq:st.ld q 0=some (.string (mkS f))) (hlt:q<st.next):∃ n,st.next≤n∧cc 44 [.agg (zaZ x).toArray,ptr q 0] st=some (.bool (decide (x.1=f)),st.adv n):=by
 refine ⟨st.next+1,by omega,zv3 _ _ st ?_⟩
 have x1:Ext (st.ro st.next) ((st.ro st.next).new (.cells (zaZ x) 0)):=(Ext.refl _).new _
 have l0:((st.ro st.next).new (.cells (zaZ x) 0)).ld st.next 0=some (.string (mkS x.1)):=by
  have hm:((st.ro st.next).new (.cells (zaZ x) 0)).mem.get st.next=some (.cells (zaZ x) 0):=SS.new_get (st:=st.ro st.next)
  rw [SS.ld_cells hm];rfl
 have l1:((st.ro st.next).new (.cells (zaZ x) 0)).ld q 0=some (.string (mkS f)):=(zgB x1 (show q<(st.ro st.next).next from hlt)).trans hq
 simp only [entEq,zaG,SS.ro_next,l0,zob,zac,zad,l1,zcW]
 rfl
theorem zwx [Sym] (ps:List En) (hsz:ps.length≤1099511627776) (f:List UInt8) (q:Nat) (v:Value) (st0:SS) (hv:Rg st0 v (rowsF zaZ ps) 2 ps.length) (hq:st0.ld q 0=some (.string (mkS f))) (hlt:q<st0.next):
  ∀ (k j:Nat) (st:SS),ps.length=k+j→Ext st0 st→∃ e vs st',zgt 2 [v,.func (.func 44) #[] #[ptr q 0],.int .i64 ps.length,.int .i64 j] st=some (e,vs,st')∧Ext st0 st'∧
   ((e=0∧vs=[]∧f∉(ps.drop j).map (·.1))∨(e=1∧f∈(ps.drop j).map (·.1)∧∃ m:Nat,vs=[.int .i64 m])):=by
 intro k
 induction k with
 | zero=>
   intro j st hk he
   refine ⟨0,[],st,zhI v q _ _ st ?_,he,.inl ⟨rfl,rfl,?_⟩⟩
   ·have:¬ (j:Int)<(ps.length:Int):=by omega
    simp only [zid,zdf this,zcf]
   ·rw [List.drop_of_length_le (by omega)];simp
 | succ k ih=>
   intro j st hk he
   obtain ⟨p,hp⟩:∃ p,ps[j]?=some p:=⟨_,zge (by omega)⟩
   have hjl:(j:Int)<(ps.length:Int):=by omega
   obtain ⟨x,b1,b2,_⟩:=(hv.ext he).load (j:=(j:Int)) (by omega) hjl (zaU zim ps j p hp) rfl
   obtain ⟨n,hn,c1⟩:=zww p f q st ((zgB he hlt).trans hq) (zll hlt he.next)
   have b2':st.ldN x.1 x.2 2=some (.agg (zaZ p).toArray):=b2
   have hd:=drop_cons hp
   have hw:=zaX (i:=j) (by omega)
   by_cases hf:p.1=f
   ·refine ⟨1,[.int .i64 j],st.adv n,zhI v q _ _ st ?_,he.adv (by have:=he.next;omega),.inr ⟨rfl,?_,j,rfl⟩⟩
    ·rw [zdt hf] at c1
     simp only [zid,zdt hjl,zct,b1,zob,b2',c1,zai]
    ·rw [hd];simp [hf]
   ·obtain ⟨e,vs,st',d1,d2,d3⟩:=ih (j+1) (st.adv n) (by omega) (he.adv (by have:=he.next;omega))
    rw [zdf hf] at c1
    refine ⟨e,vs,st',zhI v q _ _ st ?_,d2,?_⟩
    ·simp only [zid,zdt hjl,zct,b1,zob,b2',c1,zai,zcf,hw]
     exact d1
    ·rw [hd]
     rcases d3 with ⟨e1,e2,e3⟩ | ⟨e1,e2,e3⟩
     ·exact .inl ⟨e1,e2,by simp only [List.map_cons,List.mem_cons,not_or];exact ⟨fun x=>hf x.symm,e3⟩⟩
     ·exact .inr ⟨e1,by simp only [List.map_cons,List.mem_cons];exact .inr e2,e3⟩
theorem zwy [Sym] (ps:List En) (hsz:ps.length≤1099511627776) (f:List UInt8) (q:Nat) (v:Value) (st:SS) (hv:Rg st v (rowsF zaZ ps) 2 ps.length) (hq:st.ld q 0=some (.string (mkS f))) (hlt:q<st.next):
  ∃ n,st.next≤n∧cc 43 [v,.func (.func 44) #[] #[ptr q 0]] st=some (.bool (decide (f∈ps.map (·.1))),st.adv n):=by
 obtain ⟨e,vs,st',d1,d2,d3⟩:=zwx ps hsz f q v ((st.ro st.next).ro (st.ro st.next).next) hv hq hlt ps.length 0 ((st.ro st.next).ro (st.ro st.next).next) (by omega) (.refl _)
 have d1':zgt 2 [v,.func (.func 44) #[] #[ptr q 0],.int .i64 ps.length,.int .i64 0] ((st.ro st.next).ro (st.ro st.next).next)=some (e,vs,st'):=d1
 have hlen:=hv.lenI
 rw [List.drop_zero] at d3
 have hnx:=d2.next
 simp at hnx
 refine ⟨st'.next,hnx,zsW _ _ st ?_⟩
 rcases d3 with ⟨rfl,rfl,e3⟩ | ⟨rfl,e2,m,rfl⟩
 ·have c:cc 64 [v,.func (.func 44) #[] #[ptr q 0]] (st.ro st.next)=some (.int .i64 (-1),(st.ro st.next).adv st'.next):=by
   refine zpo _ _ _ ?_
   have hb0:Nat.beq 0 0=true:=rfl
   simp only [zqB,hlen,zob,d1',hb0,zct]
  have h0:¬ (0:Int)≤ -1:=by omega
  rw [zdf e3]
  simp only [zoE,c,zob,zaa,zdf h0]
  rfl
 ·have c:cc 64 [v,.func (.func 44) #[] #[ptr q 0]] (st.ro st.next)=some (.int .i64 m,(st.ro st.next).adv st'.next):=by
   refine zpo _ _ _ ?_
   have hb0:Nat.beq 1 0=false:=rfl
   simp only [zqB,hlen,zob,d1',hb0,zcf,zgz,zaa]
  have h0:(0:Int)≤(m:Int):=by omega
  rw [zdt e2]
  simp only [zoE,c,zob,zaa,zdt h0]
  rfl
def zlu (base:SS) (N:Nat) (es:List En) (i:Nat) (res:Option (Nat×List Value×SS)):Prop:=
 ∃ e vs s',res=some (e,vs,s')∧Ext base s'∧((e=0∧vs=[]∧∀ j,i≤j→zgA N es j=true)∨(e=1∧vs=[.bool false]∧∃ j,i≤j∧j<es.length∧zgA N es j=false))
theorem zlu.up {base:SS} {N i:Nat} {es:List En} {res res':Option (Nat×List Value×SS)} (h:zlu base N es (i+1) res) (hi:zgA N es i=true) (hr:∀ r,res=some r→res'=some r):zlu base N es i res':=by
 obtain ⟨e,vs,s',h1,h2,h3⟩:=h
 refine ⟨e,vs,s',hr _ h1,h2,h3.imp (fun ⟨a,b,c⟩=>⟨a,b,fun j hj=>?_⟩) fun ⟨a,b,j,c,d⟩=>⟨a,b,j,by omega,d⟩⟩
 by_cases e:j=i
 ·rw [e];exact hi
 ·exact c j (by omega)
theorem zwz {base:SS} {N i:Nat} {es:List En} {s:SS} {res:Option (Nat×List Value×SS)} (hi:es.length≤i) (he:Ext base s) (h:res=some (0,[],s)):zlu base N es i res:=
 ⟨0,[],s,h,he,.inl ⟨rfl,rfl,fun j hj=>by unfold zgA;rw [List.getElem?_eq_none (by omega)]⟩⟩
theorem zj6 {base:SS} {N i:Nat} {es:List En} {s:SS} {res:Option (Nat×List Value×SS)} (hl:i<es.length) (hi:zgA N es i=false) (he:Ext base s) (h:res=some (1,[.bool false],s)):zlu base N es i res:=
 ⟨1,_,s,h,he,.inr ⟨rfl,rfl,i,zlr _,hl,hi⟩⟩
section
variable {r : Nat} {wv ev : Value} {N : Nat} {es : List En} {base : SS}
theorem zto [Sym] (hN:(lenV wv).bind (asI .i64)=some (N:Int)) (hsz:es.length≤255) (hll:base.lim≤base.next) (hr:base.ld r 0=some wv) (hr1:base.ld r (0+1)=some ev) (hlt:r<base.next) (hv:Rg base ev (rowsF zaZ es) 2 es.length):∀ (k i:Nat) (s:SS),es.length=k+i→Ext base s→
  zlu base N es i (ze1 4 [ptr r 0,ev,.int .i64 es.length,.int .i64 i] s):=by
 intro k
 induction k with
 | zero=>
   intro i s hk he
   have h:¬ (i:Int)<(es.length:Int):=by omega
   refine zwz (by omega) he (zcM _ _ _ _ s ?_)
   simp only [zdd,zdf h,zcf]
 | succ k ih=>
   intro i s hk he
   have h:(i:Int)<(es.length:Int):=by omega
   obtain ⟨e,hg⟩:∃ e,es[i]?=some e:=⟨_,zge (by omega)⟩
   have hga:=ziH (N:=N) hg
   obtain ⟨p1,b1,b2,_⟩:=(hv.ext he).load (j:=(i:Int)) (by omega) h (zaU zim es i e hg) rfl
   have b2':s.ldN p1.1 p1.2 2=some (.agg (zaZ e).toArray):=b2
   obtain ⟨s4,e4,a4,x4,n4⟩:=zaV (n:=2) (st:=s) (he.ll hll) (r:=zaZ ([],0)) (row:=zaZ e) (v:=.agg (zaZ e).toArray) (zaG _) rfl rfl rfl
   have e4':(s.new (.cells [.string ⟨#[]⟩,.int .i64 0] 0)).stV s.next 0 2 (.agg (zaZ e).toArray)=some s4:=e4
   have he4:=he.trans x4
   have l5:s4.ld s.next 0=some (.string (mkS e.1)):=a4.ld
   obtain ⟨n6,hn6,c6⟩:=zs5 e.1 s4
   have x6:Ext s4 (s4.adv n6):=Ext.advR s4 hn6
   have he6:=he4.trans x6
   have a6:=a4.ext x6
   cases hnm:zjS e.1 with
   | false=>
     rw [hnm] at c6
     refine zj6 (by omega) (by rw [hga,hnm];rfl) he6 (zcM _ _ _ _ s ?_)
     simp only [zdd,zdt h,zct,b1,b2',e4',zob,l5,zac,c6,zai,znf]
   | true=>
   rw [hnm] at c6 hga
   have l8:(s4.adv n6).ld s.next 1=some (.int .i64 e.2):=a6.ld
   by_cases q1:e.2<0
   ·refine zj6 (by omega) (by rw [hga,zdt q1];rfl) he6 (zcM _ _ _ _ s ?_)
    simp only [zdd,zdt h,zct,b1,b2',e4',zob,l5,zac,c6,zai,znt,zcf,l8,zaa,zdt q1]
   have l11:(s4.adv n6).ld r 0=some wv:=(zgB he6 hlt).trans hr
   by_cases q2:(N:Int)≤e.2
   ·refine zj6 (by omega) (by rw [hga,zdt q2];simp) he6 (zcM _ _ _ _ s ?_)
    simp only [zdd,zdt h,zct,b1,b2',e4',zob,l5,zac,c6,zai,znt,zcf,l8,zaa,zdf q1,zad,l11,hN,zdt q2]
   have l14:(s4.adv n6).ld r (0+1)=some ev:=(zgB he6 hlt).trans hr1
   obtain ⟨v15,c15,g15⟩:=(hv.ext he6).resl (m:=i) (by omega)
   rw [zsH zim] at g15
   have hli:(es.take i).length=i:=by rw [List.length_take];omega
   have g15':Rg (s4.adv n6) v15 (rowsF zaZ (es.take i)) 2 (es.take i).length:=by rw [hli];exact g15
   obtain ⟨n16,hn16,c16⟩:=zwy (es.take i) (by omega) e.1 s.next v15 (s4.adv n6) g15' a6.ld a6.lt
   have x16:=Ext.advR (s4.adv n6) hn16
   have he16:=he6.trans x16
   have hw1:=zaX (i:=i) (by omega)
   rw [zdf q1,zdf q2] at hga
   by_cases q3:e.1∈(es.take i).map (·.1)
   ·rw [zdt q3] at c16
    refine zj6 (by omega) (by rw [hga,zdt q3];rfl) he16 (zcM _ _ _ _ s ?_)
    simp only [zdd,zdt h,zct,b1,b2',e4',zob,l5,zac,c6,zai,znt,zcf,l8,zaa,zdf q1,zad,l11,hN,zdf q2,l14,c15,c16]
   ·rw [zdf q3] at c16
    refine (ih (i+1) ((s4.adv n6).adv n16) (by omega) he16).up (by rw [hga,zdf q3];rfl) fun rr hrr=>zcM _ _ _ _ s ?_
    simp only [zdd,zdt h,zct,b1,b2',e4',zob,l5,zac,c6,zai,znt,zcf,l8,zaa,zdf q1,zad,l11,hN,zdf q2,l14,c15,c16,hw1]
    exact hrr
end
theorem zuV {n:Nat} {p:Nat→Bool} (h:∀ j,0≤j→p j=true):(List.range n).all p=true:=by rw [List.all_eq_true];exact fun j _=>h j (Nat.zero_le _)
theorem zpX {n j:Nat} {p:Nat→Bool} (hj:j<n) (h:p j=false):(List.range n).all p=false:=by
 rw [List.all_eq_false];exact ⟨j,List.mem_range.2 hj,by rw [h];simp⟩
theorem ztp [Sym] {N:Nat} {es:List En} {wv ev:Value} {cw:List Value} {z:Nat} {st:SS} (o1:Rg st wv cw z N) (o2:Rg st ev (rowsF zaZ es) 2 es.length):∃ n,st.next≤n∧cc 23 [zbW wv ev] st=some (.bool (zfK N es),st.adv n):=by
 have hc:(zbW wv ev).cells.toList=[wv,ev]:=by show (Value.agg [wv,ev].toArray).cells.toList=_;exact zaG _
 have x1:Ext (st.ro st.next) ((st.ro st.next).new (.cells [wv,ev] 0)):=(Ext.refl _).new _
 have hn1:((st.ro st.next).new (.cells [wv,ev] 0)).next=st.next+1:=rfl
 have hl1:((st.ro st.next).new (.cells [wv,ev] 0)).lim=st.next:=rfl
 have hm:((st.ro st.next).new (.cells [wv,ev] 0)).mem.get st.next=some (.cells [wv,ev] 0):=SS.new_get (st:=st.ro st.next)
 have l0:((st.ro st.next).new (.cells [wv,ev] 0)).ld st.next 0=some wv:=by rw [SS.ld_cells hm];rfl
 have l1:((st.ro st.next).new (.cells [wv,ev] 0)).ld st.next 1=some ev:=by rw [SS.ld_cells hm];rfl
 have q1:=o1.lenI
 have q2:=o2.lenI
 have o2':Rg ((st.ro st.next).new (.cells [wv,ev] 0)) ev (rowsF zaZ es) 2 es.length:=Rg.ext (st:=st.ro st.next) o2 x1
 by_cases z1:(2048:Int)<(N:Int)
 ·have hb:Nat.ble N 2048=false:=by rw [Bool.eq_false_iff];intro h;rw [Nat.ble_eq] at h;omega
  refine ⟨st.next+1,by omega,ziA _ st ?_⟩
  simp only [zhH,hc,SS.ro_next,l0,zob,q1,zdt z1,zct,zfK,hb,Bool.false_and,hn1]
 have hb:Nat.ble N 2048=true:=by rw [Nat.ble_eq];omega
 by_cases z2:(255:Int)<(es.length:Int)
 ·have hb2:Nat.ble es.length 255=false:=by rw [Bool.eq_false_iff];intro h;rw [Nat.ble_eq] at h;omega
  refine ⟨st.next+1,by omega,ziA _ st ?_⟩
  simp only [zhH,hc,SS.ro_next,l0,zob,q1,zdf z1,zcf,l1,q2,zdt z2,zct,zfK,hb,hb2,Bool.false_and,Bool.true_and,hn1]
 have hb2:Nat.ble es.length 255=true:=by rw [Nat.ble_eq];omega
 obtain ⟨e,vs,s',h1,h2,h3⟩:=zto q1 (show es.length≤255 by omega) (by omega) l0 l1 (by omega) o2' es.length 0 _ rfl (Ext.refl _)
 have h1':ze1 4 [ptr st.next 0,ev,.int .i64 es.length,.int .i64 0] ((st.ro st.next).new (.cells [wv,ev] 0))=some (e,vs,s'):=h1
 have hnx:=h2.next
 refine ⟨s'.next,by omega,ziA _ st ?_⟩
 rcases h3 with ⟨rfl,rfl,h3⟩ | ⟨rfl,rfl,j,_,hj,h3⟩
 ·have b0:Nat.beq 0 0=true:=rfl
  simp only [zhH,hc,SS.ro_next,l0,zob,q1,zdf z1,zcf,l1,q2,zdf z2]
  rw [h1',zob]
  simp only [b0,zct,zfK,hb,hb2,zuV h3,Bool.and_self]
 ·have b0:Nat.beq 1 0=false:=rfl
  simp only [zhH,hc,SS.ro_next,l0,zob,q1,zdf z1,zcf,l1,q2,zdf z2]
  rw [h1',zob]
  simp only [b0,zcf,zgz,zob,zai,zfK,hb,hb2,zpX hj h3,Bool.and_false]
def zeH (es:List En) (n:List UInt8):Option Int:=match es with
 | []=>none
 | e::r=>if e.1=n then some e.2 else zeH r n
theorem zuW [Sym] {v:Value} (es:List En) (hsz:es.length≤1099511627776) (n:List UInt8) (base:SS) (hll:base.lim≤base.next) (hv:Rg base v (rowsF zaZ es) 2 es.length):∀ (k i:Nat) (s:SS),es.length=k+i→Ext base s→
  ∃ s',Ext base s'∧zd2 2 [.string (mkS n),v,.int .i64 es.length,.int .i64 i] s=match zeH (es.drop i) n with
   | none=>some (0,[],s')
   | some x=>some (1,[.int .i64 x,.bool true],s'):=by
 intro k
 induction k with
 | zero=>
   intro i s hk he
   have h:¬ (i:Int)<(es.length:Int):=by omega
   rw [List.drop_of_length_le (by omega)]
   refine ⟨s,he,zeE _ _ _ _ s ?_⟩
   simp only [ze2,zdf h,zcf]
 | succ k ih=>
   intro i s hk he
   have h:(i:Int)<(es.length:Int):=by omega
   obtain ⟨e,hg⟩:∃ e,es[i]?=some e:=⟨_,zge (by omega)⟩
   obtain ⟨p1,b1,b2,_⟩:=(hv.ext he).load (j:=(i:Int)) (by omega) h (zaU zim es i e hg) rfl
   have b2':s.ldN p1.1 p1.2 2=some (.agg (zaZ e).toArray):=b2
   obtain ⟨s4,e4,a4,x4,n4⟩:=zaV (n:=2) (st:=s) (he.ll hll) (r:=zaZ ([],0)) (row:=zaZ e) (v:=.agg (zaZ e).toArray) (zaG _) rfl rfl rfl
   have e4':(s.new (.cells [.string ⟨#[]⟩,.int .i64 0] 0)).stV s.next 0 2 (.agg (zaZ e).toArray)=some s4:=e4
   have he4:=he.trans x4
   have l5:s4.ld s.next 0=some (.string (mkS e.1)):=a4.ld
   have l6:s4.ld s.next 1=some (.int .i64 e.2):=a4.ld
   have hw1:=zaX (i:=i) (by omega)
   rw [drop_cons hg]
   unfold zeH
   by_cases hf:e.1=n
   ·rw [if_pos hf]
    refine ⟨s4,he4,zeE _ _ _ _ s ?_⟩
    simp only [ze2,zdt h,zct,b1,b2',e4',zob,l5,zac,zcW,zdt hf,l6,zaa]
   ·rw [if_neg hf]
    obtain ⟨s',f1,f2⟩:=ih (i+1) s4 (by omega) he4
    refine ⟨s',f1,?_⟩
    cases hq:zeH (es.drop (i+1)) n with
    | none=>
      rw [hq] at f2
      refine zeE _ _ _ _ s ?_
      simp only [ze2,zdt h,zct,b1,b2',e4',zob,l5,zac,zcW,zdf hf,zcf,hw1]
      exact f2
    | some x=>
      rw [hq] at f2
      refine zeE _ _ _ _ s ?_
      simp only [ze2,zdt h,zct,b1,b2',e4',zob,l5,zac,zcW,zdf hf,zcf,hw1]
      exact f2
theorem find_ok [Sym] {es:List En} (hsz:es.length≤1099511627776) (n:List UInt8) {wv ev:Value} {st:SS} (o2:Rg st ev (rowsF zaZ es) 2 es.length):
  ∃ m,st.next≤m∧cc 27 [zbW wv ev,.string (mkS n)] st=some (.tuple #[.int .i64 ((zeH es n).getD 0),.bool (zeH es n).isSome],st.adv m):=by
 have hc:(zbW wv ev).cells.toList=[wv,ev]:=by show (Value.agg [wv,ev].toArray).cells.toList=_;exact zaG _
 have x1:Ext (st.ro st.next) ((st.ro st.next).new (.cells [wv,ev] 0)):=(Ext.refl _).new _
 have hn1:((st.ro st.next).new (.cells [wv,ev] 0)).next=st.next+1:=rfl
 have hl1:((st.ro st.next).new (.cells [wv,ev] 0)).lim=st.next:=rfl
 have hm:((st.ro st.next).new (.cells [wv,ev] 0)).mem.get st.next=some (.cells [wv,ev] 0):=SS.new_get (st:=st.ro st.next)
 have l1:((st.ro st.next).new (.cells [wv,ev] 0)).ld st.next 1=some ev:=by rw [SS.ld_cells hm];rfl
 have o2':Rg ((st.ro st.next).new (.cells [wv,ev] 0)) ev (rowsF zaZ es) 2 es.length:=Rg.ext (st:=st.ro st.next) o2 x1
 have q2:=o2.lenI
 obtain ⟨s',h1,h2⟩:=zuW es hsz n _ (by omega) o2' es.length 0 _ rfl (Ext.refl _)
 rw [List.drop_zero] at h2
 have hnx:=h1.next
 refine ⟨s'.next,by omega,zrv _ _ st ?_⟩
 cases hq:zeH es n with
 | none=>
   rw [hq] at h2
   have h2':zd2 2 [.string (mkS n),ev,.int .i64 es.length,.int .i64 0] ((st.ro st.next).new (.cells [wv,ev] 0))=some (0,[],s'):=h2
   have b0:Nat.beq 0 0=true:=rfl
   simp only [zmR,hc,SS.ro_next,l1,zob,q2]
   rw [h2',zob]
   simp only [b0,zct]
   rfl
 | some x=>
   rw [hq] at h2
   have h2':zd2 2 [.string (mkS n),ev,.int .i64 es.length,.int .i64 0] ((st.ro st.next).new (.cells [wv,ev] 0))=some (1,[.int .i64 x,.bool true],s'):=h2
   have b0:Nat.beq 1 0=false:=rfl
   simp only [zmR,hc,SS.ro_next,l1,zob,q2]
   rw [h2',zob]
   simp only [b0,zcf,zgz,zgs,zob,zaa,zai]
   rfl
end Go.Proofs.YtcplfckncandkaaGreatDoorE
namespace Go.Proofs.YtcplfckncandkaaGreatDoorE
open Go Go.E Go.Proofs
theorem zqU (a b c d:Int):eqA Tryz.prog Lk0 62 (.agg #[.int .i64 a,.int .i64 b]) (.agg #[.int .i64 c,.int .i64 d])=some (decide (a=c)&&(decide (b=d)&&true)):=by kernel_rfl
theorem At.frm {b i j:Nat} {vw:Value} {st st':SS} {row:List Value} (h:At st j row) (f:Frm b i vw st st') (h1:j≠b) (h2:j≠i) (h3:blkOf vw≠some j):At st' j row:=⟨(f.keep j h.lt h1 h2 h3).trans h.1,zll h.lt f.next,by rw [f.lim];exact h.2.2⟩
theorem zuX {st:SS} {v:Value} {c:List Value} {z n:Nat} (h:Rd st v c z n):one v=true:=by obtain ⟨_,⟨e,_⟩ | ⟨i,c,e,_⟩⟩:=h<;>rw [e]<;>rfl
def AsmL (base st0:SS) (B b i t2 t3:Nat) (res:Option (Nat×List Value×SS)):Except (Nat×Nat) Lay→Prop
 | .error e=>∃ s',res=some (1,[ptr t2 0,ptr t3 0,.int .i64 4],s')∧Ext base s'∧At s' t2 NN∧At s' t3 [.int .i64 e.1,.int .i64 e.2]
 | .ok l=>∃ s' vw ve vv its,res=some (0,[ptr t2 0,ptr t3 0,ptr b 0],s')∧Bld st0 s' B b i vw ve vv l its
theorem zxC [Sym] {base st0:SS} {B b i M:Nat} (hM:M≤100000) (items:List Item) (hits:items.length≤99999) (hok:∀ x∈items,LineOk M x.1∧0<x.1.ln) (v:Value) (hv:Rd st0 v (rowsF lnRow items) 5 items.length)
  (hrd:∀ x∈items,Rd st0 x.2.1 (rowsF valRow x.1.args) 3 x.1.args.length∧Rd st0 x.2.2 (rowsF prRow x.1.prs) 5 x.1.prs.length) (hx0:Ext base st0) (hb2:base.next+2≤st0.next) (a2:At st0 base.next NN) (a3:At st0 (base.next+1) Z2):
  ∀ (k j:Nat) (l:Lay) (vw ve vv:Value) (its:List WItem) (s:SS),items.length=k+j→Bld st0 s B b i vw ve vv l its→LayOk M l→l.ents.length≤j→
  AsmL base st0 B b i base.next (base.next+1) (zby 6 [ptr base.next 0,ptr (base.next+1) 0,ptr b 0,v,.int .i64 items.length,.int .i64 j] s) (zeS l ((items.drop j).map (·.1))):=by
 intro k
 induction k with
 | zero=>
   intro j l vw ve vv its s hk hB hL hen
   have h:¬ (j:Int)<(items.length:Int):=by omega
   rw [List.drop_of_length_le (by omega)]
   refine ⟨s,vw,ve,vv,its,zd8 _ _ _ _ _ _ s ?_,hB⟩
   simp only [zdN,zdf h,zcf]
 | succ k ih=>
   intro j l vw ve vv its s hk hB hL hen
   have h:(j:Int)<(items.length:Int):=by omega
   obtain ⟨x,hx⟩:∃ x,items[j]?=some x:=⟨_,zge (by omega)⟩
   have hmem:=zmg hx
   have hd:=drop_cons hx
   have hlm:s.lim≤s.next:=hB.ext.ll hB.ll
   have hil:its.length≤2048:=by
    have h1:=hL.wlen
    have h2:=hL.pl
    rw [← hB.wds,List.length_map] at h1
    omega
   obtain ⟨p1,b1,b2,_⟩:=(hv.ext hB.ext).load (j:=(j:Int)) (by omega) h (zaU (f:=lnRow) (z:=5) (fun _=>rfl) items j x hx) rfl
   have b2':s.ldN p1.1 p1.2 5=some (.agg (lnRow x).toArray):=b2
   have ho:one x.2.1=true∧one x.2.2=true:=⟨zuX (hrd x hmem).1,zuX (hrd x hmem).2⟩
   obtain ⟨s4,e4,a4,x4,n4⟩:=zaV (n:=5) (st:=s) hlm (r:=lnRow (⟨0,[],[],[],[]⟩,.slice none 0 0,.slice none 0 0)) (row:=lnRow x) (v:=.agg (lnRow x).toArray) (zaG _) rfl (by
    simp only [lnRow,List.all_cons,List.all_nil,ho.1,ho.2]
    rfl) rfl
   have e4':(s.new (.cells [.int .i64 0,.string ⟨#[]⟩,.string ⟨#[]⟩,.slice none 0 0,.slice none 0 0] 0)).stV s.next 0 5 (.agg (lnRow x).toArray)=some s4:=e4
   have l5:s4.ldN s.next 0 5=some (.agg (lnRow x).toArray):=a4.ldN rfl
   have hf:=zwo (hB.then x4) x (hrd x hmem) ho hL.pl (by omega) (by omega) (by have:=(hok x hmem).1.sa;omega)
   have hL6:zeS l ((items.drop j).map (·.1))=match zil l x.1 with
    | none=>.error (x.1.ln,1)
    | some l'=>zeS l' ((items.drop (j+1)).map (·.1)):=by rw [hd];rfl
   rw [hL6]
   cases hln:zil l x.1 with
   | none=>
     rw [hln] at hf
     obtain ⟨s6,c6,f6⟩:=hf
     have hxs:∀ q,q<st0.next→q≠b∧q≠i∧blkOf vw≠some q:=fun q hq=>⟨by have:=hB.b0;omega,by have:=hB.i0;omega,fun e=>by have:=(zcz hB.ow e).1;have:=hB.b0;have:=hB.bB;omega⟩
     have a46:At s6 s.next (lnRow x):=At.frm a4 f6 (by have:=hB.bB;have:=hB.BN;omega) (by have:=hB.iB;have:=hB.BN;omega) fun e=>by have:=(zcz hB.ow e).2;omega
     have a26:At s6 base.next NN:=At.frm (a2.ext (hB.ext.trans x4)) f6 (hxs _ (by omega)).1 (hxs _ (by omega)).2.1 (hxs _ (by omega)).2.2
     have a36:At s6 (base.next+1) Z2:=At.frm (a3.ext (hB.ext.trans x4)) f6 (hxs _ (by omega)).1 (hxs _ (by omega)).2.1 (hxs _ (by omega)).2.2
     have x6:Ext base s6:=by
      have y:=(hx0.trans hB.ext).trans x4
      exact ⟨zlt y.next f6.next,f6.lim.trans y.lim,fun q hq=>(f6.keep q (zll hq y.next) (hxs q (by omega)).1 (hxs q (by omega)).2.1 (hxs q (by omega)).2.2).trans (y.keep q hq)⟩
     have l8:s6.ld s.next 0=some (.int .i64 x.1.ln):=a46.ld
     obtain ⟨s10,e10,a10,m10,n10⟩:=a26.sto (k:=0) (vs:=NN) (row':=NN) rfl rfl
     obtain ⟨s12,e12,a12,m12,n12⟩:=(a36.mod m10 (by simp)).sto (k:=0) (vs:=[.int .i64 x.1.ln,.int .i64 1]) (row':=[.int .i64 x.1.ln,.int .i64 1]) rfl rfl
     have hne:zbJ (ptr s.next 0) (ptr base.next 0)=true:=zcO (by have:=hB.ext.next;omega)
     refine ⟨s12,zd8 _ _ _ _ _ _ s ?_,zaD (zaD x6 m10 (zlr _)) m12 (by omega),a10.mod m12 (by simp),a12⟩
     simp only [zdN,zdt h,zct,b1,b2',e4',l5,c6,zob,zai,znf,l8,zaa,hne,zad,e10,e12]
   | some l'=>
     rw [hln] at hf
     obtain ⟨s6,vw',ve',vv',its',c6,h6,_⟩:=hf
     obtain ⟨g1,g2⟩:=zqR hL (hok x hmem).1 (hok x hmem).2 hln
     have next:=ih (j+1) l' vw' ve' vv' its' s6 (by omega) h6 g1 (by omega)
     have hw1:=zaX (i:=j) (by omega)
     have step:∀ z,zby 6 [ptr base.next 0,ptr (base.next+1) 0,ptr b 0,v,.int .i64 items.length,.int .i64 ((j+1:Nat):Int)] s6=some z→zby 6 [ptr base.next 0,ptr (base.next+1) 0,ptr b 0,v,.int .i64 items.length,.int .i64 j] s=some z:=fun z hz=>by
      refine zd8 _ _ _ _ _ _ s ?_
      simp only [zdN,zdt h,zct,b1,b2',e4',l5,c6,zob,zai,znt,zcf,hw1]
      exact hz
     simp only
     cases hz:zeS l' ((items.drop (j+1)).map (·.1)) with
     | error e=>
       rw [hz] at next
       obtain ⟨s',d1,d2⟩:=next
       exact ⟨s',step _ d1,d2⟩
     | ok l2=>
       rw [hz] at next
       obtain ⟨s',w1,w2,w3,w4,d1,d2⟩:=next
       exact ⟨s',w1,w2,w3,w4,step _ d1,d2⟩
def AsmR (st:SS) (res:Option (Value×SS)):Except (Nat×Nat) (List Wd×List (List UInt8×Int))→Prop
 | .error e=>∃ s',res=some (.tuple #[zbW (.slice none 0 0) (.slice none 0 0),zbs e,.int .i64 4],s')∧Ext st s'
 | .ok (ws,es)=>∃ s' wv ev,res=some (.tuple #[zbW wv ev,zbs (0,0),.int .i64 0],s')∧Ext st s'∧Own st.next s' wv (rowsF zdl ws) 1 ws.length∧Own st.next s' ev (rowsF zaZ es) 2 es.length
theorem zuY [Sym] {st:SS} (hg:Gd st) (hl:st.lim≤st.next) (s:ByteArray) (hs:s.size≤65536):AsmR st (cc 7 [.string s] st) (zeT (bl s)):=by
 have x1:Ext st (st.new (.cells NN 0)):=(Ext.refl _).new _
 have x2:Ext (st.new (.cells NN 0)) ((st.new (.cells NN 0)).new (.cells Z2 0)):=(Ext.refl _).new _
 have a2:At ((st.new (.cells NN 0)).new (.cells Z2 0)) st.next NN:=(At.new hl NN).ext x2
 have a3:At ((st.new (.cells NN 0)).new (.cells Z2 0)) (st.next+1) Z2:=At.new (st:=st.new (.cells NN 0)) (x1.ll hl) Z2
 have hn1:(st.new (.cells NN 0)).next=st.next+1:=rfl
 have hn2:((st.new (.cells NN 0)).new (.cells Z2 0)).next=st.next+2:=rfl
 have x02:=x1.trans x2
 generalize hs2:(st.new (.cells NN 0)).new (.cells Z2 0)=s2 at*
 have hp:=zwe (hg.ext x02) (x02.ll hl) s hs
 have t0:∀ (a b c:Value),zan (.tuple #[a,b,c]) 0=some a:=fun _ _ _=>rfl
 have t1:∀ (a b c:Value),zan (.tuple #[a,b,c]) 1=some b:=fun _ _ _=>rfl
 have t2:∀ (a b c:Value),zan (.tuple #[a,b,c]) 2=some c:=fun _ _ _=>rfl
 have u0:∀ (a b:Value),zan (.tuple #[a,b]) 0=some a:=fun _ _=>rfl
 have u1:∀ (a b:Value),zan (.tuple #[a,b]) 1=some b:=fun _ _=>rfl
 unfold zeT
 cases hpt:zfa (bl s) with
 | error e=>
   rw [hpt] at hp
   obtain ⟨s3,c3,x3⟩:=hp
   obtain ⟨s8,e8,a8,x8,n8⟩:=zaV (n:=2) (st:=s3) ((x02.trans x3).ll hl) (r:=Z2) (row:=[.int .i64 e.1,.int .i64 e.2]) (v:=zbs e) rfl rfl rfl rfl
   have e8':(s3.new (.cells [.int .i64 0,.int .i64 0] 0)).stV s3.next 0 2 (zbs e)=some s8:=e8
   have h4:¬ (4:Int)=0:=by decide
   have a28:=(a2.ext x3).ext x8
   have a38:=(a3.ext x3).ext x8
   have l9:s8.ldN s3.next 0 2=some (zbs e):=a8.ldN rfl
   have hne:zbJ (ptr s3.next 0) (ptr st.next 0)=true:=zcO (by have:=x3.next;omega)
   obtain ⟨s10,e10,a10,m10,n10⟩:=a28.sto (k:=0) (vs:=NN) (row':=NN) rfl rfl
   obtain ⟨s11,e11,a11,m11,n11⟩:=(a38.mod m10 (by simp)).stV (k:=0) (n:=2) (v:=zbs e) (vs:=[.int .i64 e.1,.int .i64 e.2]) rfl rfl rfl (row':=[.int .i64 e.1,.int .i64 e.2]) rfl
   have r1:=(a10.mod m11 (by simp)).rdN (n:=2) rfl
   have r2:=a11.rdN (n:=2) rfl
   refine ⟨s11,zdM _ st ?_,zaD (zaD ((x02.trans x3).trans x8) m10 (zlr _)) m11 (by omega)⟩
   simp only [zdT,hs2,hn1,c3,t0,t1,t2,zob,zaa,e8',zdf h4,znf,zct,l9,hne,e10,e11,r1,r2]
   rfl
 | ok xs=>
   rw [hpt] at hp
   obtain ⟨v,s3,c3,x3,items,hxs,hv,hrd⟩:=hp
   obtain ⟨hok,hlen⟩:=zlq hpt
   rw [zaQ] at hok hlen
   obtain ⟨s8,e8,a8,x8,n8⟩:=zaV (n:=2) (st:=s3) ((x02.trans x3).ll hl) (r:=Z2) (row:=Z2) (v:=zbs (0,0)) rfl rfl rfl rfl
   have e8':(s3.new (.cells [.int .i64 0,.int .i64 0] 0)).stV s3.next 0 2 (zbs (0,0))=some s8:=e8
   have h0:(0:Int)=0:=rfl
   have x08:=(x02.trans x3).trans x8
   have hl8:=x08.ll hl
   have hlen':(lenV v).bind (asI .i64)=some (items.length:Int):=by rw [hv.len];rfl
   have hil:items.length=xs.length:=by rw [← hxs,List.length_map]
   have hmp:((s8.new (.map [])).new (.cells (bldRow 0 s8.next (.slice none 0 0) (.slice none 0 0) (.slice none 0 0)) 0)).mem.get s8.next=some (.map []):=by
    rw [SS.new_old (by simp)];exact SS.new_get
   have hB0:Bld s8 ((s8.new (.map [])).new (.cells (bldRow 0 s8.next (.slice none 0 0) (.slice none 0 0) (.slice none 0 0)) 0)) (s8.next+2) (s8.next+1) s8.next (.slice none 0 0) (.slice none 0 0) (.slice none 0 0) zdL []:=
    ⟨((Ext.refl s8).new _).new _,hl8,At.new (st:=s8.new (.map [])) (by simp;omega) _,hmp,by omega,zlr _,by omega,by omega,by omega,by simp,Own.nil _ _ _,Own.nil _ _ _,Own.nil _ _ _,fun j hj=>(by cases hj),fun j hj=>(by cases hj),rfl,fun x hx=>(by cases hx)⟩
   have hb2:st.next+2≤s8.next:=by have:=x3.next;have:=x8.next;omega
   have hloop:=zxC (base:=st) (st0:=s8) (B:=s8.next+2) (b:=s8.next+1) (i:=s8.next) (M:=s.size+1) (by omega) items (by omega) (fun x hx=>hok x.1 (by rw [← hxs];exact List.mem_map_of_mem hx)) v (hv.ext x8) (fun x hx=>⟨(hrd x hx).1.ext x8,(hrd x hx).2.ext x8⟩) x08 hb2 ((a2.ext x3).ext x8) ((a3.ext x3).ext x8)
    items.length 0 zdL _ _ _ [] _ rfl hB0 (zi9 _) (by simp [zdL])
   rw [List.drop_zero,hxs] at hloop
   have b0:Nat.beq 0 0=true:=rfl
   have b1:Nat.beq 1 0=false:=rfl
   simp only
   cases hly:zeS zdL xs with
   | error e=>
     rw [hly] at hloop
     obtain ⟨s17,d1,d2,d3,d4⟩:=hloop
     have d1':zby 6 [ptr st.next 0,ptr (st.next+1) 0,ptr (s8.new (.map [])).next 0,v,.int .i64 items.length,.int .i64 0] ((s8.new (.map [])).new (.cells [.int .i64 0,.map (some s8.next),.slice none 0 0,.slice none 0 0,.slice none 0 0] 0))=_:=d1
     have r1:=d3.rdN (n:=2) rfl
     have r2:=d4.rdN (n:=2) rfl
     refine ⟨s17,zdM _ st ?_,d2⟩
     simp only [zdT,hs2,hn1,c3,t0,t1,t2,zob,zaa,e8',decide_true,znt,zcf,hlen']
     rw [d1',zob]
     simp only [b1,zcf,zgs,zgz,zob,zad,zaa,r1,r2]
     rfl
   | ok l=>
     rw [hly] at hloop
     obtain ⟨s17,vw,ve,vv,its,d1,hB⟩:=hloop
     have d1':zby 6 [ptr st.next 0,ptr (st.next+1) 0,ptr (s8.new (.map [])).next 0,v,.int .i64 items.length,.int .i64 0] ((s8.new (.map [])).new (.cells [.int .i64 0,.map (some s8.next),.slice none 0 0,.slice none 0 0,.slice none 0 0] 0))=_:=d1
     obtain ⟨hL,hen⟩:=zls xs zdL l (zi9 (s.size+1)) hok hly
     simp only [zdL,List.length_nil,Nat.zero_add] at hen
     have x017:=x08.trans hB.ext
     have hlay:=lay_ok hB hL (by omega) (by omega) (hg.ext x017)
     have a217:=((a2.ext x3).ext x8).ext hB.ext
     have a317:=((a3.ext x3).ext x8).ext hB.ext
     have hn17:st.next+2≤s17.next:=zlt hb2 hB.ext.next
     simp only
     cases hro:zgf l with
     | error e=>
       rw [hro] at hlay
       obtain ⟨s21,c21,x21,hne⟩:=hlay
       have hll21:=x21.ll (x017.ll hl)
       have y1:Ext s21 (s21.new (.cells NN 0)):=(Ext.refl _).new _
       have y2:Ext (s21.new (.cells NN 0)) ((s21.new (.cells NN 0)).new (.cells Z2 0)):=(Ext.refl _).new _
       have q1:At ((s21.new (.cells NN 0)).new (.cells Z2 0)) s21.next NN:=(At.new hll21 NN).ext y2
       have q2:At ((s21.new (.cells NN 0)).new (.cells Z2 0)) (s21.new (.cells NN 0)).next Z2:=At.new (st:=s21.new (.cells NN 0)) (y1.ll hll21) Z2
       have hnn:(s21.new (.cells NN 0)).next=s21.next+1:=rfl
       obtain ⟨s26,e26,a26,m26,n26⟩:=q1.stV (k:=0) (n:=2) (v:=zbW (.slice none 0 0) (.slice none 0 0)) (vs:=NN) rfl rfl rfl (row':=NN) rfl
       obtain ⟨s27,e27,a27,m27,n27⟩:=(q2.mod m26 (by simp)).stV (k:=0) (n:=2) (v:=zbs e) (vs:=[.int .i64 e.1,.int .i64 e.2]) rfl rfl rfl (row':=[.int .i64 e.1,.int .i64 e.2]) rfl
       have l28:s27.ldN (s21.new (.cells NN 0)).next 0 2=some (.agg #[.int .i64 e.1,.int .i64 e.2]):=a27.ldN rfl
       have heq:(decide ((e.1:Int)=0)&&(decide ((e.2:Int)=0)&&true))=false:=by
        rw [Bool.and_true,← Bool.decide_and,decide_eq_false_iff_not]
        exact fun hh=>hne (Prod.ext (by omega) (by omega))
       have x27:Ext s21 s27:=zaD (zaD (y1.trans y2) m26 (zlr _)) m27 (by simp)
       have xx27:=(x017.trans x21).trans x27
       have hp1:zbJ (ptr (s21.new (.cells NN 0)).next 0) (ptr st.next 0)=true:=zcO (by have:=x21.next;simp;omega)
       obtain ⟨s32,e32,a32,m32,n32⟩:=((a217.ext x21).ext x27).sto (k:=0) (vs:=NN) (row':=NN) rfl rfl
       obtain ⟨s34,e34,a34,m34,n34⟩:=(((a317.ext x21).ext x27).mod m32 (by simp)).stV (k:=0) (n:=2) (v:=.agg #[.int .i64 e.1,.int .i64 e.2]) (vs:=[.int .i64 e.1,.int .i64 e.2]) rfl rfl rfl (row':=[.int .i64 e.1,.int .i64 e.2]) rfl
       have r1:=(a32.mod m34 (by simp)).rdN (n:=2) rfl
       have r2:=a34.rdN (n:=2) rfl
       refine ⟨s34,zdM _ st ?_,zaD (zaD xx27 m32 (zlr _)) m34 (by omega)⟩
       simp only [zdT,hs2,hn1,c3,t0,t1,t2,zob,zaa,e8',decide_true,znt,zcf,hlen']
       rw [d1',zob]
       simp only [b0,zct,zgs,zgz,zob]
       rw [c21,zob]
       simp only [u0,u1,zob,e26,e27,l28,zqU,heq,znf,zai,zct,hp1,zad,e32,e34,r1,r2]
       rfl
     | ok y=>
       obtain ⟨ws,es⟩:=y
       rw [hro] at hlay
       obtain ⟨s21,wv,ev,c21,x21,o1,o2⟩:=hlay
       have hll21:=x21.ll (x017.ll hl)
       have w1:one wv=true:=(Own.cell o1).2
       have w2:one ev=true:=(Own.cell o2).2
       have y1:Ext s21 (s21.new (.cells NN 0)):=(Ext.refl _).new _
       have y2:Ext (s21.new (.cells NN 0)) ((s21.new (.cells NN 0)).new (.cells Z2 0)):=(Ext.refl _).new _
       have q1:At ((s21.new (.cells NN 0)).new (.cells Z2 0)) s21.next NN:=(At.new hll21 NN).ext y2
       have q2:At ((s21.new (.cells NN 0)).new (.cells Z2 0)) (s21.new (.cells NN 0)).next Z2:=At.new (st:=s21.new (.cells NN 0)) (y1.ll hll21) Z2
       obtain ⟨s26,e26,a26,m26,n26⟩:=q1.stV (k:=0) (n:=2) (v:=zbW wv ev) (vs:=[wv,ev]) rfl rfl (by simp [w1,w2]) (row':=[wv,ev]) rfl
       obtain ⟨s27,e27,a27,m27,n27⟩:=(q2.mod m26 (by simp)).stV (k:=0) (n:=2) (v:=zbs (0,0)) (vs:=Z2) rfl rfl rfl (row':=Z2) rfl
       have l28:s27.ldN (s21.new (.cells NN 0)).next 0 2=some (.agg #[.int .i64 0,.int .i64 0]):=a27.ldN rfl
       have heq:(decide ((0:Int)=0)&&(decide ((0:Int)=0)&&true))=true:=rfl
       have x27:Ext s21 s27:=zaD (zaD (y1.trans y2) m26 (zlr _)) m27 (by simp)
       have xx27:=(x017.trans x21).trans x27
       have l39:s27.ldN s21.next 0 2=some (.agg [wv,ev].toArray):=(a26.mod m27 (by simp)).ldN rfl
       obtain ⟨s41,e41,a41,m41,n41⟩:=((a217.ext x21).ext x27).stV (k:=0) (n:=2) (v:=.agg [wv,ev].toArray) (vs:=[wv,ev]) (zaG _) rfl (by simp [w1,w2]) (row':=[wv,ev]) rfl
       obtain ⟨s43,e43,a43,m43,n43⟩:=(((a317.ext x21).ext x27).mod m41 (by simp)).sto (k:=0) (vs:=Z2) (row':=Z2) rfl rfl
       have r1:=(a41.mod m43 (by simp)).rdN (n:=2) rfl
       have r2:=a43.rdN (n:=2) rfl
       have z1:∀ m,m∈[st.next]→m<s17.next:=by intro m hm;have e:m=st.next:=(by simpa using hm);omega
       have z2:∀ m,m∈[st.next+1]→m<s17.next:=by intro m hm;have e:m=st.next+1:=(by simpa using hm);omega
       refine ⟨s43,wv,ev,zdM _ st ?_,zaD (zaD xx27 m41 (zlr _)) m43 (by omega),(((o1.ext x27).modLt m41 z1).modLt m43 z2).low (by omega),(((o2.ext x27).modLt m41 z1).modLt m43 z2).low (by omega)⟩
       simp only [zdT,hs2,hn1,c3,t0,t1,t2,zob,zaa,e8',decide_true,znt,zcf,hlen']
       rw [d1',zob]
       simp only [b0,zct,zgs,zgz,zob]
       rw [c21,zob]
       simp only [u0,u1,zob,e26,e27,l28,zqU,heq,znt,zai,zcf,l39,zad,e41,e43,r1,r2]
       rfl
end Go.Proofs.YtcplfckncandkaaGreatDoorE
namespace Go.Proofs.YtcplfckncandkaaGreatDoorE
open Go Go.E Go.Proofs
def Free (L:List OL) (j:Nat):Prop:=∀ (k:Nat) (o:OL),L[k]?=some o→blkOf o.v≠some j
structure FrL (b:Nat) (st:SS) (L:List OL) (st':SS) (L':List OL):Prop where
 next:st.next≤st'.next
 lim:st'.lim=st.lim
 keep:∀ j,j<st.next→j≠b→Free L j→st'.mem.get j=st.mem.get j∧Free L' j
section
variable {b B : Nat} {st st' st'' : SS} {L L' L'' : List OL}
theorem FrL.trans (h:FrL b st L st' L') (k:FrL b st' L' st'' L''):FrL b st L st'' L'':=⟨zlt h.next k.next,k.lim.trans h.lim,fun j h1 h2 h3=>by
 obtain ⟨a,c⟩:=h.keep j h1 h2 h3
 obtain ⟨d,e⟩:=k.keep j (zll h1 h.next) h2 c
 exact ⟨d.trans a,e⟩⟩
theorem FrL.ext (x:Ext st st'):FrL b st L st' L:=⟨x.next,x.lim,fun j h1 _ h3=>⟨x.keep j h1,h3⟩⟩
theorem FrL.mod (m:Mod [b] st st'):FrL b st L st' L:=⟨m.next,m.lim,fun j h1 h2 h3=>⟨m.keep j h1 (by simpa using h2),h3⟩⟩
theorem Owns.free (h:Owns B st L) {j:Nat} (hj:j<B):Free L j:=fun k o ho e=>by have:=(zcz (h.own k o ho) e).1;omega
theorem FrL.at (f:FrL b st L st' L') {j:Nat} {row:List Value} (h:At st j row) (h1:j≠b) (h2:Free L j):At st' j row:=⟨(f.keep j h.lt h1 h2).1.trans h.1,zll h.lt f.next,by rw [f.lim];exact h.2.2⟩
theorem FrL.toExt {st0:SS} (f:FrL b st L st' L') (x:Ext st0 st) (hb:st0.next≤b) (ow:Owns B st L) (hB:st0.next≤B):Ext st0 st':=⟨zlt x.next f.next,f.lim.trans x.lim,fun j hj=>(f.keep j (zll hj x.next) (by omega) (ow.free (by omega))).1.trans (x.keep j hj)⟩
end
structure V6 where
 n:Value
 m:Value
 l:Value
 p:Value
 e:Value
 a:Value
def nmR (x:List UInt8×Int):List Value:=[.string (mkS x.1)]
def nuR (x:List UInt8×Int):List Value:=[.int .i64 x.2]
def lnR (x:WItem):List Value:=lnRow x.2
def plR (x:WItem):List Value:=[.int .i64 x.1]
def veR (x:Val×Nat×Nat):List Value:=valRow x.1
def LO (v:V6) (l:Lay) (its:List WItem):List OL:=[⟨v.n,rowsF nmR l.nms,1,l.nms.length⟩,⟨v.m,rowsF nuR l.nms,1,l.nms.length⟩,⟨v.l,rowsF lnR its,5,its.length⟩,⟨v.p,rowsF plR its,1,its.length⟩,⟨v.e,rowsF veR l.ents,3,l.ents.length⟩,⟨v.a,rowsF entRow l.ents,2,l.ents.length⟩]
def ldRow (v:V6) (pl:Nat):List Value:=[v.n,v.m,v.l,v.p,v.e,v.a,.int .i64 pl]
structure Rld (st0 st:SS) (B b:Nat) (v:V6) (l:Lay) (its:List WItem):Prop where
 ext:Ext st0 st
 ll:st0.lim≤st0.next
 row:At st b (ldRow v l.pl)
 b0:st0.next≤b
 bB:b<B
 BN:B≤st.next
 ow:Owns B st (LO v l its)
 wds:its.map (fun x=>(x.1,x.2.1))=l.wds
 itr:∀ x∈its,Rd st0 x.2.2.1 (rowsF valRow x.2.1.args) 3 x.2.1.args.length∧Rd st0 x.2.2.2 (rowsF prRow x.2.1.prs) 5 x.2.1.prs.length
section
variable {st0 st st' : SS} {B b : Nat} {v : V6} {l : Lay} {its : List WItem}
theorem Rld.then (h:Rld st0 st B b v l its) (x:Ext st st'):Rld st0 st' B b v l its:=
 { h with ext:=h.ext.trans x,row:=h.row.ext x,BN:=zlt h.BN x.next,ow:=h.ow.ext x }
theorem Rld.place (h:Rld st0 st B b v l its) (p:Nat):∃ st',st.st b 6 [.int .i64 p]=some st'∧Rld st0 st' B b v { l with pl:=p } its∧Mod [b] st st':=by
 obtain ⟨s',e,a,m,_⟩:=h.row.sto (k:=6) (vs:=[.int .i64 p]) (row':=ldRow v p) rfl rfl
 exact ⟨s',e,{ h with ext:=zaD h.ext m h.b0,row:=a,BN:=zlt h.BN m.next,ow:=h.ow.modLt m (by intro j hj;have e:j=b:=(by simpa using hj);have:=h.bB;omega) },m⟩
end
end Go.Proofs.YtcplfckncandkaaGreatDoorE
namespace Go.Proofs.YtcplfckncandkaaGreatDoorE
open Go Go.E Go.Proofs
def zha (k:Nat):Nat:=(zcF.drop k).sum
theorem zn2 {k:Nat} (h:k<12):zha k=zax k+zha (k+1)∧zha k≤64:=by
 have:∀ k,k<12→zha k=zax k+zha (k+1)∧zha k≤64:=by decide+kernel
 exact this k h
theorem zuZ {w:Wd} (hw:w.length=12):zee (zcF.drop 12) (w.drop 12)=0:=by
 rw [List.drop_of_length_le (l:=w) (by omega)]
 rfl
theorem zj7 {w:Wd} (hw:w.length=12) {k:Nat} (h:k<12):zee (zcF.drop k) (w.drop k)=w.getD k 0+2^zax k*zee (zcF.drop (k+1)) (w.drop (k+1)):=by
 rw [znT h,getD_drop (by omega)];rfl
theorem zlv {w:Wd} (hw:w.length=12) (hg:zc8 w=true):∀ (m k:Nat),12=m+k→∃ X:Nat,zee (zcF.drop k) (w.drop k)=X∧X<2^zha k
 | 0,k,h=>by
   have:k=12:=by omega
   subst this
   exact ⟨0,zuZ hw,Nat.two_pow_pos _⟩
 | m+1,k,h=>by
   obtain ⟨X,h1,h2⟩:=zlv hw hg m (k+1) (by omega)
   obtain ⟨p,hp,hlt⟩:=zj2 hg (k:=k) (by omega)
   have ht:=(zn2 (k:=k) (by omega)).1
   refine ⟨p+2^zax k*X,by rw [zj7 hw (by omega),h1,hp];push_cast;rfl,?_⟩
   rw [ht,Nat.pow_add]
   have h3:2^zax k*(X+1)≤2^zax k*2^zha (k+1):=Nat.mul_le_mul_left _ h2
   rw [Nat.mul_add,Nat.mul_one] at h3
   omega
theorem zpy {nms:Nms} {N:Nat}:∀ (xs:List (Nat×PLine)) (ws ws':List Wd),(∀ w∈ws,zhO w)→zbR nms N xs ws=.ok ws'→∀ w∈ws',zhO w
 | [],ws,ws',hw,h=>by cases h;exact hw
 | x::r,ws,ws',hw,h=>by
   unfold zbR at h
   split at h
   ·cases h
   ·split at h
    ·cases h
    ·refine zpy r _ ws' (fun w hm=>?_) h
     rcases List.mem_or_eq_of_mem_set hm with h1 | h1
     ·exact hw w h1
     ·rw [h1];exact zsd _ _
theorem zlw {t:List UInt8} {ws:List Wd} {es:List (List UInt8×Int)} (h:zeT t=.ok (ws,es)):(∀ w∈ws,zhO w)∧ws.length≤2048:=by
 unfold zeT at h
 cases hp:zfa t with
 | error z=>rw [hp] at h;cases h
 | ok xs=>
   rw [hp] at h
   simp only at h
   cases hl:zeS zdL xs with
   | error z=>rw [hl] at h;cases h
   | ok l=>
     rw [hl] at h
     obtain ⟨hok,hlen⟩:=zlq hp
     obtain ⟨hL,_⟩:=zls xs zdL l (zi9 _) hok hl
     simp only [zgf] at h
     cases hw:zbR l.nms (sizeT l) l.wds (List.replicate (sizeT l) zaE) with
     | error z=>rw [hw] at h;cases h
     | ok ws'=>
       rw [hw] at h
       simp only at h
       cases he:zdk l.nms (sizeT l) l.ents with
       | error z=>rw [he] at h;cases h
       | ok es'=>
         rw [he] at h
         cases h
         refine ⟨zpy _ _ _ (fun w hm=>by rw [List.eq_of_mem_replicate hm];exact zqS) hw,?_⟩
         rw [zeG _ _ _ hw,List.length_replicate]
         exact (zj5 hL).2
end Go.Proofs.YtcplfckncandkaaGreatDoorE
namespace Go.Proofs.YtcplfckncandkaaGreatDoorE
open Go Go.E Go.Proofs
def zaq (X k:Nat):Nat:=X/2^za9 k%2^zax k
def upTo (X k:Nat):Wd:=(List.range 12).map fun i=>if i<k then ((zaq X i:Nat):Int) else 0
def zb4 (X:Nat):Wd:=upTo X 12
theorem zj8 (X k:Nat):(upTo X k).length=12:=by simp [upTo]
theorem zu0 (X:Nat):upTo X 0=zaE:=by
 apply List.ext_getElem
 ·simp [upTo,zaE]
 ·intro i a b
  simp only [upTo,List.getElem_map,List.getElem_range,zaE,List.getElem_replicate,if_neg (Nat.not_lt_zero i)]
theorem zwA (X k:Nat) (hk:k<12):(upTo X k).set k (zaq X k:Int)=upTo X (k+1):=by
 apply List.ext_getElem
 ·simp [upTo]
 ·intro i a b
  rw [List.getElem_set]
  simp only [upTo,List.getElem_map,List.getElem_range]
  by_cases h:k=i
  ·subst h
   simp
  ·rw [if_neg h]
   by_cases h2:i<k
   ·rw [if_pos h2,if_pos (by omega)]
   ·rw [if_neg h2,if_neg (by omega)]
theorem andU64 {a s:Nat} (ha:a<2^64) (hs:s<64):zf0 .u64 (a:Int) ((2^s-1:Nat):Int)=((a%2^s:Nat):Int):=by
 have hp:2^s<2^64:=Nat.pow_lt_pow_right (by omega) hs
 have h0:0<2^s:=Nat.two_pow_pos s
 have hm:=Nat.mod_lt a h0
 unfold zf0
 have e:((BitVec.ofInt 64 (a:Int)&&& BitVec.ofInt 64 ((2^s-1:Nat):Int)).toNat:Nat)=a%2^s:=by
  rw [BitVec.toNat_and,BitVec.ofInt_natCast,BitVec.ofInt_natCast,BitVec.toNat_ofNat,BitVec.toNat_ofNat,Nat.mod_eq_of_lt ha,Nat.mod_eq_of_lt (by omega),Nat.and_two_pow_sub_one_eq_mod]
 show IntKind.wrap .u64 (((BitVec.ofInt 64 (a:Int)&&& BitVec.ofInt 64 ((2^s-1:Nat):Int)).toNat:Nat):Int)=_
 rw [e]
 exact zey (by omega) (by omega)
theorem shr64 {c s:Nat} (hs:s<64):(aI .shr .u64 (c:Int) (s:Int)).bind (asI .u64)=some ((c/2^s:Nat):Int):=by
 have hb:¬ ((s:Int)<0):=by omega
 have e:min ((s:Int)).toNat (IntKind.bits .u64)=s:=by
  show min ((s:Int)).toNat 64=s
  rw [Int.toNat_natCast];omega
 have e2:zok .u64 (c:Int) (s:Int)=((c/2^s:Nat):Int):=by
  unfold zok
  rw [e,show (2:Int)^s=((2^s:Nat):Int) by simp]
  rw [Int.fdiv_eq_ediv_of_nonneg _ (Int.natCast_nonneg _)]
  rfl
 simp only [aI,zdf hb,zcf,zob,zaa,e2]
theorem zwB [Sym] (X:Nat) (hX:X<2^64) (b j t2:Nat) (base:SS) (hg:Gd base) (hjb:j≠b) (hb2:t2≠b) (hbb:base.next≤b):∀ (m k:Nat) (s:SS),12=m+k→Ext base s→s.mem.get j=some (.cells (plRow b) 1)→j<s.next→At s b (wRow (upTo X k))→At s t2 Z12→
  ∃ s',Ext base s'∧zc7 3 [.int .u64 ((X/2^za9 k:Nat):Int),ptr t2 0,ptr b 0,.slice (some ⟨j,0,none⟩) 12 12,.int .i64 12,.int .i64 k] s=some (0,[ptr t2 0,ptr b 0],s')∧At s' b (wRow (zb4 X))∧At s' t2 Z12:=by
 intro m
 induction m with
 | zero=>
   intro k s hk he p1 hj ab at2
   have e:k=12:=by omega
   subst e
   have h:¬ (((12:Nat):Int))<12:=by omega
   refine ⟨s,he,zgv _ _ _ _ _ _ s ?_,ab,at2⟩
   simp only [zfG,zdf h,zcf]
 | succ m ih=>
   intro k s hk he p1 hj ab at2
   have gs:=hg.ext he
   have hk12:k<12:=by omega
   have h:(k:Int)<12:=by omega
   have l2:s.ld j (0+k*1)=some (ptr b k):=by rw [SS.ld_cells p1,show 0+k*1=k by omega,zk3 _ hk12]
   have l4:=zk2 gs hk12
   have hbk:=zgw k
   have hp11:2^zax k≤2^11:=Nat.pow_le_pow_right (by omega) hbk
   have h0:0<2^zax k:=Nat.two_pow_pos _
   have s5:(aI .shl .u64 1 (zax k:Int)).bind (asI .u64)=some ((2^zax k:Nat):Int):=by
    have:=shl64 (c:=1) (s:=zax k) (by omega) (by omega)
    simpa using this
   have w6:IntKind.wrap .u64 (((2^zax k:Nat):Int)-1)=((2^zax k-1:Nat):Int):=by
    rw [show ((2^zax k:Nat):Int)-1=((2^zax k-1:Nat):Int) by omega]
    exact zey (by omega) (by omega)
   have hXk:X/2^za9 k<2^64:=Nat.lt_of_le_of_lt (Nat.div_le_self _ _) hX
   have w7:=andU64 (a:=X/2^za9 k) (s:=zax k) hXk (by omega)
   have hup:X/2^za9 k%2^zax k=zaq X k:=rfl
   rw [hup] at w7
   have hul:zaq X k<2^11:=zll (Nat.mod_lt _ h0) hp11
   have w8:IntKind.wrap .i64 ((zaq X k:Nat):Int)=((zaq X k:Nat):Int):=wrap64 (by omega) (by omega)
   have s12:=shr64 (c:=X/2^za9 k) (s:=zax k) (by omega)
   have hdiv:X/2^za9 k/2^zax k=X/2^za9 (k+1):=by rw [Nat.div_div_eq_div_mul,← Nat.pow_add,← zk4 hk12]
   rw [hdiv] at s12
   obtain ⟨s11,e11,a11,m11,n11⟩:=ab.sto (k:=k) (vs:=[.int .i64 ((zaq X k:Nat):Int)]) (row':=wRow (upTo X (k+1))) rfl (by
    rw [znS (by rw [zbc,zj8];exact hk12),← zqL,zwA X k hk12])
   have hnl:zaj (ptr b k)=some (ptr b k):=rfl
   have hw1:=zaX (i:=k) (by omega)
   obtain ⟨s',f1,f2,f3⟩:=ih (k+1) s11 (by omega) (zaD he m11 hbb) (m11.get hj (by simpa using hjb) p1) (by rw [n11];exact hj) a11 (at2.mod m11 (by simpa using hb2))
   refine ⟨s',f1,zgv _ _ _ _ _ _ s ?_,f3⟩
   simp only [zfG,zdt h,zct,plS hk12,zob,l2,znQ hk12,l4,zaa,s5,w6,w7,w8,hnl,zad,e11,s12,hw1]
   exact f2
theorem zu1 [Sym] (X:Nat) (hX:X<2^64) (st:SS) (hg:Gd st):∃ n,st.next≤n∧cc 24 [.int .u64 X] st=some (wV (zb4 X),st.adv n):=by
 have x1:Ext (st.ro st.next) ((st.ro st.next).new (.cells Z12 0)):=(Ext.refl _).new _
 have x2:Ext ((st.ro st.next).new (.cells Z12 0)) (((st.ro st.next).new (.cells Z12 0)).new (.cells Z12 0)):=(Ext.refl _).new _
 have a1:At (((st.ro st.next).new (.cells Z12 0)).new (.cells Z12 0)) st.next Z12:=(At.new (st:=st.ro st.next) (zlr _) _).ext x2
 have a2:At (((st.ro st.next).new (.cells Z12 0)).new (.cells Z12 0)) (st.next+1) Z12:=At.new (st:=(st.ro st.next).new (.cells Z12 0)) (by simp) _
 have hn1:((st.ro st.next).new (.cells Z12 0)).next=st.next+1:=rfl
 have c3:=zii (st.next+1) (((st.ro st.next).new (.cells Z12 0)).new (.cells Z12 0))
 have x3:Ext (((st.ro st.next).new (.cells Z12 0)).new (.cells Z12 0)) ((((st.ro st.next).new (.cells Z12 0)).new (.cells Z12 0)).new (.cells (plRow (st.next+1)) 1)):=(Ext.refl _).new _
 have hpl:((((st.ro st.next).new (.cells Z12 0)).new (.cells Z12 0)).new (.cells (plRow (st.next+1)) 1)).mem.get (st.next+2)=some (.cells (plRow (st.next+1)) 1):=SS.new_get (st:=((st.ro st.next).new (.cells Z12 0)).new (.cells Z12 0))
 have hz:wRow (upTo X 0)=Z12:=by rw [zu0,zuM]
 obtain ⟨s',f1,f2,f3,f4⟩:=zwB X hX (st.next+1) (st.next+2) st.next (st.ro st.next) hg.ro (by omega) (by omega) (by simp) 12 0 _ rfl (x1.trans (x2.trans x3)) hpl (by simp) (by rw [hz];exact a2.ext x3) (a1.ext x3)
 have h0:X/2^za9 0=X:=by rw [show za9 0=0 from rfl,Nat.pow_zero,Nat.div_one]
 rw [h0] at f2
 have f2':zc7 3 [.int .u64 X,ptr st.next 0,ptr (st.next+1) 0,.slice (some ⟨(((st.ro st.next).new (.cells Z12 0)).new (.cells Z12 0)).next,0,none⟩) 12 12,.int .i64 12,.int .i64 0] ((((st.ro st.next).new (.cells Z12 0)).new (.cells Z12 0)).new (.cells (plRow (st.next+1)) 1))=_:=f2
 have hl:(zb4 X).length=12:=zj8 X 12
 have l9:s'.ldN (st.next+1) 0 12=some (wV (zb4 X)):=f3.ldN (by rw [zbc,hl])
 obtain ⟨s11,e11,a11,m11⟩:=At.setW f4 rfl (zb4 X) hl
 have r13:s11.rdN st.next 0 12=some (wV (zb4 X)):=a11.rdN (by rw [zbc,hl])
 have hle:(lenV (.slice (some ⟨(((st.ro st.next).new (.cells Z12 0)).new (.cells Z12 0)).next,0,none⟩) 12 12)).bind (asI .i64)=some 12:=rfl
 refine ⟨s11.next,by have:=f1.next;have:=m11.next;simp at*;omega,znM _ st ?_⟩
 simp only [zkZ,SS.ro_next,hn1,c3,zob,hle]
 rw [f2',zob]
 simp only [zgs,zgz,zob,zad,l9,e11,r13,flatV,zct]
theorem zqV {w:Wd} (h:zhO w) {X:Nat} (hX:zef w=X):zb4 X=w∧X<2^64:=by
 have key:∀ (m k:Nat),12=m+k→∃ Y:Nat,zee (zcF.drop (12-m)) (w.drop (12-m))=Y:=fun m k h'=>by
  obtain ⟨Y,h1,_⟩:=zlv h.1 h.2 m (12-m) (by omega)
  exact ⟨Y,h1⟩
 have hall:∀ k,k≤12→zee (zcF.drop k) (w.drop k)=((X/2^za9 k:Nat):Int):=by
  intro k
  induction k with
  | zero=>intro _;rw [show za9 0=0 from rfl,Nat.pow_zero,Nat.div_one];exact hX
  | succ k ih=>
    intro hk
    have h1:=ih (by omega)
    rw [zj7 h.1 (by omega)] at h1
    obtain ⟨Y,hY,_⟩:=zlv h.1 h.2 (12-(k+1)) (k+1) (by omega)
    obtain ⟨p,hp,hpl⟩:=zj2 h.2 (k:=k) (by omega)
    rw [hY] at h1 ⊢
    rw [hp] at h1
    have h2:p+2^zax k*Y=X/2^za9 k:=by
     have:((p+2^zax k*Y:Nat):Int)=((X/2^za9 k:Nat):Int):=by rw [← h1];push_cast;rfl
     omega
    have h3:X/2^za9 (k+1)=Y:=by
     rw [zk4 (by omega),Nat.pow_add,← Nat.div_div_eq_div_mul,← h2,Nat.add_comm,Nat.mul_add_div (Nat.two_pow_pos _),Nat.div_eq_of_lt hpl,Nat.add_zero]
    rw [h3]
 obtain ⟨Y,hY,hYl⟩:=zlv h.1 h.2 12 0 rfl
 have hXY:X=Y:=by
  have h1:zef w=(Y:Int):=hY
  omega
 have ht:zha 0≤64:=(zn2 (k:=0) (by omega)).2
 refine ⟨?_,by rw [hXY];exact zll hYl (Nat.pow_le_pow_right (by omega) ht)⟩
 apply List.ext_getElem
 ·rw [zb4,zj8,h.1]
 ·intro k a b
  have hk:k<12:=by rw [h.1] at b;exact b
  simp only [zb4,upTo,List.getElem_map,List.getElem_range,if_pos hk]
  have h1:=hall k (by omega)
  rw [zj7 h.1 hk] at h1
  obtain ⟨Z,hZ,_⟩:=zlv h.1 h.2 (12-(k+1)) (k+1) (by omega)
  obtain ⟨p,hp,hpl⟩:=zj2 h.2 hk
  rw [hZ,hp] at h1
  have h2:p+2^zax k*Z=X/2^za9 k:=by
   have:((p+2^zax k*Z:Nat):Int)=((X/2^za9 k:Nat):Int):=by rw [← h1];push_cast;rfl
   omega
  have h3:zaq X k=p:=by
   unfold zaq
   rw [← h2,Nat.add_mul_mod_self_left,Nat.mod_eq_of_lt hpl]
  have h4:w[k]=w.getD k 0:=by rw [List.getD_eq_getElem?_getD,zge b];rfl
  rw [h3,h4,hp]
theorem zk8 {w:Wd} (h:zhO w):∃ X:Nat,zef w=X:=by
 obtain ⟨Y,hY,_⟩:=zlv h.1 h.2 12 0 rfl
 exact ⟨Y,hY⟩
end Go.Proofs.YtcplfckncandkaaGreatDoorE
namespace Go.Proofs.YtcplfckncandkaaGreatDoorE.Uw
abbrev W:=List UInt8
def wg:W:=[10]
def wA:W:=[32]
def uQ:W:=[44]
def qJ:W:=[46]
def wq:W:=[48]
def wj:W:=[49]
def we:W:=[50]
def wi:W:=[51]
def wt:W:=[52]
def wz:W:=[53]
def yk:W:=[54]
def uc:W:=[55]
def uE:W:=[56]
def jE:W:=[57]
def uj:W:=[58]
def kA:W:=[59]
def yS:W:=[61]
def wh:W:=[97]
def wm:W:=[98]
def wn:W:=[99]
def ww:W:=[100]
def wk:W:=[101]
def ue:W:=[102]
def uI:W:=[103]
def yA:W:=[104]
def wP:W:=[105]
def jf:W:=[106]
def wU:W:=[107]
def wC:W:=[108]
def ut:W:=[109]
def wD:W:=[110]
def wE:W:=[111]
def wo:W:=[112]
def jR:W:=[113]
def wl:W:=[114]
def wa:W:=[115]
def wx:W:=[116]
def ug:W:=[117]
def wX:W:=[118]
def uC:W:=[119]
def um:W:=[120]
def yg:W:=[121]
def qA:W:=[122]
def ye:W:=wA++wh
def qH:W:=wA++wa
def kG:W:=yS++wC
def jH:W:=qA++wk
def kB:W:=wE++wD
def jJ:W:=ww++yS
def jc:W:=wP++jH
def jn:W:=qH++jc
def jI:W:=kB++uI
def jP:W:=jn++kG
def uJ:W:=jP++jI
def qL:W:=wC++ug
def jQ:W:=ye++qL
def jo:W:=jQ++yS
def yo:W:=wA++jJ
def wG:W:=uJ++wg
def uf:W:=ye++yS
def yT:W:=wP++wx
def jG:W:=qH++wk
def jS:W:=jG++jR
def uk:W:=jS++yS
def qK:W:=ut++wE
def qG:W:=qK++wX
def wB:W:=wG++jo
def qe:W:=wA++wx
def qI:W:=wA++wm
def ja:W:=qe++wE
def wY:W:=qI++yS
def ub:W:=ja++yS
def jp:W:=qG++uf
def uv:W:=yo++wx
def jg:W:=ut++wo
def jL:W:=wA++ut
def ju:W:=wC++yT
def jT:W:=wA++ju
def uU:W:=jT++yS
def wy:W:=uj++jo
def qR:W:=wA++wn
def jt:W:=kG++yT
def jK:W:=jt++uU
def jM:W:=uk++wn
def qO:W:=wk++ut
def km:W:=wl++wE
def wF:W:=wg++jo
def wO:W:=ye++jK
def jU:W:=jL++qO
def jq:W:=jU++yS
def uh:W:=uf++wx
def wT:W:=wY++wx
def uM:W:=jH++km
def uG:W:=yo++wl
def jV:W:=jM++jf
def jW:W:=jV++qR
def jd:W:=jW++kB
def ym:W:=ut++ww
def uY:W:=wB++jp
def uV:W:=wD++ww
def qW:W:=jd++jJ
def kj:W:=wa++yA
def jX:W:=uk++jf
def qU:W:=jX++jg
def wR:W:=yo++wX
def qc:W:=qU++ub
def kM:W:=wn++jg
def jN:W:=wn++yS
def uS:W:=wx++wk
def uK:W:=yo++uM
def uT:W:=wP++wa
def qS:W:=wk++wx
def yM:W:=wG++qW
def uq:W:=wG++jq
def ji:W:=uV++wg
def jr:W:=wo++ug
def jx:W:=wh++ww
def wW:W:=jx++ww
def kD:W:=wh++wC
def yC:W:=uK++yM
def jl:W:=jL++uT
def wS:W:=wl++wj
def yD:W:=wX++wq
def yh:W:=jl++jN
def wJ:W:=wF++jp
def wK:W:=wR++wh
def wM:W:=uG++wj
def jC:W:=wk++ji
def ya:W:=yo++ym
def wQ:W:=uk++jC
def ua:W:=wa++wx
def wH:W:=wy++jp
def yq:W:=uq++wm
def wI:W:=uv++wq
def ud:W:=kM++wn
def yJ:W:=wk++uI
def wL:W:=wT++wq
def jO:W:=wB++kj
def qM:W:=jn++yS
def kE:W:=wn++ub
def wN:W:=uJ++qc
def kI:W:=wl++wO
def wZ:W:=qA++ub
def jz:W:=wa++ug
def kF:W:=wh++wl
def qg:W:=jz++wm
def qP:W:=kD++wC
def jF:W:=wa++qS
def jk:W:=wE++uC
def qd:W:=wE++wl
def yy:W:=wY++wl
def jY:W:=qR++jN
def qF:W:=jY++jF
def yE:W:=yC++wD
def ki:W:=jr++wx
def ui:W:=uv++uc
def qZ:W:=qG++wn
def jm:W:=jk++wD
def un:W:=wg++qc
def uo:W:=wl++yJ
def qN:W:=wW++uh
def yz:W:=wY++wX
def je:W:=uC++wl
def uu:W:=uf++yD
def qx:W:=wC++wO
def yW:W:=wk++um
def uw:W:=wh++wx
def qV:W:=wD++wk
def kH:W:=wg++jq
def ka:W:=wk++wC
def ux:W:=uv++wt
def uy:W:=uh++yk
def uz:W:=wP++wD
def qT:W:=wo++wa
def uA:W:=uj++yh
def uB:W:=wl++wg
def jy:W:=wU++wa
def jZ:W:=jM++qP
def qE:W:=jZ++ub
def qr:W:=uf++wl
def uD:W:=wk++wD
def qD:W:=wg++qW
def kX:W:=wk++wa
def qj:W:=je++jI
def kJ:W:=qG++wO
def uF:W:=jO++kI
def uH:W:=qZ++wz
def ga:W:=wE++wE
def qB:W:=ga++jy
def qC:W:=uY++ym
def uL:W:=uY++wx
def qX:W:=uJ++qF
def uN:W:=uv++wi
def uO:W:=uY++wh
def qQ:W:=qA++um
def uP:W:=qg++uh
def uR:W:=wh++uV
def jh:W:=uj++jq
def uW:W:=qV++kF
def uX:W:=wB++qN
def uZ:W:=uv++wj
def yb:W:=wY++wS
def yc:W:=wT++wj
def yd:W:=wB++qd
def yf:W:=wE++wo
def jD:W:=yg++uS
def yi:W:=wz++wG
def yj:W:=uf++ym
def yp:W:=qT++wC
def yr:W:=wl++qS
def yu:W:=jr++kj
def qY:W:=uI++qS
def yv:W:=uS++wl
def jv:W:=wP++ue
def gb:W:=qM++wm
def yw:W:=gb++jD
def yx:W:=wk++wn
def yB:W:=wy++kj
def yF:W:=wB++kM
def yG:W:=uv++we
def yH:W:=jO++qx
def yI:W:=uG++wq
def yK:W:=wk++wl
def yL:W:=jh++jv
def gc:W:=yA++kD
def yN:W:=gc++wx
def gd:W:=ya++yq
def yO:W:=gd++ki
def yP:W:=uS++ua
def yQ:W:=wg++qE
def yR:W:=ya++qX
def yU:W:=wx++wl
def yV:W:=wn++yA
def js:W:=qD++ue
def yX:W:=qM++jm
def yY:W:=wj++yk
def yZ:W:=qI++jK
def kf:W:=uf++wX
def ge:W:=ue++qL
def gf:W:=ge++kj
def kg:W:=gf++wQ
def kh:W:=qe++yA
def jA:W:=jr++uS
def ko:W:=kH++wm
def kp:W:=wy++kM
def kq:W:=uh++wt
def kr:W:=uv++yk
def ku:W:=yE++kE
def kw:W:=we++wt
def kx:W:=uY++uM
def ky:W:=yy++wq
def gg:W:=qQ++uC
def kz:W:=gg++qr
def kC:W:=js++ub
def jB:W:=jA++ji
def kK:W:=qj++wF
def kL:W:=wP++wn
def gh:W:=yq++wC
def kN:W:=gh++ww
def kO:W:=qY++qC
def gi:W:=ue++wP
def gj:W:=gi++ka
def kP:W:=gj++ww
def kQ:W:=yC++kE
def kR:W:=yW++wx
def kS:W:=qG++kX
def kT:W:=wg++ud
def gm:W:=ja++kG
def kU:W:=gm++qB
def kV:W:=ww++wk
def kW:W:=wP++wC
def kY:W:=ww++jm
def kZ:W:=wl++wD
def qa:W:=wG++yh
def qh:W:=wJ++wx
def qi:W:=wj++wM
def qk:W:=wF++kJ
def ql:W:=qc++jB
def qm:W:=yz++wj
def qn:W:=wt++wK
def qo:W:=uY++wX
def qp:W:=wY++yD
def qq:W:=wT++wi
def qt:W:=wT++we
def qu:W:=ug++wD
def qy:W:=uG++we
def qz:W:=uG++wi
end Go.Proofs.YtcplfckncandkaaGreatDoorE.Uw
namespace Go.Proofs.YtcplfckncandkaaGreatDoorE
open Uw
def ucS0:List UInt8:=[kA,ye,wD,wA,uz,ua,wl,ug,wn,wx,wP,kB,qI,yJ,uz,wa,uj,wA,yT,wa,qR,wE,kV,uQ,wA,yT,wa,wA,yf,yK,uR,wa,uQ,wA,yT,wa,qR,wC,wh,wa,wa,wg,qJ,uD,yU,yg,wA,ue,qS,yV,wg,qJ,uD,yU,yg,wA,yf,yK,wh,ji,qJ,uD,yU,yg,qI,wl,wh,wD,yV,wg,qJ,uD,yU,yg,wA,ue,wh,ug,wC,wx,wg,qJ,uD,yU,yg,wA,uz,yv,wl,ug,wo,wx,wg,ue,qS,yV,yL,yw,wg,yh,ww,yx,wE,kV,kC,kW,wC,yJ,kD,js,wo,ww,ub,wh,uI,wh,uz,wg,uk,wa,wo,wk,kE,yW,yx,wg,wh,uI,wh,uz,wH,ua,kF,wx,wM,yi,uk,wa,wo,wk,kE,wa,uS,qT,wg,kW,wC,yJ,kD,uA,wl,wh,uT,wk,uU,wq,um,wj,wq,wQ,yf,yK,uR,yL,yw,wg,uk,qK,kV,ub,qK,ww,kX,wg,wm,wl,wh,wD,yV,yL,yX,wF,wa,um,wE,yj,wR,wn,uJ,uk,wa,wo,wk,kE,yW,yx,wg,qJ,kD,wP,uI,wD,wA,yY,wg,qK,ww,kX,uj,qU,ja,jt,yK,kD,un,wP,uV,yW,wk,ww,un,uo,uT,yv,un,kV,ue,yK,wl,wk,ww,un,kY,un,ug,wo,un,ug,wo,uw,un,qV,wh,wS,un,qV,wh,wS,uw,un,uW,we,un,uW,we,uw,un,uW,wt,un,uW,wt,uw,un,wD,jk,un,wh,wm,wa,wE,qL,uS,wg,yh,wl,wh,uT,wk,uU,wq,um,wj,wn,wQ,ju,yK,kD,wy,uR,yj,yZ,yk,wi,wR,wn,yw,uk,wa,wo,wk,kE,yW,yx,wg,wP,uV,yW,wk,ww,uj,jl,wn,kG,uw,yV,um,kH,jv,yw,wg,uk,qK,kV,ub,qK,ww,kX,wg,uo,uT,yv,uj,jl,wn,kG,uw,yV,wU,wJ,kZ,wR,wn,yX,uk,wa,wo,wk,kE,yW,yx,wg,kV,ue,yK,wl,wk,ww,wH,kZ,wK,wN,wW,uB,kY,wy,wD,yJ,uf,wE,wa,jc,wI,qa,wa,uS,wo,uh,wq,wJ,kZ,wK,wN,wW,uB,ug,wo,wH,kZ,wK,qa,wa,uS,wo,uf,wE,wa,jc,qc,wW,uB,ug,wo,uw,wH,kZ,wK,qa,wa,uS,wo,wO,wt,kH,wl,ww,qC,wK,wN,wW,uB,qV,wh,wS,yL,yw,wF,wa,um,wm,yj,wI,wN,uW,wg,uW,we,yL,qM,uC,qd,ww,wF,wa,um,uC,yj,wI,wN,uW,wg,uW,wt,yL,qC,wI,wG,uW,wy,qN,wq,yy,wD,wK,wN,wW,uB,qV,wh,wS,uw,yL,yw,wF,wa,um,wm,yj,wI,wN,uW,uw,wg,uW,we,uw,yL,qM,uC,qd,ww,wF,wa,um,uC,yj,wI,wN,uW,uw,wg,uW,wt,uw,yL,qC,wI,wG,uW,uw,wy,qN,wq,yy,wD,wK,uq,wl,ww,qC,wK,wN,wW,uB,wD,jk,yL,yX,wJ,ym,wR,wn,uJ,uk,wa,wo,wk,kE,yW,yx,wg,wh,wm,wa,wE,qL,uS,yL,qC,wK,wG,wW,wl,uj,qW,wD,wE,wP,uV,yW,ub,wW,wl,we,wF,ut,ug,wC,uf,wE,wa,jc,yy,um,wI,uX,wq,yz,wh,wK,wG,wW,wl,we,wH,wX,wh,yo,wh,wn,yM,wD,qd,wk,jx,wa,ub,ww,kB,wk,kH,wl,ww,yX,wJ,ym,wR,wn,wG,ww,kB,wk,uj,uk,wa,wo,wk,kE,yW,yx,wg].flatten
def ucS1:List UInt8:=[kA,wA,ue,wh,ug,wC,wx,wa,uQ,qe,wl,wh,qT,ye,uV,wA,uz,yv,wl,ug,wo,wx,wa,uj,ye,wA,yA,uR,wC,yK,wA,uT,wA,uI,kB,wk,ja,wg,ue,wh,ug,wC,wx,uA,ug,uV,wE,wJ,ua,kF,wx,wM,yi,yU,wh,wo,yB,kI,yY,wY,yp,wI,wB,uR,uh,wq,yZ,wi,wj,wA,ww,kG,wk,wX,ka,wG,uz,yv,wl,ug,wo,wx,wy,wW,kf,yx,wY,wa,wn,wm,wm,wK,uq,wl,ww,wo,yM,ue,ub,yN,wi,wF,uR,yj,yZ,wi,uJ,uK,qD,wD,wZ,yN,wt,wJ,ym,wI,yq,wn,wC,wl,wF,uR,uf,wD,wo,yZ,we,yC,wZ,uD,uS,wS,wJ,wo,wj,yO,wG,uD,uS,wS,wy,yP,uf,wD,wo,yC,wZ,uD,yv,we,wJ,wo,wq,yO,wG,uD,yv,we,wH,wS,wz,yO,uY,yp,yO,wB,qg,uf,wn,wD,wx,wY,jy,wo,wK,uq,wU,ua,kC,yN,we,wJ,wX,wh,uZ,qa,uD,yv,qh,qi,wt,uL,wq,wM,wz,uq,kg,yN,we,uA,yN,uU,we,wQ,yN,wi,uA,yN,uU,wi,wQ,yN,wt,uA,yN,uU,wt,wQ,qj,uA,wl,wh,uT,wk,uU,wq,um,wj,uE,wQ,ww,wP,wX,wP,kV,wy,kJ,we,yo,wo,wq,qa,wo,kF,wh,ut,wa,uU,wj,qk,wq,um,wi,wt,wR,yx,wN,yU,wh,wo,wg,yV,ut,wU,wy,wa,um,uC,uu,yo,wo,wq,qa,wo,kF,wh,ut,wa,uU,wj,qk,wq,um,wt,wq,wR,yx,wN,yU,wh,wo,wg].flatten
def ucS2:List UInt8:=[kA,wA,wl,wk,jz,wC,wx,wa,uQ,ye,uV,wA,uC,yA,uw,wA,yA,wh,wa,kh,qO,wg,ki,uA,jm,wC,wh,ua,wg,jd,ww,kG,wh,ua,uo,ub,ki,uo,wJ,kD,wK,uq,je,yX,wg,uk,yr,wg,ki,uo,wH,ym,yo,wU,wC,yX,uk,yr,wg,jA,uV,uj,qE,ki,wg,wD,yf,uj,wQ,kB,wk,wy,yf,uu,wY,uM,ya,yX,qF,ql,wx,uC,wE,wy,yf,uu,qm,ya,yX,qF,yQ,ki,qD,ww,wP,wX,ub,ww,wP,wX,wP,kV,wg,wQ,wx,ua,wy,yf,uu,wY,uM,uK,yX,qF,wQ,wo,wh,wP,wl,wy,yf,uu,qm,uK,yX,qF,wQ,wn,wX,wx,wy,wn,wX,wx,uu,yR,ql,qG,wh,wH,wh,wq,yR,ql,wh,kj,wy,wh,kj,uu,qm,yR,ql,km,wx,wy,km,wx,uu,qm,yR,ql,qG,yp,wH,yp,ya,wN,jB,yu,wy,qg,wO,wt,yb,qn,uq,je,qo,wh,wM,wt,uJ,uk,yr,wg,yu,wh,wH,wh,wq,yR,qc,yu,jC,yu,wC,wH,yD,yR,wg,yu,wk,uV,uj,qE,yu,wg,wQ,wm,uT,yB,kI,wt,qp,yE,wZ,kK,qd,uu,wY,yp,yo,yp,uJ,wQ,wm,kL,yB,kI,wt,qp,yE,wZ,kK,wm,kL,uu,wY,yp,yo,yp,uJ,wQ,ut,wx,wo,wl,uA,ut,wx,wo,wl,uu,qm,kC,qj,wJ,yD,uK,qX,kH,kg,ut,ue,wo,wl,uA,ut,ue,wo,wl,uu,kC,qj,wJ,ym,yR,ql].flatten
def ucS3:List UInt8:=[kA,wA,ka,wa,wk,uC,yA,yK,wk,wg,yN,uj,qW,ug,wa,yK,ub,kW,wC,yJ,kD,wg,yh,yN,uU,wj,wQ,wm,wo,wx,uA,wl,wh,uT,wk,uU,wq,um,we,wn,wQ,wm,wl,wy,wW,uf,ww,uT,wo,yb,wz,wM,wz,uq,kg,wm,wn,wn,uj,qW,wx,wh,wU,uD,ub,wm,uB,wQ,wm,wa,wm,wH,wS,wz,ya,wG,qE,yu,un,wm,uB,jf,wa,wm,wH,wS,wz,ya,wG,qE,yu,wg,jf,ug,jg,wH,wh,wq,wM,wz,uq,kg,wl,wa,wm,wH,wS,qn,uq,wl,ww,wB,wW,wO,wt,yb,wt,wM,wt,qC,wM,wz,uq,kg,wm,wC,wm,wy,uR,wO,wj,qp,yC,ut,uw,yV,ub,wm,uB,wQ,wh,wE,wm,wy,uz,wn,kf,wj,yR,wU,yQ,ki,wF,kM,yj,qp,uK,wG,jd,ww,kG,kX,wa,wh,qL,ub,wm,uB,wQ,wa,wE,wm,wy,ww,yx,uu,yR,wU,yQ,ki,wF,kM,uf,uM,wY,ym,uK,wG,jd,ww,kG,kX,wa,wh,qL,ub,wm,uB,wQ,wl,wk,wP,wH,wS,qn,wB,kJ,uE,ui,kN,ko,kO,wI,yq,qY,qa,wm,wh,wn,wU,yj,kC,kK,wW,wO,uE,yb,wt,wM,wt,qa,ki,yp,yj,qh,wq,wM,wz,uq,kg].flatten
def ucS4:List UInt8:=[kA,wA,kP,wa,uj,wA,wo,wE,wa,yT,wP,kB,qe,wq,uQ,jn,qe,wj,uQ,ye,ww,ww,wl,kX,wa,qe,we,uQ,wA,qd,kh,wk,wA,uo,uT,yv,wA,kZ,kA,kh,wk,wA,km,uC,uQ,wA,yT,wa,qI,yT,qe,wt,uQ,wA,yT,wa,wA,wo,wC,wh,wn,wk,wA,wX,wh,uQ,wA,yT,wa,qI,jD,wa,qe,uc,wg,kP,uo,kp,wO,wi,wj,wL,kQ,kK,qN,wq,yc,uN,yF,wO,wi,we,qq,kQ,qj,kH,km,uC,wh,qr,wD,qh,wq,ux,uJ,uk,yr,wg,kP,ut,qO,wy,wh,kj,wO,wq,um,ue,ww,wL,uN,uX,wi,qt,wK,wB,uR,uh,wq,yZ,uc,ux,uX,wt,yc,ui,wB,wW,wO,uc,wT,uc,ui,uF,wi,wT,uc,ui,kN,kH,km,uC,uk,yr,wg,wm,wm,wH,yD,wI,wB,kJ,wj,uZ,uO,wj,yG,yM,wU,wj,ub,wm,wm,uo,yQ,kP,ut,qO,wg,wm,wm,uI,wE,wy,kR,kq,yc,yC,ut,uw,yV,ub,wm,uB,wQ,wm,wm,uo,uA,wa,ka,wU,uU,wj,yQ,kP,uo,un,wm,wm,uI,wE,wg,kR,kp,wO,wi,we,qm,kQ,qj,wJ,yD,wI,uO,we,yG,qo,wj,uZ,yM,wZ,kR,uM,qD,wU,we,ub,kR,uo,yQ,kP,ut,qO,wg,kR,uI,wE,wy,kR,kq,yc,yR,ql,kR,uo,uA,wa,ka,wU,uU,we,yQ,kP,uo,un,kR,uI,wE,wg,kR,uM,wy,yP,uf,uM,yR,ql,uz,wa,kp,wO,wi,we,yz,we,kQ,qj,wJ,wX,wj,wI,uO,wi,yG,qo,we,uZ,yM,wZ,wD,yf,qD,wU,wi,ub,uz,wa,uo,yQ,kP,ut,qO,wJ,yD,ya,wB,uz,wa,kq,yc,uK,uq,qu,km,uC,ko,ua,wQ,uz,wa,uo,uA,wa,ka,wU,uU,wi,yQ,kP,uo,wJ,yD,ya,wB,uz,wa,kq,yc,uG,wD,uJ,wQ].flatten
def ucS5:List UInt8:=[kA,wA,wo,km,wn,wk,ww,ug,wl,kX,uQ,ye,uV,wA,uo,uT,yv,wa,wA,kB,kh,wk,qH,wx,wh,wn,wU,wg,wn,qP,wa,wH,wh,wj,wK,uq,wl,ww,qM,uC,qd,ww,wJ,ym,wI,uF,wj,we,wL,uZ,wB,uR,uh,wj,yZ,wi,yE,wZ,kK,qg,wO,wt,yb,wt,uZ,uL,wj,wK,wB,kJ,wt,ui,uq,wo,km,wm,wk,ko,wn,wC,wl,wJ,uM,yO,yH,wi,wq,yc,yG,yH,we,wq,wL,uN,uF,wt,qq,uN,yd,uh,we,qq,yG,wB,kJ,wj,ux,yH,we,jE,wT,wt,ux,yd,kq,qt,yO,uY,wS,we,yO,uY,wS,wi,yO,uY,wS,wz,yO,yH,we,wq,wL,uv,wz,uF,we,wq,wT,wz,uv,yi,wn,qP,wa,wj,uA,wo,kL,wU,kC,wn,qP,wa,we,wg,yh,wa,ka,uy,wJ,kZ,yO,wN,wn,qP,wa,wj,wg,wn,qP,wa,we,wy,wm,kL,wO,wi,yc,yG,wB,qg,uf,wn,wD,wx,qt,uN,uL,wi,wK,uY,wn,wD,wx,ui,uq,wo,km,wm,wk,qh,wj,wK,uY,yD,ya,uq,je,uL,wi,wK,yq,ua,qh,wi,wM,wt,uL,wi,wM,wi,uL,qi,we,wB,wW,wO,we,wY,wh,qi,wz,wB,wm,kL,wO,wj,wz,wY,yp,yo,yp,uq,kg,yr,wH,wS,wi,wK,wB,kJ,we,wq,ui,kN,ko,qY,yq,kO,wI,uF,wt,wL,uZ,yH,we,wq,yc,yE,wZ,kK,kj,kI,we,uE,wL,uZ,wB,uR,uh,wj,yZ,wj,yE,wZ,qj,ko,kO,uZ,yq,kO,yG,yq,kO,uN,yH,wt,wL,uv,wz,uF,we,wq,wT,wz,uv,yi,yh,wn,wE,qu,wx,wF,wW,wO,we,wq,yb,wi,wK,kN,wF,qN,uc,yz,wh,wK,uF,wi,wq,wL,ux,uX,wt,yz,wh,wK,uF,we,jE,wL,ux,wB,uR,kq,yZ,wj,yC,wZ,yr,wj,kH,wl,ww,wB,qQ,wm,yj,ya,yH,we,wY,ym,ya,wB,wW,wO,wt,wY,ym,ya,wB,wW,yj,yz,wh,wK,wG,yr,wj,uA,wo,kL,wU,kC,yr,we,wg,yh,wa,ka,uy,ko,kO,uG,wD,wN,yr,wj,wg,yr,we,wH,wx,qi,we,uL,we,wM,wi,qo,wh,wM,wt,uL,wi,wM,wz,wB,wm,kL,wO,wj,wz,wY,yp,ux,wB,uR,uh,wq,yZ,wj,wz,kr,yd,kq,wT,yk,yo,yp,uq,kg,yu,wl,yB,qx,wj,uc,qp,uv,wz,uF,wj,uc,wT,wz,uv,wz,yq,wn,wC,uB,yu,wS,uA,wo,kL,wU,kC,yu,wl,we,wg,yh,wa,ka,uy,wJ,kZ,yO,wN,yu,wS,wg,yu,wl,we,wy,qg,uf,wn,wD,wx,yb,qn,yq,ua,wJ,wX,wh,wM,wt,uJ,wQ,wo,yf,wl,yB,qx,wj,uc,qp,uv,wz,uF,wj,uc,wT,wz,uv,yi,yh,wn,wE,qu,wx,wJ,wS,qn,kN,wF,qN,uc,yb,wt,wM,wt,wG,wo,yf,wS,uA,wo,kL,wU,kC,wD,yf,wg,yh,wa,ka,uy,ko,kO,uG,wD,wN,wo,yf,wS,wg].flatten
def ucS6:List UInt8:=[kA,qH,yU,uz,uI,wa,kh,uw,wA,qG,wk,uj,kh,wk,wP,wl,wA,uo,uT,yv,wa,uQ,ye,uV,kh,wk,wP,wl,qH,uS,qT,wg,kY,wa,wH,uM,uZ,wB,uP,wt,wT,wz,yG,yM,wZ,kY,wa,wj,wF,kM,uh,we,qq,ku,kY,wa,wj,qk,wj,uZ,wG,kY,wa,wj,uj,uk,yr,wg,qZ,wi,wH,yD,uN,uO,wj,ux,uO,we,uv,yi,qE,kY,wa,wF,kj,qx,kw,wY,kW,uD,wI,yd,uu,wL,yI,uO,qi,uY,yD,qy,uO,we,qz,uL,wj,uG,wt,kx,uG,yi,wm,yJ,qu,wH,ua,kF,wx,wM,yi,yh,jF,ue,wo,ww,wg,ua,wh,yg,jh,kg,uH,wH,yD,uN,yF,kf,wi,qp,ku,uH,wh,wJ,wX,wi,uN,wG,uH,wh,wH,wh,wj,ux,uO,wt,uv,yi,qE,kY,wa,wF,kj,qx,kw,wY,kW,uD,wI,yH,yY,yz,we,kr,yd,uy,wL,wI,yd,uh,wi,wL,yI,uO,qi,yH,yY,yz,wi,kr,yd,uu,wT,yk,qy,uO,wt,qz,uL,wj,uG,wt,wB,uP,wi,yz,wi,uG,wz,wN,wm,yJ,qu,wg,kS,wH,wx,wq,ui,yF,wO,uE,wL,ku,kS,wj,qk,uE,ui,wG,kS,wj,wy,uR,qr,wt,yZ,wj,yE,wZ,kS,we,wF,uP,wq,qq,ux,wN,kS,wi,wg,kS,we,wy,uP,uc,wL,ux,wG,kS,wi,wy,wW,uf,wS,wT,qn,kN,wF,wW,qr,wi,wT,qn,yq,ua,wF,uP,uc,ky,yI,uJ,uk,yr,wg,qZ,wi,wa,wy,kz,wq,wI,wB,kz,we,uN,yF,uh,wi,wL,kQ,kK,yP,uh,wq,yC,wZ,qZ,wi,wk,yQ,kS,wF,kz,wq,wI,yM,wD,wZ,ua,wh,yg,wg,qZ,wi,wk,yB,kI,kw,ky,ui,kx,yI,uX,wi,yb,wM,kx,qy,uX,wi,yy,wi,qz,kx,uG,wt,kx,uG,wz,wB,yP,uf,uM,uK,qX,wg,wE,wX,yK,wy,wW,uf,ua,kF,wx,wT,uc,wM,yi,yh,wn,wC,wl,ue,wo,ww,kH,kg,uH,wa,wy,kz,wq,wI,wB,kz,we,uZ,uF,yY,yy,we,yG,uL,wj,uN,yF,uh,we,yc,ku,uH,wm,qh,we,uN,wG,uH,wm,kp,uh,wi,wL,kQ,kK,uP,wi,qt,kr,yF,uy,yy,wz,kQ,kK,yP,uh,wq,yC,wZ,uH,ue,yQ,kS,un,uH,wn,wg,uH,ue,wH,wl,wz,ui,yM,wZ,uH,wk,wF,kM,wO,uE,wT,uc,ku,uH,uI,qk,uE,ui,wG,uH,uI,wy,wW,qr,wi,qt,ux,wB,qg,qr,wz,wT,qn,uF,yY,ky,ux,wB,qQ,wm,kq,ya,uL,uc,ux,yq,wn,wC,uB,uH,yA,jh,wm,ki,yw,wF,ww,yx,kq,ux,yM,wD,wZ,uH,yA,ko,ua,wF,uP,uc,yy,wz,uG,yi,uH,wn,wy,kz,wq,wI,yM,wD,wZ,ua,wh,yg,wF,yP,qr,wz,yE,wZ,ua,wh,yg,wg,uH,wk,yB,kI,kw,ky,ui,wB,uP,wi,yc,yI,uX,wi,yb,wM,kx,qy,uX,we,yy,wi,qz,kx,uG,wt,kx,uG,wz,yF,uh,wj,qt,uK,qM,uC,qd,ww,qF,qc,wE,wX,wk,uB].flatten
def ucS7:List UInt8:=[kA,qH,yU,uz,uI,wa,kh,uw,ye,wl,wk,qR,wE,jg,kF,wk,ww,uQ,ye,uV,jG,kF,yV,wk,ww,uj,kh,wk,wP,wl,wA,uo,uT,yv,wa,uQ,ye,uV,kh,wk,wP,wl,qH,uS,qT,kT,wi,yB,qx,kw,wY,kW,uD,wI,yd,uu,wL,yI,uO,qi,kx,qy,uO,we,qz,wN,wm,yJ,qu,kT,wz,yB,qx,kw,wY,kW,uD,wI,yH,yY,yz,we,kr,yd,uy,wL,wI,yd,uu,wL,yI,uO,qi,qo,wi,qy,uO,wt,qz,wN,wm,yJ,qu,wg,wC,wE,wn,wn,yB,qx,kw,wY,kW,uD,wI,yH,yY,qp,kr,yd,uy,wL,wI,yd,kf,wj,wL,yI,uO,we,wM,wN,wm,yJ,qu,kT,wi,wa,wy,kz,wq,uZ,kx,wR,wz,wN,ud,kT,wz,wa,wy,kz,we,uZ,wB,kJ,wj,wR,yi,ud,wy,kz,wq,wI,uF,yY,ky,wR,we,wB,qQ,wm,kf,we,wR,we,uL,wq,yG,yF,wO,uE,wL,ku,ud,wh,qk,uE,yG,wG,ud,wh,wH,wx,wj,uN,yF,wO,uE,yc,ku,ud,wm,qk,uE,uN,wG,ud,wm,wH,wx,we,ui,uY,wS,wK,kN,ko,kO,ux,yq,kO,uv,wz,uL,wi,ui,uY,wl,wi,wK,kN,wJ,uM,kr,wG,ud,yA,kp,uy,qt,kQ,ud,um,wJ,wX,we,wR,wq,yF,uy,qq,kQ,ud,qA,un,ud,wa,kT,um,wy,qQ,wm,kq,wR,wq,uF,uE,wT,wt,ux,yH,kw,wT,wz,ui,yd,uh,uc,wT,wt,ux,uF,uE,wT,wz,uv,wz,qo,we,wR,wj,yF,uy,qq,ku,ud,wx,kT,qA,jh,wm,qY,yw,wJ,ym,wR,wj,wG,ud,wx,kp,uu,qm,uK,yw,qD,wD,wZ,ud,ww,wF,uz,wn,uy,kr,wN,ud,yA,kT,wa,wy,uP,we,wL,wR,wi,wB,uP,wi,yc,wR,wt,yd,kf,wi,yz,wt,yC,wZ,ud,wk,wF,uP,we,ky,yI,uX,we,yb,wM,uX,wi,yy,wi,qz,wB,yP,kf,wz,yC,wZ,ua,wh,yg,wF,uP,wi,yy,we,qy,wN,ua,wh,yg,kT,wk,wy,yP,uf,uM,uK,qX,qc,ud,ue,kT,ww,kp,uu,qm,uK,yw,qF,wF,kM,uy,qt,ku,ud,wU,qh,yk,yG,wG,ud,wU,kp,uy,qq,ku,ud,wC,qh,yk,uN,wG,ud,wC,wy,uP,we,wL,wR,wi,wB,uP,wi,yc,wR,wt,wG,ud,ue,yB,kI,kw,ky,ui,qo,wi,yI,uX,we,yb,wM,qo,wt,qy,uX,wi,yy,wi,qz,wN,wE,wX,wk,uB,wC,wE,wn,wn,wa,wy,kJ,wj,wR,wz,uJ,qU,kU,wg,wa,wU,wo,wn,wa,wH,uM,wR,yi,wC,qB,wy,kz,wq,wI,uF,yY,ky,wR,we,wB,qQ,wm,kf,we,wR,we,uL,wq,ui,yF,wO,uE,wL,yE,wn,kU,wj,qk,uE,ui,wG,wC,qB,wj,wH,wS,wK,kN,wJ,uM,kr,wG,wC,qB,we,kp,uy,wT,uc,yE,wn,kU,wz,ko,qY,yw,wF,kM,yj,yz,we,uK,yw,qD,qA,kU,wi,wF,yP,kf,wz,yC,qA,kU,yk,wg,qU,kU,wt,wg,wC,qB,wi,wy,yP,kf,wz,yE,qA,kU,yk,wg,wC,qB,wt,wy,uz,wn,uy,kr,uJ,qU,kU,we,wg,wC,qB,wz,kp,uy,wL,yE,wn,kU,yk,wF,uP,uc,ky,yI,uX,uc,yb,wM,wN,ua,wh,yg,wg,wC,qB,yk,yB,kI,kw,ky,ui,wB,qg,uy,wL,yI,uX,yk,yb,wM,wB,yP,qr,wq,uK,qX,qc,wE,wX,wk,uB].flatten
end Go.Proofs.YtcplfckncandkaaGreatDoorE
namespace Go.Proofs.YtcplfckncandkaaGreatDoorE
set_option maxRecDepth 100000
open Go Go.E Go.Proofs
def zcJ:List UInt8:=[105,108,108,101,103,97,108]
def zcH:List UInt8:=[32,115,101,113,61,106,109,112,32,116,111,61]
def zgg (from0:Nat) (labels:List (List UInt8)):Nat→Nat→List UInt8
 | 0,_=>[]
 | k+1,i=>(zcH++(if from0≤i∧i-from0<labels.length then labels.getD (i-from0) [] else zcJ)++[10])++zgg from0 labels k (i+1)
def zfL (name:List UInt8) (from0:Nat) (labels:List (List UInt8)):List UInt8:=name++[58]++zgg from0 labels 64 0
def zcQ:List (List UInt8):=[[105,108,108,101,103,97,108],[104,97,108,116],[110,111,112],[114,101,105],[98,112,116],[114,101,116],[114,115,98],[98,115,98],[98,114],[98,99,99],[106,115,98],[106,117,109,112],[111,110,101],[111,110,101],[116,119,111],[116,119,111],[116,115,116],[112,97,105,114],[99,118,116],[99,118,116],[109,111,118,97],[112,117,115,104,97],[112,117,115,104,108],[97,115,104],[114,111,116],[98,108,98],[98,98],[97,111,98],[115,111,98],[101,120,116],[105,110,115],[99,97,108,108,115],[112,117,115,104,114],[112,111,112,114],[109,111,118,112,115,108],[98,105,115],[98,105,99],[99,104,109,107],[109,116,112,114],[109,102,112,114],[109,111,118,99,51],[109,111,118,99,53],[99,109,112,99,51],[99,109,112,99,53],[108,111,99,99],[108,111,99,99]]
def zfM:List (List UInt8):=[[109,111,118,99,51,115],[109,111,118,99,53,115],[99,109,112,99,51,115],[99,109,112,99,53,115],[108,111,99,99,115],[115,107,112,99,115]]
def zn3:List UInt8:=[59,32,119,104,101,114,101,32,116,104,101,32,99,108,97,115,115,101,115,32,97,114,101,32,100,111,110,101,44,32,97,110,100,32,116,104,101,32,115,116,114,105,110,103,115,39,32,115,116,101,112,115,10]
def zoO:List UInt8:=zn3++zfL [101,120,101,99] 0 zcQ++zfL [115,116,101,112,115] 40 zfM
def zn4:List (List UInt8):=[ucS0,zoO,ucS1,ucS2,ucS3,ucS4,ucS5,ucS6,ucS7]
def zk9:List UInt8:=zn4.flatten
end Go.Proofs.YtcplfckncandkaaGreatDoorE
namespace Go.Proofs.YtcplfckncandkaaGreatDoorE
set_option maxRecDepth 100000
open Go Go.E Go.Proofs
def zu3:List (List UInt8):=[[110,111,110,101],[109,111,118],[110,111,116],[110,101,103],[105,110,99],[100,101,99],[97,100,100],[115,117,98],[97,100,100,99],[115,117,98,99],[109,117,108],[100,105,118],[111,114],[98,105,99],[120,111,114],[97,110,100],[99,109,112],[116,101,115,116],[99,108,101,97,114],[115,120,98],[115,120,119],[122,120,98],[122,120,119],[115,104,108],[115,104,114],[97,115,104],[114,111,116],[111,112],[115,120,111],[101,120,116],[105,110,115],[99,118,116]]
theorem zu4:pieces 32 zs7=zu3:=by kernel_rfl
def zn5:List (List UInt8):=[[114,48],[114,49],[114,50],[114,51],[114,52],[114,53],[114,54],[114,55],[114,56],[114,57],[114,49,48],[114,49,49],[114,49,50],[114,49,51],[114,49,52],[114,49,53],[116,48],[116,49],[116,50],[116,51],[116,52],[116,53],[116,54],[116,55],[118,48],[118,49],[118,50],[118,51],[118,52],[118,53],[97,48],[97,49],[97,50],[97,51],[97,52],[97,53],[109,100],[118,97],[112,115,108],[114,110],[114,120],[108,105,116],[122,101,114,111],[118,101,99],[112,48],[112,49],[115,116,97,114,116],[115,99,98,98],[107,115,112],[117,115,112],[100,105,115,112],[111,115,105,122,101],[105,108,101,110],[108,101,118,101,108],[118,99],[97,99],[97,108],[107,108],[99,110,116],[110,112]]
theorem zu5:pieces 32 zjW=zn5:=by kernel_rfl
def zse:List (List UInt8):=[[98,121,116,101],[119,111,114,100],[108,111,110,103],[111,119,110]]
theorem ztq:pieces 32 zqE=zse:=by kernel_rfl
def nc_cc:List (List UInt8):=[[107,101,101,112],[115,101,116],[115,101,116,107]]
theorem zwC:pieces 32 c_cc=nc_cc:=by kernel_rfl
def zu6:List (List UInt8):=[[110,111,110,101],[114,100],[119,114],[112,114,111,98,101],[98,108,100],[98,115,116],[98,112,117,116],[98,103,101,116],[98,99,108,114],[105,102],[114,100,112],[107,115,116],[114,111,119],[117,110,114,111,119],[114,111,119,97],[102,108,117,115,104]]
theorem zu7:pieces 32 zs8=zu6:=by kernel_rfl
def zu8:List (List UInt8):=[[110,101,120,116],[106,109,112],[99,106],[99,97,108,108],[114,101,116],[115,112,101,99],[109,111,100,101],[101,110,100]]
theorem zu9:pieces 32 zs9=zu8:=by kernel_rfl
def zsf:List (List UInt8):=[[97,108,119,97,121,115],[122],[110,122],[110,101,103],[112,111,115],[99],[110,99],[117,115,101,114],[107,101,114,110,101,108],[102,112,100],[110,111,102,112,100],[116,97,107,101,110],[109,97,116,99,104],[107,49],[107,50],[107,51],[108,97,115,116,114,101,103],[102],[114,101,97,100,115],[105,110,100,101,120],[100,105,118],[108,101,115,115,97,108,117],[97,108,117,49],[115,116,114,105,110,103],[110,111,105,110,100,101,120],[110,111,114,101,97,100,115],[111,118,101,114]]
theorem ztr:pieces 32 zqF=zsf:=by kernel_rfl
def zsg:List (List UInt8):=[[110,111,110,101],[115,116,101,112],[117,110,100,111],[115,101,116,102,112,100],[99,108,114,102,112,100],[114,97,105,115,101],[108,97,116,99,104,107],[108,97,116,99,104,120],[109,116,112,114],[109,102,112,114],[101,110,116,101,114],[112,117,116,112,115,108],[104,97,108,116],[98,97,99,107],[100,101,99,111,100,101],[115,101,108],[115,101,108,107],[111,119,110,108,97,115,116],[112,105,99,107],[112,105,99,107,116,111,112],[112,97,114,97,109,115],[99,111,117,110,116]]
theorem zts:pieces 32 zqG=zsg:=by kernel_rfl
def zqW (f:List UInt8):List (List UInt8):=
 if f=[97,108,117] then zu3 else
 if f=[97] then zn5 else
 if f=[98] then zn5 else
 if f=[100] then zn5 else
 if f=[115,105,122,101] then zse else
 if f=[99,99] then nc_cc else
 if f=[109,101,109] then zu6 else
 if f=[115,101,113] then zu8 else
 if f=[99,111,110,100] then zsf else
 if f=[109,105,115,99] then zsg else
 []
theorem zva (f:List UInt8):zqW f=namesT f:=by
 unfold zqW namesT
 rw [zu4,zu5,ztq,zwC,zu7,zu9,ztr,zts]
def numF (l:Nms) (f:List UInt8) (v:Val):Option Int:=
 if v.nm=[] then some v.x else match (zqW f).findIdx? (fun x=>decide (x=v.nm)) with
  | some k=>some ((k:Int)+v.x)
  | none=>(zb1 l v.nm).map (·+v.x)
theorem zxD (l:Nms) (f:List UInt8) (v:Val):numF l f v=zgd l f v:=by
 unfold numF zgd
 by_cases h:v.nm=[]
 ·rw [if_pos h,if_pos h]
 ·rw [if_neg h,if_neg h,zva]
  unfold inT
  cases (namesT f).findIdx? (fun x=>decide (x=v.nm)) with
  | none=>rfl
  | some k=>
    simp only
    rw [if_pos (by omega)]
def encF (l:Nms) (w:Wd):List Pr→Wd×Nat
 | []=>(w,0)
 | p::r=>if zg5 p.fd=0 then (w,p.col) else match numF l p.fd p.v with
   | none=>(w,p.v.col)
   | some x=>if (zbV w p.fd x).2=0 then encF l (zbV w p.fd x).1 r else (w,p.v.col)
theorem zsh (l:Nms):∀ (prs:List Pr) (w:Wd),encF l w prs=zbe l w prs
 | [],w=>rfl
 | p::r,w=>by
   unfold encF zbe
   rw [zxD]
   by_cases hb:zg5 p.fd=0
   ·rw [if_pos hb,if_pos hb]
   ·rw [if_neg hb,if_neg hb]
    cases zgd l p.fd p.v with
    | none=>rfl
    | some x=>
      simp only
      rw [zsh l r]
def zn6 (nms:Nms) (N:Nat):List (Nat×PLine)→Option (List (Nat×Wd))
 | []=>some []
 | x::r=>match encF nms zaE x.2.prs with
   | (w,0)=>if ((zbq (w.getD 8 0) (w.getD 10 0) x.1).any fun t=>decide ((N:Int)<t.1+t.2))=true then none else (zn6 nms N r).map ((x.1,w)::·)
   | _=>none
end Go.Proofs.YtcplfckncandkaaGreatDoorE
namespace Go.Proofs.YtcplfckncandkaaGreatDoorE
set_option maxRecDepth 1000000
open Go Go.E Go.Proofs
def zmZ:List (List UInt8):=[[102,101,116,99,104],[111,112,101,114,97,110,100],[98,114,97,110,99,104],[102,97,117,108,116],[105,110,116,101,114,114,117,112,116]]
def zvb (l:Lay):Bool:=Nat.blt 0 (sizeT l)&&(zn6 l.nms (sizeT l) l.wds).isSome&&decide (l.ents.map (·.1.nm)=zmZ)&&l.ents.all fun e=>match zb1 l.nms e.1.nm with | none=>false | some x=>decide (0≤x)&&decide (x<(sizeT l:Int))
def srcOk:Bool:=match zfa zk9 with
 | .error _=>false
 | .ok xs=>match zeS zdL xs with
   | .error _=>false
   | .ok l=>zvb l
theorem ztt:srcOk=true:=by kernel_rfl
end Go.Proofs.YtcplfckncandkaaGreatDoorE
namespace Go.Proofs.YtcplfckncandkaaGreatDoorE
open Go Go.E Go.Proofs
theorem zmj (nms:Nms) (N:Nat):∀ (xs:List (Nat×PLine)) (ws:List Wd),(zn6 nms N xs).isSome=true→∃ ws',zbR nms N xs ws=.ok ws'
 | [],ws,_=>⟨ws,rfl⟩
 | x::r,ws,h=>by
   unfold zn6 at h
   rw [zsh] at h
   unfold zbR
   cases he:zbe nms zaE x.2.prs with
   | mk w c=>
     rw [he] at h
     cases c with
     | succ c=>cases h
     | zero=>
       simp only at h ⊢
       rw [if_neg (by simp)]
       by_cases hr:((zbq (w.getD 8 0) (w.getD 10 0) x.1).any fun t=>decide ((N:Int)<t.1+t.2))=true
       ·rw [if_pos hr] at h;cases h
       ·rw [if_neg hr] at h
        rw [if_neg hr]
        refine zmj nms N r _ ?_
        cases hz:zn6 nms N r with
        | none=>rw [hz] at h;cases h
        | some l=>rfl
theorem zsi (nms:Nms) (N:Nat):∀ (xs:List (Val×Nat×Nat)),(xs.all fun e=>match zb1 nms e.1.nm with | none=>false | some x=>decide (0≤x)&&decide (x<(N:Int)))=true→∃ es,zdk nms N xs=.ok es∧es.map (·.1)=xs.map (·.1.nm)
 | [],_=>⟨[],rfl,rfl⟩
 | e::r,h=>by
   rw [List.all_cons,zae] at h
   obtain ⟨h1,h2⟩:=h
   obtain ⟨es,g1,g2⟩:=zsi nms N r h2
   unfold zdk
   cases hf:zb1 nms e.1.nm with
   | none=>rw [hf] at h1;cases h1
   | some x=>
     rw [hf] at h1
     simp only [zae,decide_eq_true_eq] at h1
     refine ⟨(e.1.nm,x)::es,?_,by simp [g2]⟩
     simp only
     rw [if_neg (by omega),g1]
theorem zxE:∃ ws es,zeT zk9=.ok (ws,es)∧0<ws.length∧es.map (·.1)=zmZ:=by
 have h:=ztt
 unfold srcOk at h
 unfold zeT
 cases hp:zfa zk9 with
 | error e=>rw [hp] at h;cases h
 | ok xs=>
   rw [hp] at h
   simp only at h ⊢
   cases hl:zeS zdL xs with
   | error e=>rw [hl] at h;cases h
   | ok l=>
     rw [hl] at h
     simp only at h ⊢
     unfold zvb at h
     simp only [zae] at h
     obtain ⟨⟨⟨h1,h2⟩,h3⟩,h4⟩:=h
     obtain ⟨ws,g1⟩:=zmj l.nms (sizeT l) l.wds (List.replicate (sizeT l) zaE) h2
     obtain ⟨es,g2,g3⟩:=zsi l.nms (sizeT l) l.ents h4
     refine ⟨ws,es,?_,?_,?_⟩
     ·unfold zgf
      rw [g1]
      simp only
      rw [g2]
     ·rw [zeG _ _ _ g1,List.length_replicate]
      exact Nat.le_of_ble_eq_true h1
     ·rw [g3]
      exact of_decide_eq_true h3
end Go.Proofs.YtcplfckncandkaaGreatDoorE
namespace Go.Proofs.YtcplfckncandkaaGreatDoorE
set_option maxRecDepth 20000
open Go Go.E Go.Proofs
noncomputable def zpY (cf:zak) (lf:zab) (st:SS):Option (Value×SS):=
 let st1:SS:=st.new (.cells ([.string ⟨#[105,108,108,101,103,97,108]⟩,.string ⟨#[104,97,108,116]⟩,.string ⟨#[110,111,112]⟩,.string ⟨#[114,101,105]⟩,.string ⟨#[98,112,116]⟩,.string ⟨#[114,101,116]⟩,.string ⟨#[114,115,98]⟩,.string ⟨#[98,115,98]⟩,.string ⟨#[98,114]⟩,.string ⟨#[98,99,99]⟩,.string ⟨#[106,115,98]⟩,.string ⟨#[106,117,109,112]⟩,.string ⟨#[111,110,101]⟩,.string ⟨#[111,110,101]⟩,.string ⟨#[116,119,111]⟩,.string ⟨#[116,119,111]⟩,.string ⟨#[116,115,116]⟩,.string ⟨#[112,97,105,114]⟩,.string ⟨#[99,118,116]⟩,.string ⟨#[99,118,116]⟩,.string ⟨#[109,111,118,97]⟩,.string ⟨#[112,117,115,104,97]⟩,.string ⟨#[112,117,115,104,108]⟩,.string ⟨#[97,115,104]⟩,.string ⟨#[114,111,116]⟩,.string ⟨#[98,108,98]⟩,.string ⟨#[98,98]⟩,.string ⟨#[97,111,98]⟩,.string ⟨#[115,111,98]⟩,.string ⟨#[101,120,116]⟩,.string ⟨#[105,110,115]⟩,.string ⟨#[99,97,108,108,115]⟩,.string ⟨#[112,117,115,104,114]⟩,.string ⟨#[112,111,112,114]⟩,.string ⟨#[109,111,118,112,115,108]⟩,.string ⟨#[98,105,115]⟩,.string ⟨#[98,105,99]⟩,.string ⟨#[99,104,109,107]⟩,.string ⟨#[109,116,112,114]⟩,.string ⟨#[109,102,112,114]⟩,.string ⟨#[109,111,118,99,51]⟩,.string ⟨#[109,111,118,99,53]⟩,.string ⟨#[99,109,112,99,51]⟩,.string ⟨#[99,109,112,99,53]⟩,.string ⟨#[108,111,99,99]⟩,.string ⟨#[108,111,99,99]⟩]) 1)
 some (.slice (some ⟨st.next,0,none⟩) 46 46,st1)
noncomputable abbrev zm0:zab:=lS Tryz.prog Lk0 Tryz.f80 zav
theorem zm1:Lk0.func 80=some (80,Tryz.f80):=by kernel_rfl
theorem zm2 [Sym] (st:SS) {r:Value×SS} (h:zpY cc zm0 st=some r):cc 80 [] st=some r:=
 zaf (li:=zav) zah zal zm1 rfl (fun _=>rfl) (.trans (by kernel_rfl) h)
noncomputable def zrH (cf:zak) (lf:zab) (st:SS):Option (Value×SS):=
 let st1:SS:=st.new (.cells ([.string ⟨#[109,111,118,99,51,115]⟩,.string ⟨#[109,111,118,99,53,115]⟩,.string ⟨#[99,109,112,99,51,115]⟩,.string ⟨#[99,109,112,99,53,115]⟩,.string ⟨#[108,111,99,99,115]⟩,.string ⟨#[115,107,112,99,115]⟩]) 1)
 some (.slice (some ⟨st.next,0,none⟩) 6 6,st1)
noncomputable abbrev zoP:zab:=lS Tryz.prog Lk0 Tryz.f81 zav
theorem zoQ:Lk0.func 81=some (81,Tryz.f81):=by kernel_rfl
theorem zoR [Sym] (st:SS) {r:Value×SS} (h:zrH cc zoP st=some r):cc 81 [] st=some r:=
 zaf (li:=zav) zah zal zoQ rfl (fun _=>rfl) (.trans (by kernel_rfl) h)
def zin:LoopI:=⟨[(1,.int .i64),(2,.any),(7,.str),(12,.int .i64)],[(.exit 0,[(7,.str)])]⟩
def zja (n:Nat):Option LoopI:=cond (Nat.beq n 3) (some zin) (none)
noncomputable def zmk (cf:zak) (lf:zab) (name':ByteArray) (from0':Int) (labels':Value) (st:SS):Option (Value×SS):=
 (((zb9 name' ⟨#[58]⟩).bind fun s=>some (.string s)).bind asS).bind fun a=>
 (lf 3 [.int .i64 from0',labels',.string a,.int .i64 0] st).bind fun b=>
 ((b.2.1[0]?).bind asS).bind fun c=>
 some (.string c,b.2.2)
noncomputable abbrev zcN:zab:=lS Tryz.prog Lk0 Tryz.f79 zja
theorem zoS:Lk0.func 79=some (79,Tryz.f79):=by kernel_rfl
theorem zoT [Sym] (name':ByteArray) (from0':Int) (labels':Value) (st:SS) {r:Value×SS} (h:zmk cc zcN name' from0' labels' st=some r):cc 79 [.string name',.int .i64 from0',labels'] st=some r:=
 zaf (li:=zja) zah zal zoS rfl (fun _=>rfl) (.trans (by kernel_rfl) h)
noncomputable def zgh (cf:zak) (lf:zab) (from0':Int) (labels':Value) (s':ByteArray) (t12':Int) (st:SS):Option (Nat×List Value×SS):=
 cond (decide (t12'<64)) (
 cond (decide (from0'≤t12')) (
 let a:Int:=IntKind.wrap .i64 (t12'-from0')
 ((lenV labels').bind (asI .i64)).bind fun b=>
 cond (decide (a<b)) (
 let c:Int:=IntKind.wrap .i64 (t12'-from0')
 (zau labels' c 1).bind fun d=>
 ((st.ld d.1 d.2).bind asS).bind fun e=>
 (((zb9 ⟨#[32,115,101,113,61,106,109,112,32,116,111,61]⟩ e).bind fun s=>some (.string s)).bind asS).bind fun f=>
 (((zb9 f ⟨#[10]⟩).bind fun s=>some (.string s)).bind asS).bind fun g=>
 (((zb9 s' g).bind fun s=>some (.string s)).bind asS).bind fun h=>
 let i:Int:=IntKind.wrap .i64 (t12'+1)
 lf 3 [.int .i64 from0',labels',.string h,.int .i64 i] st) (
 (((zb9 ⟨#[32,115,101,113,61,106,109,112,32,116,111,61]⟩ ⟨#[105,108,108,101,103,97,108]⟩).bind fun s=>some (.string s)).bind asS).bind fun j=>
 (((zb9 j ⟨#[10]⟩).bind fun s=>some (.string s)).bind asS).bind fun k=>
 (((zb9 s' k).bind fun s=>some (.string s)).bind asS).bind fun l=>
 let m:Int:=IntKind.wrap .i64 (t12'+1)
 lf 3 [.int .i64 from0',labels',.string l,.int .i64 m] st)) (
 (((zb9 ⟨#[32,115,101,113,61,106,109,112,32,116,111,61]⟩ ⟨#[105,108,108,101,103,97,108]⟩).bind fun s=>some (.string s)).bind asS).bind fun n=>
 (((zb9 n ⟨#[10]⟩).bind fun s=>some (.string s)).bind asS).bind fun o=>
 (((zb9 s' o).bind fun s=>some (.string s)).bind asS).bind fun p=>
 let q:Int:=IntKind.wrap .i64 (t12'+1)
 lf 3 [.int .i64 from0',labels',.string p,.int .i64 q] st)) (
 some (0,[.string s'],st))
theorem zgM [Sym] (from0':Int) (labels':Value) (s':ByteArray) (t12':Int) (st:SS) {r:Nat×List Value×SS} (h:zgh cc zcN from0' labels' s' t12' st=some r):zcN 3 [.int .i64 from0',labels',.string s',.int .i64 t12'] st=some r:=
 zay zah zal (key:=3) (I:=zin) rfl (by kernel_rfl) (by kernel_rfl) rfl rfl (.trans (by kernel_rfl) h)
noncomputable def zla (cf:zak) (lf:zab) (st:SS):Option (Value×SS):=
 (cf 80 [] st).bind fun a=>
 (cf 79 [.string ⟨#[101,120,101,99]⟩,.int .i64 0,a.1] a.2).bind fun b=>
 ((some b.1).bind asS).bind fun c=>
 (((zb9 ⟨#[59,32,119,104,101,114,101,32,116,104,101,32,99,108,97,115,115,101,115,32,97,114,101,32,100,111,110,101,44,32,97,110,100,32,116,104,101,32,115,116,114,105,110,103,115,39,32,115,116,101,112,115,10]⟩ c).bind fun s=>some (.string s)).bind asS).bind fun d=>
 (cf 81 [] b.2).bind fun e=>
 (cf 79 [.string ⟨#[115,116,101,112,115]⟩,.int .i64 40,e.1] e.2).bind fun f=>
 ((some f.1).bind asS).bind fun g=>
 (((zb9 d g).bind fun s=>some (.string s)).bind asS).bind fun h=>
 some (.string h,f.2)
noncomputable abbrev zn7:zab:=lS Tryz.prog Lk0 Tryz.f62 zav
theorem zn8:Lk0.func 62=some (62,Tryz.f62):=by kernel_rfl
theorem zn9 [Sym] (st:SS) {r:Value×SS} (h:zla cc zn7 st=some r):cc 62 [] st=some r:=
 zaf (li:=zav) zah zal zn8 rfl (fun _=>rfl) (.trans (by kernel_rfl) h)
noncomputable def ziI (cf:zak) (lf:zab) (st:SS):Option (Value×SS):=
 (cf 62 [] st).bind fun a=>
 ((some a.1).bind asS).bind fun b=>
 let c:SS:=a.2.new (.cells ([.string ⟨⟨ucS0⟩⟩,.string b,.string ⟨⟨ucS1⟩⟩,.string ⟨⟨ucS2⟩⟩,.string ⟨⟨ucS3⟩⟩,.string ⟨⟨ucS4⟩⟩,.string ⟨⟨ucS5⟩⟩,.string ⟨⟨ucS6⟩⟩,.string ⟨⟨ucS7⟩⟩]) 1)
 some (.slice (some ⟨a.2.next,0,none⟩) 9 9,c)
noncomputable abbrev zjb:zab:=lS Tryz.prog Lk0 Tryz.f41 zav
theorem zoU:Lk0.func 41=some (41,Tryz.f41):=by kernel_rfl
theorem zoV [Sym] (st:SS) {r:Value×SS} (h:ziI cc zjb st=some r):cc 41 [] st=some r:=
 zaf (li:=zav) zah zal zoU rfl (fun _=>rfl) (.trans (by kernel_rfl) h)
def zhQ:LoopI:=⟨[(1,.str),(4,.any),(5,.int .i64),(6,.int .i64)],[(.exit 0,[(1,.str)])]⟩
def zio (n:Nat):Option LoopI:=cond (Nat.beq n 3) (some zhQ) (none)
noncomputable def zlb (cf:zak) (lf:zab) (st:SS):Option (Value×SS):=
 (cf 41 [] st).bind fun a=>
 ((lenV a.1).bind (asI .i64)).bind fun b=>
 (lf 3 [.string ⟨#[]⟩,a.1,.int .i64 b,.int .i64 0] a.2).bind fun c=>
 ((c.2.1[0]?).bind asS).bind fun d=>
 some (.string d,c.2.2)
noncomputable abbrev zc9:zab:=lS Tryz.prog Lk0 Tryz.f22 zio
theorem zoa:Lk0.func 22=some (22,Tryz.f22):=by kernel_rfl
theorem zoc [Sym] (st:SS) {r:Value×SS} (h:zlb cc zc9 st=some r):cc 22 [] st=some r:=
 zaf (li:=zio) zah zal zoa rfl (fun _=>rfl) (.trans (by kernel_rfl) h)
noncomputable def zfN (cf:zak) (lf:zab) (s':ByteArray) (t4':Value) (t5':Int) (t6':Int) (st:SS):Option (Nat×List Value×SS):=
 cond (decide (t6'<t5')) (
 (zau t4' t6' 1).bind fun a=>
 ((st.ld a.1 a.2).bind asS).bind fun b=>
 (((zb9 s' b).bind fun s=>some (.string s)).bind asS).bind fun c=>
 let d:Int:=IntKind.wrap .i64 (t6'+1)
 lf 3 [.string c,t4',.int .i64 t5',.int .i64 d] st) (
 some (0,[.string s'],st))
theorem zgC [Sym] (s':ByteArray) (t4':Value) (t5':Int) (t6':Int) (st:SS) {r:Nat×List Value×SS} (h:zfN cc zc9 s' t4' t5' t6' st=some r):zc9 3 [.string s',t4',.int .i64 t5',.int .i64 t6'] st=some r:=
 zay zah zal (key:=3) (I:=zhQ) rfl (by kernel_rfl) (by kernel_rfl) rfl rfl (.trans (by kernel_rfl) h)
noncomputable def zpz (cf:zak) (lf:zab) (st:SS):Option (Value×SS):=
 let a:SS:=st.new (.cells [.slice none 0 0,.slice none 0 0] 0)
 (cf 22 [] a).bind fun b=>
 ((some b.1).bind asS).bind fun c=>
 (cf 7 [.string c] b.2).bind fun d=>
 (zan d.1 0).bind fun e=>
 (zan d.1 1).bind fun f=>
 ((zan d.1 2).bind (asI .i64)).bind fun g=>
 let h:SS:=d.2.new (.cells [.slice none 0 0,.slice none 0 0] 0)
 let i:SS:=h.new (.cells [.int .i64 0,.int .i64 0] 0)
 (i.stV d.2.next 0 2 e).bind fun j=>
 (j.stV h.next 0 2 f).bind fun k=>
 (k.ldN d.2.next 0 2).bind fun l=>
 (k.stV st.next 0 2 l).bind fun m=>
 (m.rdN st.next 0 2).bind fun n=>
 some (.tuple #[n,.int .i64 g],m)
noncomputable abbrev zqX:zab:=lS Tryz.prog Lk0 Tryz.f9 zav
theorem zqY:Lk0.func 9=some (9,Tryz.f9):=by kernel_rfl
theorem zqZ [Sym] (st:SS) {r:Value×SS} (h:zpz cc zqX st=some r):cc 9 [] st=some r:=
 zaf (li:=zav) zah zal zqY rfl (fun _=>rfl) (.trans (by kernel_rfl) h)
end Go.Proofs.YtcplfckncandkaaGreatDoorE
namespace Go.Proofs.YtcplfckncandkaaGreatDoorE
open Go Go.E Go.Proofs
def strRow (l:List UInt8):List Value:=[.string (mkS l)]
theorem zlx {st:SS} {row:List Value} {n:Nat} (h:row.length=n) (h0:0<n):Own st.next (st.new (.cells row 1)) (.slice (some ⟨st.next,0,none⟩) n n) row 1 n:=
 ⟨by omega,.inr ⟨st.next,rfl,h0,SS.new_get,zlr _,by simp⟩⟩
theorem strRd {st:SS} {v:Value} {ls:List (List UInt8)} (hv:Rd st v (rowsF strRow ls) 1 ls.length) {i:Nat} {x:List UInt8} (hx:ls[i]?=some x):∃ p,zau v (i:Int) 1=some p∧st.ld p.1 p.2=some (.string (mkS x)):=by
 have hi:i<ls.length:=(List.getElem?_eq_some_iff.1 hx).1
 obtain ⟨p,h1,_,h3⟩:=hv.load (j:=(i:Int)) (by omega) (by omega) (zaU (f:=strRow) (z:=1) (fun _=>rfl) ls i x hx) rfl
 exact ⟨p,h1,h3 0 (by omega)⟩
theorem ztu [Sym] (st:SS):cc 80 [] st=some (.slice (some ⟨st.next,0,none⟩) 46 46,st.new (.cells (rowsF strRow zcQ) 1)):=zm2 st rfl
theorem zwD [Sym] (st:SS):cc 81 [] st=some (.slice (some ⟨st.next,0,none⟩) 6 6,st.new (.cells (rowsF strRow zfM) 1)):=zoR st rfl
theorem ztv [Sym] {st:SS} {v:Value} {ls:List (List UInt8)} {from0:Nat} (hv:Rd st v (rowsF strRow ls) 1 ls.length) (hf:from0≤64) (hls:∀ x∈ls,x.length≤100):∀ (k i:Nat) (s:List UInt8),64=k+i→s.length+k*200≤100000→
  zcN 3 [.int .i64 from0,v,.string (mkS s),.int .i64 i] st=some (0,[.string (mkS (s++zgg from0 ls k i))],st):=by
 intro k
 induction k with
 | zero=>
   intro i s hk hs
   have h:¬ (i:Int)<64:=by omega
   refine zgM _ _ _ _ st ?_
   simp only [zgh,zdf h,zcf,zgg,List.append_nil]
 | succ k ih=>
   intro i s hk hs
   have h:(i:Int)<64:=by omega
   have hw:=zaX (i:=i) (by omega)
   have go:∀ l:List UInt8,l.length≤100→zb9 ⟨#[32,115,101,113,61,106,109,112,32,116,111,61]⟩ (mkS l)=some (mkS (zcH++l))∧zb9 (mkS (zcH++l)) ⟨#[10]⟩=some (mkS (zcH++l++[10]))∧zb9 (mkS s) (mkS (zcH++l++[10]))=some (mkS (s++(zcH++l++[10])))∧
     zcN 3 [.int .i64 from0,v,.string (mkS (s++(zcH++l++[10]))),.int .i64 ((i+1:Nat):Int)] st=some (0,[.string (mkS (s++((zcH++l++[10])++zgg from0 ls k (i+1))))],st):=by
    intro l hl
    have hj:zcH.length=12:=rfl
    have l1:(zcH++l).length≤112:=by rw [List.length_append,hj];omega
    have l2:(zcH++l++[10]).length≤113:=by rw [List.length_append];simp only [List.length_cons,List.length_nil];omega
    have e1:zb9 ⟨#[32,115,101,113,61,106,109,112,32,116,111,61]⟩ (mkS l)=some (mkS (zcH++l)):=zhA (a:=zcH) (by omega)
    have e2:zb9 (mkS (zcH++l)) ⟨#[10]⟩=some (mkS (zcH++l++[10])):=zhA (b:=[10]) (by simp only [List.length_cons,List.length_nil];omega)
    have e3:=zhA (a:=s) (b:=zcH++l++[10]) (by omega)
    have e4:=ih (i+1) (s++(zcH++l++[10])) (by omega) (by rw [List.length_append];omega)
    rw [List.append_assoc s] at e4
    exact ⟨e1,e2,e3,e4⟩
   refine zgM _ _ _ _ st ?_
   simp only [zgh,zdt h,zct,hw]
   unfold zgg
   by_cases h1:from0≤i
   ·have h1':(from0:Int)≤(i:Int):=by omega
    have hsub:IntKind.wrap .i64 ((i:Int)-(from0:Int))=((i-from0:Nat):Int):=by rw [wrap64 (by omega) (by omega)];omega
    simp only [zdt h1',zct,hsub,hv.len,zob,zaa]
    by_cases h2:i-from0<ls.length
    ·have h2':((i-from0:Nat):Int)<(ls.length:Int):=by omega
     obtain ⟨x,hx⟩:∃ x,ls[i-from0]?=some x:=⟨_,zge h2⟩
     obtain ⟨p,p1,p2⟩:=strRd hv hx
     obtain ⟨e1,e2,e3,e4⟩:=go x (hls x (zmg hx))
     have hg:(if from0≤i∧i-from0<ls.length then ls.getD (i-from0) [] else zcJ)=x:=by rw [if_pos ⟨h1,h2⟩,List.getD_eq_getElem?_getD,hx];rfl
     rw [hg]
     simp only [zdt h2',zct,p1,p2,zob,zac,e1,e2,e3]
     exact e4
    ·have h2':¬ ((i-from0:Nat):Int)<(ls.length:Int):=by omega
     obtain ⟨e1,e2,e3,e4⟩:=go zcJ (by decide)
     have hg:(if from0≤i∧i-from0<ls.length then ls.getD (i-from0) [] else zcJ)=zcJ:=if_neg (fun hh=>h2 hh.2)
     rw [hg]
     have e1':zb9 ⟨#[32,115,101,113,61,106,109,112,32,116,111,61]⟩ ⟨#[105,108,108,101,103,97,108]⟩=some (mkS (zcH++zcJ)):=e1
     simp only [zdf h2',zcf,zob,zac,e1',e2,e3]
     exact e4
   ·have h1':¬ (from0:Int)≤(i:Int):=by omega
    obtain ⟨e1,e2,e3,e4⟩:=go zcJ (by decide)
    have hg:(if from0≤i∧i-from0<ls.length then ls.getD (i-from0) [] else zcJ)=zcJ:=if_neg (fun hh=>h1 hh.1)
    rw [hg]
    have e1':zb9 ⟨#[32,115,101,113,61,106,109,112,32,116,111,61]⟩ ⟨#[105,108,108,101,103,97,108]⟩=some (mkS (zcH++zcJ)):=e1
    simp only [zdf h1',zcf,zob,zac,e1',e2,e3]
    exact e4
theorem zq0 [Sym] {st:SS} {v:Value} {name:List UInt8} {ls:List (List UInt8)} {from0:Nat} (hv:Rd st v (rowsF strRow ls) 1 ls.length) (hf:from0≤64) (hls:∀ x∈ls,x.length≤100) (hn:name.length≤100):
  cc 79 [.string (mkS name),.int .i64 from0,v] st=some (.string (mkS (zfL name from0 ls)),st):=by
 refine zoT _ _ _ st ?_
 have e1:zb9 (mkS name) ⟨#[58]⟩=some (mkS (name++[58])):=zhA (b:=[58]) (by simp only [List.length_cons,List.length_nil];omega)
 have e2:=ztv hv hf hls 64 0 (name++[58]) rfl (by rw [List.length_append];simp only [List.length_cons,List.length_nil];omega)
 have e2':zcN 3 [.int .i64 from0,v,.string (mkS (name++[58])),.int .i64 0] st=_:=e2
 simp only [zmk,e1,e2',zob,zac,zgz]
 rfl
theorem zwE:zoO.length≤5000∧(zfL [101,120,101,99] 0 zcQ).length≤5000∧(zfL [115,116,101,112,115] 40 zfM).length≤5000:=by decide+kernel
theorem zvc [Sym] (st:SS):∃ s',cc 62 [] st=some (.string (mkS zoO),s')∧Ext st s':=by
 have h1:=ztu st
 have o1:Own st.next (st.new (.cells (rowsF strRow zcQ) 1)) (.slice (some ⟨st.next,0,none⟩) 46 46) (rowsF strRow zcQ) 1 46:=zlx rfl (by omega)
 have x1:Ext st (st.new (.cells (rowsF strRow zcQ) 1)):=(Ext.refl _).new _
 generalize st.new (.cells (rowsF strRow zcQ) 1)=s1 at*
 have h2:=zq0 (name:=[101,120,101,99]) (ls:=zcQ) (from0:=0) o1.rd (by omega) (by decide) (by decide)
 have h3:=zwD s1
 have o2:Own s1.next (s1.new (.cells (rowsF strRow zfM) 1)) (.slice (some ⟨s1.next,0,none⟩) 6 6) (rowsF strRow zfM) 1 6:=zlx rfl (by omega)
 have x2:Ext s1 (s1.new (.cells (rowsF strRow zfM) 1)):=(Ext.refl _).new _
 generalize s1.new (.cells (rowsF strRow zfM) 1)=s2 at*
 have h4:=zq0 (name:=[115,116,101,112,115]) (ls:=zfM) (from0:=40) o2.rd (by omega) (by decide) (by decide)
 have h2':cc 79 [.string ⟨#[101,120,101,99]⟩,.int .i64 0,.slice (some ⟨st.next,0,none⟩) 46 46] s1=_:=h2
 have h4':cc 79 [.string ⟨#[115,116,101,112,115]⟩,.int .i64 40,.slice (some ⟨s1.next,0,none⟩) 6 6] s2=_:=h4
 obtain ⟨l0,l1,l2⟩:=zwE
 have lt:zn3.length≤5000:=by decide
 have e1:=zhA (a:=zn3) (b:=zfL [101,120,101,99] 0 zcQ) (by omega)
 have e1':zb9 ⟨#[59,32,119,104,101,114,101,32,116,104,101,32,99,108,97,115,115,101,115,32,97,114,101,32,100,111,110,101,44,32,97,110,100,32,116,104,101,32,115,116,114,105,110,103,115,39,32,115,116,101,112,115,10]⟩ (mkS (zfL [101,120,101,99] 0 zcQ))=_:=e1
 have e2:=zhA (a:=zn3++zfL [101,120,101,99] 0 zcQ) (b:=zfL [115,116,101,112,115] 40 zfM) (by rw [List.length_append];omega)
 refine ⟨s2,zn9 st ?_,x1.trans x2⟩
 simp only [zla,h1,h2',h3,h4',zob,zac,e1',e2]
 rfl
theorem zvd [Sym] (st:SS):∃ s' v,cc 41 [] st=some (v,s')∧Ext st s'∧Own st.next s' v (rowsF strRow zn4) 1 9:=by
 obtain ⟨s1,h1,x1⟩:=zvc st
 have h2:ziI cc zjb st=some (.slice (some ⟨s1.next,0,none⟩) 9 9,s1.new (.cells (rowsF strRow zn4) 1)):=by
  simp only [ziI,h1,zob,zac]
  rfl
 exact ⟨_,_,zoV st h2,x1.new _,(zlx (n:=9) rfl (by omega)).low x1.next⟩
theorem zrI [Sym] {st:SS} {v:Value} {ls:List (List UInt8)} (hv:Rd st v (rowsF strRow ls) 1 ls.length) (hm:ls.length≤1000):∀ (k i:Nat) (s:List UInt8),ls.length=k+i→s.length+(ls.drop i).flatten.length≤1000000→
  zc9 3 [.string (mkS s),v,.int .i64 ls.length,.int .i64 i] st=some (0,[.string (mkS (s++(ls.drop i).flatten))],st):=by
 intro k
 induction k with
 | zero=>
   intro i s hk hs
   have h:¬ (i:Int)<(ls.length:Int):=by omega
   refine zgC _ _ _ _ st ?_
   simp only [zfN,zdf h,zcf,List.drop_of_length_le (show ls.length≤i by omega),List.flatten_nil,List.append_nil]
 | succ k ih=>
   intro i s hk hs
   have h:(i:Int)<(ls.length:Int):=by omega
   have hw:=zaX (i:=i) (by omega)
   obtain ⟨x,hx⟩:∃ x,ls[i]?=some x:=⟨_,zge (by omega)⟩
   obtain ⟨p,p1,p2⟩:=strRd hv hx
   rw [drop_cons hx,List.flatten_cons] at hs ⊢
   rw [List.length_append] at hs
   have e1:=zhA (a:=s) (b:=x) (by omega)
   have e2:=ih (i+1) (s++x) (by omega) (by rw [List.length_append];omega)
   rw [List.append_assoc] at e2
   refine zgC _ _ _ _ st ?_
   simp only [zfN,zdt h,zct,p1,p2,zob,zac,e1,hw]
   exact e2
theorem zpA:zk9.length≤65536:=Nat.le_of_ble_eq_true (by kernel_rfl)
theorem zve [Sym] (st:SS):∃ s',cc 22 [] st=some (.string (mkS zk9),s')∧Ext st s':=by
 obtain ⟨s1,v,h1,x1,o1⟩:=zvd st
 have h2:=zrI (ls:=zn4) o1.rd (by decide) 9 0 [] rfl (by
  have:=zpA
  unfold zk9 at this
  rw [List.drop_zero,List.length_nil]
  omega)
 have h2':zc9 3 [.string ⟨#[]⟩,v,.int .i64 ((9:Nat):Int),.int .i64 0] s1=some (0,[.string (mkS zk9)],s1):=h2
 refine ⟨s1,zoc st ?_,x1⟩
 simp only [zlb,h1,zob,o1.len,zaa,h2',zgz,zac]
end Go.Proofs.YtcplfckncandkaaGreatDoorE
namespace Go.Proofs.YtcplfckncandkaaGreatDoorE
open Go Go.E Go.Proofs
noncomputable def zes:List (Nat×AObj):=[(5,.table [.chan (some 5)]),(6,.table [.chan (some 6)]),(0,.table fieldsC),(2,.table asciiC)]
noncomputable def st0:SS:=⟨zd4 zes,12,12⟩
theorem gd0:Gd st0:=⟨by simp [st0,zd4,zes,PT.get_upd],by simp [st0,zd4,zes,PT.get_upd],by simp [st0,zd4,zes,PT.get_upd],by simp [st0,zd4,zes,PT.get_upd],zlr _⟩
theorem zvf:∀ g,Lk0.glob g=true→g∈zes.map (·.1):=fun g h=>by
 have h':(Nat.beq g 5||Nat.beq g 6||Nat.beq g 0||Nat.beq g 2)=true:=h
 simp only [Bool.or_eq_true,zar,decide_eq_true_eq] at h'
 rcases h' with ((rfl | rfl) | rfl) | rfl<;>simp [zes]
theorem ztw:∀ x∈zes,x.1<12:=fun x hx=>by
 simp only [zes,List.mem_cons,List.not_mem_nil,or_false] at hx
 rcases hx with rfl | rfl | rfl | rfl<;>decide
abbrev symE (a4:TypeId) (u4:Value) (a5:TypeId) (u5:Value):Sym where
 v i:=if i=5 then .iface a4 u4 else .iface a5 u5
 ok i:=by
  refine .inr (.inr ?_)
  split<;>exact ⟨_,_,rfl⟩
abbrev laidF:DataW Unit:=.agg ((zb3.map fun m=>(m.1,(m.2:Int))).map fun m=>.agg [.lit (.string m.1),.lit (.int .i64 m.2)])
abbrev laidS:DataW Unit:=.agg (Lib.asciiSpaceTab.map fun m=>.lit (.int .u8 m))
end Go.Proofs.YtcplfckncandkaaGreatDoorE
namespace Go.Proofs.YtcplfckncandkaaGreatDoorE
open Go Go.E Go.Proofs
structure SrcOk [Sym] (t:List UInt8):Prop where
 len:t.length≤65536
 src:∀ st:SS,∃ s',cc 22 [] st=some (.string (mkS t),s')∧Ext st s'
theorem romMid {s3:SS} (hll:s3.lim≤s3.next) (wv ev:Value) (e:Nat×Nat) (w1:one wv=true) (w2:one ev=true):∃ s9 s10,((s3.new (.cells NN 0)).new (.cells Z2 0)).stV s3.next 0 2 (zbW wv ev)=some s9∧s9.stV (s3.next+1) 0 2 (zbs e)=some s10∧Ext s3 s10∧At s10 s3.next [wv,ev]:=by
 have y1:Ext s3 (s3.new (.cells NN 0)):=(Ext.refl _).new _
 have y2:Ext (s3.new (.cells NN 0)) ((s3.new (.cells NN 0)).new (.cells Z2 0)):=(Ext.refl _).new _
 have q1:At ((s3.new (.cells NN 0)).new (.cells Z2 0)) s3.next NN:=(At.new hll NN).ext y2
 have q2:At ((s3.new (.cells NN 0)).new (.cells Z2 0)) (s3.next+1) Z2:=At.new (st:=s3.new (.cells NN 0)) (y1.ll hll) Z2
 obtain ⟨s9,e9,a9,m9,n9⟩:=q1.stV (k:=0) (n:=2) (v:=zbW wv ev) (vs:=[wv,ev]) rfl rfl (by simp [w1,w2]) (row':=[wv,ev]) rfl
 obtain ⟨s10,e10,a10,m10,n10⟩:=(q2.mod m9 (by simp)).stV (k:=0) (n:=2) (v:=zbs e) (vs:=[.int .i64 e.1,.int .i64 e.2]) rfl rfl rfl (row':=[.int .i64 e.1,.int .i64 e.2]) rfl
 exact ⟨s9,s10,e9,e10,zaD (zaD (y1.trans y2) m9 (zlr _)) m10 (by omega),a9.mod m10 (by simp)⟩
theorem zxF [Sym] {t:List UInt8} (hs:SrcOk t) {ws:List Wd} {es:List (List UInt8×Int)} (ha:zeT t=.ok (ws,es)) {st:SS} (hg:Gd st) (hl:st.lim≤st.next):
  ∃ s' wv ev,cc 9 [] st=some (.tuple #[zbW wv ev,.int .i64 0],s')∧Ext st s'∧Own st.next s' wv (rowsF zdl ws) 1 ws.length∧Own st.next s' ev (rowsF zaZ es) 2 es.length:=by
 have x1:Ext st (st.new (.cells NN 0)):=(Ext.refl _).new _
 have a1:At (st.new (.cells NN 0)) st.next NN:=At.new hl NN
 have hn1:(st.new (.cells NN 0)).next=st.next+1:=rfl
 obtain ⟨s1,hs1⟩:∃ s1,st.new (.cells NN 0)=s1:=⟨_,rfl⟩
 have he1:st.new (.cells [.slice none 0 0,.slice none 0 0] 0)=s1:=hs1
 rw [hs1] at x1 a1 hn1
 obtain ⟨s2,h2,x2⟩:=hs.src s1
 have x02:=x1.trans x2
 have h3:=zuY (hg.ext x02) (x02.ll hl) (mkS t) (by rw [zcs];exact hs.len)
 rw [zbI,ha] at h3
 obtain ⟨s3,wv,ev,c3,x3,o1,o2⟩:=h3
 have x03:=x02.trans x3
 obtain ⟨s9,s10,e9,e10,x10,a10⟩:=romMid (x03.ll hl) wv ev (0,0) (Own.cell o1).2 (Own.cell o2).2
 have l12:s10.ldN s3.next 0 2=some (.agg [wv,ev].toArray):=a10.ldN rfl
 have a1':At s10 st.next NN:=a1.ext (x2.trans (x3.trans x10))
 obtain ⟨s13,e13,a13,m13,n13⟩:=a1'.stV (k:=0) (n:=2) (v:=.agg [wv,ev].toArray) (vs:=[wv,ev]) (zaG _) rfl (by simp [(Own.cell o1).2,(Own.cell o2).2]) (row':=[wv,ev]) rfl
 have l14:s13.rdN st.next 0 2=some (.agg [wv,ev].toArray):=a13.rdN rfl
 have t0:∀ (a b c:Value),zan (.tuple #[a,b,c]) 0=some a:=fun _ _ _=>rfl
 have t1:∀ (a b c:Value),zan (.tuple #[a,b,c]) 1=some b:=fun _ _ _=>rfl
 have t2:∀ (a b c:Value),zan (.tuple #[a,b,c]) 2=some c:=fun _ _ _=>rfl
 have hlt:st.next<s2.next:=by have:=x2.next;omega
 refine ⟨s13,wv,ev,zqZ st ?_,zaD (x03.trans x10) m13 (zlr _),?_,?_⟩
 ·simp only [zpz,he1,h2,zob,zac,c3,t0,t1,t2,zaa,SS.new_next,e9,e10,l12,e13,l14]
  rfl
 ·exact ((o1.ext x10).mod m13 fun j k l q e=>by
   obtain ⟨_,⟨e',_⟩ | ⟨i,e',_,_,hb,_⟩⟩:=o1
   ·rw [e'] at e;cases e
   ·rw [e'] at e;cases e;simp;omega).low (by omega)
 ·exact ((o2.ext x10).mod m13 fun j k l q e=>by
   obtain ⟨_,⟨e',_⟩ | ⟨i,e',_,_,hb,_⟩⟩:=o2
   ·rw [e'] at e;cases e
   ·rw [e'] at e;cases e;simp;omega).low (by omega)
end Go.Proofs.YtcplfckncandkaaGreatDoorE
namespace Go.Proofs.YtcplfckncandkaaGreatDoorE
open Go Go.E Go.Proofs
def uRow (X:Nat):List Value:=[.int .u64 (X:Int)]
theorem zwF (X:Nat):(uRow X).length=1:=rfl
def zco (X:Nat):List Value:=wRow (zb4 X)
theorem zxG (X:Nat):(zb4 X).length=12:=zj8 X 12
theorem zbS (X:Nat):(zco X).length=12:=by unfold zco;rw [zbc,zxG]
theorem zly (X:Nat) {k:Nat} (hk:k<12):(zb4 X)[k]?=some ((zaq X k:Nat):Int):=by
 unfold zb4 upTo
 rw [List.getElem?_map,List.getElem?_range hk,Option.map_some,if_pos hk]
theorem zm3 (X k:Nat):zaq X k<2048:=by
 unfold zaq
 have h1:X/2^za9 k%2^zax k<2^zax k:=Nat.mod_lt _ (Nat.two_pow_pos _)
 have h2:2^zax k≤2^11:=Nat.pow_le_pow_right (by omega) (zgw k)
 omega
def zfO (X i:Nat):List (Int×Int):=zbq ((zaq X 8:Nat):Int) ((zaq X 10:Nat):Int) (i:Int)
def okW (N X i:Nat):Bool:=(zfO X i).all fun p=>!decide ((N:Int)<p.1+p.2)
def zcX (ws:List Nat):Bool:=(List.range ws.length).all fun i=>match ws[i]? with
 | none=>true
 | some X=>okW ws.length X i
def zbM:List (List UInt8):=[[102,101,116,99,104],[111,112,101,114,97,110,100],[98,114,97,110,99,104],[102,97,117,108,116],[105,110,116,101,114,114,117,112,116]]
def zfh (es:List En):List (List UInt8)→Option (List Int)
 | []=>some []
 | n::r=>match zeH es n with
   | none=>none
   | some x=>match zfh es r with
     | none=>none
     | some xs=>some (x::xs)
def newT (ws:List Nat) (es:List En):Option (List Int):=cond (zfK ws.length es&&zcX ws) (zfh es zbM) none
theorem zvg {X i:Nat} (hi:i≤1099511627776):∀ p∈zfO X i,0≤p.1∧p.1≤1099511627777∧0≤p.2∧p.2≤64:=by
 intro p hp
 have h10:=zm3 X 10
 unfold zfO zbq at hp
 repeat' split at hp
 all_goals
  simp only [List.mem_cons,List.not_mem_nil,or_false] at hp
  try (rcases hp with rfl | rfl<;>simp only<;>omega)
  try (subst hp;simp only;omega)
theorem zxH (X i:Nat):(zfO X i).length≤2:=by
 unfold zfO zbq
 repeat' split
 all_goals simp
theorem zvh (p:Int×Int):(zcE p).length=2:=rfl
theorem zvi (X:Nat):zaW (wV (zb4 X)) 12=some (zco X):=zjG (zbS X)
def RchR (base:SS) (N:Nat) (ps:List (Int×Int)) (ok bad:List Value) (res:Option (Nat×List Value×SS)):Prop:=
 ∃ s',Ext base s'∧res=some (cond (ps.all fun p=>!decide ((N:Int)<p.1+p.2)) (0,ok,s') (1,bad,s'))
section
variable {r b q : Nat} {wv ev v7 : Value} {t21 i : Int} {N : Nat} {base : SS}
theorem unew9 [Sym] (ps:List (Int×Int)) (hsz:ps.length≤100) (hb:∀ p∈ps,0≤p.1∧p.1≤1099511627777∧0≤p.2∧p.2≤64) (hll:base.lim≤base.next) (hr:base.ld r 0=some wv) (hlt:r<base.next) (hN:(lenV wv).bind (asI .i64)=some (N:Int)) (hv:Rg base v7 (rowsF zcE ps) 2 ps.length) (t20:Value):∀ (k j:Nat) (s:SS),ps.length=k+j→Ext base s→
  RchR base N (ps.drop j) [ptr r 0,ptr b 0,ptr q 0,t20,.int .i64 t21,.int .i64 i] [.pointer none,.int .i64 4] (zaO 9 [ptr r 0,ptr b 0,ptr q 0,t20,.int .i64 t21,.int .i64 i,v7,.int .i64 ps.length,.int .i64 j] s):=by
 intro k
 induction k with
 | zero=>
   intro j s hk he
   have h:¬ (j:Int)<(ps.length:Int):=by omega
   rw [List.drop_of_length_le (by omega)]
   refine ⟨s,he,zf7 _ _ _ _ _ _ _ _ _ s ?_⟩
   simp only [zgn,zdf h,zcf]
   rfl
 | succ k ih=>
   intro j s hk he
   have h:(j:Int)<(ps.length:Int):=by omega
   obtain ⟨p,hg⟩:∃ p,ps[j]?=some p:=⟨_,zge (by omega)⟩
   obtain ⟨h1,h2,h3,h4⟩:=hb p (zmg hg)
   obtain ⟨p1,b1,b2,_⟩:=(hv.ext he).load (j:=(j:Int)) (by omega) h (zaU zvh ps j p hg) rfl
   have b2':s.ldN p1.1 p1.2 2=some (.agg (zcE p).toArray):=b2
   obtain ⟨s4,e4,a4,x4,n4⟩:=zaV (n:=2) (st:=s) (he.ll hll) (r:=zcE (0,0)) (row:=zcE p) (v:=.agg (zcE p).toArray) (zaG _) rfl rfl rfl
   have e4':(s.new (.cells [.int .i64 0,.int .i64 0] 0)).stV s.next 0 2 (.agg (zcE p).toArray)=some s4:=e4
   have he4:=he.trans x4
   have y5:zaR (ptr s.next 0) 2 0 1=some (s.next,0):=rfl
   have y7:zaR (ptr s.next 0) 2 1 1=some (s.next,1):=rfl
   have l6:s4.ld s.next 0=some (.int .i64 p.1):=a4.ld
   have l8:s4.ld s.next 1=some (.int .i64 p.2):=a4.ld
   have w9:IntKind.wrap .i64 (p.1+p.2)=p.1+p.2:=wrap64 (by omega) (by omega)
   have l11:s4.ld r 0=some wv:=(zgB he4 hlt).trans hr
   have hw1:=zaX (i:=j) (by omega)
   rw [drop_cons hg]
   by_cases hq:(N:Int)<p.1+p.2
   ·refine ⟨s4,he4,zf7 _ _ _ _ _ _ _ _ _ s ?_⟩
    simp only [zgn,zdt h,zct,b1,b2',e4',zob,y5,y7,l6,l8,zaa,w9,zad,l11,hN,zdt hq,List.all_cons,znt,Bool.false_and,zcf]
   ·obtain ⟨s',f1,f2⟩:=ih (j+1) s4 (by omega) he4
    refine ⟨s',f1,zf7 _ _ _ _ _ _ _ _ _ s ?_⟩
    simp only [zgn,zdt h,zct,b1,b2',e4',zob,y5,y7,l6,l8,zaa,w9,zad,l11,hN,zdf hq,zcf,List.all_cons,znf,Bool.true_and,hw1]
    exact f2
end
def GrowR (base:SS) (b:Nat) (tl:List Value) (ws:List Nat) (all:Bool) (ok bad:List Value) (res:Option (Nat×List Value×SS)):Prop:=
 match all with
 | false=>∃ s',Ext base s'∧res=some (1,bad,s')
 | true=>∃ s' v',Ext base s'∧res=some (0,ok,s')∧At s' b (v'::tl)∧Own (b+1) s' v' (rowsF zco ws) 12 ws.length
def zda (ws:List Nat) (i:Nat):Bool:=(List.range ws.length).all fun j=>Nat.blt j i||match ws[j]? with
 | none=>true
 | some X=>okW ws.length X j
theorem zoW (ws:List Nat):zda ws 0=zcX ws:=by
 unfold zda zcX
 have:∀ j,Nat.blt j 0=false:=fun j=>by rw [Bool.eq_false_iff];intro h;rw [Nat.blt_eq] at h;omega
 simp only [this,Bool.false_or]
theorem zpZ {ws:List Nat} {i:Nat} (h:ws.length≤i):zda ws i=true:=by
 unfold zda
 rw [List.all_eq_true]
 intro j hj
 have:Nat.blt j i=true:=by rw [Nat.blt_eq];have:=List.mem_range.1 hj;omega
 rw [this,Bool.true_or]
theorem zoX {ws:List Nat} {i X:Nat} (h:ws[i]?=some X):zda ws i=(okW ws.length X i&&zda ws (i+1)):=by
 have hi:i<ws.length:=(List.getElem?_eq_some_iff.1 h).1
 rw [Bool.eq_iff_iff,zae]
 unfold zda
 rw [List.all_eq_true,List.all_eq_true]
 constructor
 ·intro g
  refine ⟨?_,fun j hj=>?_⟩
  ·have:=g i (List.mem_range.2 hi)
   have hb:Nat.blt i i=false:=by rw [Bool.eq_false_iff];intro h;rw [Nat.blt_eq] at h;omega
   rw [hb,Bool.false_or,h] at this
   exact this
  ·have:=g j hj
   rw [Bool.or_eq_true] at this ⊢
   rcases this with h1 | h1
   ·left;rw [Nat.blt_eq] at h1 ⊢;omega
   ·exact .inr h1
 ·rintro ⟨g0,g⟩ j hj
  have:=g j hj
  rw [Bool.or_eq_true] at this ⊢
  rcases this with h1 | h1
  ·rw [Nat.blt_eq] at h1
   by_cases e:j=i
   ·subst e;right;rw [h];exact g0
   ·left;rw [Nat.blt_eq];omega
  ·exact .inr h1
theorem ztx (X:Nat):(zb4 X)[8]?=some ((zaq X 8:Nat):Int):=zly X (by omega)
theorem zrJ (X:Nat):(zb4 X)[10]?=some ((zaq X 10:Nat):Int):=zly X (by omega)
theorem unew5 [Sym] {r b:Nat} {wv ev:Value} {tl:List Value} {ws:List Nat} {base:SS} (hg:Gd base) (hb:base.next=b) (hll:base.lim≤base.next) (hsz:ws.length≤2048) (hX:∀ X∈ws,X<2^64) (hr:base.ld r 0=some wv) (hlt:r<base.next) (hv:Rg base wv (rowsF uRow ws) 1 ws.length):∀ (k i:Nat) (s:SS) (v:Value),ws.length=k+i→Ext base s→At s b (v::tl)→Own (b+1) s v (rowsF zco (ws.take i)) 12 i→
  GrowR base b tl ws (zda ws i) [ptr r 0,ptr b 0] [.pointer none,.int .i64 4] (zaO 5 [ptr r 0,ptr b 0,wv,.int .i64 ws.length,.int .i64 i] s):=by
 intro k
 induction k with
 | zero=>
   intro i s v hk he ha ho
   have h:¬ (i:Int)<(ws.length:Int):=by omega
   have hi:i=ws.length:=by omega
   rw [List.take_of_length_le (by omega),hi] at ho
   rw [zpZ (by omega)]
   refine ⟨s,v,he,zf6 _ _ _ _ _ s ?_,ha,ho⟩
   simp only [zgm,zdf h,zcf]
 | succ k ih=>
   intro i s v hk he ha ho
   have h:(i:Int)<(ws.length:Int):=by omega
   obtain ⟨X,hgx⟩:∃ X,ws[i]?=some X:=⟨_,zge (by omega)⟩
   obtain ⟨p1,b1,_,b3⟩:=(hv.ext he).load (j:=(i:Int)) (by omega) h (zaU zwF ws i X hgx) rfl
   have b3':s.ld p1.1 p1.2=some (.int .u64 (X:Int)):=b3 0 _ rfl
   obtain ⟨n3,hn3,c3⟩:=zu1 X (hX X (zmg hgx)) s (hg.ext he)
   have x3:=Ext.advR s hn3
   have he3:=he.trans x3
   obtain ⟨s5,e5,a5,x5,n5⟩:=zaV (n:=12) (st:=s.adv n3) (he3.ll hll) (r:=Z12) (row:=zco X) (v:=wV (zb4 X)) (zaG _) (zbS X) (zde _) rfl
   have he5:=he3.trans x5
   have l6:s5.ldN n3 0 12=some (wV (zb4 X)):=a5.ldN (zbS X)
   obtain ⟨v7,s7,c7,x7,o7⟩:=zqH (zb4 X) (i:Int) _ _ (ztx X) (zrJ X) (by omega) (by omega) s5 (he5.ll hll)
   have he7:=he5.trans x7
   have o7':Rg s7 v7 (rowsF zcE (zfO X i)) 2 (zfO X i).length:=o7.rg
   have q8:=o7'.lenI
   obtain ⟨s9,x9,f9⟩:=unew9 (r:=r) (b:=b) (q:=n3) (wv:=wv) (v7:=v7) (t21:=ws.length) (i:=i) (N:=ws.length) (zfO X i) (by have:=zxH X i;omega) (zvg (by omega)) (he7.ll hll) ((zgB he7 hlt).trans hr) (zll hlt he7.next) hv.lenI o7' wv (zfO X i).length 0 s7 rfl (Ext.refl _)
   rw [List.drop_zero] at f9
   have f9':zaO 9 [ptr r 0,ptr b 0,ptr n3 0,wv,.int .i64 ws.length,.int .i64 i,v7,.int .i64 (zfO X i).length,.int .i64 0] s7=_:=f9
   have he9:=he7.trans x9
   have hs9:Ext s s9:=((x3.trans x5).trans x7).trans x9
   rw [zoX hgx]
   cases hok:okW ws.length X i with
   | false=>
     have hok':((zfO X i).all fun p=>!decide ((ws.length:Int)<p.1+p.2))=false:=hok
     rw [hok',zcf] at f9'
     have b0:Nat.beq 1 0=false:=rfl
     refine ⟨s9,he9,zf6 _ _ _ _ _ s ?_⟩
     unfold zgm
     simp only [zdt h,zct]
     refine zbi.2 ⟨_,b1,?_⟩
     simp only [b3',zob]
     refine zbi.2 ⟨_,rfl,?_⟩
     refine zbi.2 ⟨_,c3,?_⟩
     refine zbi.2 ⟨_,e5,?_⟩
     refine zbi.2 ⟨_,l6,?_⟩
     refine zbi.2 ⟨_,c7,?_⟩
     refine zbi.2 ⟨_,q8,?_⟩
     refine zbi.2 ⟨_,f9',?_⟩
     simp only [b0,zcf,zgz,zgs,zob,zaa]
   | true=>
     have hok':((zfO X i).all fun p=>!decide ((ws.length:Int)<p.1+p.2))=true:=hok
     rw [hok',zct] at f9'
     have b0:Nat.beq 0 0=true:=rfl
     have a9:=ha.ext hs9
     have o9:=ho.ext hs9
     have l18:s9.ld b 0=some v:=a9.ld
     have l20:s9.ldN n3 0 12=some (wV (zb4 X)):=(a5.ext (x7.trans x9)).ldN (zbS X)
     have hbn:b+1≤s9.next:=a9.lt
     obtain ⟨v',s',g1,g2,g3,g4,g5⟩:=o9.pushM (row:=zco X) (bt:=96) hbn (by rw [he9.lim];omega) (zbS X) (by omega) (zde _) (by omega) (by omega)
     have ha':At s' b (v::tl):=⟨(g5 b (by omega)).trans a9.1,by omega,by rw [g3];exact a9.2.2⟩
     have hcv:=g2.cell
     obtain ⟨s2,e2,a2,m2,n2⟩:=ha'.set1V (k:=0) (x:=v') hcv.1 (by simp) hcv.2
     have xs':Ext base s':=⟨zlt he9.next g4,g3.trans he9.lim,fun j hj=>(g5 j (by omega)).trans (he9.keep j hj)⟩
     have xs2:Ext base s2:=((Mod.ofExt (S:=[]) xs').thenI m2 (.inl (by omega))).toExt
     have o2:Own (b+1) s2 v' (rowsF zco (ws.take (i+1))) 12 (i+1):=by
      have:ws.take (i+1)=ws.take i++[X]:=by rw [List.take_add_one,hgx];rfl
      rw [this,zcj,zdz]
      exact g2.modLt m2 (by simp)
     have hres:=ih (i+1) s2 v' (by omega) xs2 a2 o2
     have hw1:=zaX (i:=i) (by omega)
     have step:∀ rr,zaO 5 [ptr r 0,ptr b 0,wv,.int .i64 ws.length,.int .i64 (i+1:Nat)] s2=some rr→zaO 5 [ptr r 0,ptr b 0,wv,.int .i64 ws.length,.int .i64 i] s=some rr:=by
      intro rr hrr
      refine zf6 _ _ _ _ _ s ?_
      unfold zgm
      simp only [zdt h,zct]
      refine zbi.2 ⟨_,b1,?_⟩
      simp only [b3',zob]
      refine zbi.2 ⟨_,rfl,?_⟩
      refine zbi.2 ⟨_,c3,?_⟩
      refine zbi.2 ⟨_,e5,?_⟩
      refine zbi.2 ⟨_,l6,?_⟩
      refine zbi.2 ⟨_,c7,?_⟩
      refine zbi.2 ⟨_,q8,?_⟩
      refine zbi.2 ⟨_,f9',?_⟩
      have hnl:zaj (ptr b 0)=some (ptr b 0):=rfl
      simp only [b0,zct,zgz,zgs,zob,zaa,hnl,zad,l18,l20,zvi,List.append_nil,g1,e2,hw1]
      exact hrr
     rw [Bool.true_and]
     unfold GrowR at hres ⊢
     cases hwf:zda ws (i+1) with
     | false=>
       rw [hwf] at hres
       obtain ⟨s',y1,y2⟩:=hres
       exact ⟨s',y1,step _ y2⟩
     | true=>
       rw [hwf] at hres
       obtain ⟨s',v',y1,y2,y3⟩:=hres
       exact ⟨s',v',y1,step _ y2,y3⟩
end Go.Proofs.YtcplfckncandkaaGreatDoorE
namespace Go.Proofs.YtcplfckncandkaaGreatDoorE
open Go Go.E Go.Proofs
abbrev zaN:Value:=.slice none 0 0
def iRow (x:Int):List Value:=[.int .i64 x]
theorem zq1 (x:Int):(iRow x).length=1:=rfl
theorem zty (x:List UInt8):(strRow x).length=1:=rfl
def zb2 (v:Value) (E:List Int) (pc:Int) (k:Value):List Value:=v::(E.map (Value.int .i64)++[.int .i64 pc,k])
def mRow (v w:Value) (pc:Int) (k:Value):List Value:=[v,w,.int .i64 pc,k]
theorem sq_set {v:Value} {E:List Int} {pc:Int} {k:Value} (hE:E.length=5) {i:Nat} (hi:i<5) (x:Int):(zb2 v E pc k).set (0+1+i*1) (.int .i64 x)=zb2 v (E.set i x) pc k:=by
 match E,hE with
 | [a,b,c,d,e],_=>match i,hi with
   | 0,_=>rfl
   | 1,_=>rfl
   | 2,_=>rfl
   | 3,_=>rfl
   | 4,_=>rfl
theorem zvj {v:Value} {E:List Int} {pc:Int} {k:Value} (hE:E.length=5) {i:Nat} (hi:i<5):(zb2 v E pc k)[0+1+i*1]?=some (.int .i64 (E.getD i 0)):=by
 match E,hE with
 | [a,b,c,d,e],_=>match i,hi with
   | 0,_=>rfl
   | 1,_=>rfl
   | 2,_=>rfl
   | 3,_=>rfl
   | 4,_=>rfl
theorem zfP {v:Value} {E:List Int} {pc:Int} {k:Value} (hE:E.length=5):(zb2 v E pc k)[0+6]?=some (.int .i64 pc)∧(zb2 v E pc k)[0+7]?=some k∧(zb2 v E pc k).length=8∧(∀ x,(zb2 v E pc k).set (0+6) (.int .i64 x)=zb2 v E x k)∧∀ x,(zb2 v E pc k).set (0+7) x=zb2 v E pc x:=by
 match E,hE with
 | [a,b,c,d,e],_=>exact ⟨rfl,rfl,rfl,fun _=>rfl,fun _=>rfl⟩
theorem zod {b i:Nat} (hi:i<5):zaR (ptr b (0+1)) 5 (i:Int) 1=some (b,0+1+i*1):=by
 match i,hi with
 | 0,_=>rfl
 | 1,_=>rfl
 | 2,_=>rfl
 | 3,_=>rfl
 | 4,_=>rfl
theorem tup0 (a b:Value):zan (.tuple #[a,b]) 0=some a:=rfl
theorem tup1 (a b:Value):zan (.tuple #[a,b]) 1=some b:=rfl
theorem zvk {v:Value} {st:SS} (h:Rg st v (rowsF strRow zbM) 1 5) {i:Nat} {n:List UInt8} (hn:zbM[i]?=some n):∃ p,zau v (i:Int) 1=some p∧st.ld p.1 p.2=some (.string (mkS n)):=by
 have hi:i<5:=(List.getElem?_eq_some_iff.1 hn).1
 obtain ⟨p,h1,_,h3⟩:=h.load (j:=(i:Int)) (by omega) (by omega) (zaU zty zbM i n hn) rfl
 exact ⟨p,h1,h3 0 _ rfl⟩
theorem zwG:zbM.length=5:=rfl
theorem unew17 [Sym] {r b:Nat} {wv ev v v58:Value} {ws:List Nat} {es:List En} {base:SS} (hb:base.next=b) (hll:base.lim≤base.next) (hsz:es.length≤255) (hr:base.ldN r 0 2=some (zbW wv ev)) (hlt:r<base.next) (hev:Rg base ev (rowsF zaZ es) 2 es.length) {base2:SS} (h58:Rg base2 v58 (rowsF strRow zbM) 1 5) (h2b:Ext base base2) (hv58:∀ i l c,v58=.slice (some ⟨i,0,none⟩) l c→i≠b) (ho:Own (b+1) base2 v (rowsF zco ws) 12 ws.length):∀ (k i:Nat) (pre:List Int) (s:SS),5=k+i→pre.length=i→Mod [b] base2 s→Ext base s→At s b (zb2 v (pre++List.replicate k 0) 0 zaN)→
  (match zfh es (zbM.drop i) with
  | none=>∃ s',Ext base s'∧zaO 17 [ptr r 0,ptr b 0,v58,.int .i64 5,.int .i64 i] s=some (1,[.pointer none,.int .i64 4],s')
  | some xs=>∃ s',Ext base s'∧zaO 17 [ptr r 0,ptr b 0,v58,.int .i64 5,.int .i64 i] s=some (0,[ptr b 0],s')∧At s' b (zb2 v (pre++xs) 0 zaN)∧Own (b+1) s' v (rowsF zco ws) 12 ws.length):=by
 intro k
 induction k with
 | zero=>
   intro i pre s hk hp hm he ha
   have h:¬ (i:Int)<5:=by omega
   have hi:i=5:=by omega
   subst hi
   refine ⟨s,he,zfD _ _ _ _ _ s ?_,ha,ho.modLt hm (by simp)⟩
   simp only [zfC,zdf h,zcf]
 | succ k ih=>
   intro i pre s hk hp hm he ha
   have h:(i:Int)<5:=by omega
   obtain ⟨n,hn⟩:∃ n,zbM[i]?=some n:=⟨_,zge (by rw [zwG];omega)⟩
   obtain ⟨p1,b1,b2⟩:=zvk (h58.mod hm (fun i l c e hi=>hv58 i l c e (by simpa using hi))) hn
   have l4:s.ldN r 0 2=some (zbW wv ev):=by
    have:s.ldN r 0 2=base.ldN r 0 2:=by unfold SS.ldN;rw [he.keep r hlt]
    rw [this,hr]
   obtain ⟨m,hm5,c5⟩:=find_ok (wv:=wv) (es:=es) (by omega) n (hev.ext he)
   have x5:=Ext.advR s hm5
   have he5:=he.trans x5
   have a5:=ha.ext x5
   rw [drop_cons hn]
   unfold zfh
   cases hq:zeH es n with
   | none=>
     rw [hq] at c5
     refine ⟨s.adv m,he5,zfD _ _ _ _ _ s ?_⟩
     simp only [zfC,zdt h,zct,b1,zob,b2,zac,zad,l4,c5,tup0,tup1,zaa,zai,Option.isSome_none,znf]
   | some x=>
     rw [hq] at c5
     have hEl:(pre++List.replicate (k+1) (0:Int)).length=5:=by rw [List.length_append,List.length_replicate];omega
     obtain ⟨s2,e2,a2,m2,n2⟩:=a5.set1 (k:=0+1+i*1) (x:=.int .i64 x) (by rw [(zfP hEl).2.2.1];omega) rfl
     rw [sq_set hEl (by omega)] at a2
     have hset:(pre++List.replicate (k+1) (0:Int)).set i x=(pre++[x])++List.replicate k 0:=by
      rw [List.set_append_right _ _ (by omega),hp,Nat.sub_self,List.replicate_succ,List.set_cons_zero,List.append_assoc];rfl
     rw [hset] at a2
     have hm2:Mod [b] base2 s2:=((hm.thenX x5).then m2)
     have hx2:Ext base s2:=((Mod.ofExt (S:=[]) he5).thenI m2 (.inl (by omega))).toExt
     have hres:=ih (i+1) (pre++[x]) s2 (by omega) (by simp [hp]) hm2 hx2 a2
     have hw1:=zaX (i:=i) (by omega)
     have step:∀ rr,zaO 17 [ptr r 0,ptr b 0,v58,.int .i64 5,.int .i64 (i+1:Nat)] s2=some rr→zaO 17 [ptr r 0,ptr b 0,v58,.int .i64 5,.int .i64 i] s=some rr:=fun rr hrr=>by
      refine zfD _ _ _ _ _ s ?_
      simp only [zfC,zdt h,zct,b1,zob,b2,zac,zad,l4,c5,tup0,tup1,zaa,zai,Option.isSome_some,znt,zcf,Option.getD_some,zaw,zod (show i<5 by omega),e2,hw1]
      exact hrr
     cases hq2:zfh es (zbM.drop (i+1)) with
     | none=>
       rw [hq2] at hres
       obtain ⟨s',y1,y2⟩:=hres
       exact ⟨s',y1,step _ y2⟩
     | some xs=>
       rw [hq2] at hres
       obtain ⟨s',y1,y2,y3,y4⟩:=hres
       rw [List.append_assoc] at y3
       exact ⟨s',y1,step _ y2,y3,y4⟩
theorem zm4 (es:List En):∀ (ns:List (List UInt8)) (xs:List Int),zfh es ns=some xs→xs.length=ns.length
 | [],xs,h=>by simp only [zfh,zsj] at h;subst h;rfl
 | n::r,xs,h=>by
   unfold zfh at h
   split at h
   ·cases h
   ·split at h
    ·cases h
    ·rename_i x _ ys hys
     cases h
     simp [zm4 es r ys hys]
theorem go_ok [Sym] {s:SS} {b:Nat} {v k:Value} {E:List Int} {pc:Int} (hE:E.length=5) (ha:At s b (zb2 v E pc k)) {i:Nat} (hi:i<5):
  ∃ s',cc 13 [ptr b 0,.int .i64 i] s=some (.tuple #[],s')∧At s' b (zb2 v E (E.getD i 0) zaN)∧Mod [b] s s'∧s'.next=s.next:=by
 have h0:(0:Int)≤(i:Int):=by omega
 have h5:(i:Int)<5:=by omega
 have l3:s.ld b (0+1+i*1)=some (.int .i64 (E.getD i 0)):=by rw [ha.ld,zvj hE hi]
 obtain ⟨s1,e1,a1,m1,n1⟩:=ha.set1 (k:=0+6) (x:=.int .i64 (E.getD i 0)) (by rw [(zfP hE).2.2.1];omega) rfl
 rw [(zfP hE).2.2.2.1] at a1
 obtain ⟨s2,e2,a2,m2,n2⟩:=a1.set1 (k:=0+7) (x:=zaN) (by rw [(zfP hE).2.2.1];omega) rfl
 rw [(zfP hE).2.2.2.2] at a2
 refine ⟨s2,zoD _ _ s ?_,a2,m1.then m2,by omega⟩
 simp only [zl9,zdt h0,zdt h5,zct,zaw,zob,zad,zod hi,l3,zaa,e1,e2]
theorem zoY [Sym] {ws:List Nat} {es:List En} {wv ev:Value} {st:SS} (hg:Gd st) (hl:st.lim≤st.next) (hX:∀ X∈ws,X<2^64) (o1:Rg st wv (rowsF uRow ws) 1 ws.length) (o2:Rg st ev (rowsF zaZ es) 2 es.length):
  match newT ws es with
  | none=>∃ s',Ext st s'∧cc 10 [zbW wv ev] st=some (.tuple #[.pointer none,.int .i64 4],s')
  | some E=>E.length=5∧∃ s' b v,Ext st s'∧cc 10 [zbW wv ev] st=some (.tuple #[ptr b 0,.int .i64 0],s')∧st.next≤b∧At s' b (zb2 v E (E.getD 0 0) zaN)∧Own (b+1) s' v (rowsF zco ws) 12 ws.length:=by
 have hc:(zbW wv ev).cells.toList=[wv,ev]:=by show (Value.agg [wv,ev].toArray).cells.toList=_;exact zaG _
 have x1:Ext st (st.new (.cells [wv,ev] 0)):=(Ext.refl _).new _
 have a1:At (st.new (.cells [wv,ev] 0)) st.next [wv,ev]:=At.new hl _
 have hn1:(st.new (.cells [wv,ev] 0)).next=st.next+1:=rfl
 obtain ⟨s1,hs1⟩:∃ s1,st.new (.cells [wv,ev] 0)=s1:=⟨_,rfl⟩
 rw [hs1] at x1 a1 hn1
 have l2:s1.ldN st.next 0 2=some (zbW wv ev):=a1.ldN rfl
 obtain ⟨n3,hn3,c3⟩:=ztp (o1.ext x1) (o2.ext x1)
 have x3:=Ext.advR s1 hn3
 have hx3:=x1.trans x3
 unfold newT
 cases hG:zfK ws.length es with
 | false=>
   rw [hG] at c3
   refine ⟨s1.adv n3,hx3,zgl _ st ?_⟩
   simp only [zhC,hc,hs1,l2,zob,c3,zai,znf,zct]
 | true=>
   rw [hG] at c3
   have hG':=hG
   unfold zfK at hG'
   simp only [zae,Nat.ble_eq] at hG'
   obtain ⟨hw,hes,_⟩:=hG'
   have hlm:(s1.adv n3).lim≤(s1.adv n3).next:=hx3.ll hl
   have a5:At ((s1.adv n3).new (.cells (zb2 zaN [0,0,0,0,0] 0 zaN) 0)) n3 (zb2 zaN [0,0,0,0,0] 0 zaN):=At.new hlm _
   have x5:Ext (s1.adv n3) ((s1.adv n3).new (.cells (zb2 zaN [0,0,0,0,0] 0 zaN) 0)):=(Ext.refl _).new _
   have l0:(s1.adv n3).ld st.next 0=some wv:=(a1.ext x3).ld
   have l6:((s1.adv n3).new (.cells (zb2 zaN [0,0,0,0,0] 0 zaN) 0)).ld st.next 0=some wv:=((a1.ext x3).ext x5).ld
   have q7:=o1.lenI
   have hlt:st.next<(s1.adv n3).next:=by show st.next<n3;omega
   have f5:=unew5 (r:=st.next) (b:=n3) (wv:=wv) (ev:=ev) (tl:=[0,0,0,0,0].map (Value.int .i64)++[.int .i64 0,zaN]) (ws:=ws) (hg.ext hx3) rfl hlm hw hX l0 hlt (o1.ext hx3) ws.length 0 _ zaN rfl x5 a5 (Own.nil _ _ _)
   rw [zoW] at f5
   cases hW:zcX ws with
   | false=>
     rw [hW] at f5
     obtain ⟨s8,x8,f8⟩:=f5
     have f8':zaO 5 [ptr st.next 0,ptr n3 0,wv,.int .i64 ws.length,.int .i64 0] ((s1.adv n3).new (.cells (zb2 zaN [0,0,0,0,0] 0 zaN) 0))=_:=f8
     have b0:Nat.beq 1 0=false:=rfl
     refine ⟨s8,hx3.trans x8,zgl _ st ?_⟩
     simp only [zhC,hc,hs1,l2,zob,c3,zai,znt,zcf]
     refine zbi.2 ⟨_,l6,?_⟩
     refine zbi.2 ⟨_,q7,?_⟩
     refine zbi.2 ⟨_,f8',?_⟩
     simp only [b0,zcf,zgz,zgs,zob,zaa]
   | true=>
     rw [hW] at f5
     obtain ⟨s8,v,x8,f8,a8,o8⟩:=f5
     have f8':zaO 5 [ptr st.next 0,ptr n3 0,wv,.int .i64 ws.length,.int .i64 0] ((s1.adv n3).new (.cells (zb2 zaN [0,0,0,0,0] 0 zaN) 0))=_:=f8
     have b0:Nat.beq 0 0=true:=rfl
     have c11:cc 26 [] s8=some (.slice (some ⟨s8.next,0,none⟩) 5 5,s8.new (.cells (rowsF strRow zbM) 1)):=zpJ s8 rfl
     have x11:Ext s8 (s8.new (.cells (rowsF strRow zbM) 1)):=(Ext.refl _).new _
     have g58:Rg (s8.new (.cells (rowsF strRow zbM) 1)) (.slice (some ⟨s8.next,0,none⟩) 5 5) (rowsF strRow zbM) 1 5:=(zlx (st:=s8) (row:=rowsF strRow zbM) (n:=5) rfl (by omega)).rg
     have q12:(lenV (.slice (some ⟨s8.next,0,none⟩) 5 5)).bind (asI .i64)=some 5:=rfl
     have hb8:n3<s8.next:=a8.lt
     have f13:=unew17 (r:=st.next) (b:=n3) (wv:=wv) (ev:=ev) (v:=v) (v58:=.slice (some ⟨s8.next,0,none⟩) 5 5) (ws:=ws) (es:=es) (base:=s1.adv n3) rfl hlm hes ((a1.ext x3).ldN rfl) hlt (o2.ext hx3) (base2:=s8.new (.cells (rowsF strRow zbM) 1)) g58 (x8.trans x11) (fun i l c e=>by cases e;omega) (o8.ext x11) 5 0 [] _ rfl rfl (Mod.refl _) (x8.trans x11) (a8.ext x11)
     rw [List.drop_zero] at f13
     have hnl:=zaw n3
     simp only [Bool.and_self,zct]
     cases hT:zfh es zbM with
     | none=>
       rw [hT] at f13
       obtain ⟨s13,x13,f13⟩:=f13
       have f13':zaO 17 [ptr st.next 0,ptr n3 0,.slice (some ⟨s8.next,0,none⟩) 5 5,.int .i64 5,.int .i64 0] (s8.new (.cells (rowsF strRow zbM) 1))=_:=f13
       have b1:Nat.beq 1 0=false:=rfl
       refine ⟨s13,hx3.trans x13,zgl _ st ?_⟩
       simp only [zhC,hc,hs1,l2,zob,c3,zai,znt,zcf]
       refine zbi.2 ⟨_,l6,?_⟩
       refine zbi.2 ⟨_,q7,?_⟩
       refine zbi.2 ⟨_,f8',?_⟩
       simp only [b0,zct,zgz,zgs,zob,c11,q12]
       refine zbi.2 ⟨_,f13',?_⟩
       simp only [b1,zcf,zgz,zgs,zob,zaa]
     | some E=>
       rw [hT] at f13
       obtain ⟨s13,x13,f13,a13,o13⟩:=f13
       have f13':zaO 17 [ptr st.next 0,ptr n3 0,.slice (some ⟨s8.next,0,none⟩) 5 5,.int .i64 5,.int .i64 0] (s8.new (.cells (rowsF strRow zbM) 1))=_:=f13
       have hE:E.length=5:=zm4 es zbM E hT
       rw [List.nil_append] at a13
       obtain ⟨s15,c15,a15,m15,n15⟩:=go_ok hE a13 (i:=0) (by omega)
       have c15':cc 13 [ptr n3 0,.int .i64 0] s13=some (.tuple #[],s15):=c15
       refine ⟨hE,s15,n3,v,hx3.trans ((Mod.ofExt (S:=[]) x13).thenI m15 (.inl (zlr n3))).toExt,zgl _ st ?_,by omega,a15,o13.modLt m15 (by simp)⟩
       simp only [zhC,hc,hs1,l2,zob,c3,zai,znt,zcf]
       refine zbi.2 ⟨_,l6,?_⟩
       refine zbi.2 ⟨_,q7,?_⟩
       refine zbi.2 ⟨_,f8',?_⟩
       simp only [b0,zct,zgz,zgs,zob,c11,q12]
       refine zbi.2 ⟨_,f13',?_⟩
       simp only [b0,zct,zgz,zob,c15']
end Go.Proofs.YtcplfckncandkaaGreatDoorE
namespace Go.Proofs.YtcplfckncandkaaGreatDoorE
open Go Go.E Go.Proofs
def Stk (B:Nat) (s:SS) (k:Value) (ca:List Int):Prop:=
 (k=zaN∧ca=[])∨∃ j o cap C,k=.slice (some ⟨j,o,none⟩) ca.length cap∧ca.length≤cap∧s.mem.get j=some (.cells C 1)∧o+cap≤C.length∧(C.drop o).take ca.length=ca.map (Value.int .i64)∧B≤j∧j<s.next
section
variable {B b : Nat} {s s' : SS} {k k' : Value} {ca : List Int}
theorem Stk.cell (h:Stk B s k ca):k.cells.toList=[k]∧one k=true:=by
 obtain ⟨rfl,_⟩ | ⟨j,o,cap,C,rfl,_⟩:=h<;>exact ⟨rfl,rfl⟩
theorem Stk.len (h:Stk B s k ca):(lenV k).bind (asI .i64)=some (ca.length:Int):=by
 obtain ⟨rfl,rfl⟩ | ⟨j,o,cap,C,rfl,_⟩:=h<;>rfl
theorem Stk.keep (h:Stk B s k ca) (hn:s.next≤s'.next) (hk:∀ i o l c,k=.slice (some ⟨i,o,none⟩) l c→B≤i→i<s.next→s'.mem.get i=s.mem.get i):Stk B s' k ca:=by
 refine h.imp (fun h=>h) ?_
 rintro ⟨j,o,cap,C,e,h1,h2,h3,h4,h5,h6⟩
 exact ⟨j,o,cap,C,e,h1,(hk j o _ _ e h5 h6).trans h2,h3,h4,h5,by omega⟩
theorem Stk.nil:Stk B s zaN []:=.inl ⟨rfl,rfl⟩
theorem Stk.push (h:Stk B s k ca) (hb:B≤s.next) (hl:s.lim≤B) (hn:ca.length≤1000) (a:Int):
  ∃ s',(s.new (.cells [.int .i64 a] 1)).app 1 8 k (.slice (some ⟨s.next,0,none⟩) 1 1)=some (.slice (some ⟨s.next+1,0,none⟩) (ca.length+1) (ca.length+1),s')∧s'.next=s.next+2∧s'.lim=s.lim∧s'.mem.get (s.next+1)=some (.cells ((ca++[a]).map (Value.int .i64)) 1)∧
   ∀ i,i<s.next→(∀ o l c,k≠.slice (some ⟨i,o,none⟩) l c)→s'.mem.get i=s.mem.get i:=by
 have hx:(s.new (.cells [.int .i64 a] 1)).first 1 1 (.slice (some ⟨s.next,0,none⟩) 1 1)=some [.int .i64 a]:=by
  unfold SS.first
  simp only [SS.new_get,zob]
  rfl
 have e1:zei (.slice (some ⟨s.next,0,none⟩) 1 1)=some 1:=rfl
 have m0:Nat.beq 1 0=false:=rfl
 obtain ⟨rfl,rfl⟩ | ⟨j,o,cap,C,rfl,h1,h2,h3,h4,h5,h6⟩:=h
 ·refine ⟨(s.new (.cells [.int .i64 a] 1)).new (.cells [.int .i64 a] 1),?_,rfl,rfl,?_,fun i hi _=>?_⟩
  ·unfold SS.app
   rw [e1]
   simp only [zob,m0,zcf]
   have q:(Nat.ble ((1+1)*8) (2^44)&&Nat.ble 1 (2^44))=true:=rfl
   rw [q,hx]
   rfl
  ·exact SS.new_get (st:=s.new (.cells [.int .i64 a] 1))
  ·rw [SS.new_old (by simp;omega),SS.new_old (by omega)]
 ·have hj:(s.new (.cells [.int .i64 a] 1)).mem.get j=some (.cells C 1):=by rw [SS.new_old (by omega)];exact h2
  have hcut:cut C o (ca.length*1)=some (ca.map (Value.int .i64)):=by
   rw [Nat.mul_one]
   exact zkE h4 (by simp)
  refine ⟨((s.new (.cells [.int .i64 a] 1)).set j none).new (.cells (ca.map (Value.int .i64)++[.int .i64 a]) 1),?_,rfl,rfl,?_,fun i hi hne=>?_⟩
  ·unfold SS.app
   rw [e1]
   simp only [zob,m0,zcf]
   have q:(Nat.ble ((ca.length+1+1)*8) (2^44)&&Nat.ble (ca.length+1) (2^44)&&Nat.ble (s.new (.cells [.int .i64 a] 1)).lim j)=true:=by
    simp only [zae,Nat.ble_eq]
    exact ⟨⟨by omega,by omega⟩,by show s.lim≤j;omega⟩
   have q2:(Nat.beq 1 1&&(Nat.blt cap (ca.length+1)||Nat.ble (o+cap*1) C.length))=true:=by
    have:Nat.ble (o+cap*1) C.length=true:=by rw [Nat.ble_eq];omega
    rw [this,Bool.or_true];rfl
   have q3:([.int .i64 a]:List Value).all one=true:=rfl
   rw [q]
   simp only [zct,hj,zob,q2,hcut,hx,q3]
   rfl
  ·have:(((s.new (.cells [.int .i64 a] 1)).set j none).new (.cells (ca.map (Value.int .i64)++[.int .i64 a]) 1)).mem.get ((s.new (.cells [.int .i64 a] 1)).set j none).next=_:=SS.new_get
   rw [List.map_append]
   exact this
  ·rw [SS.new_old (by simp;omega),SS.set_old (fun e=>hne o _ _ (by rw [e])),SS.new_old (by omega)]
theorem Stk.tail {a:Int} {r:List Int} (h:Stk B s k (a::r)) (hr:0<r.length):∃ k',s.resl k 1 1 ((r.length+1:Nat):Int)=some k'∧Stk B s k' r∧∃ j o l c o' l' c',k=.slice (some ⟨j,o,none⟩) l c∧k'=.slice (some ⟨j,o',none⟩) l' c':=by
 obtain ⟨_,h0⟩ | ⟨j,o,cap,C,rfl,h1,h2,h3,h4,h5,h6⟩:=h
 ·cases h0
 simp only [List.length_cons] at h1 h4
 have e1:decide ((1:Int)≤((r.length+1:Nat):Int))=true:=zdt (by omega)
 have e2:decide (((r.length+1:Nat):Int)≤(cap:Int))=true:=zdt (by omega)
 have e3:Nat.beq cap 1=false:=by rw [zar];exact zdf (by omega)
 refine ⟨.slice (some ⟨j,o+1,none⟩) r.length (cap-1),?_,.inr ⟨j,o+1,cap-1,C,rfl,by omega,h2,by omega,?_,h5,h6⟩,j,o,_,_,o+1,_,_,rfl,rfl⟩
 ·unfold SS.resl
  have e0:decide ((0:Int)≤1)=true:=rfl
  have q:(Nat.beq 1 1||Nat.beq 1 0)=true:=rfl
  simp only [List.length_cons,e0,e1,e2,Bool.and_self,zct,h2,zob,q,show (1:Int).toNat=1 from rfl,e3,zcf,Int.toNat_natCast,Nat.mul_one,Nat.add_sub_cancel]
 ·have h7:(C.drop o).take (r.length+1)=(Value.int .i64 a)::r.map (Value.int .i64):=h4
  have h8:C.drop (o+1)=(C.drop o).drop 1:=by rw [List.drop_drop]
  rw [h8,List.take_drop,Nat.add_comm 1 r.length,h7]
  rfl
theorem Stk.init {r:List Int} {a:Int} (h:Stk B s k (r++[a])):∃ p k',zau k (r.length:Int) 1=some p∧s.ld p.1 p.2=some (.int .i64 a)∧s.resl k 1 0 (r.length:Int)=some k'∧Stk B s k' r∧∃ j o l c o' l' c',k=.slice (some ⟨j,o,none⟩) l c∧k'=.slice (some ⟨j,o',none⟩) l' c':=by
 obtain ⟨_,h0⟩ | ⟨j,o,cap,C,rfl,h1,h2,h3,h4,h5,h6⟩:=h
 ·simp at h0
 simp only [List.length_append,List.length_singleton] at h1 h4
 have e0:zau (.slice (some ⟨j,o,none⟩) (r++[a]).length cap) (r.length:Int) 1=some (j,o+r.length*1):=by
  unfold zau
  have g1:(0:Int)≤(r.length:Int):=by omega
  have g2:(r.length:Int)<((r++[a]).length:Int):=by rw [List.length_append,List.length_singleton];omega
  simp only [zdt g1,zdt g2,Bool.and_self,zct,Int.toNat_natCast]
 have hget:C[o+r.length*1]?=some (.int .i64 a):=by
  have h7:((C.drop o).take (r.length+1))[r.length]?=some (.int .i64 a):=by rw [h4];simp
  rw [List.getElem?_take,if_pos (by omega),List.getElem?_drop] at h7
  rw [Nat.mul_one];exact h7
 refine ⟨_,.slice (some ⟨j,o,none⟩) r.length cap,e0,?_,?_,.inr ⟨j,o,cap,C,rfl,by omega,h2,h3,?_,h5,h6⟩,j,o,_,_,o,_,_,rfl,rfl⟩
 ·rw [SS.ld_cells h2];exact hget
 ·unfold SS.resl
  have e1:decide ((0:Int)≤(r.length:Int))=true:=zdt (by omega)
  have e2:decide ((r.length:Int)≤(cap:Int))=true:=zdt (by omega)
  have q:(Nat.beq 1 1||Nat.beq 1 0)=true:=rfl
  have e3:cond (Nat.beq cap 0) o (o+0*1)=o:=by cases Nat.beq cap 0<;>simp
  simp only [e1,e2,Int.le_refl,decide_true,Bool.and_self,zct,h2,zob,q,Int.toNat_zero,e3,Int.toNat_natCast,Nat.sub_zero]
 ·have:(C.drop o).take r.length=((C.drop o).take (r.length+1)).take r.length:=by rw [List.take_take,Nat.min_eq_left (by omega)]
  rw [this,h4]
  simp
end
structure Fr (b:Nat) (k:Value) (s s':SS):Prop where
 next:s.next≤s'.next
 lim:s'.lim=s.lim
 keep:∀ i,i<s.next→i≠b→(∀ o l c,k≠.slice (some ⟨i,o,none⟩) l c)→s'.mem.get i=s.mem.get i
def Nw (k k':Value) (s:SS):Prop:=∀ i o l c,k'=.slice (some ⟨i,o,none⟩) l c→s.next≤i∨∃ o' l' c',k=.slice (some ⟨i,o',none⟩) l' c'
theorem Fr.ofExt {b:Nat} {k:Value} {s s':SS} (h:Ext s s'):Fr b k s s':=⟨h.next,h.lim,fun i hi _ _=>h.keep i hi⟩
theorem Fr.ofMod {b:Nat} {k:Value} {s s':SS} (h:Mod [b] s s'):Fr b k s s':=⟨h.next,h.lim,fun i hi hb _=>h.keep i hi (by simpa using hb)⟩
theorem Fr.then {b:Nat} {k k':Value} {s s' s2:SS} (h:Fr b k s s') (h2:Fr b k' s' s2) (hn:Nw k k' s):Fr b k s s2:=
 ⟨zlt h.next h2.next,h2.lim.trans h.lim,fun i hi hb hk=>(h2.keep i (zll hi h.next) hb (fun o l c e=>by
  rcases hn i o l c e with h3 | ⟨o',l',c',h3⟩
  ·omega
  ·exact hk _ _ _ h3)).trans (h.keep i hi hb hk)⟩
theorem Nw.same (k:Value) (s:SS):Nw k k s:=fun i o l c e=>.inr ⟨o,l,c,e⟩
theorem Nw.nil (k:Value) (s:SS):Nw k zaN s:=fun i o l c e=>by cases e
theorem Nw.then {k k' k2:Value} {s s':SS} (h:Nw k k' s) (h2:Nw k' k2 s') (hn:s.next≤s'.next):Nw k k2 s:=fun i o l c e=>by
 rcases h2 i o l c e with h3 | ⟨o',l',c',h3⟩
 ·exact .inl (by omega)
 ·exact h i o' l' c' h3
def SqI (B:Nat) (s:SS) (b:Nat) (ws:List Nat) (E:List Int) (pc:Int) (k:Value):Prop:=
 ∃ v,At s b (zb2 v E pc k)∧b<B∧Rg s v (rowsF zco ws) 12 ws.length∧∀ i l c,v=.slice (some ⟨i,0,none⟩) l c→b<i∧i<B
theorem Stk.sep {B:Nat} {s:SS} {k:Value} {ca:List Int} (h:Stk B s k ca) {i:Nat} (hi:i<B):∀ o l c,k≠.slice (some ⟨i,o,none⟩) l c:=fun o l c e=>by
 obtain ⟨rfl,_⟩ | ⟨j,o',cap,C,rfl,_,_,_,_,h5,_⟩:=h
 ·cases e
 ·cases e;omega
section
variable {B b : Nat} {s s' : SS} {ws : List Nat} {E : List Int} {pc : Int} {k : Value} {ca : List Int}
theorem SqI.ext (h:SqI B s b ws E pc k) (he:Ext s s'):SqI B s' b ws E pc k:=by
 obtain ⟨v,h1,h2,h3,h4⟩:=h
 exact ⟨v,h1.ext he,h2,h3.ext he,h4⟩
theorem Stk.ext (h:Stk B s k ca) (he:Ext s s'):Stk B s' k ca:=h.keep he.next fun i o l c e hB hi=>he.keep i hi
theorem SqI.set (h:SqI B s b ws E pc k) (hE:E.length=5) (x:Int):∃ s',s.st b (0+6) [.int .i64 x]=some s'∧SqI B s' b ws E x k∧Mod [b] s s'∧s'.next=s.next:=by
 obtain ⟨v,h1,h2,h3,h4⟩:=h
 obtain ⟨s2,e1,a1,m1,n1⟩:=h1.set1 (k:=0+6) (x:=.int .i64 x) (by rw [(zfP hE).2.2.1];omega) rfl
 rw [(zfP hE).2.2.2.1] at a1
 exact ⟨s2,e1,⟨v,a1,h2,h3.mod m1 (fun i l c e=>by have:=(h4 i l c e).1;simp;omega),h4⟩,m1,n1⟩
theorem SqI.setK (h:SqI B s b ws E pc k) (hE:E.length=5) {x:Value} (hc:x.cells.toList=[x]) (ho:one x=true):∃ s',s.stV b (0+7) 1 x=some s'∧SqI B s' b ws E pc x∧Mod [b] s s'∧s'.next=s.next:=by
 obtain ⟨v,h1,h2,h3,h4⟩:=h
 obtain ⟨s2,e1,a1,m1,n1⟩:=h1.set1V (k:=0+7) (x:=x) hc (by rw [(zfP hE).2.2.1];omega) ho
 rw [(zfP hE).2.2.2.2] at a1
 exact ⟨s2,e1,⟨v,a1,h2,h3.mod m1 (fun i l c e=>by have:=(h4 i l c e).1;simp;omega),h4⟩,m1,n1⟩
theorem SqI.pcs (h:SqI B s b ws E pc k) (hE:E.length=5):s.ld b (0+6)=some (.int .i64 pc)∧s.ld b (0+7)=some k∧∀ i,i<5→s.ld b (0+1+i*1)=some (.int .i64 (E.getD i 0)):=by
 obtain ⟨v,h1,_⟩:=h
 exact ⟨by rw [h1.ld,(zfP hE).1],by rw [h1.ld,(zfP hE).2.1],fun i hi=>by rw [h1.ld,zvj hE hi]⟩
theorem SqI.lt (h:SqI B s b ws E pc k):b<s.next∧b<B∧s.lim≤b:=by
 obtain ⟨v,h1,h2,_⟩:=h
 exact ⟨h1.2.1,h2,h1.2.2⟩
theorem zoZ [Sym] (h:SqI B s b ws E pc k) (hE:E.length=5):cc 14 [ptr b 0] s=some (.int .i64 pc,s):=by
 refine zoA _ s ?_
 have l:(s.ro s.next).ld b (0+6)=some (.int .i64 pc):=(h.pcs hE).1
 simp only [zl8,zaw,zob,zad,l,zaa]
 rfl
theorem zj9 [Sym] (h:SqI B s b ws E pc k) (hE:E.length=5) (hs:Stk B s k ca):cc 11 [ptr b 0] s=some (.int .i64 ca.length,s):=by
 refine zlG _ s ?_
 have l:(s.ro s.next).ld b (0+7)=some k:=(h.pcs hE).2.1
 simp only [zi3,zaw,zob,zad,l,hs.len]
 rfl
theorem zvl [Sym] (h:SqI B s b ws E pc k) (hE:E.length=5) {X:Nat} (h0:0≤pc) (hX:ws[pc.toNat]?=some X):∃ n,s.next≤n∧cc 21 [ptr b 0] s=some (wV (zb4 X),s.adv n):=by
 have hp:=h.pcs hE
 obtain ⟨v,h1,h2,h3,h4⟩:=h
 have hi:pc.toNat<ws.length:=(List.getElem?_eq_some_iff.1 hX).1
 have x1:Ext (s.ro s.next) ((s.ro s.next).new (.cells Z12 0)):=(Ext.refl _).new _
 have l4:((s.ro s.next).new (.cells Z12 0)).ld b 0=some v:=(zgB x1 (show b<(s.ro s.next).next from h1.2.1)).trans (by show s.ld b 0=_;rw [h1.ld];rfl)
 have l7:((s.ro s.next).new (.cells Z12 0)).ld b (0+6)=some (.int .i64 pc):=(zgB x1 (show b<(s.ro s.next).next from h1.2.1)).trans hp.1
 obtain ⟨p8,b1,b2,_⟩:=(Rg.ext (st:=s.ro s.next) h3 x1).load (j:=pc) h0 (by omega) (zaU zbS ws pc.toNat X hX) (zbS X)
 have b2':((s.ro s.next).new (.cells Z12 0)).ldN p8.1 p8.2 12=some (wV (zb4 X)):=b2
 obtain ⟨s10,e10,a10,x10,n10⟩:=zaV (n:=12) (st:=s.ro s.next) (zlr _) (r:=Z12) (row:=zco X) (v:=wV (zb4 X)) (zaG _) (zbS X) (zde _) rfl
 have r11:s10.rdN s.next 0 12=some (wV (zb4 X)):=a10.rdN (zbS X)
 refine ⟨s10.next,by have:=x10.next;exact this,zmK _ s ?_⟩
 unfold zkd
 simp only [zaw,zob,zad]
 refine zbi.2 ⟨_,l4,?_⟩
 simp only [l7,zob,zaa]
 refine zbi.2 ⟨_,b1,?_⟩
 refine zbi.2 ⟨_,b2',?_⟩
 refine zbi.2 ⟨_,e10,?_⟩
 refine zbi.2 ⟨_,r11,?_⟩
 rw [flatV];rfl
end
end Go.Proofs.YtcplfckncandkaaGreatDoorE
namespace Go.Proofs.YtcplfckncandkaaGreatDoorE
open Go Go.E Go.Proofs
theorem zsk (x:Int) {n:Nat} (hn:n≤8):zf0 .i64 x ((2^n-1:Nat):Int)=x%((2^n:Nat):Int):=by
 have hp:2^n≤2^8:=Nat.pow_le_pow_right (by omega) hn
 have hp0:0<2^n:=Nat.two_pow_pos _
 have hd:(2:Nat)^64=2^n*2^(64-n):=by rw [← Nat.pow_add];congr 1;omega
 unfold zf0
 have e1:(BitVec.ofInt 64 x&&& BitVec.ofInt 64 ((2^n-1:Nat):Int)).toNat=(x%2^64).toNat%2^n:=by
  rw [BitVec.toNat_and,BitVec.toNat_ofInt,BitVec.toNat_ofInt]
  have h2:(((2^n-1:Nat):Int)%((2^64:Nat):Int)).toNat=2^n-1:=by
   generalize 2^n=q at hp hp0
   omega
  rw [h2,Nat.and_two_pow_sub_one_eq_mod]
  rfl
 show IntKind.wrap .i64 ((BitVec.ofInt 64 x&&& BitVec.ofInt 64 ((2^n-1:Nat):Int)).toNat:Int)=_
 rw [e1]
 have h3:(((x%2^64).toNat%2^n:Nat):Int)=x%((2^n:Nat):Int):=by
  rw [Int.natCast_emod,Int.toNat_of_nonneg (Int.emod_nonneg _ (by omega))]
  have:(2:Int)^64=((2^n:Nat):Int)*((2^(64-n):Nat):Int):=by rw [← Int.natCast_mul,← hd];rfl
  rw [this]
  exact Int.emod_emod_of_dvd x (Int.dvd_mul_right _ _)
 rw [h3]
 have h4:0≤x%((2^n:Nat):Int):=Int.emod_nonneg _ (by omega)
 have h5:x%((2^n:Nat):Int)<((2^n:Nat):Int):=Int.emod_lt_of_pos _ (by omega)
 exact wrap64 (by omega) (by omega)
def zhR (ca:List Int) (a:Int):List Int:=if 8<ca.length+1 then (ca++[a]).drop 1 else ca++[a]
def zlz (E:List Int):List Int→Int
 | []=>E.getD 0 0
 | a::r=>(a::r).getLast (by simp)
def wordAt (ws:List Nat) (pc:Int):Nat:=ws.getD pc.toNat 0
def zba (ws:List Nat) (E:List Int) (pc:Int) (ca:List Int) (is:Bool) (tb op:Int):Int×List Int×Bool:=
 let u:=zaq (wordAt ws pc) 8
 let tw:Int:=(zaq (wordAt ws pc) 10:Nat)
 if u=0 then (pc+1,ca,false) else if u=1 then (tw,ca,false) else if u=2 then (cond is tw (pc+1),ca,false)
 else if u=3 then (tw,zhR ca (pc+1),false) else if u=4 then (zlz E ca,ca.dropLast,false)
 else if u=5 then (if op=1 then E.getD 1 0 else if op=2 then E.getD 2 0 else tw+tb%64,ca,false)
 else if u=6 then (tw+tb%16,ca,false) else (E.getD 0 0,[],true)
section
variable {B b : Nat} {s s' : SS} {ws : List Nat} {E : List Int} {pc : Int} {k : Value} {ca : List Int}
theorem Stk.mod (h:Stk B s k ca) (m:Mod [b] s s') (hb:b<B):Stk B s' k ca:=h.keep m.next fun i o l c e hB hi=>m.keep i hi (by simp;omega)
theorem SqI.keep (h:SqI B s b ws E pc k) (hn:s.next≤s'.next) (hl:s'.lim=s.lim) (hk:∀ i,i<B→i<s.next→s'.mem.get i=s.mem.get i):SqI B s' b ws E pc k:=by
 obtain ⟨v,h1,h2,h3,h4⟩:=h
 exact ⟨v,⟨(hk b h2 h1.2.1).trans h1.1,by have:=h1.2.1;omega,by rw [hl];exact h1.2.2⟩,h2,h3.keep hn fun i l c e hi=>hk i (h4 i l c e).2 hi,h4⟩
theorem zvm [Sym] (h:SqI B s b ws E pc k) (hE:E.length=5) (hs:Stk B s k ca) (hB:B≤s.next) (hl:s.lim≤B) (hca:ca.length≤8) (h0:0≤pc) (h1:pc≤100000):
  ∃ s' k',cc 28 [ptr b 0] s=some (.tuple #[],s')∧SqI B s' b ws E pc k'∧Stk B s' k' (zhR ca (pc+1))∧Fr b k s s'∧Nw k k' s:=by
 have hp:=h.pcs hE
 have hw:IntKind.wrap .i64 (pc+1)=pc+1:=wrap64 (by omega) (by omega)
 have hbB:=h.lt.2.1
 have x8:Ext s (s.new (.cells [.int .i64 (pc+1)] 1)):=(Ext.refl _).new _
 obtain ⟨s9,e9,n9,l9,m9,f9⟩:=hs.push hB hl (by omega) (pc+1)
 have h9:SqI B s9 b ws E pc k:=h.keep (by omega) l9 fun i hi hi2=>f9 i hi2 (hs.sep hi)
 have st9:Stk B s9 (.slice (some ⟨s.next+1,0,none⟩) (ca.length+1) (ca.length+1)) (ca++[pc+1]):=
  .inr ⟨s.next+1,0,ca.length+1,_,by simp,by simp,m9,by simp,by rw [List.drop_zero];exact List.take_of_length_le (by simp),by omega,by omega⟩
 have hc:=st9.cell
 obtain ⟨s12,e12,h12,m12,n12⟩:=h9.setK hE hc.1 hc.2
 have st12:=st9.mod m12 hbB
 have l15:=(h12.pcs hE).2.1
 have q16:(lenV (.slice (some ⟨s.next+1,0,none⟩) (ca.length+1) (ca.length+1))).bind (asI .i64)=some ((ca.length+1:Nat):Int):=rfl
 have fr12:Fr b k s s12:=⟨by omega,m12.lim.trans l9,fun i hi hb hk=>(m12.keep i (by omega) (by simpa using hb)).trans (f9 i hi hk)⟩
 have nw12:Nw k (.slice (some ⟨s.next+1,0,none⟩) (ca.length+1) (ca.length+1)) s:=fun i o l c e=>by cases e;exact .inl (by omega)
 have hE8:s.ld b (0+7)=some k:=hp.2.1
 unfold zhR
 by_cases hq:8<ca.length+1
 ·rw [if_pos hq]
  have hq':(8:Int)<((ca.length+1:Nat):Int):=by omega
  obtain ⟨a0,r,hcr⟩:∃ a0 r,ca++[pc+1]=a0::r:=by
   cases ca with
   | nil=>simp at hq
   | cons a0 r=>exact ⟨a0,r++[pc+1],rfl⟩
  have hrl:r.length=ca.length:=by
   have:=congrArg List.length hcr
   simp at this;omega
  rw [hcr] at st12 ⊢
  obtain ⟨k2,c21,st21,j,o,l,c,o',l',c',hkk,hk2⟩:=st12.tail (by omega)
  rw [hrl] at c21
  have hc2:=st21.cell
  obtain ⟨s24,e24,h24,m24,n24⟩:=h12.setK hE hc2.1 hc2.2
  refine ⟨s24,k2,zhD _ s ?_,h24,st21.mod m24 hbB,fr12.then (.ofMod m24:Fr b (.slice (some ⟨s.next+1,0,none⟩) (ca.length+1) (ca.length+1)) s12 s24) nw12,fun i o1 l1 c1 e=>?_⟩
  ·have q20:sliceLen (.slice (some ⟨s.next+1,0,none⟩) (ca.length+1) (ca.length+1))=some ((ca.length+1:Nat):Int):=rfl
   simp only [zgD,zaw,zob,zad,hE8,hp.1,zaa,hw,e9,e12,l15,q16,zdt hq',zct,q20,c21,e24]
  ·rw [hk2] at e;cases e;cases hkk
   exact .inl (by omega)
 ·rw [if_neg hq]
  have hq':¬ (8:Int)<((ca.length+1:Nat):Int):=by omega
  refine ⟨s12,_,zhD _ s ?_,h12,st12,fr12,nw12⟩
  simp only [zgD,zaw,zob,zad,hE8,hp.1,zaa,hw,e9,e12,l15,q16,zdf hq',zcf]
theorem elem50 {b:Nat}:zaR (ptr b (0+1)) 5 0 1=some (b,0+1+0*1):=zod (i:=0) (by omega)
theorem zvn [Sym] (h:SqI B s b ws E pc k) (hE:E.length=5) (hs:Stk B s k ca) (hca:ca.length≤8):
  ∃ s' k',cc 29 [ptr b 0] s=some (.int .i64 (zlz E ca),s')∧SqI B s' b ws E pc k'∧Stk B s' k' ca.dropLast∧Mod [b] s s'∧Nw k k' s:=by
 have hp:=h.pcs hE
 have hbB:=h.lt.2.1
 have q4:=hs.len
 rcases List.eq_nil_or_concat ca with rfl | ⟨r,a,rfl⟩
 ·have hz:((([]:List Int).length:Nat):Int)=0:=rfl
  have l7:=hp.2.2 0 (by omega)
  refine ⟨s,k,zhE _ s ?_,h,hs,.refl _,.same _ _⟩
  simp only [zgE,zaw,zob,zad,hp.2.1,q4,zdt hz,zct,elem50,l7,zaa]
  rfl
 ·rw [List.concat_eq_append] at*
  have hlen:(r++[a]).length=r.length+1:=by simp
  have hz:¬ (((r++[a]).length:Nat):Int)=0:=by omega
  have hw:IntKind.wrap .i64 ((((r++[a]).length:Nat):Int)-1)=(r.length:Int):=by rw [hlen,wrap64 (by omega) (by omega)];omega
  obtain ⟨p,k2,b1,b2,b3,st2,j,o,l,c,o',l',c',hkk,hk2⟩:=hs.init
  have hc2:=st2.cell
  obtain ⟨s22,e22,h22,m22,n22⟩:=h.setK hE hc2.1 hc2.2
  have hbt:zlz E (r++[a])=a:=by
   cases r with
   | nil=>rfl
   | cons x r=>exact List.getLast_concat (l:=x::r) (a:=a)
  refine ⟨s22,k2,zhE _ s ?_,h22,by rw [List.dropLast_concat];exact st2.mod m22 hbB,m22,fun i o1 l1 c1 e=>?_⟩
  ·simp only [zgE,zaw,zob,zad,hp.2.1,q4,zdf hz,zcf,hw,b1,b2,zaa,b3,e22,hbt]
  ·rw [hk2] at e;cases e
   exact .inr ⟨_,_,_,hkk⟩
theorem zlA [Sym] (h:SqI B s b ws E pc k) (hE:E.length=5) {i:Nat} (hi:i<5):∃ s',cc 13 [ptr b 0,.int .i64 i] s=some (.tuple #[],s')∧SqI B s' b ws E (E.getD i 0) zaN∧Mod [b] s s':=by
 obtain ⟨v,h1,h2,h3,h4⟩:=h
 obtain ⟨s',c,a,m,_⟩:=go_ok hE h1 hi
 exact ⟨s',c,⟨v,a,h2,h3.mod m (fun i l c e=>by have:=(h4 i l c e).1;simp;omega),h4⟩,m⟩
theorem ziq (X:Nat) {k:Nat} (hk:k<12):(zco X)[k]?=some (.int .i64 ((zaq X k:Nat):Int)):=by
 unfold zco
 rw [zjX,zly X hk];rfl
theorem zir [Sym] (h:SqI B s b ws E pc k) (hE:E.length=5) (hs:Stk B s k ca) (hB:B≤s.next) (hl:s.lim≤B) (hca:ca.length≤8) (h0:0≤pc) (hN:ws.length≤2048) (h1:pc<ws.length) (is:Bool) (tb op:Int):
  ∃ s' k',cc 12 [ptr b 0,.agg #[.bool is,.int .i64 tb,.int .i64 op]] s=some (.bool (zba ws E pc ca is tb op).2.2,s')∧SqI B s' b ws E (zba ws E pc ca is tb op).1 k'∧Stk B s' k' (zba ws E pc ca is tb op).2.1∧Fr b k s s'∧Nw k k' s:=by
 obtain ⟨X,hX⟩:∃ X,ws[pc.toNat]?=some X:=⟨_,zge (by omega)⟩
 have hwa:wordAt ws pc=X:=by unfold wordAt;rw [List.getD_eq_getElem?_getD,hX];rfl
 have hls:s.lim≤s.next:=by omega
 have hbB:=h.lt.2.1
 have hbn:=h.lt.1
 have a1:At (s.new (.cells [.bool is,.int .i64 tb,.int .i64 op] 0)) s.next [.bool is,.int .i64 tb,.int .i64 op]:=At.new hls _
 have x1:Ext s (s.new (.cells [.bool is,.int .i64 tb,.int .i64 op] 0)):=(Ext.refl _).new _
 have hc1:(Value.agg #[.bool is,.int .i64 tb,.int .i64 op]).cells.toList=[.bool is,.int .i64 tb,.int .i64 op]:=zaG _
 obtain ⟨s1,hs1⟩:∃ s1,s.new (.cells [.bool is,.int .i64 tb,.int .i64 op] 0)=s1:=⟨_,rfl⟩
 rw [hs1] at a1 x1
 obtain ⟨n2,hn2,c2⟩:=zvl (h.ext x1) hE h0 hX
 have x2:=Ext.advR s1 hn2
 have x12:=x1.trans x2
 obtain ⟨s4,e4,a4,x4,n4⟩:=zaV (n:=12) (st:=s1.adv n2) (x12.ll hls) (r:=Z12) (row:=zco X) (v:=wV (zb4 X)) (zaG _) (zbS X) (zde _) rfl
 have e4':((s1.adv n2).new (.cells [.int .i64 0,.int .i64 0,.int .i64 0,.int .i64 0,.int .i64 0,.int .i64 0,.int .i64 0,.int .i64 0,.int .i64 0,.int .i64 0,.int .i64 0,.int .i64 0] 0)).stV n2 0 12 (wV (zb4 X))=some s4:=e4
 have a4:At s4 n2 (zco X):=a4
 have he4:=x12.trans x4
 have h4:=h.ext he4
 have hs4:=hs.ext he4
 have hp4:=h4.pcs hE
 have l5:s4.ld n2 8=some (.int .i64 ((zaq X 8:Nat):Int)):=by rw [a4.ld];exact ziq X (by omega)
 have l10:s4.ld n2 10=some (.int .i64 ((zaq X 10:Nat):Int)):=by rw [a4.ld];exact ziq X (by omega)
 have ac:=(a1.ext x2).ext x4
 have k0:s4.ld s.next 0=some (.bool is):=ac.ld
 have k1:s4.ld s.next 1=some (.int .i64 tb):=ac.ld
 have k2:s4.ld s.next 2=some (.int .i64 op):=ac.ld
 have hn1:s.next<s1.next:=a1.2.1
 have hn24:n2<s4.next:=a4.2.1
 have u10:=zm3 X 10
 have hw1:IntKind.wrap .i64 (pc+1)=pc+1:=wrap64 (by omega) (by omega)
 have hadv:(s1.adv n2).next=n2:=rfl
 have fr4:Fr b k s s4:=.ofExt he4
 have hB4:B≤s4.next:=by have:=he4.next;omega
 have hl4:s4.lim≤B:=by rw [he4.lim];exact hl
 have ldN:∀ {q kk:Nat} {s2:SS},Mod [b] s4 s2→q<s4.next→q≠b→s2.ld q kk=s4.ld q kk:=fun m hq hb=>by unfold SS.ld;rw [m.keep _ hq (by simpa using hb)]
 have hnb:n2≠b:=by omega
 have hcb:s.next≠b:=by omega
 unfold zba
 rw [hwa]
 simp only
 by_cases u0:zaq X 8=0
 ·have i0:((zaq X 8:Nat):Int)=0:=by omega
  rw [if_pos u0]
  obtain ⟨s12,e12,h12,m12,_⟩:=h4.set hE (pc+1)
  refine ⟨s12,k,za5 _ _ s ?_,h12,hs4.mod m12 hbB,fr4.then (.ofMod m12:Fr b k s4 s12) (.same _ _),.same _ _⟩
  simp only [zbh,hc1,hs1,c2,zob,hadv,e4',l5,zaa,zdt i0,zct,zaw,zad,hp4.1,hw1,e12]
 have i0:¬ ((zaq X 8:Nat):Int)=0:=by omega
 rw [if_neg u0]
 by_cases u1:zaq X 8=1
 ·have i1:((zaq X 8:Nat):Int)=1:=by omega
  rw [if_pos u1]
  obtain ⟨s12,e12,h12,m12,_⟩:=h4.set hE ((zaq X 10:Nat):Int)
  refine ⟨s12,k,za5 _ _ s ?_,h12,hs4.mod m12 hbB,fr4.then (.ofMod m12:Fr b k s4 s12) (.same _ _),.same _ _⟩
  simp only [zbh,hc1,hs1,c2,zob,hadv,e4',l5,zaa,zdf i0,zcf,zdt i1,zct,zaw,zad,l10,e12]
 have i1:¬ ((zaq X 8:Nat):Int)=1:=by omega
 rw [if_neg u1]
 by_cases u2:zaq X 8=2
 ·have i2:((zaq X 8:Nat):Int)=2:=by omega
  rw [if_pos u2]
  obtain ⟨s12,e12,h12,m12,n12⟩:=h4.set hE (pc+1)
  have k0':s12.ld s.next 0=some (.bool is):=(ldN m12 (by omega) hcb).trans k0
  cases is with
  | false=>
    refine ⟨s12,k,za5 _ _ s ?_,h12,hs4.mod m12 hbB,fr4.then (.ofMod m12:Fr b k s4 s12) (.same _ _),.same _ _⟩
    simp only [zbh,hc1,hs1,c2,zob,hadv,e4',l5,zaa,zdf i0,zdf i1,zcf,zdt i2,zct,zaw,zad,hp4.1,hw1,e12,k0',zai]
  | true=>
    have l10':s12.ld n2 10=some (.int .i64 ((zaq X 10:Nat):Int)):=(ldN m12 hn24 hnb).trans l10
    obtain ⟨s13,e13,h13,m13,_⟩:=h12.set hE ((zaq X 10:Nat):Int)
    refine ⟨s13,k,za5 _ _ s ?_,h13,(hs4.mod m12 hbB).mod m13 hbB,fr4.then (.ofMod (m12.then m13):Fr b k s4 s13) (.same _ _),.same _ _⟩
    simp only [zbh,hc1,hs1,c2,zob,hadv,e4',l5,zaa,zdf i0,zdf i1,zcf,zdt i2,zct,zaw,zad,hp4.1,hw1,e12,k0',zai,l10',e13]
 have i2:¬ ((zaq X 8:Nat):Int)=2:=by omega
 rw [if_neg u2]
 by_cases u3:zaq X 8=3
 ·have i3:((zaq X 8:Nat):Int)=3:=by omega
  rw [if_pos u3]
  obtain ⟨s29,k',c29,h29,st29,fr29,nw29⟩:=zvm h4 hE hs4 hB4 hl4 hca h0 (by omega)
  have l10':s29.ld n2 10=some (.int .i64 ((zaq X 10:Nat):Int)):=by
   have:s29.ld n2 10=s4.ld n2 10:=by
    unfold SS.ld
    rw [fr29.keep n2 hn24 hnb (fun o l c e=>by
     obtain ⟨rfl,_⟩ | ⟨j,o',cap,C,rfl,_,_,_,_,_,h6⟩:=hs
     ·cases e
     ·cases e;omega)]
   rw [this,l10]
  obtain ⟨s33,e33,h33,m33,_⟩:=h29.set hE ((zaq X 10:Nat):Int)
  refine ⟨s33,k',za5 _ _ s ?_,h33,st29.mod m33 hbB,(fr4.then fr29 (.same _ _)).then (.ofMod m33:Fr b k' s29 s33) (Nw.then (.same _ s) nw29 he4.next),Nw.then (.same _ s) nw29 he4.next⟩
  simp only [zbh,hc1,hs1,c2,zob,hadv,e4',l5,zaa,zdf i0,zdf i1,zdf i2,zcf,zdt i3,zct,zaw,zad,c29,l10',e33]
 have i3:¬ ((zaq X 8:Nat):Int)=3:=by omega
 rw [if_neg u3]
 by_cases u4:zaq X 8=4
 ·have i4:((zaq X 8:Nat):Int)=4:=by omega
  rw [if_pos u4]
  obtain ⟨s34,k',c34,h34,st34,m34,nw34⟩:=zvn h4 hE hs4 hca
  obtain ⟨s38,e38,h38,m38,_⟩:=h34.set hE (zlz E ca)
  refine ⟨s38,k',za5 _ _ s ?_,h38,st34.mod m38 hbB,fr4.then (.ofMod (m34.then m38):Fr b k s4 s38) (.same _ _),Nw.then (.same _ s) nw34 he4.next⟩
  simp only [zbh,hc1,hs1,c2,zob,hadv,e4',l5,zaa,zdf i0,zdf i1,zdf i2,zdf i3,zcf,zdt i4,zct,zaw,zad,c34,e38]
 have i4:¬ ((zaq X 8:Nat):Int)=4:=by omega
 rw [if_neg u4]
 by_cases u5:zaq X 8=5
 ·have i5:((zaq X 8:Nat):Int)=5:=by omega
  rw [if_pos u5]
  have w41:zf0 .i64 tb 63=tb%64:=zsk tb (n:=6) (by omega)
  have g1:0≤tb%64:=Int.emod_nonneg _ (by omega)
  have g2:tb%64<64:=Int.emod_lt_of_pos _ (by omega)
  have w42:IntKind.wrap .i64 (((zaq X 10:Nat):Int)+tb%64)=((zaq X 10:Nat):Int)+tb%64:=wrap64 (by omega) (by omega)
  obtain ⟨s45,e45,h45,m45,n45⟩:=h4.set hE (((zaq X 10:Nat):Int)+tb%64)
  have hp45:=h45.pcs hE
  have k2':s45.ld s.next 2=some (.int .i64 op):=(ldN m45 (by omega) hcb).trans k2
  by_cases o1:op=1
  ·rw [if_pos o1]
   subst o1
   have l50:=hp45.2.2 1 (by omega)
   have y50:zaR (ptr b (0+1)) 5 1 1=some (b,0+1+1*1):=zod (i:=1) (by omega)
   obtain ⟨s54,e54,h54,m54,_⟩:=h45.set hE (E.getD 1 0)
   refine ⟨s54,k,za5 _ _ s ?_,h54,(hs4.mod m45 hbB).mod m54 hbB,fr4.then (.ofMod (m45.then m54):Fr b k s4 s54) (.same _ _),.same _ _⟩
   simp only [zbh,hc1,hs1,c2,zob,hadv,e4',l5,zaa,zdf i0,zdf i1,zdf i2,zdf i3,zdf i4,zcf,zdt i5,zct,l10,k1,w41,w42,zaw,zad,e45,k2',decide_true,y50,l50,e54]
  ·rw [if_neg o1]
   by_cases o2:op=2
   ·rw [if_pos o2]
    subst o2
    have l50:=hp45.2.2 2 (by omega)
    have y50:zaR (ptr b (0+1)) 5 2 1=some (b,0+1+2*1):=zod (i:=2) (by omega)
    obtain ⟨s54,e54,h54,m54,_⟩:=h45.set hE (E.getD 2 0)
    refine ⟨s54,k,za5 _ _ s ?_,h54,(hs4.mod m45 hbB).mod m54 hbB,fr4.then (.ofMod (m45.then m54):Fr b k s4 s54) (.same _ _),.same _ _⟩
    simp only [zbh,hc1,hs1,c2,zob,hadv,e4',l5,zaa,zdf i0,zdf i1,zdf i2,zdf i3,zdf i4,zcf,zdt i5,zct,l10,k1,w41,w42,zaw,zad,e45,k2',zdf o1,decide_true,y50,l50,e54]
   ·rw [if_neg o2]
    refine ⟨s45,k,za5 _ _ s ?_,h45,hs4.mod m45 hbB,fr4.then (.ofMod m45:Fr b k s4 s45) (.same _ _),.same _ _⟩
    simp only [zbh,hc1,hs1,c2,zob,hadv,e4',l5,zaa,zdf i0,zdf i1,zdf i2,zdf i3,zdf i4,zcf,zdt i5,zct,l10,k1,w41,w42,zaw,zad,e45,k2',zdf o1,zdf o2]
 have i5:¬ ((zaq X 8:Nat):Int)=5:=by omega
 rw [if_neg u5]
 by_cases u6:zaq X 8=6
 ·have i6:((zaq X 8:Nat):Int)=6:=by omega
  rw [if_pos u6]
  have w41:zf0 .i64 tb 15=tb%16:=zsk tb (n:=4) (by omega)
  have g1:0≤tb%16:=Int.emod_nonneg _ (by omega)
  have g2:tb%16<16:=Int.emod_lt_of_pos _ (by omega)
  have w42:IntKind.wrap .i64 (((zaq X 10:Nat):Int)+tb%16)=((zaq X 10:Nat):Int)+tb%16:=wrap64 (by omega) (by omega)
  obtain ⟨s45,e45,h45,m45,n45⟩:=h4.set hE (((zaq X 10:Nat):Int)+tb%16)
  refine ⟨s45,k,za5 _ _ s ?_,h45,hs4.mod m45 hbB,fr4.then (.ofMod m45:Fr b k s4 s45) (.same _ _),.same _ _⟩
  simp only [zbh,hc1,hs1,c2,zob,hadv,e4',l5,zaa,zdf i0,zdf i1,zdf i2,zdf i3,zdf i4,zdf i5,zcf,zdt i6,zct,l10,k1,w41,w42,zaw,zad,e45]
 have i6:¬ ((zaq X 8:Nat):Int)=6:=by omega
 rw [if_neg u6]
 obtain ⟨s71,c71,h71,m71⟩:=zlA h4 hE (i:=0) (by omega)
 have c71':cc 13 [ptr b 0,.int .i64 0] s4=some (.tuple #[],s71):=c71
 refine ⟨s71,zaN,za5 _ _ s ?_,h71,Stk.nil,fr4.then (.ofMod m71:Fr b k s4 s71) (.same _ _),.nil _ _⟩
 simp only [zbh,hc1,hs1,c2,zob,hadv,e4',l5,zaa,zdf i0,zdf i1,zdf i2,zdf i3,zdf i4,zdf i5,zdf i6,zcf,c71']
end
end Go.Proofs.YtcplfckncandkaaGreatDoorE
namespace Go.Proofs.YtcplfckncandkaaGreatDoorE
open Go Go.E Go.Proofs
theorem ztz (x:Int):IntKind.wrap .u64 x=x%18446744073709551616:=by
 rw [← zho]
 show ((zdC x 18446744073709551616:Nat):Int)=_
 rw [zfZ _ _ (by decide)]
 rfl
theorem u_mod (x:Int) {n:Nat} (hn:n=64∨n=16):Int.tmod (IntKind.wrap .u64 x) n=x%n:=by
 rw [ztz,Int.tmod_eq_emod_of_nonneg (Int.emod_nonneg _ (by omega))]
 rcases hn with rfl | rfl
 ·exact Int.emod_emod_of_dvd x ⟨288230376151711744,by decide⟩
 ·exact Int.emod_emod_of_dvd x ⟨1152921504606846976,by decide⟩
section
variable {B b : Nat} {s s' : SS} {ws : List Nat} {E : List Int} {pc : Int} {k : Value} {ca : List Int}
theorem Stk.copy (h:Stk B s k ca) (hb:B≤s.next) (hl:s.lim≤B) (hn:ca.length≤1000):
  ∃ v s',(s.new (.cells [] 1)).app 1 8 (.slice (some ⟨s.next,0,none⟩) 0 0) k=some (v,s')∧s.next<s'.next∧s'.lim=s.lim∧Stk B s' v ca∧(∀ i,i<s.next→s'.mem.get i=s.mem.get i)∧∀ i o l c,v=.slice (some ⟨i,o,none⟩) l c→s.next≤i:=by
 have hj0:(s.new (.cells [] 1)).mem.get s.next=some (.cells [] 1):=SS.new_get
 by_cases hz:ca=[]
 ·subst hz
  have e1:zei k=some 0:=by obtain ⟨rfl,_⟩ | ⟨j,o,cap,C,rfl,_⟩:=h<;>rfl
  refine ⟨_,s.new (.cells [] 1),?_,by simp,rfl,.inr ⟨s.next,0,0,[],rfl,by simp,hj0,by simp,by simp,by omega,by simp⟩,fun i hi=>SS.new_old (by omega),fun i o l c e=>by cases e;omega⟩
  unfold SS.app
  rw [e1]
  rfl
 ·obtain ⟨_,h0⟩ | ⟨j,o,cap,C,rfl,h1,h2,h3,h4,h5,h6⟩:=h
  ·exact absurd h0 hz
  have hpos:0<ca.length:=List.length_pos_iff.2 hz
  have hj:(s.new (.cells [] 1)).mem.get j=some (.cells C 1):=by rw [SS.new_old (by omega)];exact h2
  have hcut:cut C o (ca.length*1)=some (ca.map (Value.int .i64)):=by
   rw [Nat.mul_one]
   exact zkE h4 (by simp)
  have hx:(s.new (.cells [] 1)).first 1 ca.length (.slice (some ⟨j,o,none⟩) ca.length cap)=some (ca.map (Value.int .i64)):=by
   unfold SS.first
   simp only [hj,zob]
   exact hcut
  have hone:(ca.map (Value.int .i64)).all one=true:=by simp [one]
  refine ⟨.slice (some ⟨s.next+1,0,none⟩) ca.length ca.length,((s.new (.cells [] 1)).set s.next none).new (.cells (ca.map (Value.int .i64)) 1),?_,by simp;omega,rfl,?_,fun i hi=>?_,fun i o l c e=>by cases e;omega⟩
  ·unfold SS.app
   have e1:zei (.slice (some ⟨j,o,none⟩) ca.length cap)=some ca.length:=rfl
   have m0:Nat.beq ca.length 0=false:=by rw [zar];exact zdf (by omega)
   rw [e1]
   simp only [zob,m0,zcf]
   have q:(Nat.ble ((0+ca.length+1)*8) (2^44)&&Nat.ble (0+ca.length) (2^44)&&Nat.ble (s.new (.cells [] 1)).lim s.next)=true:=by
    simp only [zae,Nat.ble_eq]
    exact ⟨⟨by omega,by omega⟩,by show s.lim≤s.next;omega⟩
   have q2':(Nat.beq 1 1&&(Nat.blt 0 ca.length||Nat.ble (0*1) 0))=true:=by
    have:Nat.ble (0*1) 0=true:=rfl
    rw [this,Bool.or_true];rfl
   have q4:cut ([]:List Value) 0 (0*1)=some []:=rfl
   rw [q]
   simp only [zct,hj0,zob,List.length_nil,q4,hx,hone,List.nil_append,Nat.zero_add,q2']
   rfl
  ·refine .inr ⟨s.next+1,0,ca.length,ca.map (Value.int .i64),rfl,zlr _,?_,by simp,by rw [List.drop_zero];exact List.take_of_length_le (by simp),by omega,by simp⟩
   exact SS.new_get (st:=(s.new (.cells [] 1)).set s.next none)
  ·rw [SS.new_old (by simp;omega),SS.set_old (by omega),SS.new_old (by omega)]
def MqI (B:Nat) (s:SS) (b:Nat) (ws:List Nat) (E:List Int) (pc:Int) (k:Value):Prop:=
 ∃ v w,At s b (mRow v w pc k)∧b<B∧Rg s v (rowsF zco ws) 12 ws.length∧Rg s w (rowsF iRow E) 1 5∧(∀ i l c,v=.slice (some ⟨i,0,none⟩) l c→b<i∧i<B)∧∀ i l c,w=.slice (some ⟨i,0,none⟩) l c→b<i∧i<B
theorem MqI.keep (h:MqI B s b ws E pc k) (hn:s.next≤s'.next) (hl:s'.lim=s.lim) (hk:∀ i,i<B→i<s.next→s'.mem.get i=s.mem.get i):MqI B s' b ws E pc k:=by
 obtain ⟨v,w,h1,h2,h3,h4,h5,h6⟩:=h
 exact ⟨v,w,⟨(hk b h2 h1.2.1).trans h1.1,by have:=h1.2.1;omega,by rw [hl];exact h1.2.2⟩,h2,h3.keep hn fun i l c e hi=>hk i (h5 i l c e).2 hi,h4.keep hn fun i l c e hi=>hk i (h6 i l c e).2 hi,h5,h6⟩
theorem MqI.keepHi (h:MqI B s b ws E pc k) (hn:s.next≤s'.next) (hl:s'.lim=s.lim) (hk:∀ i,b≤i→i<B→i<s.next→s'.mem.get i=s.mem.get i):MqI B s' b ws E pc k:=by
 obtain ⟨v,w,h1,h2,h3,h4,h5,h6⟩:=h
 exact ⟨v,w,⟨(hk b (zlr _) h2 h1.2.1).trans h1.1,by have:=h1.2.1;omega,by rw [hl];exact h1.2.2⟩,h2,h3.keep hn fun i l c e hi=>hk i (Nat.le_of_lt (h5 i l c e).1) (h5 i l c e).2 hi,h4.keep hn fun i l c e hi=>hk i (Nat.le_of_lt (h6 i l c e).1) (h6 i l c e).2 hi,h5,h6⟩
theorem MqI.ext (h:MqI B s b ws E pc k) (he:Ext s s'):MqI B s' b ws E pc k:=h.keep he.next he.lim fun i _ hi=>he.keep i hi
theorem MqI.lt (h:MqI B s b ws E pc k):b<s.next∧b<B∧s.lim≤b:=by
 obtain ⟨v,w,h1,h2,_⟩:=h
 exact ⟨h1.2.1,h2,h1.2.2⟩
theorem MqI.set (h:MqI B s b ws E pc k) (x:Int):∃ s',s.st b (0+2) [.int .i64 x]=some s'∧MqI B s' b ws E x k∧Mod [b] s s'∧s'.next=s.next:=by
 obtain ⟨v,w,h1,h2,h3,h4,h5,h6⟩:=h
 obtain ⟨s2,e1,a1,m1,n1⟩:=h1.set1 (k:=0+2) (x:=.int .i64 x) (by show 0+2<4;omega) rfl
 exact ⟨s2,e1,⟨v,w,a1,h2,h3.mod m1 (fun i l c e=>by have:=(h5 i l c e).1;simp;omega),h4.mod m1 (fun i l c e=>by have:=(h6 i l c e).1;simp;omega),h5,h6⟩,m1,n1⟩
theorem MqI.setK (h:MqI B s b ws E pc k) {x:Value} (hc:x.cells.toList=[x]) (ho:one x=true):∃ s',s.stV b (0+3) 1 x=some s'∧MqI B s' b ws E pc x∧Mod [b] s s'∧s'.next=s.next:=by
 obtain ⟨v,w,h1,h2,h3,h4,h5,h6⟩:=h
 obtain ⟨s2,e1,a1,m1,n1⟩:=h1.set1V (k:=0+3) (x:=x) hc (by show 0+3<4;omega) ho
 exact ⟨s2,e1,⟨v,w,a1,h2,h3.mod m1 (fun i l c e=>by have:=(h5 i l c e).1;simp;omega),h4.mod m1 (fun i l c e=>by have:=(h6 i l c e).1;simp;omega),h5,h6⟩,m1,n1⟩
theorem MqI.ld (h:MqI B s b ws E pc k) (hE:E.length=5):s.ld b (0+2)=some (.int .i64 pc)∧s.ld b (0+3)=some k∧∃ w,s.ld b (0+1)=some w∧∀ i:Nat,i<5→∃ p,zau w (i:Int) 1=some p∧s.ld p.1 p.2=some (.int .i64 (E.getD i 0)):=by
 obtain ⟨v,w,h1,h2,h3,h4,h5,h6⟩:=h
 refine ⟨by rw [h1.ld];rfl,by rw [h1.ld];rfl,w,by rw [h1.ld];rfl,fun i hi=>?_⟩
 have hx:E[i]?=some (E.getD i 0):=by
  rw [List.getD_eq_getElem?_getD,zge (by omega)];rfl
 obtain ⟨p,a1,_,a3⟩:=h4.load (j:=(i:Int)) (by omega) (by omega) (zaU zq1 E i _ hx) (zq1 _)
 exact ⟨p,a1,a3 0 _ rfl⟩
theorem zvo [Sym] (h:MqI B s b ws E pc k) (hE:E.length=5) {i:Nat} (hi:i<5):∃ s',cc 19 [ptr b 0,.int .i64 i] s=some (.tuple #[],s')∧MqI B s' b ws E (E.getD i 0) zaN∧Mod [b] s s':=by
 obtain ⟨_,_,w,l1,hp⟩:=h.ld hE
 obtain ⟨p,e1,l2⟩:=hp i hi
 obtain ⟨s8,e8,h8,m8,_⟩:=h.set (E.getD i 0)
 obtain ⟨v',w',q1,q2,q3,q4,q5,q6⟩:=h8
 obtain ⟨s11,e11,a11,m11,_⟩:=q1.set1 (k:=0+3) (x:=.slice none 0 0) (by show 0+3<4;omega) rfl
 have h1:(0:Int)≤(i:Int):=by omega
 have h2:(i:Int)≤4:=by omega
 refine ⟨s11,zhW _ _ s ?_,⟨v',w',a11,q2,q3.mod m11 (fun i l c e=>by have:=(q5 i l c e).1;simp;omega),q4.mod m11 (fun i l c e=>by have:=(q6 i l c e).1;simp;omega),q5,q6⟩,m8.then m11⟩
 simp only [zfE,zdt h1,zdt h2,zct,zaw,zob,zad,l1,e1,l2,zaa,e8,e11]
theorem zwH [Sym] (h:MqI B s b ws E pc k) (hE:E.length=5) (hs:Stk B s k ca) (hB:B≤s.next) (hl:s.lim≤B) (hca:ca.length≤8) (h0:0≤pc) (hN:ws.length≤2048) (h1:pc<ws.length) (is:Bool) (tb op:Int):
  ∃ s' k',cc 20 [ptr b 0,.bool is,.int .i64 tb,.int .i64 op] s=some (.bool (zba ws E pc ca is tb op).2.2,s')∧MqI B s' b ws E (zba ws E pc ca is tb op).1 k'∧Stk B s' k' (zba ws E pc ca is tb op).2.1∧Fr b k s s'∧Nw k k' s:=by
 obtain ⟨X,hX⟩:∃ X,ws[pc.toNat]?=some X:=⟨_,zge (by omega)⟩
 have hwa:wordAt ws pc=X:=by unfold wordAt;rw [List.getD_eq_getElem?_getD,hX];rfl
 have hls:s.lim≤s.next:=by omega
 have hbB:=h.lt.2.1
 have hbn:=h.lt.1
 have hd:=h.ld hE
 have hv:∃ v p,s.ld b 0=some v∧zau v pc 12=some p∧s.ldN p.1 p.2 12=some (wV (zb4 X)):=by
  obtain ⟨v,w,q1,q2,q3,q4,q5,q6⟩:=h
  obtain ⟨p,b1,b2,_⟩:=q3.load (j:=pc) h0 (by omega) (zaU zbS ws pc.toNat X hX) (zbS X)
  exact ⟨v,p,by rw [q1.ld];rfl,b1,b2⟩
 obtain ⟨v,p7,l3,e7,l8⟩:=hv
 obtain ⟨s10,e10,a10,x10,n10⟩:=zaV (n:=12) (st:=s) hls (r:=Z12) (row:=zco X) (v:=wV (zb4 X)) (zaG _) (zbS X) (zde _) rfl
 have h10:=h.ext x10
 have hs10:=hs.ext x10
 obtain ⟨d1,d2,w,d3,d4⟩:=h10.ld hE
 have l8':s10.ld s.next 8=some (.int .i64 ((zaq X 8:Nat):Int)):=by rw [a10.ld];exact ziq X (by omega)
 have l10:s10.ld s.next 10=some (.int .i64 ((zaq X 10:Nat):Int)):=by rw [a10.ld];exact ziq X (by omega)
 have u10:=zm3 X 10
 have hw1:IntKind.wrap .i64 (pc+1)=pc+1:=wrap64 (by omega) (by omega)
 have fr10:Fr b k s s10:=.ofExt x10
 have hB10:B≤s10.next:=by omega
 have hl10:s10.lim≤B:=by rw [x10.lim];exact hl
 have hcb:s.next≠b:=by omega
 have base:∀ r,zaC cc zea (ptr b 0) is tb op s=some r→cc 20 [ptr b 0,.bool is,.int .i64 tb,.int .i64 op] s=some r:=fun r hr=>zg2 _ _ _ _ s hr
 unfold zba
 rw [hwa]
 simp only
 have hd1:s.ld b (0+2)=some (.int .i64 pc):=hd.1
 by_cases u1:zaq X 8=1
 ·have i1:((zaq X 8:Nat):Int)=1:=by omega
  rw [if_neg (by omega),if_pos u1]
  obtain ⟨s19,e19,h19,m19,_⟩:=h10.set ((zaq X 10:Nat):Int)
  refine ⟨s19,k,base _ ?_,h19,hs10.mod m19 hbB,fr10.then (.ofMod m19:Fr b k s10 s19) (.same _ _),.same _ _⟩
  simp only [zaC,zaw,zob,zad,l3,hd1,zaa,e7,l8,e10,d1,hw1,l8',zdt i1,zct,l10,e19]
 have i1:¬ ((zaq X 8:Nat):Int)=1:=by omega
 by_cases u2:zaq X 8=2
 ·have i2:((zaq X 8:Nat):Int)=2:=by omega
  rw [if_neg (by omega),if_neg u1,if_pos u2]
  cases is with
  | true=>
    obtain ⟨s19,e19,h19,m19,_⟩:=h10.set ((zaq X 10:Nat):Int)
    refine ⟨s19,k,base _ ?_,h19,hs10.mod m19 hbB,fr10.then (.ofMod m19:Fr b k s10 s19) (.same _ _),.same _ _⟩
    simp only [zaC,zaw,zob,zad,l3,hd1,zaa,e7,l8,e10,d1,hw1,l8',zdf i1,zcf,zdt i2,zct,l10,e19]
  | false=>
    obtain ⟨s19,e19,h19,m19,_⟩:=h10.set (pc+1)
    refine ⟨s19,k,base _ ?_,h19,hs10.mod m19 hbB,fr10.then (.ofMod m19:Fr b k s10 s19) (.same _ _),.same _ _⟩
    simp only [zaC,zaw,zob,zad,l3,hd1,zaa,e7,l8,e10,d1,hw1,l8',zdf i1,zcf,zdt i2,zct,e19]
 have i2:¬ ((zaq X 8:Nat):Int)=2:=by omega
 by_cases u3:zaq X 8=3
 ·have i3:((zaq X 8:Nat):Int)=3:=by omega
  rw [if_neg (by omega),if_neg u1,if_neg u2,if_pos u3]
  obtain ⟨v31,s31,e31,n31,lm31,st31,k31,fz31⟩:=hs10.copy hB10 hl10 (by omega)
  have l30:(s10.new (.cells [] 1)).ld b (0+3)=some k:=by
   unfold SS.ld
   rw [SS.new_old (by omega)]
   exact d2
  have hl31:s31.lim≤B:=by rw [lm31];exact hl10
  obtain ⟨s33,e33,n33,lm33,m33,f33⟩:=st31.push (by omega) hl31 (by omega) (pc+1)
  have keep33:∀ i,i<s10.next→s33.mem.get i=s10.mem.get i:=fun i hi=>(f33 i (by omega) (fun o l c e=>by have:=fz31 i o l c e;omega)).trans (k31 i hi)
  have h33:MqI B s33 b ws E pc k:=h10.keep (by omega) (by rw [lm33,lm31]) fun i _ hi=>keep33 i hi
  have st33:Stk B s33 (.slice (some ⟨s31.next+1,0,none⟩) (ca.length+1) (ca.length+1)) (ca++[pc+1]):=
   .inr ⟨s31.next+1,0,ca.length+1,_,by simp,by simp,m33,by simp,by rw [List.drop_zero];exact List.take_of_length_le (by simp),by omega,by omega⟩
  have hc:=st33.cell
  obtain ⟨s36,e36,h36,m36,n36⟩:=h33.setK hc.1 hc.2
  have st36:=st33.mod m36 hbB
  have l39:=(h36.ld hE).2.1
  have q40:(lenV (.slice (some ⟨s31.next+1,0,none⟩) (ca.length+1) (ca.length+1))).bind (asI .i64)=some ((ca.length+1:Nat):Int):=rfl
  have fr36:Fr b k s s36:=⟨by omega,by rw [m36.lim,lm33,lm31,x10.lim],fun i hi hb _=>(m36.keep i (by omega) (by simpa using hb)).trans ((keep33 i (by omega)).trans (x10.keep i hi))⟩
  have t36:s36.ld s.next 10=some (.int .i64 ((zaq X 10:Nat):Int)):=by
   unfold SS.ld
   rw [m36.keep _ (by omega) (by simpa using hcb),keep33 _ (by omega)]
   exact l10
  unfold zhR
  by_cases hq:8<ca.length+1
  ·rw [if_pos hq]
   have hq':((ca.length+1:Nat):Int)=9:=by omega
   obtain ⟨a0,r,hcr⟩:∃ a0 r,ca++[pc+1]=a0::r:=by
    cases ca with
    | nil=>simp at hq
    | cons a0 r=>exact ⟨a0,r++[pc+1],rfl⟩
   have hrl:r.length=ca.length:=by
    have:=congrArg List.length hcr
    simp at this;omega
   rw [hcr] at st36 ⊢
   obtain ⟨k2,c45,st45,j,o,l,c,o',l',c',hkk,hk2⟩:=st36.tail (by omega)
   rw [hrl] at c45
   have hc2:=st45.cell
   obtain ⟨s48,e48,h48,m48,n48⟩:=h36.setK hc2.1 hc2.2
   obtain ⟨s52,e52,h52,m52,n52⟩:=h48.set ((zaq X 10:Nat):Int)
   have t48:s48.ld s.next 10=some (.int .i64 ((zaq X 10:Nat):Int)):=by
    unfold SS.ld
    rw [m48.keep _ (by omega) (by simpa using hcb)]
    exact t36
   have q44:sliceLen (.slice (some ⟨s31.next+1,0,none⟩) (ca.length+1) (ca.length+1))=some ((ca.length+1:Nat):Int):=rfl
   refine ⟨s52,k2,base _ ?_,h52,(st45.mod m48 hbB).mod m52 hbB,⟨by have:=fr36.next;omega,by rw [m52.lim,m48.lim,fr36.lim],fun i hi hb hk=>((m48.then m52).keep i (by have:=fr36.next;omega) (by simpa using hb)).trans (fr36.keep i hi hb hk)⟩,fun i o1 l1 c1 e=>?_⟩
   ·simp only [zaC,zaw,zob,zad,l3,hd1,zaa,e7,l8,e10,d1,hw1,l8',zdf i1,zdf i2,zcf,zdt i3,zct]
    rw [l30,zob,e31,zob,e33,zob,e36,zob]
    simp only [l39,zob,q40,zdt hq',zct,q44,c45,e48,t48,zaa,e52]
   ·rw [hk2] at e;cases e;cases hkk
    exact .inl (by omega)
  ·rw [if_neg hq]
   have hq':¬ ((ca.length+1:Nat):Int)=9:=by omega
   obtain ⟨s52,e52,h52,m52,n52⟩:=h36.set ((zaq X 10:Nat):Int)
   refine ⟨s52,_,base _ ?_,h52,st36.mod m52 hbB,⟨by have:=fr36.next;omega,by rw [m52.lim,fr36.lim],fun i hi hb hk=>(m52.keep i (by have:=fr36.next;omega) (by simpa using hb)).trans (fr36.keep i hi hb hk)⟩,fun i o1 l1 c1 e=>by cases e;exact .inl (by omega)⟩
   simp only [zaC,zaw,zob,zad,l3,hd1,zaa,e7,l8,e10,d1,hw1,l8',zdf i1,zdf i2,zcf,zdt i3,zct]
   rw [l30,zob,e31,zob,e33,zob,e36,zob]
   simp only [l39,zob,q40,zdf hq',zcf,t36,zaa,e52]
 have i3:¬ ((zaq X 8:Nat):Int)=3:=by omega
 by_cases u4:zaq X 8=4
 ·have i4:((zaq X 8:Nat):Int)=4:=by omega
  rw [if_neg (by omega),if_neg u1,if_neg u2,if_neg u3,if_pos u4]
  obtain ⟨p60,e60,l61⟩:=d4 0 (by omega)
  have e60':zau w 0 1=some p60:=e60
  have q65:=hs10.len
  rcases List.eq_nil_or_concat ca with rfl | ⟨r,a,rfl⟩
  ·have hz:¬ (0:Int)<((([]:List Int).length:Nat):Int):=by simp
   obtain ⟨s87,e87,h87,m87,_⟩:=h10.set (E.getD 0 0)
   refine ⟨s87,k,base _ ?_,h87,hs10.mod m87 hbB,fr10.then (.ofMod m87:Fr b k s10 s87) (.same _ _),.same _ _⟩
   simp only [zaC,zaw,zob,zad,l3,hd1,zaa,e7,l8,e10,d1,hw1,l8',zdf i1,zdf i2,zdf i3,zcf,zdt i4,zct,d3,e60',l61,d2,q65,zdf hz,e87]
  ·rw [List.concat_eq_append] at*
   have hlen:(r++[a]).length=r.length+1:=by simp
   have hz:(0:Int)<(((r++[a]).length:Nat):Int):=by omega
   have hw:IntKind.wrap .i64 ((((r++[a]).length:Nat):Int)-1)=(r.length:Int):=by rw [hlen,wrap64 (by omega) (by omega)];omega
   obtain ⟨p,k2,b1,b2,b3,st2,j,o,l,c,o',l',c',hkk,hk2⟩:=hs10.init
   have hbt:zlz E (r++[a])=a:=by
    cases r with
    | nil=>rfl
    | cons x r=>exact List.getLast_concat (l:=x::r) (a:=a)
   obtain ⟨v78,s78,e78,n78,lm78,st78,k78,fz78⟩:=st2.copy hB10 hl10 (by omega)
   have l75:(s10.new (.cells [] 1)).ld b (0+3)=some k:=by
    unfold SS.ld
    rw [SS.new_old (by omega)]
    exact d2
   have b3':(s10.new (.cells [] 1)).resl k 1 0 (r.length:Int)=some k2:=by
    have hj:j<s10.next:=by
     obtain ⟨e0,_⟩ | ⟨j',o2,cap,C,e0,_,_,_,_,_,h6⟩:=hs10
     ·rw [hkk] at e0;cases e0
     ·rw [hkk] at e0;cases e0;exact h6
    have hm:(s10.new (.cells [] 1)).mem.get j=s10.mem.get j:=SS.new_old (by omega)
    rw [hkk] at b3 ⊢
    simp only [SS.resl,hm] at b3 ⊢
    exact b3
   have h78:MqI B s78 b ws E pc k:=h10.keep (by omega) lm78 fun i _ hi=>k78 i hi
   have hc2:=st78.cell
   obtain ⟨s81,e81,h81,m81,n81⟩:=h78.setK hc2.1 hc2.2
   obtain ⟨s84,e84,h84,m84,n84⟩:=h81.set a
   refine ⟨s84,v78,base _ ?_,by rw [hbt];exact h84,by rw [List.dropLast_concat];exact (st78.mod m81 hbB).mod m84 hbB,⟨by omega,by rw [m84.lim,m81.lim,lm78,x10.lim],fun i hi hb hk=>((m81.then m84).keep i (by omega) (by simpa using hb)).trans ((k78 i (by omega)).trans (x10.keep i hi))⟩,fun i o1 l1 c1 e=>.inl (by have:=fz78 i o1 l1 c1 e;omega)⟩
   simp only [zaC,zaw,zob,zad,l3,hd1,zaa,e7,l8,e10,d1,hw1,l8',zdf i1,zdf i2,zdf i3,zcf,zdt i4,zct,d3,e60',l61,d2,q65,zdt hz,hw,b1,b2]
   rw [l75,zob,b3',zob,e78,zob,e81,zob,e84]
   rfl
 have i4:¬ ((zaq X 8:Nat):Int)=4:=by omega
 by_cases u5:zaq X 8=5
 ·have i5:((zaq X 8:Nat):Int)=5:=by omega
  rw [if_neg (by omega),if_neg u1,if_neg u2,if_neg u3,if_neg u4,if_pos u5]
  have w90:Int.tmod (IntKind.wrap .u64 tb) 64=tb%64:=u_mod tb (n:=64) (.inl rfl)
  have g1:0≤tb%64:=Int.emod_nonneg _ (by omega)
  have g2:tb%64<64:=Int.emod_lt_of_pos _ (by omega)
  have w91:IntKind.wrap .i64 (tb%64)=tb%64:=wrap64 (by omega) (by omega)
  have w92:IntKind.wrap .i64 (((zaq X 10:Nat):Int)+tb%64)=((zaq X 10:Nat):Int)+tb%64:=wrap64 (by omega) (by omega)
  by_cases o1:op=1
  ·rw [if_pos o1]
   subst o1
   obtain ⟨p,e,l⟩:=d4 1 (by omega)
   have e':zau w 1 1=some p:=e
   obtain ⟨s19,e19,h19,m19,_⟩:=h10.set (E.getD 1 0)
   refine ⟨s19,k,base _ ?_,h19,hs10.mod m19 hbB,fr10.then (.ofMod m19:Fr b k s10 s19) (.same _ _),.same _ _⟩
   simp only [zaC,zaw,zob,zad,l3,hd1,zaa,e7,l8,e10,d1,hw1,l8',zdf i1,zdf i2,zdf i3,zdf i4,zcf,zdt i5,zct,l10,w90,w91,w92,decide_true,d3,e',l,e19]
  ·rw [if_neg o1]
   by_cases o2:op=2
   ·rw [if_pos o2]
    subst o2
    obtain ⟨p,e,l⟩:=d4 2 (by omega)
    have e':zau w 2 1=some p:=e
    obtain ⟨s19,e19,h19,m19,_⟩:=h10.set (E.getD 2 0)
    refine ⟨s19,k,base _ ?_,h19,hs10.mod m19 hbB,fr10.then (.ofMod m19:Fr b k s10 s19) (.same _ _),.same _ _⟩
    simp only [zaC,zaw,zob,zad,l3,hd1,zaa,e7,l8,e10,d1,hw1,l8',zdf i1,zdf i2,zdf i3,zdf i4,zcf,zdt i5,zct,l10,w90,w91,w92,zdf o1,decide_true,d3,e',l,e19]
   ·rw [if_neg o2]
    obtain ⟨s19,e19,h19,m19,_⟩:=h10.set (((zaq X 10:Nat):Int)+tb%64)
    refine ⟨s19,k,base _ ?_,h19,hs10.mod m19 hbB,fr10.then (.ofMod m19:Fr b k s10 s19) (.same _ _),.same _ _⟩
    simp only [zaC,zaw,zob,zad,l3,hd1,zaa,e7,l8,e10,d1,hw1,l8',zdf i1,zdf i2,zdf i3,zdf i4,zcf,zdt i5,zct,l10,w90,w91,w92,zdf o1,zdf o2,e19]
 have i5:¬ ((zaq X 8:Nat):Int)=5:=by omega
 by_cases u6:zaq X 8=6
 ·have i6:((zaq X 8:Nat):Int)=6:=by omega
  rw [if_neg (by omega),if_neg u1,if_neg u2,if_neg u3,if_neg u4,if_neg u5,if_pos u6]
  have w90:Int.tmod (IntKind.wrap .u64 tb) 16=tb%16:=u_mod tb (n:=16) (.inr rfl)
  have g1:0≤tb%16:=Int.emod_nonneg _ (by omega)
  have g2:tb%16<16:=Int.emod_lt_of_pos _ (by omega)
  have w91:IntKind.wrap .i64 (tb%16)=tb%16:=wrap64 (by omega) (by omega)
  have w92:IntKind.wrap .i64 (((zaq X 10:Nat):Int)+tb%16)=((zaq X 10:Nat):Int)+tb%16:=wrap64 (by omega) (by omega)
  obtain ⟨s19,e19,h19,m19,_⟩:=h10.set (((zaq X 10:Nat):Int)+tb%16)
  refine ⟨s19,k,base _ ?_,h19,hs10.mod m19 hbB,fr10.then (.ofMod m19:Fr b k s10 s19) (.same _ _),.same _ _⟩
  simp only [zaC,zaw,zob,zad,l3,hd1,zaa,e7,l8,e10,d1,hw1,l8',zdf i1,zdf i2,zdf i3,zdf i4,zdf i5,zcf,zdt i6,zct,l10,w90,w91,w92,e19]
 have i6:¬ ((zaq X 8:Nat):Int)=6:=by omega
 by_cases u0:zaq X 8=0
 ·have i7:¬ ((zaq X 8:Nat):Int)=7:=by omega
  rw [if_pos u0]
  obtain ⟨s19,e19,h19,m19,_⟩:=h10.set (pc+1)
  refine ⟨s19,k,base _ ?_,h19,hs10.mod m19 hbB,fr10.then (.ofMod m19:Fr b k s10 s19) (.same _ _),.same _ _⟩
  simp only [zaC,zaw,zob,zad,l3,hd1,zaa,e7,l8,e10,d1,hw1,l8',zdf i1,zdf i2,zdf i3,zdf i4,zdf i5,zdf i6,zdf i7,zcf,e19]
 ·have u8:zaq X 8<8:=by
   have h2:zaq X 8<2^zax 8:=Nat.mod_lt _ (Nat.two_pow_pos _)
   have h3:2^zax 8=8:=by decide+kernel
   omega
  have i7:((zaq X 8:Nat):Int)=7:=by omega
  rw [if_neg u0,if_neg u1,if_neg u2,if_neg u3,if_neg u4,if_neg u5,if_neg u6]
  obtain ⟨s71,c71,h71,m71⟩:=zvo h10 hE (i:=0) (by omega)
  have c71':cc 19 [ptr b 0,.int .i64 0] s10=some (.tuple #[],s71):=c71
  refine ⟨s71,zaN,base _ ?_,h71,Stk.nil,fr10.then (.ofMod m71:Fr b k s10 s71) (.same _ _),.nil _ _⟩
  simp only [zaC,zaw,zob,zad,l3,hd1,zaa,e7,l8,e10,d1,hw1,l8',zdf i1,zdf i2,zdf i3,zdf i4,zdf i5,zdf i6,zcf,zdt i7,zct,c71']
end
end Go.Proofs.YtcplfckncandkaaGreatDoorE
namespace Go.Proofs.YtcplfckncandkaaGreatDoorE
set_option maxRecDepth 20000
open Go Go.E Go.Proofs
def zeO:LoopI:=⟨[(4,.any),(6,.int .i64)],[(.exit 0,[(4,.any)]),(.ret,[(0,.bool)])]⟩
def ze6 (n:Nat):Option LoopI:=cond (Nat.beq n 6) (some zeO) (none)
noncomputable def zfV (cf:zak) (lf:zab) (st:SS):Option (Value×SS):=
 (cf 7 [.string ⟨#[46,101,110,116,114,121,32,102,101,116,99,104,10,46,101,110,116,114,121,32,111,112,101,114,97,110,100,10,46,101,110,116,114,121,32,98,114,97,110,99,104,10,46,101,110,116,114,121,32,102,97,117,108,116,10,46,101,110,116,114,121,32,105,110,116,101,114,114,117,112,116,10,102,101,116,99,104,58,32,115,101,113,61,110,101,120,116,10,111,112,101,114,97,110,100,58,32,115,101,113,61,106,109,112,32,116,111,61,102,97,117,108,116,10,98,114,97,110,99,104,58,32,115,101,113,61,101,110,100,10,102,97,117,108,116,58,32,115,101,113,61,106,109,112,32,116,111,61,98,114,97,110,99,104,10,105,110,116,101,114,114,117,112,116,58,32,115,101,113,61,101,110,100]⟩] (st.ro st.next)).bind fun a=>
 (zan a.1 0).bind fun b=>
 (zan a.1 1).bind fun c=>
 ((zan a.1 2).bind (asI .i64)).bind fun d=>
 let e:SS:=a.2.new (.cells [.slice none 0 0,.slice none 0 0] 0)
 let f:SS:=e.new (.cells [.int .i64 0,.int .i64 0] 0)
 (f.stV a.2.next 0 2 b).bind fun g=>
 (g.stV e.next 0 2 c).bind fun h=>
 (h.ldN a.2.next 0 2).bind fun i=>
 (cf 10 [i] h).bind fun j=>
 (zan j.1 0).bind fun k=>
 ((zan j.1 1).bind (asI .i64)).bind fun l=>
 cond (!(decide (d=0))) (
 some (.bool false,st.adv j.2.next)) (
 cond (!(decide (l=0))) (
 some (.bool false,st.adv j.2.next)) (
 (lf 6 [k,.int .i64 0] j.2).bind fun m=>
 cond (Nat.beq m.1 0) (
 (m.2.1[0]?).bind fun n=>
 (cf 14 [n] m.2.2).bind fun o=>
 ((some o.1).bind (asI .i64)).bind fun p=>
 cond (decide (p=2)) (
 (cf 12 [n,.agg #[.bool false,.int .i64 0,.int .i64 0]] o.2).bind fun q=>
 ((some q.1).bind asB).bind fun r=>
 cond r (
 (cf 14 [n] q.2).bind fun s=>
 ((some s.1).bind (asI .i64)).bind fun t=>
 cond (decide (t=0)) (
 some (.bool true,st.adv s.2.next)) (
 some (.bool false,st.adv s.2.next))) (
 some (.bool false,st.adv q.2.next))) (
 some (.bool false,st.adv o.2.next))) (
 ((m.2.1[0]?).bind asB).bind fun u=>
 some (.bool u,st.adv m.2.2.next))))
noncomputable abbrev zbd:zab:=lS Tryz.prog Lk0 Tryz.f6 ze6
theorem ziJ:Lk0.func 6=some (6,Tryz.f6):=by kernel_rfl
theorem ziK [Sym] (st:SS) {r:Value×SS} (h:zfV cc zbd st=some r):cc 6 [] st=some r:=
 zaf (li:=ze6) zah zal ziJ rfl (fun _=>rfl) (.trans (by kernel_rfl) h)
noncomputable def ze7 (cf:zak) (lf:zab) (s':Value) (i':Int) (st:SS):Option (Nat×List Value×SS):=
 cond (decide (i'<3)) (
 (cf 12 [s',.agg #[.bool false,.int .i64 0,.int .i64 0]] st).bind fun a=>
 ((some a.1).bind asB).bind fun b=>
 cond b (
 some (1,[.bool false],a.2)) (
 let c:Int:=IntKind.wrap .i64 (i'+1)
 lf 6 [s',.int .i64 c] a.2)) (
 some (0,[s'],st))
theorem zeh [Sym] (s':Value) (i':Int) (st:SS) {r:Nat×List Value×SS} (h:ze7 cc zbd s' i' st=some r):zbd 6 [s',.int .i64 i'] st=some r:=
 zay zah zal (key:=6) (I:=zeO) rfl (by kernel_rfl) (by kernel_rfl) rfl rfl (.trans (by kernel_rfl) h)
end Go.Proofs.YtcplfckncandkaaGreatDoorE
namespace Go.Proofs.YtcplfckncandkaaGreatDoorE
set_option maxRecDepth 1000000
open Go Go.E Go.Proofs
def toU (ws:List Wd):List Nat:=ws.map fun w=>(zef w).toNat
theorem zjc (ws:List Wd):(toU ws).length=ws.length:=by simp [toU]
theorem pk_u:∀ {ws:List Wd},(∀ w∈ws,zhO w)→rowsF zdl ws=rowsF uRow (toU ws)
 | [],_=>rfl
 | w::r,h=>by
   obtain ⟨X,hX⟩:=zk8 (h w (by simp))
   have e:toU (w::r)=X::toU r:=by unfold toU;rw [List.map_cons,hX];rfl
   rw [e,zbX,zbX,pk_u fun w hw=>h w (by simp [hw])]
   unfold zdl uRow
   rw [hX]
theorem zvp {ws:List Wd} (h:∀ w∈ws,zhO w):∀ X∈toU ws,X<2^64:=by
 intro X hX
 obtain ⟨w,hw,rfl⟩:=List.mem_map.1 hX
 obtain ⟨Y,hY⟩:=zk8 (h w hw)
 rw [hY,Int.toNat_natCast]
 exact (zqV (h w hw) hY).2
theorem zxI {s1:SS} (hl:s1.lim≤s1.next) {wv ev:Value} (h1:one wv=true) (h2:one ev=true) (e:Nat×Nat):
  ∃ s7 s8,((s1.new (.cells [zaN,zaN] 0)).new (.cells [.int .i64 0,.int .i64 0] 0)).stV s1.next 0 2 (zbW wv ev)=some s7∧s7.stV (s1.new (.cells [zaN,zaN] 0)).next 0 2 (zbs e)=some s8∧At s8 s1.next [wv,ev]∧Ext s1 s8∧s1.next<s8.next:=by
 have x1:Ext s1 (s1.new (.cells [zaN,zaN] 0)):=(Ext.refl _).new _
 have x2:Ext (s1.new (.cells [zaN,zaN] 0)) ((s1.new (.cells [zaN,zaN] 0)).new (.cells [.int .i64 0,.int .i64 0] 0)):=(Ext.refl _).new _
 have a1:At ((s1.new (.cells [zaN,zaN] 0)).new (.cells [.int .i64 0,.int .i64 0] 0)) s1.next [zaN,zaN]:=(At.new hl _).ext x2
 have a2:At ((s1.new (.cells [zaN,zaN] 0)).new (.cells [.int .i64 0,.int .i64 0] 0)) (s1.next+1) [.int .i64 0,.int .i64 0]:=At.new (st:=s1.new (.cells [zaN,zaN] 0)) (x1.ll hl) _
 have hc:(zbW wv ev).cells.toList=[wv,ev]:=by show (Value.agg [wv,ev].toArray).cells.toList=_;exact zaG _
 have hc2:(zbs e).cells.toList=[.int .i64 e.1,.int .i64 e.2]:=zaG _
 obtain ⟨s7,e7,b7,m7,n7⟩:=a1.stV (k:=0) hc rfl (by simp [h1,h2]) (row':=[wv,ev]) rfl
 obtain ⟨s8,e8,b8,m8,n8⟩:=(a2.mod m7 (by simp)).stV (k:=0) hc2 rfl rfl (row':=[.int .i64 e.1,.int .i64 e.2]) rfl
 refine ⟨s7,s8,e7,e8,b7.mod m8 (by simp),(((Mod.ofExt (S:=[]) (x1.trans x2)).thenI m7 (.inl (zlr _))).thenI m8 (.inl (by omega))).toExt,?_⟩
 have h3:((s1.new (.cells [zaN,zaN] 0)).new (.cells [.int .i64 0,.int .i64 0] 0)).next=s1.next+2:=rfl
 omega
structure Sq (base:SS) (B b:Nat) (ws:List Nat) (E:List Int) (pc:Int) (ca:List Int) (s:SS):Prop where
 sq:∃ k,SqI B s b ws E pc k∧Stk B s k ca
 len:E.length=5
 hB:B≤s.next
 hl:s.lim≤B
 ext:Ext base s
 bb:base.next≤b
 hN:ws.length≤2048
theorem Sq.ofNew {base s':SS} {b:Nat} {v:Value} {ws:List Nat} {E:List Int} {pc:Int} (hE:E.length=5) (hN:ws.length≤2048) (x:Ext base s') (hb:base.next≤b) (a:At s' b (zb2 v E pc zaN)) (o:Own (b+1) s' v (rowsF zco ws) 12 ws.length):Sq base s'.next b ws E pc [] s':=
 ⟨⟨zaN,⟨v,a,a.2.1,o.rg,fun i l c e=>by
   obtain ⟨_,⟨rfl,_⟩ | ⟨i',rfl,_,_,h1,h2⟩⟩:=o
   ·cases e
   ·cases e;exact ⟨by omega,h2⟩⟩,Stk.nil⟩,hE,zlr _,by have:=a.2.1;have:=a.2.2;omega,x,hb,hN⟩
def inW (ws:List Nat) (pc:Int) (ca:List Int):Bool:=decide (0≤pc)&&(decide (pc<ws.length)&&decide (ca.length≤8))
section
variable {base s : SS} {B b : Nat} {ws : List Nat} {E : List Int} {pc : Int} {ca : List Int}
theorem Sq.next [Sym] (h:Sq base B b ws E pc ca s) (hi:inW ws pc ca=true) (is:Bool) (tb op:Int):
  ∃ s',cc 12 [ptr b 0,.agg #[.bool is,.int .i64 tb,.int .i64 op]] s=some (.bool (zba ws E pc ca is tb op).2.2,s')∧Sq base B b ws E (zba ws E pc ca is tb op).1 (zba ws E pc ca is tb op).2.1 s':=by
 unfold inW at hi
 simp only [zae,decide_eq_true_eq] at hi
 obtain ⟨k,h1,h2⟩:=h.sq
 obtain ⟨s',k',c,q1,q2,fr,nw⟩:=zir h1 h.len h2 h.hB h.hl hi.2.2 hi.1 h.hN hi.2.1 is tb op
 have hbB:=h1.lt.2.1
 refine ⟨s',c,⟨k',q1,q2⟩,h.len,zlt h.hB fr.next,by rw [fr.lim];exact h.hl,⟨zlt h.ext.next fr.next,fr.lim.trans h.ext.lim,fun j hj=>?_⟩,h.bb,h.hN⟩
 have hb:=h.bb
 exact (fr.keep j (zll hj h.ext.next) (by omega) (h2.sep (by omega))).trans (h.ext.keep j hj)
theorem Sq.at [Sym] (h:Sq base B b ws E pc ca s):cc 14 [ptr b 0] s=some (.int .i64 pc,s):=by
 obtain ⟨k,h1,h2⟩:=h.sq
 exact zoZ h1 h.len
theorem Sq.depth [Sym] (h:Sq base B b ws E pc ca s):cc 11 [ptr b 0] s=some (.int .i64 ca.length,s):=by
 obtain ⟨k,h1,h2⟩:=h.sq
 exact zj9 h1 h.len h2
end
theorem zq2 {ws:List Nat} {es:List En} {E:List Int} (h:newT ws es=some E):ws.length≤2048∧E.length=5:=by
 unfold newT at h
 cases hg:zfK ws.length es&&zcX ws with
 | false=>rw [hg] at h;cases h
 | true=>
   rw [hg] at h
   rw [zae] at hg
   have h1:=hg.1
   unfold zfK at h1
   simp only [zae,Nat.ble_eq] at h1
   exact ⟨h1.1,zm4 es zbM E h⟩
def zq3 (t:List UInt8) (p:List Nat→List Int→Bool):Bool:=match zeT t with
 | .error _=>false
 | .ok (ws,es)=>match newT (toU ws) es with
   | none=>false
   | some E=>p (toU ws) E
theorem zxJ [Sym] {st:SS} (hg:Gd st) (hl:st.lim≤st.next) {t:List UInt8} (ht:t.length≤65536) {p:List Nat→List Int→Bool} (h:zq3 t p=true):
  ∃ s1 wv ev s7 s8 s10 b ws E,cc 7 [.string (mkS t)] st=some (.tuple #[zbW wv ev,zbs (0,0),.int .i64 0],s1)∧((s1.new (.cells [zaN,zaN] 0)).new (.cells [.int .i64 0,.int .i64 0] 0)).stV s1.next 0 2 (zbW wv ev)=some s7∧
   s7.stV (s1.new (.cells [zaN,zaN] 0)).next 0 2 (zbs (0,0))=some s8∧s8.ldN s1.next 0 2=some (zbW wv ev)∧cc 10 [zbW wv ev] s8=some (.tuple #[ptr b 0,.int .i64 0],s10)∧Sq st s10.next b ws E (E.getD 0 0) [] s10∧p ws E=true:=by
 unfold zq3 at h
 have ha:=zuY hg hl (mkS t) ht
 rw [zbI] at ha
 cases hr:zeT t with
 | error e=>rw [hr] at h;cases h
 | ok r=>
   obtain ⟨ws,es⟩:=r
   rw [hr] at h ha
   simp only at h
   obtain ⟨hwd,hwl⟩:=zlw hr
   obtain ⟨s1,wv,ev,c1,x1,o1,o2⟩:=ha
   obtain ⟨s7,s8,e7,e8,a8,x8,n8⟩:=zxI (x1.ll hl) o1.cell.2 o2.cell.2 (0,0)
   have hx8:=x1.trans x8
   have o1':Rg s8 wv (rowsF uRow (toU ws)) 1 (toU ws).length:=by rw [← pk_u hwd,zjc];exact (o1.ext x8).rg
   have o2':Rg s8 ev (rowsF zaZ es) 2 es.length:=(o2.ext x8).rg
   have hn:=zoY (hg.ext hx8) (hx8.ll hl) (zvp hwd) o1' o2'
   cases hq:newT (toU ws) es with
   | none=>rw [hq] at h;cases h
   | some E=>
     rw [hq] at h hn
     obtain ⟨hE,s10,b,v,x10,c10,hb,a10,o10⟩:=hn
     refine ⟨s1,wv,ev,s7,s8,s10,b,toU ws,E,c1,e7,e8,a8.ldN rfl,c10,Sq.ofNew hE (zq2 hq).1 (hx8.trans x10) (by have:=hx8.next;omega) a10 o10,h⟩
def zq4:List UInt8:=[46,101,110,116,114,121,32,102,101,116,99,104,10,46,101,110,116,114,121,32,111,112,101,114,97,110,100,10,46,101,110,116,114,121,32,98,114,97,110,99,104,10,46,101,110,116,114,121,32,102,97,117,108,116,10,46,101,110,116,114,121,32,105,110,116,101,114,114,117,112,116,10,102,101,116,99,104,58,32,115,101,113,61,110,101,120,116,10,111,112,101,114,97,110,100,58,32,115,101,113,61,106,109,112,32,116,111,61,102,97,117,108,116,10,98,114,97,110,99,104,58,32,115,101,113,61,101,110,100,10,102,97,117,108,116,58,32,115,101,113,61,106,109,112,32,116,111,61,98,114,97,110,99,104,10,105,110,116,101,114,114,117,112,116,58,32,115,101,113,61,101,110,100]
def nx0 (ws:List Nat) (E:List Int) (q:Int×List Int×Bool):Int×List Int×Bool:=zba ws E q.1 q.2.1 false 0 0
def zvq (ws:List Nat) (E:List Int):Bool:=
 let q0:Int×List Int×Bool:=(E.getD 0 0,[],false)
 let q1:=nx0 ws E q0
 let q2:=nx0 ws E q1
 let q3:=nx0 ws E q2
 let q4:=nx0 ws E q3
 inW ws q0.1 q0.2.1&&(inW ws q1.1 q1.2.1&&(inW ws q2.1 q2.2.1&&(inW ws q3.1 q3.2.1&&(!q1.2.2&&(!q2.2.2&&(!q3.2.2&&(decide (q3.1=2)&&(q4.2.2&&decide (q4.1=0)))))))))
theorem aliveQ:zq3 zq4 zvq=true:=by kernel_rfl
end Go.Proofs.YtcplfckncandkaaGreatDoorE
namespace Go.Proofs.YtcplfckncandkaaGreatDoorE
open Go Go.E Go.Proofs
def InN (N:Nat) (x:Int):Prop:=0≤x∧x<N
theorem ztA {ws:List Nat} (h:zcX ws=true) {i X:Nat} (hX:ws[i]?=some X):∀ t∈zbq ((zaq X 8:Nat):Int) ((zaq X 10:Nat):Int) i,t.1+t.2≤ws.length:=by
 have h1:=List.all_eq_true.1 h i (List.mem_range.2 (List.getElem?_eq_some_iff.1 hX).1)
 rw [hX] at h1
 simp only at h1
 unfold okW zfO at h1
 intro t ht
 have:=List.all_eq_true.1 h1 t ht
 simpa using this
theorem zq5 {ws:List Nat} {E:List Int} {pc:Int} {ca:List Int} (hw:zcX ws=true) (hE:E.length=5) (hEn:∀ i,i<5→InN ws.length (E.getD i 0)) (hp:InN ws.length pc) (hc:∀ a∈ca,InN ws.length a) (hl:ca.length≤8) (is:Bool) (tb op:Int):
  InN ws.length (zba ws E pc ca is tb op).1∧(∀ a∈(zba ws E pc ca is tb op).2.1,InN ws.length a)∧(zba ws E pc ca is tb op).2.1.length≤8:=by
 obtain ⟨X,hX⟩:∃ X,ws[pc.toNat]?=some X:=⟨_,zge (by have:=hp.1;have:=hp.2;omega)⟩
 have hwa:wordAt ws pc=X:=by unfold wordAt;rw [List.getD_eq_getElem?_getD,hX];rfl
 have hr:=ztA hw hX
 have hpt:((pc.toNat:Nat):Int)=pc:=Int.toNat_of_nonneg hp.1
 rw [hpt] at hr
 have h10:(0:Int)≤((zaq X 10:Nat):Int):=by omega
 have g1:0≤tb%64:=Int.emod_nonneg _ (by omega)
 have g2:tb%64<64:=Int.emod_lt_of_pos _ (by omega)
 have g3:0≤tb%16:=Int.emod_nonneg _ (by omega)
 have g4:tb%16<16:=Int.emod_lt_of_pos _ (by omega)
 have hp0:=hp.1
 unfold zba
 rw [hwa]
 simp only
 unfold zbq at hr
 by_cases u0:zaq X 8=0
 ·rw [if_pos (by omega)] at hr
  rw [if_pos u0]
  have:=hr _ (List.mem_singleton.2 rfl)
  simp only at this
  exact ⟨⟨by omega,by omega⟩,hc,hl⟩
 rw [if_neg (by omega)] at hr
 rw [if_neg u0]
 by_cases u1:zaq X 8=1
 ·rw [if_pos (by omega)] at hr
  rw [if_pos u1]
  have:=hr _ (List.mem_singleton.2 rfl)
  simp only at this
  exact ⟨⟨by omega,by omega⟩,hc,hl⟩
 rw [if_neg (by omega)] at hr
 rw [if_neg u1]
 by_cases u2:zaq X 8=2
 ·rw [if_pos (by omega)] at hr
  rw [if_pos u2]
  have r1:=hr (pc+1,1) (by simp)
  have r2:=hr (((zaq X 10:Nat):Int),1) (by simp)
  simp only at r1 r2
  cases is with
  | true=>exact ⟨⟨by simp only [zct];omega,by simp only [zct];omega⟩,hc,hl⟩
  | false=>exact ⟨⟨by simp only [zcf];omega,by simp only [zcf];omega⟩,hc,hl⟩
 rw [if_neg u2]
 by_cases u3:zaq X 8=3
 ·rw [if_pos (by omega)] at hr
  rw [if_pos u3]
  have r1:=hr (pc+1,1) (by simp)
  have r2:=hr (((zaq X 10:Nat):Int),1) (by simp)
  simp only at r1 r2
  refine ⟨⟨by omega,by omega⟩,fun a ha=>?_,?_⟩
  ·have hm:a∈ca++[pc+1]:=by
    unfold zhR at ha
    split at ha
    ·exact List.mem_of_mem_drop ha
    ·exact ha
   rcases List.mem_append.1 hm with hm | hm
   ·exact hc a hm
   ·have:a=pc+1:=by simpa using hm
    rw [this];exact ⟨by omega,by omega⟩
  ·show (zhR ca (pc+1)).length≤8
   unfold zhR
   split
   ·rw [List.length_drop,List.length_append];simp;omega
   ·rw [List.length_append];simp;omega
 rw [if_neg (by omega)] at hr
 rw [if_neg u3]
 by_cases u4:zaq X 8=4
 ·rw [if_pos u4]
  refine ⟨?_,fun a ha=>hc a ((List.dropLast_sublist _).subset ha),by rw [List.length_dropLast];omega⟩
  show InN ws.length (zlz E ca)
  cases ca with
  | nil=>exact hEn 0 (by omega)
  | cons a r=>exact hc _ (List.getLast_mem _)
 rw [if_neg u4]
 by_cases u5:zaq X 8=5
 ·rw [if_pos (by omega)] at hr
  rw [if_pos u5]
  have r1:=hr _ (List.mem_singleton.2 rfl)
  simp only at r1
  refine ⟨?_,hc,hl⟩
  show InN ws.length (if op=1 then E.getD 1 0 else if op=2 then E.getD 2 0 else ((zaq X 10:Nat):Int)+tb%64)
  by_cases o1:op=1
  ·rw [if_pos o1];exact hEn 1 (by omega)
  ·rw [if_neg o1]
   by_cases o2:op=2
   ·rw [if_pos o2];exact hEn 2 (by omega)
   ·rw [if_neg o2];exact ⟨by omega,by omega⟩
 rw [if_neg (by omega)] at hr
 rw [if_neg u5]
 by_cases u6:zaq X 8=6
 ·rw [if_pos (by omega)] at hr
  rw [if_pos u6]
  have r1:=hr _ (List.mem_singleton.2 rfl)
  simp only at r1
  exact ⟨⟨by omega,by omega⟩,hc,hl⟩
 rw [if_neg u6]
 exact ⟨hEn 0 (by omega),(fun a ha=>by cases ha),by simp⟩
theorem zpB:∀ (es:List En) (n:List UInt8) (x:Int),zeH es n=some x→∃ e∈es,e.2=x
 | [],n,x,h=>by cases h
 | e::r,n,x,h=>by
   unfold zeH at h
   split at h
   ·cases h;exact ⟨e,by simp,rfl⟩
   ·obtain ⟨e',h1,h2⟩:=zpB r n x h
    exact ⟨e',by simp [h1],h2⟩
theorem zq6 (es:List En):∀ (ns:List (List UInt8)) (xs:List Int),zfh es ns=some xs→∀ x∈xs,∃ e∈es,e.2=x
 | [],xs,h=>by simp only [zfh,zsj] at h;subst h;intro x hx;cases hx
 | n::r,xs,h=>by
   unfold zfh at h
   split at h
   ·cases h
   ·rename_i y hy
    split at h
    ·cases h
    ·rename_i ys hys
     cases h
     intro x hx
     rcases List.mem_cons.1 hx with rfl | hx
     ·exact zpB es n _ hy
     ·exact zq6 es r ys hys x hx
theorem zxK {ws:List Nat} {es:List En} {E:List Int} (h:newT ws es=some E):zcX ws=true∧E.length=5∧ws.length≤2048∧∀ i,i<5→InN ws.length (E.getD i 0):=by
 have hl:=zq2 h
 unfold newT at h
 cases hg:zfK ws.length es&&zcX ws with
 | false=>rw [hg] at h;cases h
 | true=>
   rw [hg] at h
   simp only [zct] at h
   rw [zae] at hg
   refine ⟨hg.2,hl.2,hl.1,fun i hi=>?_⟩
   have hx:E.getD i 0∈E:=by
    rw [List.getD_eq_getElem?_getD,zge (by rw [hl.2];exact hi)]
    exact List.getElem_mem _
   obtain ⟨e,he,h2⟩:=zq6 es zbM E h _ hx
   obtain ⟨j,hj,hje⟩:=List.mem_iff_getElem.1 he
   have hr:=hg.1
   unfold zfK at hr
   simp only [zae] at hr
   have h3:=List.all_eq_true.1 hr.2.2 j (List.mem_range.2 hj)
   rw [ziH (show es[j]?=some e by rw [zge hj,hje])] at h3
   simp only [zae,Bool.not_eq_true',decide_eq_false_iff_not] at h3
   rw [← h2]
   exact ⟨by omega,by omega⟩
end Go.Proofs.YtcplfckncandkaaGreatDoorE
namespace Go.Proofs.YtcplfckncandkaaGreatDoorE
open Go Go.E Go.Proofs
theorem Stk.blk {B:Nat} {s:SS} {k:Value} {ca:List Int} (h:Stk B s k ca):∀ i o l c,k=.slice (some ⟨i,o,none⟩) l c→B≤i∧i<s.next:=fun i o l c e=>by
 obtain ⟨rfl,_⟩ | ⟨j,o',cap,C,rfl,_,_,_,_,h5,h6⟩:=h
 ·cases e
 ·cases e;exact ⟨h5,h6⟩
theorem Stk.up {A B:Nat} {s:SS} {k:Value} {ca:List Int} (h:Stk A s k ca) (hb:∀ i o l c,k=.slice (some ⟨i,o,none⟩) l c→B≤i):Stk B s k ca:=by
 refine h.imp (fun h=>h) ?_
 rintro ⟨j,o,cap,C,e,h1,h2,h3,h4,h5,h6⟩
 exact ⟨j,o,cap,C,e,h1,h2,h3,h4,hb j o _ _ e,h6⟩
structure Two (base:SS) (B b b2:Nat) (ws:List Nat) (E:List Int) (pc:Int) (ca:List Int) (s:SS):Prop where
 ex:∃ k k2,SqI b2 s b ws E pc k∧MqI B s b2 ws E pc k2∧Stk B s k ca∧Stk B s k2 ca∧∀ i o l c,k=.slice (some ⟨i,o,none⟩) l c→∀ o' l' c',k2≠.slice (some ⟨i,o',none⟩) l' c'
 hE:E.length=5
 hB:B≤s.next
 hl:s.lim≤b
 ext:Ext base s
 bb:base.next≤b
 hN:ws.length≤2048
section
variable {base s : SS} {B b b2 : Nat} {ws : List Nat} {E : List Int} {pc : Int} {ca : List Int}
theorem Two.lt (h:Two base B b b2 ws E pc ca s):b<b2∧b2<B∧b2<s.next:=by
 obtain ⟨k,k2,h1,h2,_⟩:=h.ex
 exact ⟨h1.lt.2.1,h2.lt.2.1,h2.lt.1⟩
theorem Two.extend (h:Two base B b b2 ws E pc ca s) {s':SS} (x:Ext s s'):Two base B b b2 ws E pc ca s':=by
 obtain ⟨k,k2,h1,h2,h3,h4,h5⟩:=h.ex
 exact ⟨⟨k,k2,h1.ext x,h2.ext x,h3.ext x,h4.ext x,h5⟩,h.hE,zlt h.hB x.next,by rw [x.lim];exact h.hl,h.ext.trans x,h.bb,h.hN⟩
theorem Two.step [Sym] (h:Two base B b b2 ws E pc ca s) (hp:InN ws.length pc) (hc:ca.length≤8) {sf:SS} (hx:Ext s sf) (is:Bool) (tb op:Int):
  ∃ s1,cc 12 [ptr b 0,.agg #[.bool is,.int .i64 tb,.int .i64 op]] sf=some (.bool (zba ws E pc ca is tb op).2.2,s1)∧(∀ i,s.next≤i→i<sf.next→s1.mem.get i=sf.mem.get i)∧sf.next≤s1.next∧s1.lim=sf.lim∧
   ∀ s1':SS,s1'.next=s1.next→s1'.lim=s1.lim→(∀ i,i<s.next∨sf.next≤i→s1'.mem.get i=s1.mem.get i)→
    ∃ s2,cc 20 [ptr b2 0,.bool is,.int .i64 tb,.int .i64 op] s1'=some (.bool (zba ws E pc ca is tb op).2.2,s2)∧Two base B b b2 ws E (zba ws E pc ca is tb op).1 (zba ws E pc ca is tb op).2.1 s2:=by
 obtain ⟨k,k2,h1,h2,h3,h4,h5⟩:=h.ex
 obtain ⟨lb,lb2,lbn⟩:=h.lt
 have hfn:=hx.next
 have kb:=h3.blk
 have kb2:=h4.blk
 have hB:=h.hB
 have hl:=h.hl
 have hbb:=h.bb
 obtain ⟨s1,k',c1,q1,q2,fr,nw⟩:=zir (h1.ext hx) h.hE ((h3.ext hx).up fun i o l c e=>by have:=(kb i o l c e).1;omega) (by omega) (by rw [hx.lim];omega) hc hp.1 h.hN hp.2 is tb op
 have fn:=fr.next
 have k'lt:=q2.blk
 refine ⟨s1,c1,fun i hi hi2=>fr.keep i hi2 (by omega) (fun o l c e=>by have:=(kb i o l c e).2;omega),fn,fr.lim,fun s1' en el em=>?_⟩
 have d1:SqI b2 s1' b ws E (zba ws E pc ca is tb op).1 k':=q1.keep (by omega) el fun i hi hi2=>em i (.inl (by omega))
 have d2:Stk b2 s1' k' (zba ws E pc ca is tb op).2.1:=q2.keep (by omega) fun i o l c e hb hi=>by
  rcases nw i o l c e with h6 | ⟨o',l',c',h6⟩
  ·exact em i (.inr h6)
  ·exact em i (.inl (kb i _ _ _ h6).2)
 have d3:MqI B s1' b2 ws E pc k2:=h2.keepHi (by omega) (by rw [el,fr.lim,hx.lim]) fun i hi hi2 hi3=>
  (em i (.inl hi3)).trans ((fr.keep i (by omega) (by omega) (fun o l c e=>by have:=(kb i o l c e).1;omega)).trans (hx.keep i hi3))
 have d4:Stk B s1' k2 ca:=h4.keep (by omega) fun i o l c e hb hi=>
  (em i (.inl hi)).trans ((fr.keep i (by omega) (by omega) (fun o' l' c' e'=>h5 i o' l' c' e' _ _ _ e)).trans (hx.keep i hi))
 obtain ⟨s2,k2',c2,r1,r2,fr2,nw2⟩:=zwH d3 h.hE d4 (by omega) (by rw [el,fr.lim,hx.lim];omega) hc hp.1 h.hN hp.2 is tb op
 have f2n:=fr2.next
 refine ⟨s2,c2,⟨k',k2',d1.keep f2n fr2.lim fun i hi hi2=>fr2.keep i hi2 (by omega) (fun o l c e=>by have:=(kb2 i o l c e).1;omega),r1,?_,r2,?_⟩,h.hE,by omega,by rw [fr2.lim,el,fr.lim,hx.lim];exact hl,⟨by have:=h.ext.next;omega,by rw [fr2.lim,el,fr.lim,hx.lim,h.ext.lim],fun i hi=>?_⟩,hbb,h.hN⟩
 ·refine Stk.up (d2.keep f2n fun i o l c e hb hi=>?_) fun i o l c e=>?_
  ·refine fr2.keep i hi ?_ fun o' l' c' e'=>?_
   ·rcases nw i o l c e with h6 | ⟨o',l',c',h6⟩
    ·omega
    ·have:=(kb i _ _ _ h6).1;omega
   ·rcases nw i o l c e with h6 | ⟨o2,l2,c2',h6⟩
    ·have:=(kb2 i _ _ _ e').2;omega
    ·exact h5 i _ _ _ h6 _ _ _ e'
  ·rcases nw i o l c e with h6 | ⟨o',l',c',h6⟩
   ·omega
   ·exact (kb i _ _ _ h6).1
 ·intro i o l c e o' l' c' e'
  have hi:=(k'lt i o l c e).2
  rcases nw2 i o' l' c' e' with h6 | ⟨o2,l2,c2',h6⟩
  ·omega
  ·rcases nw i o l c e with h7 | ⟨o3,l3,c3,h7⟩
   ·have:=(kb2 i _ _ _ h6).2;omega
   ·exact h5 i _ _ _ h7 _ _ _ h6
 ·have hb0:=h.ext.next
  exact (fr2.keep i (by omega) (by omega) (fun o l c e=>by have:=(kb2 i o l c e).1;omega)).trans ((em i (.inl (by omega))).trans ((fr.keep i (by omega) (by omega) (fun o l c e=>by have:=(kb i o l c e).1;omega)).trans ((hx.keep i (by omega)).trans (h.ext.keep i hi))))
theorem Two.go [Sym] (h:Two base B b b2 ws E pc ca s) {i:Nat} (hi:i<5):∃ s1,cc 13 [ptr b 0,.int .i64 i] s=some (.tuple #[],s1)∧(∀ j,j<s.next→j≠b→s1.mem.get j=s.mem.get j)∧
  ∃ s2,cc 19 [ptr b2 0,.int .i64 i] s1=some (.tuple #[],s2)∧Two base B b b2 ws E (E.getD i 0) [] s2:=by
 obtain ⟨k,k2,h1,h2,h3,h4,h5⟩:=h.ex
 obtain ⟨lb,lb2,lbn⟩:=h.lt
 have hB:=h.hB
 have hbb:=h.bb
 obtain ⟨s1,c1,q1,m1⟩:=zlA h1 h.hE hi
 have n1:=m1.next
 have d3:MqI B s1 b2 ws E pc k2:=h2.keepHi n1 m1.lim fun j hj hj2 hj3=>m1.keep j hj3 (by simp;omega)
 obtain ⟨s2,c2,r1,m2⟩:=zvo d3 h.hE hi
 have n2:=m2.next
 refine ⟨s1,c1,fun j hj hjb=>m1.keep j hj (by simpa using hjb),s2,c2,⟨zaN,zaN,q1.keep n2 m2.lim fun j hj hj2=>m2.keep j hj2 (by simp;omega),r1,Stk.nil,Stk.nil,fun i o l c e=>by cases e⟩,h.hE,by omega,by rw [m2.lim,m1.lim];exact h.hl,⟨by have:=h.ext.next;omega,by rw [m2.lim,m1.lim,h.ext.lim],fun j hj=>?_⟩,hbb,h.hN⟩
 have hb0:=h.ext.next
 exact (m2.keep j (by omega) (by simp;omega)).trans ((m1.keep j (by omega) (by simp;omega)).trans (h.ext.keep j hj))
end
end Go.Proofs.YtcplfckncandkaaGreatDoorE
namespace Go.Proofs.YtcplfckncandkaaGreatDoorE
open Go Go.E Go.Proofs
structure Step5 where
 go:Bool
 en:Int
 is:Bool
 tb:Int
 op:Int
def stepRow (x:Step5):List Value:=[.bool x.go,.int .i64 x.en,.bool x.is,.int .i64 x.tb,.int .i64 x.op]
theorem stepRow_len (x:Step5):(stepRow x).length=5:=rfl
theorem zvr {g:Nat} (h:12≤g):Lk0.glob g=false:=by
 cases hg:Lk0.glob g with
 | false=>rfl
 | true=>
   obtain ⟨x,hx,rfl⟩:=List.mem_map.1 (zvf g hg)
   have:=ztw x hx
   omega
theorem bar_ok {s:SS} {i k:Nat} {row:List Value} (h:At s i row) (hi:12≤i):zmt Lk0 s (ptr i k)=some (i,row):=by
 unfold zmt
 have hb:(Nat.blt i s.next&&!Lk0.glob i)=true:=by rw [zvr hi,zae,Nat.blt_eq];exact ⟨h.2.1,rfl⟩
 simp only [zad,zob,h.1,hb,zct]
section
variable {base s : SS} {B b b2 : Nat} {ws : List Nat} {E : List Int} {pc : Int} {ca : List Int}
end
end Go.Proofs.YtcplfckncandkaaGreatDoorE
namespace Go.Proofs.YtcplfckncandkaaGreatDoorE
set_option maxRecDepth 1000000
open Go Go.E Go.Proofs
theorem zka [Sym] {base:SS} {B b:Nat} {ws:List Nat} {E:List Int} {q:Int×List Int×Bool} {s:SS} {i:Nat} (h:Sq base B b ws E q.1 q.2.1 s) (hi:i<3) (hq:inW ws q.1 q.2.1=true) (hn:(nx0 ws E q).2.2=false):
  ∃ s',Sq base B b ws E (nx0 ws E q).1 (nx0 ws E q).2.1 s'∧∀ r,zbd 6 [ptr b 0,.int .i64 (i+1:Nat)] s'=some r→zbd 6 [ptr b 0,.int .i64 i] s=some r:=by
 obtain ⟨s',c,h'⟩:=h.next hq false 0 0
 have hn':(zba ws E q.1 q.2.1 false 0 0).2.2=false:=hn
 rw [hn'] at c
 have h3:(i:Int)<3:=by omega
 have hw:=zaX (i:=i) (by omega)
 refine ⟨s',h',fun r hr=>zeh _ _ s ?_⟩
 simp only [ze7,zdt h3,zct,c,zob,zai,zcf,hw]
 exact hr
theorem zxL [Sym] (st:SS) (hg:Gd st):∃ n,st.next≤n∧cc 6 [] st=some (.bool true,st.adv n):=by
 obtain ⟨s1,wv,ev,s7,s8,s10,b,ws,E,c1,e7,e8,l9,c10,q0,hp⟩:=zxJ (st:=st.ro st.next) hg.ro (zlr _) (t:=zq4) (by decide) aliveQ
 unfold zvq at hp
 simp only [zae,Bool.not_eq_true',decide_eq_true_eq] at hp
 obtain ⟨i0,i1,i2,i3,f1,f2,f3,p3,f4,p4⟩:=hp
 obtain ⟨t1,q1,r1⟩:=zka (i:=0) (q:=(E.getD 0 0,[],false)) q0 (by omega) i0 f1
 obtain ⟨t2,q2,r2⟩:=zka (i:=1) q1 (by omega) i1 f2
 obtain ⟨t3,q3,r3⟩:=zka (i:=2) q2 (by omega) i2 f3
 have r4:zbd 6 [ptr b 0,.int .i64 (3:Nat)] t3=some (0,[ptr b 0],t3):=by
  refine zeh _ _ t3 ?_
  rfl
 have f13:zbd 6 [ptr b 0,.int .i64 0] s10=some (0,[ptr b 0],t3):=r1 _ (r2 _ (r3 _ r4))
 have c15:=q3.at
 obtain ⟨t4,c17,q4⟩:=q3.next i3 false 0 0
 have f4':(zba ws E (nx0 ws E (nx0 ws E (nx0 ws E (E.getD 0 0,[],false)))).1 (nx0 ws E (nx0 ws E (nx0 ws E (E.getD 0 0,[],false)))).2.1 false 0 0).2.2=true:=f4
 rw [f4'] at c17
 have c19:=q4.at
 have p4':(zba ws E (nx0 ws E (nx0 ws E (nx0 ws E (E.getD 0 0,[],false)))).1 (nx0 ws E (nx0 ws E (nx0 ws E (E.getD 0 0,[],false)))).2.1 false 0 0).1=0:=p4
 have b0:Nat.beq 0 0=true:=rfl
 have c1':cc 7 [.string (mkS zq4)] (st.ro st.next)=_:=c1
 refine ⟨t4.next,q4.ext.next,ziK st ?_⟩
 unfold zfV
 refine zbi.2 ⟨_,c1',?_⟩
 refine zbi.2 ⟨_,rfl,?_⟩
 refine zbi.2 ⟨_,rfl,?_⟩
 refine zbi.2 ⟨_,rfl,?_⟩
 refine zbi.2 ⟨_,e7,?_⟩
 refine zbi.2 ⟨_,e8,?_⟩
 refine zbi.2 ⟨_,l9,?_⟩
 refine zbi.2 ⟨_,c10,?_⟩
 refine zbi.2 ⟨_,rfl,?_⟩
 refine zbi.2 ⟨_,rfl,?_⟩
 simp only [decide_true,znt,zcf]
 refine zbi.2 ⟨_,f13,?_⟩
 simp only [b0,zct,zgz,zob,c15,zaa,zdt p3,c17,zai,c19,zdt p4']
abbrev Q:=Int×List Int×Bool
section
variable {base : SS} {B b : Nat} {ws : List Nat} {E : List Int}
end
end Go.Proofs.YtcplfckncandkaaGreatDoorE
namespace Go.Proofs.YtcplfckncandkaaGreatDoorE
open Go Go.E Go.Proofs
theorem zxM {t:List UInt8} {ws:List Wd} {es:List (List UInt8×Int)} (h:zeT t=.ok (ws,es)):es.length≤t.length+1∧∀ e∈es,e.1≠[]∧0≤e.2∧e.2<ws.length:=by
 unfold zeT at h
 cases hp:zfa t with
 | error z=>rw [hp] at h;cases h
 | ok xs=>
   rw [hp] at h
   simp only at h
   cases hl:zeS zdL xs with
   | error z=>rw [hl] at h;cases h
   | ok l=>
     rw [hl] at h
     obtain ⟨hok,hlen⟩:=zlq hp
     obtain ⟨hL,hen⟩:=zls xs zdL l (zi9 _) hok hl
     simp only [zgf] at h
     cases hw:zbR l.nms (sizeT l) l.wds (List.replicate (sizeT l) zaE) with
     | error z=>rw [hw] at h;cases h
     | ok ws'=>
       rw [hw] at h
       simp only at h
       cases he:zdk l.nms (sizeT l) l.ents with
       | error z=>rw [he] at h;cases h
       | ok es'=>
         rw [he] at h
         cases h
         have key:∀ (xs:List (Val×Nat×Nat)) (es:List (List UInt8×Int)),(∀ e∈xs,e.1.nm≠[])→zdk l.nms (sizeT l) xs=.ok es→es.length=xs.length∧∀ e∈es,e.1≠[]∧0≤e.2∧e.2<sizeT l:=by
          intro xs
          induction xs with
          | nil=>intro es _ h;cases h;exact ⟨rfl,fun e he=>by cases he⟩
          | cons x r ih=>
            intro es hx h
            unfold zdk at h
            split at h
            ·cases h
            ·split at h
             ·cases h
             ·rename_i hc
              split at h
              ·cases h
              ·rename_i es2 h2
               cases h
               obtain ⟨k1,k2⟩:=ih es2 (fun e he=>hx e (by simp [he])) h2
               refine ⟨by simp [k1],fun e he=>?_⟩
               rcases List.mem_cons.1 he with rfl | he
               ·exact ⟨hx x (by simp),by simp only;omega,by simp only;omega⟩
               ·exact k2 e he
         obtain ⟨k1,k2⟩:=key _ _ (fun e he=>(hL.ent e he).1) he
         refine ⟨by rw [k1];simp [zdL] at hen;omega,fun e he=>?_⟩
         rw [zeG _ _ _ hw,List.length_replicate]
         exact k2 e he
end Go.Proofs.YtcplfckncandkaaGreatDoorE
namespace Go.Proofs.YtcplfckncandkaaGreatDoorE
open Go Go.E Go.Proofs
theorem zpC {M:Nat} {nms:Nms} {N:Nat}:∀ (xs:List (Nat×PLine)) (ws ws':List Wd),xs.Pairwise (fun a b=>a.1<b.1)→(∀ x∈xs,x.1<N)→ws.length=N→zbR nms N xs ws=.ok ws'→∀ i,i<N→
  (∃ x∈xs,x.1=i)∧inR N (zbq ((ws'.getD i zaE).getD 8 0) ((ws'.getD i zaE).getD 10 0) i)=false∨(∀ x∈xs,x.1≠i)∧ws'.getD i zaE=ws.getD i zaE
 | [],ws,ws',_,_,_,h,i,_=>by cases h;exact .inr ⟨fun x hx=>(by cases hx),rfl⟩
 | x::r,ws,ws',hp,hN,hl,h,i,hi=>by
   unfold zbR at h
   rw [List.pairwise_cons] at hp
   split at h
   ·cases h
   ·split at h
    ·cases h
    ·rename_i h1 h2
     have ih:=zpC (M:=M) r _ ws' hp.2 (fun y hy=>hN y (by simp [hy])) (by rw [List.length_set];exact hl) h i hi
     rcases ih with ⟨⟨y,hy,e⟩,h3⟩ | ⟨h3,h4⟩
     ·exact .inl ⟨⟨y,by simp [hy],e⟩,h3⟩
     ·by_cases hx:x.1=i
      ·left
       refine ⟨⟨x,by simp,hx⟩,?_⟩
       have hg:ws'.getD i zaE=(zbe nms zaE x.2.prs).1:=by
        rw [h4,← hx,List.getD_eq_getElem?_getD,List.getElem?_set_self (by rw [hl];exact hN x (by simp))];rfl
       rw [hg,← hx]
       have:¬ inR N (zbq ((zbe nms zaE x.2.prs).1.getD 8 0) ((zbe nms zaE x.2.prs).1.getD 10 0) x.1)=true:=h2
       simpa using this
      ·right
       refine ⟨fun y hy=>?_,?_⟩
       ·rcases List.mem_cons.1 hy with rfl | hy
        ·exact hx
        ·exact h3 y hy
       ·rw [h4,List.getD_eq_getElem?_getD,List.getElem?_set_ne hx,← List.getD_eq_getElem?_getD]
theorem zq7 (K:Nat):∀ l:List Nat,l.countP (fun a=>decide (a<K+1))=l.countP (fun a=>decide (a<K))+l.countP (fun a=>decide (a=K))
 | []=>rfl
 | a::r=>by
   rw [List.countP_cons,List.countP_cons,List.countP_cons,zq7 K r]
   by_cases h1:a<K
   ·simp [h1,show a<K+1 by omega,show a≠K by omega];omega
   ·by_cases h2:a=K
    ·subst h2;simp;omega
    ·simp [h1,h2,show ¬ a<K+1 by omega]
def zlc (ws:List Wd) (N K:Nat):Nat:=(List.range K).countP fun i=>decide (zef (ws.getD i zaE)=0)&&decide (i+1<N)
theorem zrK (ws:List Wd) (N K:Nat):zlc ws N (K+1)=zlc ws N K+if zef (ws.getD K zaE)=0∧K+1<N then 1 else 0:=by
 unfold zlc
 rw [List.range_succ,List.countP_append,List.countP_singleton]
 congr 1
 by_cases h1:zef (ws.getD K zaE)=0<;>by_cases h2:K+1<N<;>simp [h1,h2]
theorem ztB {ws:List Wd} {N:Nat} {P:List Nat} (h:∀ i,i<N→i∉P→ws.getD i zaE=zaE∧i+1<N):∀ K,K≤N→K≤P.countP (fun a=>decide (a<K))+zlc ws N K:=by
 intro K
 induction K with
 | zero=>intro _;omega
 | succ K ih=>
   intro hK
   have:=ih (by omega)
   rw [zq7,zrK]
   by_cases hm:K∈P
   ·have:0<P.countP fun a=>decide (a=K):=List.countP_pos_iff.2 ⟨K,hm,by simp⟩
    omega
   ·obtain ⟨h1,h2⟩:=h K (by omega) hm
    rw [h1,zn1,if_pos ⟨rfl,h2⟩]
    omega
theorem zwI {l l':Lay} {x:PLine} (h:zcv l x=some l'):l'.wds=l.wds:=by
 unfold zcv at h
 have hdef:∀ {n:List UInt8} {z:Int},l.define n z=some l'→l'.wds=l.wds:=fun hd=>by
  unfold Lay.define at hd
  split at hd
  ·cases hd
  ·cases hd;rfl
 repeat' (split at h)
 all_goals first
  | (cases h;done)
  | (cases h;rfl)
  | exact hdef h
theorem zvs {l l':Lay} {x:PLine} (h:zil l x=some l'):l'.wds.length≤l.wds.length+if x.prs≠[] then 1 else 0:=by
 rw [zmX] at h
 have hlab:∃ l1,l1.wds=l.wds∧zg9 l1 x=some l':=by
  cases hc:(if x.lab=[] then some l else l.define x.lab l.pl) with
  | none=>rw [hc] at h;cases h
  | some l1=>
    rw [hc] at h
    refine ⟨l1,?_,h⟩
    split at hc
    ·cases hc;rfl
    ·unfold Lay.define at hc
     split at hc
     ·cases hc
     ·cases hc;rfl
 obtain ⟨l1,h2,h3⟩:=hlab
 rw [← h2]
 unfold zg9 at h3
 split at h3
 ·rw [zwI h3];omega
 ·split at h3
  ·cases h3;omega
  ·rename_i hp
   split at h3
   ·cases h3;simp [hp]
   ·cases h3
def zld (xs:List PLine):Nat:=xs.countP fun x=>decide (x.prs≠[])
theorem zq8:∀ (xs:List PLine) (l l':Lay),zeS l xs=.ok l'→l'.wds.length≤l.wds.length+zld xs
 | [],l,l',h=>by cases h;exact zlr _
 | x::r,l,l',h=>by
   unfold zeS at h
   split at h
   ·cases h
   ·rename_i l1 hl1
    have h1:=zvs hl1
    have h2:=zq8 r l1 l' h
    have h3:zld (x::r)=zld r+if x.prs≠[] then 1 else 0:=by
     unfold zld
     rw [List.countP_cons]
     by_cases hp:x.prs≠[]<;>simp [hp]
    rw [h3]
    omega
theorem zwJ {t:List UInt8} {ws:List Wd} {es:List (List UInt8×Int)} (h:zeT t=.ok (ws,es)):∃ xs,zfa t=.ok xs∧xs.length≤t.length+1∧ws.length≤zld xs+zlc ws ws.length ws.length∧
  ∀ i,i<ws.length→inR ws.length (zbq ((ws.getD i zaE).getD 8 0) ((ws.getD i zaE).getD 10 0) i)=false:=by
 unfold zeT at h
 cases hp:zfa t with
 | error z=>rw [hp] at h;cases h
 | ok xs=>
   rw [hp] at h
   simp only at h
   cases hl:zeS zdL xs with
   | error z=>rw [hl] at h;cases h
   | ok l=>
     rw [hl] at h
     obtain ⟨hok,hlen⟩:=zlq hp
     obtain ⟨hL,hen⟩:=zls xs zdL l (zi9 _) hok hl
     simp only [zgf] at h
     cases hw:zbR l.nms (sizeT l) l.wds (List.replicate (sizeT l) zaE) with
     | error z=>rw [hw] at h;cases h
     | ok ws'=>
       rw [hw] at h
       simp only at h
       cases he:zdk l.nms (sizeT l) l.ents with
       | error z=>rw [he] at h;cases h
       | ok es'=>
         rw [he] at h
         cases h
         have hlw:ws.length=sizeT l:=by rw [zeG _ _ _ hw,List.length_replicate]
         have hat:=zpC (M:=t.length+1) l.wds _ ws hL.ris (zj5 hL).1 (by simp) hw
         have hun:∀ i,i<sizeT l→i∉l.wds.map (·.1)→ws.getD i zaE=zaE∧i+1<sizeT l:=by
          intro i hi hm
          rcases hat i hi with ⟨⟨x,hx,e⟩,_⟩ | ⟨h1,h2⟩
          ·exact absurd (List.mem_map.2 ⟨x,hx,e⟩) hm
          ·refine ⟨by rw [h2,List.getD_eq_getElem?_getD,List.getElem?_replicate,if_pos hi];rfl,?_⟩
           cases hg:l.wds.getLast? with
           | none=>unfold sizeT at hi;rw [hg] at hi;exact absurd hi (Nat.not_lt_zero i)
           | some y=>
             have hs:sizeT l=y.1+1:=by unfold sizeT;rw [hg]
             have:=h1 y (List.mem_of_getLast? hg)
             omega
         refine ⟨xs,rfl,hlen,?_,fun i hi=>?_⟩
         ·rw [hlw]
          have h1:=ztB hun (sizeT l) (zlr _)
          have h2:(l.wds.map (·.1)).countP (fun a=>decide (a<sizeT l))≤l.wds.length:=by
           have:=List.countP_le_length (p:=fun a=>decide (a<sizeT l)) (l:=l.wds.map (·.1))
           rwa [List.length_map] at this
          have h3:=zq8 xs zdL l hl
          have h4:zdL.wds.length=0:=rfl
          omega
         ·rw [hlw] at hi ⊢
          rcases hat i hi with ⟨_,h2⟩ | ⟨h1,h2⟩
          ·exact h2
          ·obtain ⟨h3,h4⟩:=hun i hi (fun hm=>by obtain ⟨x,hx,e⟩:=List.mem_map.1 hm;exact h1 x hx e)
           rw [h3]
           have:zbq (zaE.getD 8 0) (zaE.getD 10 0) (i:Int)=[((i:Int)+1,1)]:=rfl
           rw [this]
           simp only [inR,List.any_cons,List.any_nil,Bool.or_false,decide_eq_false_iff_not]
           omega
end Go.Proofs.YtcplfckncandkaaGreatDoorE
namespace Go.Proofs.YtcplfckncandkaaGreatDoorE
set_option maxRecDepth 100000
open Go Go.E Go.Proofs
theorem zwK {t:List UInt8} {ws:List Wd} {es:List En} (h:zeT t=.ok (ws,es)):zcX (toU ws)=true:=by
 obtain ⟨hwd,hwl⟩:=zlw h
 obtain ⟨_,_,_,_,hin⟩:=zwJ h
 refine List.all_eq_true.2 fun i hi=>?_
 have hi':i<ws.length:=by rw [List.mem_range,zjc] at hi;exact hi
 obtain ⟨w,hw⟩:∃ w,ws[i]?=some w:=⟨_,zge hi'⟩
 have hd:ws.getD i zaE=w:=by rw [List.getD_eq_getElem?_getD,hw];rfl
 have ho:=hwd w (zmg hw)
 obtain ⟨X,hX⟩:=zk8 ho
 have hu:=(zqV ho hX).1
 have hg:(toU ws)[i]?=some X:=by unfold toU;rw [List.getElem?_map,hw,Option.map_some,hX,Int.toNat_natCast]
 rw [hg]
 have part:∀ k,k<12→((zaq X k:Nat):Int)=w.getD k 0:=fun k hk=>by
  have h1:=zly X hk
  rw [hu] at h1
  rw [List.getD_eq_getElem?_getD,h1];rfl
 show okW (toU ws).length X i=true
 have h2:=hin i hi'
 rw [hd] at h2
 unfold okW zfO
 rw [part 8 (by omega),part 10 (by omega),zjc]
 refine List.all_eq_true.2 fun p hp=>?_
 have h3:=List.any_eq_false.1 h2 p hp
 cases hq:decide ((ws.length:Int)<p.1+p.2) with
 | false=>rfl
 | true=>exact absurd hq h3
theorem zwL {t:List UInt8} {ws:List Wd} {es:List En} (h:zeT t=.ok (ws,es)) (hn:es.map (·.1)=zbM):∃ E,newT (toU ws) es=some E:=by
 obtain ⟨hwd,hwl⟩:=zlw h
 obtain ⟨_,hee⟩:=zxM h
 have hlen:es.length=5:=by have:=congrArg List.length hn;rw [List.length_map] at this;exact this
 have hG:∀ l∈zbM,zjS l=true:=by decide
 have hD:∀ i∈List.range 5,∀ l,zbM[i]?=some l→l∉zbM.take i:=by decide
 have hr:zfK (toU ws).length es=true:=by
  unfold zfK
  rw [zjc]
  simp only [zae,Nat.ble_eq]
  refine ⟨hwl,by omega,List.all_eq_true.2 fun i hi=>?_⟩
  obtain ⟨e,he⟩:∃ e,es[i]?=some e:=⟨_,zge (List.mem_range.1 hi)⟩
  have hi5:i<5:=by have:=List.mem_range.1 hi;omega
  have hm:=zmg he
  have hat:zbM[i]?=some e.1:=by rw [← hn,List.getElem?_map,he];rfl
  obtain ⟨_,h0,h1⟩:=hee e hm
  rw [ziH he]
  have q1:=hG e.1 (zmg hat)
  have q2:decide (e.2<0)=false:=zdf (by omega)
  have q3:decide ((ws.length:Int)≤e.2)=false:=zdf (by omega)
  have q4:decide (e.1∈(es.take i).map (·.1))=false:=zdf (by
   rw [List.map_take,hn]
   exact hD i (List.mem_range.2 hi5) e.1 hat)
  rw [q1,q2,q3,q4];rfl
 unfold newT
 rw [hr,zwK h]
 show ∃ E,zfh es zbM=some E
 have key:∀ (l:List (List UInt8)),(∀ n∈l,n∈es.map (·.1))→∃ E,zfh es l=some E:=by
  intro l
  induction l with
  | nil=>exact fun _=>⟨[],rfl⟩
  | cons n r ih=>
    intro hl
    obtain ⟨E,hE⟩:=ih fun m hm=>hl m (by simp [hm])
    have hf:∀ (q:List En),n∈q.map (·.1)→∃ x,zeH q n=some x:=by
     intro q
     induction q with
     | nil=>intro h;cases h
     | cons e q ihq=>
       intro h
       unfold zeH
       by_cases he:e.1=n
       ·exact ⟨e.2,by rw [if_pos he]⟩
       ·rw [if_neg he]
        refine ihq ?_
        rw [List.map_cons] at h
        rcases List.mem_cons.1 h with h | h
        ·exact absurd h.symm he
        ·exact h
    obtain ⟨x,hx⟩:=hf es (hl n (by simp))
    exact ⟨x::E,by unfold zfh;rw [hx];simp only;rw [hE]⟩
 exact key zbM fun n hm=>by rw [hn];exact hm
theorem zxN:∃ ws es E,zeT zk9=.ok (ws,es)∧(∀ w∈ws,zhO w)∧newT (toU ws) es=some E∧∀ e∈es,e.1.length≤1000000:=by
 obtain ⟨ws,es,h1,h2,h3⟩:=zxE
 obtain ⟨E,hE⟩:=zwL h1 h3
 refine ⟨ws,es,E,h1,(zlw h1).1,hE,fun e he=>?_⟩
 have hm:e.1∈zbM:=by rw [show zbM=zmZ from rfl,← h3];exact List.mem_map_of_mem he
 have:∀ n∈zbM,n.length≤1000000:=by decide
 exact this _ hm
end Go.Proofs.YtcplfckncandkaaGreatDoorE
namespace Go.Proofs.YtcplfckncandkaaGreatDoorE
open Go Go.E Go.Proofs
theorem arg_row {H:Type} {enc:TypeId×Value→H} {P:Program} {W:World} {spare:Nat→Bool} {held:Bool} {α:Type} {f:α→List Value} {ok:α→Prop} {t e d:Nat} {ks:List CK} {v:Value} {dd:DataW H} {p:List MemPlace} (id g:Nat) (hg:∃ arr T fr,W.heap[g]?=some (.cells arr T fr)) (ht:P.underlying t=some (.slice e)) (hk:zhw P d e=some ks) (hc:P.cellsOf e=ks.length) (hz:0<ks.length)
  (hty:∀ r,Cks ks r→∃ s,r=f s∧ok s) (hfl:∀ s,(f s).all zbn=true) (hval:Value.okWide P W .any 0 t v) (h:DataW.Trod enc P W 0 spare held t v dd p):
  ∃ (l:List α) (av:Value) (pl:Pl),(∀ s∈l,ok s)∧Tv id l.length av∧(∃ obj,W.heap[pl.b]?=some obj∧∀ [Sym] (β:Emb),OR β pl obj (.table (l.flatMap f)))∧∀ [Sym] (β:Emb),β id=some pl→VR β av v:=by
 obtain ⟨l,h1,h2⟩:=zue (f:=f) ht hk hc hz hty hval h
 have hf:∀ x∈l.flatMap f,zbn x=true:=fun x hx=>by
  obtain ⟨s,_,hs⟩:=List.mem_flatMap.1 hx
  exact List.all_eq_true.1 (hfl s) x hs
 rcases h2 with ⟨rfl,rfl⟩ | ⟨b,off,cap,rfl,h3,h4,arr,T,fr,hh,h5⟩
 ·obtain ⟨arr,T,fr,hh⟩:=hg
  exact ⟨[],.slice none 0 0,⟨g,0,0,0⟩,h1,.inl ⟨rfl,rfl⟩,⟨_,hh,fun β=>⟨rfl,arr,T,fr,rfl,fun j x hx=>by cases hx⟩⟩,fun β _=>.slice0⟩
 ·refine ⟨l,.slice (some ⟨id,0,none⟩) l.length cap,⟨b,off,0,0⟩,h1,.inr ⟨cap,rfl,h3,h4⟩,⟨_,hh,fun β=>⟨rfl,arr,T,fr,rfl,fun j x hx=>⟨x,h5 j x hx,zcA (hf x (zmg hx))⟩⟩⟩,fun β hb=>?_⟩
  exact .slice (p:=⟨b,off,0,0⟩) hb h3 (zlr _) (.inr rfl) (.inl rfl)
abbrev W12:={ w:List Int//w.length=12 }
def row12 (w:W12):List Value:=w.1.map (.int .i64)
theorem flat_i (w:W12):(row12 w).all zbn=true:=by
 rw [List.all_eq_true]
 intro x hx
 obtain ⟨n,_,rfl⟩:=List.mem_map.1 hx
 rfl
noncomputable def stP (C:List Value):SS:=⟨zd4 ((12,.table C)::zes),12+1,12+1⟩
theorem zvt (C:List Value):stP C=(st0.new (.table C)).ro (12+1):=rfl
theorem gdP (C:List Value):Gd (stP C):=by
 rw [zvt]
 exact (gd0.ext ((Ext.refl st0).new _)).ro
theorem stP_F (C:List Value):(stP C).mem.get 12=some (.table C):=by
 rw [zvt]
 exact SS.new_get (st:=st0)
def plP (p:Pl):Nat→Pl:=fun i=>if i=12 then p else ⟨i,0,0,0⟩
theorem err_cells {W:World} {laid:List (String×DataW Unit)} (h:laidMet Tryz.prog laid W) (h4:∃ nm d,("strconv.ErrSyntax",DataW.iface nm d)∈laid):∃ arr T fr,W.heap[5]?=some (.cells arr T fr):=by
 obtain ⟨nm4,d4,m4⟩:=h4
 obtain ⟨a4,u4,c4⟩:=zjy h m4 (g:=5) (t:=167) (by kernel_rfl) (by kernel_rfl) Tryz.underlying167
 unfold World.cell? at c4
 simp only at c4
 split at c4
 ·rename_i arr T fr hh;exact ⟨_,_,_,hh⟩
 all_goals cases c4
theorem law_at1 {f:Nat} {fn:Func} (hf:Lk0.func f=some (f,fn)) {W:World} {laid:List (String×DataW Unit)} (h:laidMet Tryz.prog laid W) (h4:∃ nm d,("strconv.ErrSyntax",DataW.iface nm d)∈laid) (h5:∃ nm d,("strconv.ErrRange",DataW.iface nm d)∈laid)
  (hF:("camshaft/uword.fields",laidF)∈laid) (hS:("strings.asciiSpace",laidS)∈laid)
  {C:List Value} {p:Pl} (oC:∃ obj,W.heap[p.b]?=some obj∧∀ [Sym] (β:Emb),OR β p obj (.table C))
  {args args':List Value} (hargs:∀ [Sym] (β:Emb),β 12=some p→VRs β args args') (hlaw:∀ [Sym],∃ st',cc f args (stP C)=some (.bool true,st')):
  Calls Tryz.prog f args'.toArray W fun e W'=>e=.returned (.bool true)∧RowKit.Below W.heap.size W W':=by
 obtain ⟨nm4,d4,m4⟩:=h4
 obtain ⟨nm5,d5,m5⟩:=h5
 obtain ⟨a4,u4,c4⟩:=zjy h m4 (g:=5) (t:=167) (by kernel_rfl) (by kernel_rfl) Tryz.underlying167
 obtain ⟨a5,u5,c5⟩:=zjy h m5 (g:=6) (t:=167) (by kernel_rfl) (by kernel_rfl) Tryz.underlying167
 letI:Sym:=symE a4 u4 a5 u5
 have hE:ErrSym:=⟨⟨a4,u4,rfl⟩,⟨a5,u5,rfl⟩⟩
 obtain ⟨oF,f1,f2⟩:=zsv h hF (g:=0) (kk:=.i64) (by kernel_rfl) (by kernel_rfl) Tryz.underlying123 Tryz.underlying122 (by kernel_rfl) rfl rfl rfl Tryz.underlying9 Tryz.underlying3 rfl rfl (by kernel_rfl) (by kernel_rfl) _ (by simp [zb3]) rfl
 obtain ⟨oS,s1,s2⟩:=ztQ h hS (g:=2) (kk:=.u8) (by kernel_rfl) (by kernel_rfl) Tryz.underlying187 Tryz.underlying5 (by kernel_rfl) _ rfl
 obtain ⟨st',hl⟩:=hlaw
 have hX:(plP p) 12=p:=by unfold plP;rw [if_pos rfl]
 have hO:∀ x∈zes,(plP p) x.1=⟨x.1,0,0,0⟩:=fun x hx=>by
  have:=ztw x hx
  unfold plP;rw [if_neg (by omega)]
 have b1:embB ((12,.table C)::zes) (plP p) 12=some p:=by rw [zrY (by simp),hX]
 have hT:∀ x∈zes,∃ obj,W.heap[((plP p) x.1).b]?=some obj∧OR (embB ((12,.table C)::zes) (plP p)) ((plP p) x.1) obj x.2:=fun x hx=>by
  rw [hO x hx]
  simp only [zes,List.mem_cons,List.not_mem_nil,or_false] at hx
  rcases hx with rfl | rfl | rfl | rfl
  ·exact zua (i:=5) c4
  ·exact zua (i:=6) c5
  ·exact ⟨oF,f1,f2 _⟩
  ·exact ⟨oS,s1,s2 _⟩
 refine zw4 zah (zw6 hE) hf (l:=(12,.table C)::zes) (nx:=12+1) (pl:=plP p) hl rfl (hargs _ b1) (fun x hx=>?_) (fun x hx=>?_) (fun g hg=>?_) (fun x hx=>?_)
 ·rcases List.mem_cons.1 hx with rfl | hx
  ·simp only [hX];exact ⟨oC.choose,oC.choose_spec.1,oC.choose_spec.2 _⟩
  ·exact hT x hx
 ·rcases List.mem_cons.1 hx with rfl | hx
  ·exact ⟨_,rfl⟩
  ·simp only [zes,List.mem_cons,List.not_mem_nil,or_false] at hx
   rcases hx with rfl | rfl | rfl | rfl<;>exact ⟨_,rfl⟩
 ·have hm:=zvf g hg
  obtain ⟨x,hx,rfl⟩:=List.mem_map.1 hm
  refine ⟨by rw [List.map_cons];exact List.mem_cons_of_mem _ hm,by rw [hO x hx],by rw [hO x hx]⟩
 ·rcases List.mem_cons.1 hx with rfl | hx
  ·show 12<12+1;omega
  ·have:=ztw x hx;omega
end Go.Proofs.YtcplfckncandkaaGreatDoorE
namespace Go.Proofs.YtcplfckncandkaaGreatDoorE
open Go Go.E Go.Proofs Go.ChangeShapes
theorem stepRow_flat (x:Step5):(stepRow x).all zbn=true:=rfl
theorem step_ty (r:List Value) (h:Cks [.b,.i .i64,.b,.i .i64,.i .i64] r):∃ s,r=stepRow s∧True:=by
 cases r with
 | nil=>exact h.elim
 | cons x r=>
 obtain ⟨⟨b1,h1⟩,h⟩:=h
 cases r with
 | nil=>exact h.elim
 | cons x r=>
 obtain ⟨⟨n2,h2,_⟩,h⟩:=h
 cases r with
 | nil=>exact h.elim
 | cons x r=>
 obtain ⟨⟨b3,h3⟩,h⟩:=h
 cases r with
 | nil=>exact h.elim
 | cons x r=>
 obtain ⟨⟨n4,h4,_⟩,h⟩:=h
 cases r with
 | nil=>exact h.elim
 | cons x r=>
 obtain ⟨⟨n5,h5,_⟩,h⟩:=h
 cases r with
 | cons z r=>exact h.elim
 | nil=>exact ⟨⟨b1,n2,b3,n4,n5⟩,by unfold stepRow;rw [h1,h2,h3,h4,h5],trivial⟩
end Go.Proofs.YtcplfckncandkaaGreatDoorE
namespace Go.Proofs.YtcplfckncandkaaGreatDoorE
open Go Go.E Go.Proofs
theorem zxO [Sym] {st:SS} (hg:Gd st) (hl:st.lim≤st.next):∃ (ws:List Nat) (es:List En) (E:List Int) (s4 s8:SS) (wv ev:Value),cc 9 [] st=some (.tuple #[zbW wv ev,.int .i64 0],s4)∧
  (s4.new (.cells [.slice none 0 0,.slice none 0 0] 0)).stV s4.next 0 2 (zbW wv ev)=some s8∧Ext st s8∧At s8 s4.next [wv,ev]∧(∀ X∈ws,X<2^64)∧Rg s8 wv (rowsF uRow ws) 1 ws.length∧Rg s8 ev (rowsF zaZ es) 2 es.length∧newT ws es=some E∧∀ e∈es,e.1.length≤1000000:=by
 obtain ⟨ws,es,E,ha,hwd,hq,hnm⟩:=zxN
 obtain ⟨s4,wv,ev,c4,x4,o1,o2⟩:=zxF ⟨zpA,zve⟩ ha hg hl
 obtain ⟨s8,e8,a8,x8,n8⟩:=zaV (n:=2) (st:=s4) (x4.ll hl) (r:=NN) (row:=[wv,ev]) (v:=zbW wv ev) rfl rfl (by simp [(Own.cell o1).2,(Own.cell o2).2]) rfl
 have o1':Rg s8 wv (rowsF uRow (toU ws)) 1 (toU ws).length:=by rw [← pk_u hwd,zjc];exact (o1.ext x8).rg
 exact ⟨toU ws,es,E,s4,s8,wv,ev,c4,e8,x4.trans x8,a8,zvp hwd,o1',(o2.ext x8).rg,hq,hnm⟩
end Go.Proofs.YtcplfckncandkaaGreatDoorE
namespace Go.Proofs.YtcplfckncandkaaGreatDoorE
open Go Go.E Go.Proofs
theorem SqI.keepHi {B b:Nat} {s s':SS} {ws:List Nat} {E:List Int} {pc:Int} {k:Value} (h:SqI B s b ws E pc k) (hn:s.next≤s'.next) (hl:s'.lim=s.lim) (hk:∀ i,b≤i→i<B→i<s.next→s'.mem.get i=s.mem.get i):SqI B s' b ws E pc k:=by
 obtain ⟨v,h1,h2,h3,h5⟩:=h
 exact ⟨v,⟨(hk b (zlr _) h2 h1.2.1).trans h1.1,by have:=h1.2.1;omega,by rw [hl];exact h1.2.2⟩,h2,h3.keep hn fun i l c e hi=>hk i (Nat.le_of_lt (h5 i l c e).1) (h5 i l c e).2 hi,h5⟩
structure Duo (base:SS) (B b b2:Nat) (ws:List Nat) (E:List Int) (pc:Int) (ca:List Int) (pc2:Int) (ca2:List Int) (s:SS):Prop where
 ex:∃ k k2,SqI b2 s b ws E pc k∧SqI B s b2 ws E pc2 k2∧Stk B s k ca∧Stk B s k2 ca2∧∀ i o l c,k=.slice (some ⟨i,o,none⟩) l c→∀ o' l' c',k2≠.slice (some ⟨i,o',none⟩) l' c'
 hE:E.length=5
 hB:B≤s.next
 hl:s.lim≤b
 ext:Ext base s
 bb:base.next≤b
 hN:ws.length≤2048
section
variable {base s : SS} {B b b2 : Nat} {ws : List Nat} {E : List Int} {pc pc2 : Int} {ca ca2 : List Int}
theorem Duo.lt (h:Duo base B b b2 ws E pc ca pc2 ca2 s):b<b2∧b2<B∧b2<s.next:=by
 obtain ⟨k,k2,h1,h2,_⟩:=h.ex
 exact ⟨h1.lt.2.1,h2.lt.2.1,h2.lt.1⟩
theorem Duo.extend (h:Duo base B b b2 ws E pc ca pc2 ca2 s) {s':SS} (x:Ext s s'):Duo base B b b2 ws E pc ca pc2 ca2 s':=by
 obtain ⟨k,k2,h1,h2,h3,h4,h5⟩:=h.ex
 exact ⟨⟨k,k2,h1.ext x,h2.ext x,h3.ext x,h4.ext x,h5⟩,h.hE,zlt h.hB x.next,by rw [x.lim];exact h.hl,h.ext.trans x,h.bb,h.hN⟩
theorem Duo.next1 [Sym] (h:Duo base B b b2 ws E pc ca pc2 ca2 s) (hp:InN ws.length pc) (hc:ca.length≤8) {sf:SS} (hx:Ext s sf) (is:Bool) (tb op:Int):
  ∃ s1,cc 12 [ptr b 0,.agg #[.bool is,.int .i64 tb,.int .i64 op]] sf=some (.bool (zba ws E pc ca is tb op).2.2,s1)∧(∀ i,s.next≤i→i<sf.next→s1.mem.get i=sf.mem.get i)∧sf.next≤s1.next∧s1.lim=sf.lim∧
   ∀ s1':SS,s1'.next=s1.next→s1'.lim=s1.lim→(∀ i,i<s.next∨sf.next≤i→s1'.mem.get i=s1.mem.get i)→Duo base B b b2 ws E (zba ws E pc ca is tb op).1 (zba ws E pc ca is tb op).2.1 pc2 ca2 s1':=by
 obtain ⟨k,k2,h1,h2,h3,h4,h5⟩:=h.ex
 obtain ⟨lb,lb2,lbn⟩:=h.lt
 have hfn:=hx.next
 have kb:=h3.blk
 have kb2:=h4.blk
 have hB:=h.hB
 have hl:=h.hl
 have hbb:=h.bb
 obtain ⟨s1,k',c1,q1,q2,fr,nw⟩:=zir (h1.ext hx) h.hE ((h3.ext hx).up fun i o l c e=>by have:=(kb i o l c e).1;omega) (by omega) (by rw [hx.lim];omega) hc hp.1 h.hN hp.2 is tb op
 have fn:=fr.next
 have k'lt:=q2.blk
 refine ⟨s1,c1,fun i hi hi2=>fr.keep i hi2 (by omega) (fun o l c e=>by have:=(kb i o l c e).2;omega),fn,fr.lim,fun s1' en el em=>?_⟩
 have d1:SqI b2 s1' b ws E (zba ws E pc ca is tb op).1 k':=q1.keep (by omega) el fun i hi hi2=>em i (.inl (by omega))
 have d2:Stk b2 s1' k' (zba ws E pc ca is tb op).2.1:=q2.keep (by omega) fun i o l c e hb hi=>by
  rcases nw i o l c e with h6 | ⟨o',l',c',h6⟩
  ·exact em i (.inr h6)
  ·exact em i (.inl (kb i _ _ _ h6).2)
 have d3:SqI B s1' b2 ws E pc2 k2:=h2.keepHi (by omega) (by rw [el,fr.lim,hx.lim]) fun i hi hi2 hi3=>
  (em i (.inl hi3)).trans ((fr.keep i (by omega) (by omega) (fun o l c e=>by have:=(kb i o l c e).1;omega)).trans (hx.keep i hi3))
 have d4:Stk B s1' k2 ca2:=h4.keep (by omega) fun i o l c e hb hi=>
  (em i (.inl hi)).trans ((fr.keep i (by omega) (by omega) (fun o' l' c' e'=>h5 i o' l' c' e' _ _ _ e)).trans (hx.keep i hi))
 refine ⟨⟨k',k2,d1,d3,d2.up fun i o l c e=>?_,d4,?_⟩,h.hE,by omega,by rw [el,fr.lim,hx.lim];exact hl,⟨by have:=h.ext.next;omega,by rw [el,fr.lim,hx.lim,h.ext.lim],fun i hi=>?_⟩,hbb,h.hN⟩
 ·rcases nw i o l c e with h6 | ⟨o',l',c',h6⟩
  ·omega
  ·exact (kb i _ _ _ h6).1
 ·intro i o l c e o' l' c' e'
  have hi:=(kb2 i _ _ _ e').2
  rcases nw i o l c e with h6 | ⟨o2,l2,c2',h6⟩
  ·omega
  ·exact h5 i _ _ _ h6 _ _ _ e'
 ·have hb0:=h.ext.next
  exact (em i (.inl (by omega))).trans ((fr.keep i (by omega) (by omega) (fun o l c e=>by have:=(kb i o l c e).1;omega)).trans ((hx.keep i (by omega)).trans (h.ext.keep i hi)))
theorem Duo.next2 [Sym] (h:Duo base B b b2 ws E pc ca pc2 ca2 s) (hp:InN ws.length pc2) (hc:ca2.length≤8) (is:Bool) (tb op:Int):
  ∃ s1,cc 12 [ptr b2 0,.agg #[.bool is,.int .i64 tb,.int .i64 op]] s=some (.bool (zba ws E pc2 ca2 is tb op).2.2,s1)∧Duo base B b b2 ws E pc ca (zba ws E pc2 ca2 is tb op).1 (zba ws E pc2 ca2 is tb op).2.1 s1:=by
 obtain ⟨k,k2,h1,h2,h3,h4,h5⟩:=h.ex
 obtain ⟨lb,lb2,lbn⟩:=h.lt
 have kb:=h3.blk
 have kb2:=h4.blk
 have hB:=h.hB
 have hl:=h.hl
 have hbb:=h.bb
 obtain ⟨s1,k2',c1,q1,q2,fr,nw⟩:=zir h2 h.hE h4 (by omega) (by omega) hc hp.1 h.hN hp.2 is tb op
 have fn:=fr.next
 refine ⟨s1,c1,⟨k,k2',h1.keep fn fr.lim fun i hi hi2=>fr.keep i hi2 (by omega) (fun o l c e=>by have:=(kb2 i o l c e).1;omega),q1,
  h3.keep fn fun i o l c e hb hi=>fr.keep i hi (by have:=(kb i o l c e).1;omega) (fun o' l' c' e'=>h5 i _ _ _ e _ _ _ e'),q2,?_⟩,h.hE,by omega,by rw [fr.lim];exact hl,⟨by have:=h.ext.next;omega,by rw [fr.lim,h.ext.lim],fun i hi=>?_⟩,hbb,h.hN⟩
 ·intro i o l c e o' l' c' e'
  have hi:=(kb i _ _ _ e).2
  rcases nw i o' l' c' e' with h6 | ⟨o2,l2,c2',h6⟩
  ·omega
  ·exact h5 i _ _ _ e _ _ _ h6
 ·have hb0:=h.ext.next
  exact (fr.keep i (by omega) (by omega) (fun o l c e=>by have:=(kb2 i o l c e).1;omega)).trans (h.ext.keep i hi)
theorem Duo.go1 [Sym] (h:Duo base B b b2 ws E pc ca pc2 ca2 s) {i:Nat} (hi:i<5):∃ s1,cc 13 [ptr b 0,.int .i64 i] s=some (.tuple #[],s1)∧Duo base B b b2 ws E (E.getD i 0) [] pc2 ca2 s1:=by
 obtain ⟨k,k2,h1,h2,h3,h4,h5⟩:=h.ex
 obtain ⟨lb,lb2,lbn⟩:=h.lt
 have hB:=h.hB
 have hbb:=h.bb
 have kb2:=h4.blk
 obtain ⟨s1,c1,q1,m1⟩:=zlA h1 h.hE hi
 have n1:=m1.next
 refine ⟨s1,c1,⟨zaN,k2,q1,h2.keepHi n1 m1.lim fun j hj hj2 hj3=>m1.keep j hj3 (by simp;omega),Stk.nil,h4.mod m1 (by omega),fun i o l c e=>by cases e⟩,h.hE,by omega,by rw [m1.lim];exact h.hl,⟨by have:=h.ext.next;omega,by rw [m1.lim,h.ext.lim],fun j hj=>?_⟩,hbb,h.hN⟩
 have hb0:=h.ext.next
 exact (m1.keep j (by omega) (by simp;omega)).trans (h.ext.keep j hj)
theorem Duo.go2 [Sym] (h:Duo base B b b2 ws E pc ca pc2 ca2 s) {i:Nat} (hi:i<5):∃ s1,cc 13 [ptr b2 0,.int .i64 i] s=some (.tuple #[],s1)∧Duo base B b b2 ws E pc ca (E.getD i 0) [] s1:=by
 obtain ⟨k,k2,h1,h2,h3,h4,h5⟩:=h.ex
 obtain ⟨lb,lb2,lbn⟩:=h.lt
 have hB:=h.hB
 have hbb:=h.bb
 have kb:=h3.blk
 obtain ⟨s1,c1,q1,m1⟩:=zlA h2 h.hE hi
 have n1:=m1.next
 refine ⟨s1,c1,⟨k,zaN,h1.keep n1 m1.lim fun j hj hj2=>m1.keep j hj2 (by simp;omega),q1,h3.mod m1 (by omega),Stk.nil,fun i o l c e o' l' c' e'=>by cases e'⟩,h.hE,by omega,by rw [m1.lim];exact h.hl,⟨by have:=h.ext.next;omega,by rw [m1.lim,h.ext.lim],fun j hj=>?_⟩,hbb,h.hN⟩
 have hb0:=h.ext.next
 exact (m1.keep j (by omega) (by simp;omega)).trans (h.ext.keep j hj)
theorem zml [Sym] (hw:zcX ws=true) (hEn:∀ i,i<5→InN ws.length (E.getD i 0)) (steps:List Step5) (hn:steps.length≤1000) (tv:Value) (en:Int) (hT:Rg base tv (rowsF stepRow steps) 5 steps.length):
  ∀ (k j:Nat) (pc:Int) (ca:List Int) (s:SS),steps.length=k+j→Duo base B b b2 ws E pc ca pc2 ca2 s→InN ws.length pc→(∀ a∈ca,InN ws.length a)→ca.length≤8→
   ∃ s' pc' ca',zaJ 11 [tv,.int .i64 en,ptr b 0,ptr b2 0,tv,.int .i64 steps.length,.int .i64 j] s=some (0,[tv,.int .i64 en,ptr b 0,ptr b2 0],s')∧Duo base B b b2 ws E pc' ca' pc2 ca2 s'
 | 0,j,pc,ca,s,hk,h,hp,hc,hl=>by
   have hlt:¬ (j:Int)<(steps.length:Int):=by omega
   refine ⟨s,pc,ca,zc3 _ _ _ _ _ _ _ s ?_,h⟩
   simp only [zcl,zdf hlt,zcf]
 | k+1,j,pc,ca,s,hk,h,hp,hc,hl=>by
   have hlt:(j:Int)<(steps.length:Int):=by omega
   obtain ⟨x,hx⟩:∃ x,steps[j]?=some x:=⟨_,zge (by omega)⟩
   obtain ⟨lb,lb2,lbn⟩:=h.lt
   have hbb:=h.bb
   have hls:s.lim≤s.next:=by have:=h.hl;omega
   obtain ⟨p1,e1,l1,_⟩:=(hT.ext h.ext).load (j:=(j:Int)) (by omega) hlt (zaU stepRow_len steps j x hx) (stepRow_len x)
   obtain ⟨s4,e4,a4,x4,n4⟩:=zaV (st:=s) hls (r:=[.bool false,.int .i64 0,.bool false,.int .i64 0,.int .i64 0]) (zaG (stepRow x)) (n:=5) (stepRow_len x) rfl rfl
   have t2:s4.ld s.next 2=some (.bool x.is):=a4.ld
   have t3:s4.ld s.next 3=some (.int .i64 x.tb):=a4.ld
   have t4:s4.ld s.next 4=some (.int .i64 x.op):=a4.ld
   have hw1:IntKind.wrap .i64 ((j:Int)+1)=((j+1:Nat):Int):=zaX (by omega)
   obtain ⟨s8,c8,_,_,_,hrest⟩:=h.next1 hp hl x4 x.is x.tb x.op
   have h8:=hrest s8 rfl rfl (fun _ _=>rfl)
   obtain ⟨r1,r2,r3⟩:=zq5 hw h.hE hEn hp hc hl x.is x.tb x.op
   obtain ⟨s',pc',ca',ih,h'⟩:=zml hw hEn steps hn tv en hT k (j+1) _ _ s8 (by omega) h8 r1 r2 r3
   refine ⟨s',pc',ca',zc3 _ _ _ _ _ _ _ s ?_,h'⟩
   simp only [zcl,zdt hlt,zct,e1,zob,l1]
   rw [e4,zob]
   simp only [t2,t3,t4,zob,zai,zaa]
   rw [c8,zob]
   simp only [zob,zai,hw1]
   exact ih
theorem zmm [Sym] (hX:12≤base.next) (hw:zcX ws=true) (hEn:∀ i,i<5→InN ws.length (E.getD i 0)) (steps:List Step5) (hn:steps.length≤1000) (tv:Value) (hT:Rg base tv (rowsF stepRow steps) 5 steps.length):
  ∀ (k j:Nat) (pc:Int) (ca:List Int) (s:SS),steps.length=k+j→Duo base B b b2 ws E pc ca pc ca s→InN ws.length pc→(∀ a∈ca,InN ws.length a)→ca.length≤8→
   ∃ s',zaJ 18 [ptr b 0,ptr b2 0,tv,.int .i64 steps.length,.int .i64 j] s=some (0,[],s')
 | 0,j,pc,ca,s,hk,h,hp,hc,hl=>by
   have hlt:¬ (j:Int)<(steps.length:Int):=by omega
   refine ⟨s,zc4 _ _ _ _ _ s ?_⟩
   simp only [zcm,zdf hlt,zcf]
 | k+1,j,pc,ca,s,hk,h,hp,hc,hl=>by
   have hlt:(j:Int)<(steps.length:Int):=by omega
   obtain ⟨x,hx⟩:∃ x,steps[j]?=some x:=⟨_,zge (by omega)⟩
   obtain ⟨lb,lb2,lbn⟩:=h.lt
   have hbb:=h.bb
   have hls:s.lim≤s.next:=by have:=h.hl;omega
   obtain ⟨p1,e1,l1,_⟩:=(hT.ext h.ext).load (j:=(j:Int)) (by omega) hlt (zaU stepRow_len steps j x hx) (stepRow_len x)
   obtain ⟨s4,e4,a4,x4,n4⟩:=zaV (st:=s) hls (r:=[.bool false,.int .i64 0,.bool false,.int .i64 0,.int .i64 0]) (zaG (stepRow x)) (n:=5) (stepRow_len x) rfl rfl
   have t2:s4.ld s.next 2=some (.bool x.is):=a4.ld
   have t3:s4.ld s.next 3=some (.int .i64 x.tb):=a4.ld
   have t4:s4.ld s.next 4=some (.int .i64 x.op):=a4.ld
   have hw1:IntKind.wrap .i64 ((j:Int)+1)=((j+1:Nat):Int):=zaX (by omega)
   have h4:=h.extend x4
   obtain ⟨k1,k2,q1,q2,q3,q4,_⟩:=h4.ex
   have c5:=zoZ q1 h.hE
   have c7:=zoZ q2 h.hE
   have c9:=zj9 q1 h.hE (q3.up (B:=b2) fun i o l c e=>by have:=(q3.blk i o l c e).1;omega)
   have c11:=zj9 q2 h.hE q4
   have hl4:=x4.ll hls
   obtain ⟨s17,e17,a17,x17,n17⟩:=zkI (st:=s4) hl4 (r:=[.bool false,.int .i64 0,.int .i64 0]) (row:=[.bool x.is,.int .i64 x.tb,.int .i64 x.op]) rfl rfl
   have l18:s17.ldN s4.next 0 3=some (.agg #[.bool x.is,.int .i64 x.tb,.int .i64 x.op]):=a17.ldN rfl
   have hw19:=bar_ok (k:=0) a17 (by have:=h4.ext.next;omega)
   have hxf:Ext s4 (s17.frz (s4.next,[.bool x.is,.int .i64 x.tb,.int .i64 x.op])):=⟨by show s4.next≤s17.next;omega,x17.lim,fun i hi=>by
    show (s17.mem.upd s4.next _).get i=_
    rw [PT.get_upd,if_neg (by omega)]
    exact x17.keep i hi⟩
   obtain ⟨s20,c20,k20,n20,l20,hrest⟩:=h4.next1 hp hl hxf x.is x.tb x.op
   have hfn:(s17.frz (s4.next,[.bool x.is,.int .i64 x.tb,.int .i64 x.op])).next=s17.next:=rfl
   have h20:=hrest (s20.unfrz (s4.next,[.bool x.is,.int .i64 x.tb,.int .i64 x.op])) rfl rfl (fun i hi=>by
    show (s20.mem.upd s4.next _).get i=_
    rw [PT.get_upd,if_neg (by omega)])
   have hget:(s20.unfrz (s4.next,[.bool x.is,.int .i64 x.tb,.int .i64 x.op])).mem.get s4.next=some (.cells [.bool x.is,.int .i64 x.tb,.int .i64 x.op] 0):=by
    show (s20.mem.upd s4.next _).get s4.next=_
    rw [PT.get_upd,if_pos rfl]
   have l22:(s20.unfrz (s4.next,[.bool x.is,.int .i64 x.tb,.int .i64 x.op])).ldN s4.next 0 3=some (.agg #[.bool x.is,.int .i64 x.tb,.int .i64 x.op]):=by
    rw [SS.ldN_cells hget];rfl
   obtain ⟨s23,c23,h23⟩:=h20.next2 hp hl x.is x.tb x.op
   obtain ⟨r1,r2,r3⟩:=zq5 hw h.hE hEn hp hc hl x.is x.tb x.op
   obtain ⟨s',ih⟩:=zmm hX hw hEn steps hn tv hT k (j+1) _ _ s23 (by omega) h23 r1 r2 r3
   have hbe:(!((zba ws E pc ca x.is x.tb x.op).2.2==(zba ws E pc ca x.is x.tb x.op).2.2))=false:=by simp
   refine ⟨s',zc4 _ _ _ _ _ s ?_⟩
   simp only [zcm,zdt hlt,zct,e1,zob,l1]
   rw [e4,zob,c5,zob]
   simp only [zob,zaa]
   rw [c7,zob]
   simp only [zob,zaa,decide_true,znt,zcf]
   rw [c9,zob]
   simp only [zob,zaa]
   rw [c11,zob]
   simp only [zob,zaa,decide_true,znt,zcf,t2,t3,t4,zai]
   rw [e17,zob,l18,zob,hw19,zob,c20,zob]
   simp only [zob,zai]
   rw [l22,zob,c23,zob]
   simp only [zob,zai,hbe,zcf,hw1]
   exact ih
end
end Go.Proofs.YtcplfckncandkaaGreatDoorE
namespace Go.Proofs.YtcplfckncandkaaGreatDoorE
open Go Go.E Go.Proofs
theorem zq9 [Sym] {st:SS} (hg:Gd st) (hl:st.lim≤st.next) (steps:List Step5) (en:Int) {tv:Value} (hT:Rg st tv (rowsF stepRow steps) 5 steps.length):∃ s',cc 5 [tv,.int .i64 en] st=some (.bool true,s'):=by
 obtain ⟨n,hn,c1⟩:=zxL st hg
 have x1:Ext st (st.adv n):=(Ext.refl _).adv hn
 have q3:=hT.lenI
 have early:∀ z,zbk cc zaJ tv en st=some (.bool true,z)→∃ s',cc 5 [tv,.int .i64 en] st=some (.bool true,s'):=fun z h=>⟨z,zgG _ _ st h⟩
 by_cases h2:(60:Int)<(steps.length:Int)
 ·refine early (st.adv n) ?_
  simp only [zbk]
  rw [c1,zob]
  simp only [zob,zai,znt,zcf,q3,zdt h2,zct]
 by_cases h3:en<0
 ·refine early (st.adv n) ?_
  simp only [zbk]
  rw [c1,zob]
  simp only [zob,zai,znt,zcf,q3,zdf h2,zdt h3,zct]
 by_cases h4:4<en
 ·refine early (st.adv n) ?_
  simp only [zbk]
  rw [c1,zob]
  simp only [zob,zai,znt,zcf,q3,zdf h2,zdf h3,zdt h4,zct]
 obtain ⟨e,he,he5⟩:∃ e:Nat,en=(e:Int)∧e<5:=⟨en.toNat,by omega,by omega⟩
 obtain ⟨ws,es,E,s4,s8,wv,ev,c4,e8,x8,a8,hX,o1,o2,hq,hnm⟩:=zxO (hg.ext x1) (x1.ll hl)
 have hx8:=x1.trans x8
 have hn':=zoY (hg.ext hx8) (hx8.ll hl) hX o1 o2
 rw [hq] at hn'
 obtain ⟨hE,s10,b,v,x10,c10,hb,a10,o10⟩:=hn'
 have hx10:=hx8.trans x10
 have hn2:=zoY (hg.ext hx10) (hx10.ll hl) hX (o1.ext x10) (o2.ext x10)
 rw [hq] at hn2
 obtain ⟨_,s14,b2,v2,x14,c14,hb2,a14,o14⟩:=hn2
 obtain ⟨hw,_,hN,hEn⟩:=zxK hq
 have hx14:=hx10.trans x14
 have l9:s8.ldN s4.next 0 2=some (zbW wv ev):=a8.ldN rfl
 have l13:s10.ldN s4.next 0 2=some (zbW wv ev):=(a8.ext x10).ldN rfl
 have hb10:=a10.2.1
 have hb14:=a14.2.1
 have a1014:=a10.ext x14
 have sq:SqI b2 s14 b ws E (E.getD 0 0) zaN:=⟨v,a1014,by omega,(o10.rg).ext x14,fun i l c e=>by
  obtain ⟨_,⟨rfl,_⟩ | ⟨i',rfl,_,_,h1,h2⟩⟩:=o10
  ·cases e
  ·cases e;exact ⟨by omega,by omega⟩⟩
 have sq2:SqI s14.next s14 b2 ws E (E.getD 0 0) zaN:=⟨v2,a14,hb14,o14.rg,fun i l c e=>by
  obtain ⟨_,⟨rfl,_⟩ | ⟨i',rfl,_,_,h1,h2⟩⟩:=o14
  ·cases e
  ·cases e;exact ⟨by omega,h2⟩⟩
 have duo:Duo s8 s14.next b b2 ws E (E.getD 0 0) [] (E.getD 0 0) [] s14:=⟨⟨zaN,zaN,sq,sq2,Stk.nil,Stk.nil,fun i o l c e=>by cases e⟩,hE,zlr _,a1014.2.2,x10.trans x14,hb,hN⟩
 have hT8:=hT.ext hx8
 have hX8:12≤s8.next:=by have:=(hg.ext hx8).nx;omega
 obtain ⟨s18,pc18,ca18,f18,d18⟩:=zml (tv:=tv) (en:=en) hw hEn steps (by omega) hT8 steps.length 0 _ _ s14 (by omega) duo (hEn 0 (by omega)) (fun a ha=>by cases ha) (by simp)
 have f18':zaJ 11 [tv,.int .i64 en,ptr b 0,ptr b2 0,tv,.int .i64 steps.length,.int .i64 0] s14=some (0,[tv,.int .i64 en,ptr b 0,ptr b2 0],s18):=f18
 obtain ⟨s23,c23,d23⟩:=d18.go1 he5
 obtain ⟨s24,c24,d24⟩:=d23.go2 he5
 rw [← he] at c23 c24
 obtain ⟨s26,f26⟩:=zmm (tv:=tv) hX8 hw hEn steps (by omega) hT8 steps.length 0 _ _ s24 (by omega) d24 (hEn e he5) (fun a ha=>by cases ha) (by simp)
 have f26':zaJ 18 [ptr b 0,ptr b2 0,tv,.int .i64 steps.length,.int .i64 0] s24=some (0,[],s26):=f26
 have t0:∀ a b:Value,zan (.tuple #[a,b]) 0=some a:=fun _ _=>rfl
 have t1:∀ a b:Value,zan (.tuple #[a,b]) 1=some b:=fun _ _=>rfl
 have b0:Nat.beq 0 0=true:=rfl
 refine early s26 ?_
 simp only [zbk]
 rw [c1,zob]
 simp only [zob,zai,znt,zcf,q3,zdf h2,zdf h3,zdf h4]
 rw [c4,zob]
 simp only [t0,t1,zob,zaa]
 rw [e8,zob,l9,zob,c10,zob]
 simp only [t0,t1,zob,zaa]
 rw [l13,zob,c14,zob]
 simp only [t0,t1,zob,zaa,decide_true,znt,zcf]
 rw [f18',zob]
 simp only [zgz,zgs,zob,zaa]
 rw [c23,zob,c24,zob,q3,zob,f26',zob]
 simp only [b0,zct]
theorem useqFresh_ok [Sym] {C:List Value} (hg:Gd (stP C)) (hll:(stP C).lim≤(stP C).next) (en:Int) (steps:List Step5) (tv:Value) (hT:Rg (stP C) tv (rowsF stepRow steps) 5 steps.length):∃ s',cc 5 [tv,.int .i64 en] (stP C)=some (.bool true,s'):=
 zq9 hg hll steps en hT
end Go.Proofs.YtcplfckncandkaaGreatDoorE
