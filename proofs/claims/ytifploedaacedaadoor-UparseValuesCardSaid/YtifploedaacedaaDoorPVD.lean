/- Parts of the proof of UparseValues, packed by a program: an evaluator over the given code, functions as plain texts, their laws. -/
import Derived.Test.YtifploedaacedaaDoorPVC
set_option linter.unusedVariables false
set_option linter.unusedSimpArgs false
namespace Go.Proofs.YtifploedaacedaaDoorE
set_option maxRecDepth 20000
open Go Go.E Go.Proofs
def zbN:LoopI:=⟨[(1,.any),(2,.any),(154,.any),(155,.int .i64),(156,.int .i64)],[(.exit 4,[]),(.ret,[(6,.bool)])]⟩
def zbO:LoopI:=⟨[(0,.str),(1,.any),(2,.any),(7,.str),(9,.str),(10,.int .i64),(11,.int .i64),(12,.str),(37,.any),(38,.int .i64),(39,.int .i64)],[(.exit 2,[(0,.str),(1,.any),(2,.any),(7,.str),(9,.str),(10,.int .i64),(12,.str),(37,.any),(38,.int .i64),(39,.int .i64)])]⟩
def zbU:LoopI:=⟨[(0,.str),(1,.any),(2,.any),(7,.str),(37,.any),(38,.int .i64),(39,.int .i64)],[(.exit 0,[(0,.str),(1,.any),(2,.any),(7,.str)]),(.ret,[(6,.bool)])]⟩
def zbZ (n:Nat):Option LoopI:=cond (Nat.beq n 7) (some zbU) (cond (Nat.beq n 14) (some zbO) (cond (Nat.beq n 27) (some zbN) (none)))
noncomputable def zaN (cf:zav) (lf:zah) (dir':ByteArray) (names':Value) (nums':Value) (st:SS):Option (Value×SS):=
 (cf 6 [] st).bind fun a=>
 ((some a.1).bind asB).bind fun b=>
 cond (!b) (
 some (.bool false,a.2)) (
 (cf 7 [.string dir'] a.2).bind fun c=>
 ((some c.1).bind asB).bind fun d=>
 cond (!d) (
 some (.bool true,c.2)) (
 ((lenV names').bind (asI .i64)).bind fun e=>
 cond (decide (20<e)) (
 some (.bool true,c.2)) (
 ((lenV nums').bind (asI .i64)).bind fun f=>
 ((lenV names').bind (asI .i64)).bind fun g=>
 cond (decide (f<g)) (
 some (.bool true,c.2)) (
 (((zaq ⟨#[32,46,32]⟩ dir').bind fun s=>some (.string s)).bind asS).bind fun h=>
 ((lenV names').bind (asI .i64)).bind fun i=>
 (lf 7 [.string dir',names',nums',.string h,names',.int .i64 i,.int .i64 0] c.2).bind fun j=>
 cond (Nat.beq j.1 0) (
 ((j.2.1[0]?).bind asS).bind fun k=>
 (j.2.1[1]?).bind fun l=>
 (j.2.1[2]?).bind fun m=>
 ((j.2.1[3]?).bind asS).bind fun n=>
 (cf 8 [.string n] j.2.2).bind fun o=>
 (zao o.1 0).bind fun p=>
 (zao o.1 1).bind fun q=>
 ((zao o.1 2).bind (asI .i64)).bind fun r=>
 let t:SS:=o.2.new (.cells [.int .i64 0,.int .i64 0] 0)
 (t.stV o.2.next 0 2 q).bind fun u=>
 cond (!(decide (r=0))) (
 some (.bool false,u)) (
 ((lenV p).bind (asI .i64)).bind fun v=>
 cond (!(decide (v=1))) (
 some (.bool false,u)) (
 (zaD p 0 5).bind fun w=>
 ((u.ld w.1 (w.2+2)).bind asS).bind fun x=>
 cond (!(eqT x k)) (
 some (.bool false,u)) (
 (zaD p 0 5).bind fun y=>
 (u.ld y.1 (y.2+3)).bind fun z=>
 ((lenV z).bind (asI .i64)).bind fun A=>
 ((lenV l).bind (asI .i64)).bind fun B=>
 cond (!(decide (A=B))) (
 some (.bool false,u)) (
 (zaD p 0 5).bind fun C=>
 (u.ld C.1 (C.2+4)).bind fun D=>
 ((lenV D).bind (asI .i64)).bind fun E=>
 cond (!(decide (E=0))) (
 some (.bool false,u)) (
 (zaD p 0 5).bind fun F=>
 (u.ld F.1 (F.2+3)).bind fun G=>
 ((lenV G).bind (asI .i64)).bind fun H=>
 (lf 27 [l,m,G,.int .i64 H,.int .i64 0] u).bind fun I=>
 cond (Nat.beq I.1 0) (
 some (.bool true,I.2.2)) (
 ((I.2.1[0]?).bind asB).bind fun J=>
 some (.bool J,I.2.2)))))))) (
 ((j.2.1[0]?).bind asB).bind fun K=>
 some (.bool K,j.2.2))))))
noncomputable abbrev zaa:zah:=lS Tryd.prog Lk0 Tryd.f4 zbZ
theorem zdv:Lk0.func 4=some (4,Tryd.f4):=by kernel_rfl
theorem zaR [Sym] (dir':ByteArray) (names':Value) (nums':Value) (st:SS) {r:Value×SS} (h:zaN cc zaa dir' names' nums' st=some r):cc 4 [.string dir',names',nums'] st=some r:=
 zas (li:=zbZ) zat zaC zdv rfl (fun _=>rfl) (.trans (by kernel_rfl) h)
noncomputable def zal (cf:zav) (lf:zah) (dir':ByteArray) (names':Value) (nums':Value) (s':ByteArray) (t37':Value) (t38':Int) (t39':Int) (st:SS):Option (Nat×List Value×SS):=
 cond (decide (t39'<t38')) (
 (zaD t37' t39' 1).bind fun a=>
 ((st.ld a.1 a.2).bind asS).bind fun b=>
 (zaD nums' t39' 1).bind fun c=>
 ((st.ld c.1 c.2).bind (asI .i64)).bind fun d=>
 cond (!(eqT b ⟨#[]⟩)) (
 (cf 7 [.string b] st).bind fun e=>
 ((some e.1).bind asB).bind fun f=>
 cond (!f) (
 some (1,[.bool true],e.2)) (
 cond (decide (d<(-2147483647))) (
 some (1,[.bool true],e.2)) (
 cond (decide (2147483647<d)) (
 some (1,[.bool true],e.2)) (
 cond (eqT b ⟨#[]⟩) (
 cond (decide (d<0)) (
 some (1,[.bool true],e.2)) (
 let g:Int:=IntKind.wrap .i64 (0-d)
 let h:Int:=if g>d then g else d
 (lf 14 [.string dir',names',nums',.string s',.string b,.int .i64 d,.int .i64 h,.string ⟨#[]⟩,t37',.int .i64 t38',.int .i64 t39'] e.2).bind fun i=>
 ((i.2.1[0]?).bind asS).bind fun j=>
 (i.2.1[1]?).bind fun k=>
 (i.2.1[2]?).bind fun l=>
 ((i.2.1[3]?).bind asS).bind fun m=>
 ((i.2.1[4]?).bind asS).bind fun n=>
 ((i.2.1[5]?).bind (asI .i64)).bind fun o=>
 ((i.2.1[6]?).bind asS).bind fun p=>
 (i.2.1[7]?).bind fun q=>
 ((i.2.1[8]?).bind (asI .i64)).bind fun r=>
 ((i.2.1[9]?).bind (asI .i64)).bind fun t=>
 cond (!(eqT n ⟨#[]⟩)) (
 cond (decide (o<0)) (
 (((zaq n ⟨#[45]⟩).bind fun s=>some (.string s)).bind asS).bind fun u=>
 (((zaq u p).bind fun s=>some (.string s)).bind asS).bind fun v=>
 (((zaq m ⟨#[32]⟩).bind fun s=>some (.string s)).bind asS).bind fun w=>
 (((zaq w v).bind fun s=>some (.string s)).bind asS).bind fun x=>
 let y:Int:=IntKind.wrap .i64 (t+1)
 lf 7 [.string j,k,l,.string x,q,.int .i64 r,.int .i64 y] i.2.2) (
 cond (!(eqT n ⟨#[]⟩)) (
 (((zaq n ⟨#[32,43,32]⟩).bind fun s=>some (.string s)).bind asS).bind fun z=>
 (((zaq z p).bind fun s=>some (.string s)).bind asS).bind fun A=>
 (((zaq m ⟨#[32]⟩).bind fun s=>some (.string s)).bind asS).bind fun B=>
 (((zaq B A).bind fun s=>some (.string s)).bind asS).bind fun C=>
 let D:Int:=IntKind.wrap .i64 (t+1)
 lf 7 [.string j,k,l,.string C,q,.int .i64 r,.int .i64 D] i.2.2) (
 (((zaq m ⟨#[32]⟩).bind fun s=>some (.string s)).bind asS).bind fun E=>
 (((zaq E p).bind fun s=>some (.string s)).bind asS).bind fun F=>
 let G:Int:=IntKind.wrap .i64 (t+1)
 lf 7 [.string j,k,l,.string F,q,.int .i64 r,.int .i64 G] i.2.2))) (
 cond (!(eqT n ⟨#[]⟩)) (
 (((zaq n ⟨#[32,43,32]⟩).bind fun s=>some (.string s)).bind asS).bind fun H=>
 (((zaq H p).bind fun s=>some (.string s)).bind asS).bind fun I=>
 (((zaq m ⟨#[32]⟩).bind fun s=>some (.string s)).bind asS).bind fun J=>
 (((zaq J I).bind fun s=>some (.string s)).bind asS).bind fun K=>
 let L:Int:=IntKind.wrap .i64 (t+1)
 lf 7 [.string j,k,l,.string K,q,.int .i64 r,.int .i64 L] i.2.2) (
 (((zaq m ⟨#[32]⟩).bind fun s=>some (.string s)).bind asS).bind fun M=>
 (((zaq M p).bind fun s=>some (.string s)).bind asS).bind fun N=>
 let O:Int:=IntKind.wrap .i64 (t+1)
 lf 7 [.string j,k,l,.string N,q,.int .i64 r,.int .i64 O] i.2.2)))) (
 let P:Int:=IntKind.wrap .i64 (0-d)
 let Q:Int:=if P>d then P else d
 (lf 14 [.string dir',names',nums',.string s',.string b,.int .i64 d,.int .i64 Q,.string ⟨#[]⟩,t37',.int .i64 t38',.int .i64 t39'] e.2).bind fun R=>
 ((R.2.1[0]?).bind asS).bind fun S=>
 (R.2.1[1]?).bind fun T=>
 (R.2.1[2]?).bind fun U=>
 ((R.2.1[3]?).bind asS).bind fun V=>
 ((R.2.1[4]?).bind asS).bind fun W=>
 ((R.2.1[5]?).bind (asI .i64)).bind fun X=>
 ((R.2.1[6]?).bind asS).bind fun Y=>
 (R.2.1[7]?).bind fun Z=>
 ((R.2.1[8]?).bind (asI .i64)).bind fun aA=>
 ((R.2.1[9]?).bind (asI .i64)).bind fun aB=>
 cond (!(eqT W ⟨#[]⟩)) (
 cond (decide (X<0)) (
 (((zaq W ⟨#[45]⟩).bind fun s=>some (.string s)).bind asS).bind fun aC=>
 (((zaq aC Y).bind fun s=>some (.string s)).bind asS).bind fun aD=>
 (((zaq V ⟨#[32]⟩).bind fun s=>some (.string s)).bind asS).bind fun aE=>
 (((zaq aE aD).bind fun s=>some (.string s)).bind asS).bind fun aF=>
 let aG:Int:=IntKind.wrap .i64 (aB+1)
 lf 7 [.string S,T,U,.string aF,Z,.int .i64 aA,.int .i64 aG] R.2.2) (
 cond (!(eqT W ⟨#[]⟩)) (
 (((zaq W ⟨#[32,43,32]⟩).bind fun s=>some (.string s)).bind asS).bind fun aH=>
 (((zaq aH Y).bind fun s=>some (.string s)).bind asS).bind fun aI=>
 (((zaq V ⟨#[32]⟩).bind fun s=>some (.string s)).bind asS).bind fun aJ=>
 (((zaq aJ aI).bind fun s=>some (.string s)).bind asS).bind fun aK=>
 let aL:Int:=IntKind.wrap .i64 (aB+1)
 lf 7 [.string S,T,U,.string aK,Z,.int .i64 aA,.int .i64 aL] R.2.2) (
 (((zaq V ⟨#[32]⟩).bind fun s=>some (.string s)).bind asS).bind fun aM=>
 (((zaq aM Y).bind fun s=>some (.string s)).bind asS).bind fun aN=>
 let aO:Int:=IntKind.wrap .i64 (aB+1)
 lf 7 [.string S,T,U,.string aN,Z,.int .i64 aA,.int .i64 aO] R.2.2))) (
 cond (!(eqT W ⟨#[]⟩)) (
 (((zaq W ⟨#[32,43,32]⟩).bind fun s=>some (.string s)).bind asS).bind fun aP=>
 (((zaq aP Y).bind fun s=>some (.string s)).bind asS).bind fun aQ=>
 (((zaq V ⟨#[32]⟩).bind fun s=>some (.string s)).bind asS).bind fun aR=>
 (((zaq aR aQ).bind fun s=>some (.string s)).bind asS).bind fun aS=>
 let aT:Int:=IntKind.wrap .i64 (aB+1)
 lf 7 [.string S,T,U,.string aS,Z,.int .i64 aA,.int .i64 aT] R.2.2) (
 (((zaq V ⟨#[32]⟩).bind fun s=>some (.string s)).bind asS).bind fun aU=>
 (((zaq aU Y).bind fun s=>some (.string s)).bind asS).bind fun aV=>
 let aW:Int:=IntKind.wrap .i64 (aB+1)
 lf 7 [.string S,T,U,.string aV,Z,.int .i64 aA,.int .i64 aW] R.2.2))))))) (
 cond (decide (d<(-2147483647))) (
 some (1,[.bool true],st)) (
 cond (decide (2147483647<d)) (
 some (1,[.bool true],st)) (
 cond (eqT b ⟨#[]⟩) (
 cond (decide (d<0)) (
 some (1,[.bool true],st)) (
 let aX:Int:=IntKind.wrap .i64 (0-d)
 let aY:Int:=if aX>d then aX else d
 (lf 14 [.string dir',names',nums',.string s',.string b,.int .i64 d,.int .i64 aY,.string ⟨#[]⟩,t37',.int .i64 t38',.int .i64 t39'] st).bind fun aZ=>
 ((aZ.2.1[0]?).bind asS).bind fun bA=>
 (aZ.2.1[1]?).bind fun bB=>
 (aZ.2.1[2]?).bind fun bC=>
 ((aZ.2.1[3]?).bind asS).bind fun bD=>
 ((aZ.2.1[4]?).bind asS).bind fun bE=>
 ((aZ.2.1[5]?).bind (asI .i64)).bind fun bF=>
 ((aZ.2.1[6]?).bind asS).bind fun bG=>
 (aZ.2.1[7]?).bind fun bH=>
 ((aZ.2.1[8]?).bind (asI .i64)).bind fun bI=>
 ((aZ.2.1[9]?).bind (asI .i64)).bind fun bJ=>
 cond (!(eqT bE ⟨#[]⟩)) (
 cond (decide (bF<0)) (
 (((zaq bE ⟨#[45]⟩).bind fun s=>some (.string s)).bind asS).bind fun bK=>
 (((zaq bK bG).bind fun s=>some (.string s)).bind asS).bind fun bL=>
 (((zaq bD ⟨#[32]⟩).bind fun s=>some (.string s)).bind asS).bind fun bM=>
 (((zaq bM bL).bind fun s=>some (.string s)).bind asS).bind fun bN=>
 let bO:Int:=IntKind.wrap .i64 (bJ+1)
 lf 7 [.string bA,bB,bC,.string bN,bH,.int .i64 bI,.int .i64 bO] aZ.2.2) (
 cond (!(eqT bE ⟨#[]⟩)) (
 (((zaq bE ⟨#[32,43,32]⟩).bind fun s=>some (.string s)).bind asS).bind fun bP=>
 (((zaq bP bG).bind fun s=>some (.string s)).bind asS).bind fun bQ=>
 (((zaq bD ⟨#[32]⟩).bind fun s=>some (.string s)).bind asS).bind fun bR=>
 (((zaq bR bQ).bind fun s=>some (.string s)).bind asS).bind fun bS=>
 let bT:Int:=IntKind.wrap .i64 (bJ+1)
 lf 7 [.string bA,bB,bC,.string bS,bH,.int .i64 bI,.int .i64 bT] aZ.2.2) (
 (((zaq bD ⟨#[32]⟩).bind fun s=>some (.string s)).bind asS).bind fun bU=>
 (((zaq bU bG).bind fun s=>some (.string s)).bind asS).bind fun bV=>
 let bW:Int:=IntKind.wrap .i64 (bJ+1)
 lf 7 [.string bA,bB,bC,.string bV,bH,.int .i64 bI,.int .i64 bW] aZ.2.2))) (
 cond (!(eqT bE ⟨#[]⟩)) (
 (((zaq bE ⟨#[32,43,32]⟩).bind fun s=>some (.string s)).bind asS).bind fun bX=>
 (((zaq bX bG).bind fun s=>some (.string s)).bind asS).bind fun bY=>
 (((zaq bD ⟨#[32]⟩).bind fun s=>some (.string s)).bind asS).bind fun bZ=>
 (((zaq bZ bY).bind fun s=>some (.string s)).bind asS).bind fun cA=>
 let cB:Int:=IntKind.wrap .i64 (bJ+1)
 lf 7 [.string bA,bB,bC,.string cA,bH,.int .i64 bI,.int .i64 cB] aZ.2.2) (
 (((zaq bD ⟨#[32]⟩).bind fun s=>some (.string s)).bind asS).bind fun cC=>
 (((zaq cC bG).bind fun s=>some (.string s)).bind asS).bind fun cD=>
 let cE:Int:=IntKind.wrap .i64 (bJ+1)
 lf 7 [.string bA,bB,bC,.string cD,bH,.int .i64 bI,.int .i64 cE] aZ.2.2)))) (
 let cF:Int:=IntKind.wrap .i64 (0-d)
 let cG:Int:=if cF>d then cF else d
 (lf 14 [.string dir',names',nums',.string s',.string b,.int .i64 d,.int .i64 cG,.string ⟨#[]⟩,t37',.int .i64 t38',.int .i64 t39'] st).bind fun cH=>
 ((cH.2.1[0]?).bind asS).bind fun cI=>
 (cH.2.1[1]?).bind fun cJ=>
 (cH.2.1[2]?).bind fun cK=>
 ((cH.2.1[3]?).bind asS).bind fun cL=>
 ((cH.2.1[4]?).bind asS).bind fun cM=>
 ((cH.2.1[5]?).bind (asI .i64)).bind fun cN=>
 ((cH.2.1[6]?).bind asS).bind fun cO=>
 (cH.2.1[7]?).bind fun cP=>
 ((cH.2.1[8]?).bind (asI .i64)).bind fun cQ=>
 ((cH.2.1[9]?).bind (asI .i64)).bind fun cR=>
 cond (!(eqT cM ⟨#[]⟩)) (
 cond (decide (cN<0)) (
 (((zaq cM ⟨#[45]⟩).bind fun s=>some (.string s)).bind asS).bind fun cS=>
 (((zaq cS cO).bind fun s=>some (.string s)).bind asS).bind fun cT=>
 (((zaq cL ⟨#[32]⟩).bind fun s=>some (.string s)).bind asS).bind fun cU=>
 (((zaq cU cT).bind fun s=>some (.string s)).bind asS).bind fun cV=>
 let cW:Int:=IntKind.wrap .i64 (cR+1)
 lf 7 [.string cI,cJ,cK,.string cV,cP,.int .i64 cQ,.int .i64 cW] cH.2.2) (
 cond (!(eqT cM ⟨#[]⟩)) (
 (((zaq cM ⟨#[32,43,32]⟩).bind fun s=>some (.string s)).bind asS).bind fun cX=>
 (((zaq cX cO).bind fun s=>some (.string s)).bind asS).bind fun cY=>
 (((zaq cL ⟨#[32]⟩).bind fun s=>some (.string s)).bind asS).bind fun cZ=>
 (((zaq cZ cY).bind fun s=>some (.string s)).bind asS).bind fun dA=>
 let dB:Int:=IntKind.wrap .i64 (cR+1)
 lf 7 [.string cI,cJ,cK,.string dA,cP,.int .i64 cQ,.int .i64 dB] cH.2.2) (
 (((zaq cL ⟨#[32]⟩).bind fun s=>some (.string s)).bind asS).bind fun dC=>
 (((zaq dC cO).bind fun s=>some (.string s)).bind asS).bind fun dD=>
 let dE:Int:=IntKind.wrap .i64 (cR+1)
 lf 7 [.string cI,cJ,cK,.string dD,cP,.int .i64 cQ,.int .i64 dE] cH.2.2))) (
 cond (!(eqT cM ⟨#[]⟩)) (
 (((zaq cM ⟨#[32,43,32]⟩).bind fun s=>some (.string s)).bind asS).bind fun dF=>
 (((zaq dF cO).bind fun s=>some (.string s)).bind asS).bind fun dG=>
 (((zaq cL ⟨#[32]⟩).bind fun s=>some (.string s)).bind asS).bind fun dH=>
 (((zaq dH dG).bind fun s=>some (.string s)).bind asS).bind fun dI=>
 let dJ:Int:=IntKind.wrap .i64 (cR+1)
 lf 7 [.string cI,cJ,cK,.string dI,cP,.int .i64 cQ,.int .i64 dJ] cH.2.2) (
 (((zaq cL ⟨#[32]⟩).bind fun s=>some (.string s)).bind asS).bind fun dK=>
 (((zaq dK cO).bind fun s=>some (.string s)).bind asS).bind fun dL=>
 let dM:Int:=IntKind.wrap .i64 (cR+1)
 lf 7 [.string cI,cJ,cK,.string dL,cP,.int .i64 cQ,.int .i64 dM] cH.2.2))))))) (
 some (0,[.string dir',names',nums',.string s'],st))
theorem zak [Sym] (dir':ByteArray) (names':Value) (nums':Value) (s':ByteArray) (t37':Value) (t38':Int) (t39':Int) (st:SS) {r:Nat×List Value×SS} (h:zal cc zaa dir' names' nums' s' t37' t38' t39' st=some r):zaa 7 [.string dir',names',nums',.string s',t37',.int .i64 t38',.int .i64 t39'] st=some r:=
 za7 zat zaC (key:=7) (I:=zbU) rfl (by kernel_rfl) (by kernel_rfl) rfl rfl (.trans (by kernel_rfl) h)
noncomputable def za1 (cf:zav) (lf:zah) (dir':ByteArray) (names':Value) (nums':Value) (s':ByteArray) (n':ByteArray) (k':Int) (m':Int) (t':ByteArray) (t37':Value) (t38':Int) (t39':Int) (st:SS):Option (Nat×List Value×SS):=
 cond (decide (0<m')) (
 let n1:Int:=Int.tmod m' 10
 let n2:Int:=IntKind.wrap .i64 (48+n1)
 let n3:Int:=IntKind.wrap .u8 n2
 let st4:SS:=st.new (.cells ([.int .u8 n3]) 1)
 (st4.bytes (.slice (some ⟨st.next,0,none⟩) 1 1)).bind fun s5=>
 (((zaq s5 t').bind fun s=>some (.string s)).bind asS).bind fun s6=>
 let n7:Int:=IntKind.wrap .i64 (Int.tdiv m' 10)
 lf 14 [.string dir',names',nums',.string s',.string n',.int .i64 k',.int .i64 n7,.string s6,t37',.int .i64 t38',.int .i64 t39'] st4) (
 cond (eqT t' ⟨#[]⟩) (
 let n8:Int:=Int.tmod m' 10
 let n9:Int:=IntKind.wrap .i64 (48+n8)
 let n10:Int:=IntKind.wrap .u8 n9
 let st11:SS:=st.new (.cells ([.int .u8 n10]) 1)
 (st11.bytes (.slice (some ⟨st.next,0,none⟩) 1 1)).bind fun s12=>
 (((zaq s12 t').bind fun s=>some (.string s)).bind asS).bind fun s13=>
 let n14:Int:=IntKind.wrap .i64 (Int.tdiv m' 10)
 lf 14 [.string dir',names',nums',.string s',.string n',.int .i64 k',.int .i64 n14,.string s13,t37',.int .i64 t38',.int .i64 t39'] st11) (
 some (0,[.string dir',names',nums',.string s',.string n',.int .i64 k',.string t',t37',.int .i64 t38',.int .i64 t39'],st)))
theorem zbI [Sym] (dir':ByteArray) (names':Value) (nums':Value) (s':ByteArray) (n':ByteArray) (k':Int) (m':Int) (t':ByteArray) (t37':Value) (t38':Int) (t39':Int) (st:SS) {r:Nat×List Value×SS} (h:za1 cc zaa dir' names' nums' s' n' k' m' t' t37' t38' t39' st=some r):zaa 14 [.string dir',names',nums',.string s',.string n',.int .i64 k',.int .i64 m',.string t',t37',.int .i64 t38',.int .i64 t39'] st=some r:=
 za7 zat zaC (key:=14) (I:=zbO) rfl (by kernel_rfl) (by kernel_rfl) rfl rfl (.trans (by kernel_rfl) h)
noncomputable def zbr (cf:zav) (lf:zah) (names':Value) (nums':Value) (t154':Value) (t155':Int) (t156':Int) (st:SS):Option (Nat×List Value×SS):=
 cond (decide (t156'<t155')) (
 (zaD t154' t156' 3).bind fun a=>
 (st.ldN a.1 a.2 3).bind fun b=>
 let c:SS:=st.new (.cells [.string ⟨#[]⟩,.int .i64 0,.int .i64 0] 0)
 (c.stV st.next 0 3 b).bind fun d=>
 ((d.ld st.next 0).bind asS).bind fun e=>
 (zaD names' t156' 1).bind fun f=>
 ((d.ld f.1 f.2).bind asS).bind fun g=>
 cond (!(eqT e g)) (
 some (1,[.bool false],d)) (
 ((d.ld st.next 1).bind (asI .i64)).bind fun h=>
 (zaD nums' t156' 1).bind fun i=>
 ((d.ld i.1 i.2).bind (asI .i64)).bind fun j=>
 cond (!(decide (h=j))) (
 some (1,[.bool false],d)) (
 let k:Int:=IntKind.wrap .i64 (t156'+1)
 lf 27 [names',nums',t154',.int .i64 t155',.int .i64 k] d))) (
 some (0,[],st))
theorem zbJ [Sym] (names':Value) (nums':Value) (t154':Value) (t155':Int) (t156':Int) (st:SS) {r:Nat×List Value×SS} (h:zbr cc zaa names' nums' t154' t155' t156' st=some r):zaa 27 [names',nums',t154',.int .i64 t155',.int .i64 t156'] st=some r:=
 za7 zat zaC (key:=27) (I:=zbN) rfl (by kernel_rfl) (by kernel_rfl) rfl rfl (.trans (by kernel_rfl) h)
noncomputable def zdx (cf:zav) (lf:zah) (st:SS):Option (Value×SS):=
 (cf 8 [.string ⟨#[103,111,58,32,97,108,117,61,97,100,100,32,116,111,61,103,111,43,49]⟩] (st.ro st.next)).bind fun a=>
 (zao a.1 0).bind fun b=>
 (zao a.1 1).bind fun c=>
 ((zao a.1 2).bind (asI .i64)).bind fun d=>
 let e:SS:=a.2.new (.cells [.int .i64 0,.int .i64 0] 0)
 (e.stV a.2.next 0 2 c).bind fun f=>
 cond (decide (d=0)) (
 ((lenV b).bind (asI .i64)).bind fun g=>
 cond (decide (g=1)) (
 (zaD b 0 5).bind fun h=>
 ((f.ld h.1 (h.2+1)).bind asS).bind fun i=>
 cond (eqT i ⟨#[103,111]⟩) (
 (zaD b 0 5).bind fun j=>
 (f.ld j.1 (j.2+4)).bind fun k=>
 ((lenV k).bind (asI .i64)).bind fun l=>
 cond (decide (l=2)) (
 (zaD b 0 5).bind fun m=>
 (f.ld m.1 (m.2+4)).bind fun n=>
 (zaD n 1 5).bind fun o=>
 (f.ldN o.1 (o.2+2) 3).bind fun p=>
 (((eqA Tryd.prog Lk0 37 p (.agg #[.string ⟨#[103,111]⟩,.int .i64 1,.int .i64 16])).bind fun r=>some (.bool r)).bind asB).bind fun q=>
 some (.bool q,st.adv f.next)) (
 some (.bool false,st.adv f.next))) (
 some (.bool false,st.adv f.next))) (
 some (.bool false,st.adv f.next))) (
 some (.bool false,st.adv f.next))
noncomputable abbrev zeW:zah:=lS Tryd.prog Lk0 Tryd.f6 zaY
theorem zeX:Lk0.func 6=some (6,Tryd.f6):=by kernel_rfl
theorem zeY [Sym] (st:SS) {r:Value×SS} (h:zdx cc zeW st=some r):cc 6 [] st=some r:=
 zas (li:=zaY) zat zaC zeX rfl (fun _=>rfl) (.trans (by kernel_rfl) h)
def zcY:LoopI:=⟨[(0,.str),(3,.int .i64)],[(.exit 0,[(0,.str)]),(.ret,[(2,.bool)])]⟩
def zdh (n:Nat):Option LoopI:=cond (Nat.beq n 2) (some zcY) (none)
noncomputable def zbV (cf:zav) (lf:zah) (s':ByteArray) (st:SS):Option (Value×SS):=
 (lf 2 [.string s',.int .i64 0] (st.ro st.next)).bind fun a=>
 cond (Nat.beq a.1 0) (
 ((a.2.1[0]?).bind asS).bind fun b=>
 cond (decide (0<(b.size:Int))) (
 some (.bool (decide ((b.size:Int)≤24)),st.adv a.2.2.next)) (
 some (.bool false,st.adv a.2.2.next))) (
 ((a.2.1[0]?).bind asB).bind fun c=>
 some (.bool c,st.adv a.2.2.next))
noncomputable abbrev zbk:zah:=lS Tryd.prog Lk0 Tryd.f7 zdh
theorem zfj:Lk0.func 7=some (7,Tryd.f7):=by kernel_rfl
theorem zfk [Sym] (s':ByteArray) (st:SS) {r:Value×SS} (h:zbV cc zbk s' st=some r):cc 7 [.string s'] st=some r:=
 zas (li:=zdh) zat zaC zfj rfl (fun _=>rfl) (.trans (by kernel_rfl) h)
noncomputable def zbl (cf:zav) (lf:zah) (s':ByteArray) (i':Int) (st:SS):Option (Nat×List Value×SS):=
 cond (decide (i'<(s'.size:Int))) (
 ((zeQ s' i').bind (asI .u8)).bind fun a=>
 cond (decide (a<97)) (
 some (1,[.bool false],st)) (
 ((zeQ s' i').bind (asI .u8)).bind fun b=>
 cond (decide (122<b)) (
 some (1,[.bool false],st)) (
 let c:Int:=IntKind.wrap .i64 (i'+1)
 lf 2 [.string s',.int .i64 c] st))) (
 some (0,[.string s'],st))
theorem zcC [Sym] (s':ByteArray) (i':Int) (st:SS) {r:Nat×List Value×SS} (h:zbl cc zbk s' i' st=some r):zbk 2 [.string s',.int .i64 i'] st=some r:=
 za7 zat zaC (key:=2) (I:=zcY) rfl (by kernel_rfl) (by kernel_rfl) rfl rfl (.trans (by kernel_rfl) h)
end Go.Proofs.YtifploedaacedaaDoorE
namespace Go.Proofs.YtifploedaacedaaDoorE
open Go Go.E Go.Proofs
theorem arg_row {H:Type} {enc:TypeId×Value→H} {P:Program} {W:World} {spare:Nat→Bool} {held:Bool} {α:Type} {f:α→List Value} {ok:α→Prop} {t e d:Nat} {ks:List CK} {v:Value} {dd:DataW H} {p:List MemPlace} (id g:Nat) (hg:∃ arr T fr,W.heap[g]?=some (.cells arr T fr)) (ht:P.underlying t=some (.slice e)) (hk:zes P d e=some ks) (hc:P.cellsOf e=ks.length) (hz:0<ks.length)
  (hty:∀ r,Cks ks r→∃ s,r=f s∧ok s) (hfl:∀ s,(f s).all zbt=true) (hval:Value.okWide P W .any 0 t v) (h:DataW.Trod enc P W 0 spare held t v dd p):
  ∃ (l:List α) (av:Value) (pl:Pl),(∀ s∈l,ok s)∧Tv id l.length av∧(∃ obj,W.heap[pl.b]?=some obj∧∀ [Sym] (β:Emb),OR β pl obj (.table (l.flatMap f)))∧∀ [Sym] (β:Emb),β id=some pl→VR β av v:=by
 obtain ⟨l,h1,h2⟩:=zlG (f:=f) ht hk hc hz hty hval h
 have hf:∀ x∈l.flatMap f,zbt x=true:=fun x hx=>by
  obtain ⟨s,_,hs⟩:=List.mem_flatMap.1 hx
  exact List.all_eq_true.1 (hfl s) x hs
 rcases h2 with ⟨rfl,rfl⟩ | ⟨b,off,cap,rfl,h3,h4,arr,T,fr,hh,h5⟩
 ·obtain ⟨arr,T,fr,hh⟩:=hg
  exact ⟨[],.slice none 0 0,⟨g,0,0,0⟩,h1,.inl ⟨rfl,rfl⟩,⟨_,hh,fun β=>⟨rfl,arr,T,fr,rfl,fun j x hx=>by cases hx⟩⟩,fun β _=>.slice0⟩
 ·refine ⟨l,.slice (some ⟨id,0,none⟩) l.length cap,⟨b,off,0,0⟩,h1,.inr ⟨cap,rfl,h3,h4⟩,⟨_,hh,fun β=>⟨rfl,arr,T,fr,rfl,fun j x hx=>⟨x,h5 j x hx,zbC (hf x (zmg hx))⟩⟩⟩,fun β hb=>?_⟩
  exact .slice (p:=⟨b,off,0,0⟩) hb h3 (zlr _) (.inr rfl) (.inl rfl)
def strRow (b:ByteArray):List Value:=[.string b]
def intRow (n:Int):List Value:=[.int .i64 n]
theorem strRow_len (b:ByteArray):(strRow b).length=1:=rfl
theorem intRow_len (n:Int):(intRow n).length=1:=rfl
theorem strs_ty (r:List Value) (h:Cks [.s] r):∃ s,r=strRow s∧s.size≤9223372036854775807:=by
 cases r with
 | nil=>exact h.elim
 | cons x r=>
   cases r with
   | nil=>
     obtain ⟨⟨s,h1,h2⟩,_⟩:=h
     refine ⟨s,by rw [h1];rfl,?_⟩
     unfold maxLen at h2
     omega
   | cons y r=>exact h.2.elim
theorem ints_ty (r:List Value) (h:Cks [.i .i64] r):∃ s,r=intRow s∧True:=by
 cases r with
 | nil=>exact h.elim
 | cons x r=>
   cases r with
   | nil=>
     obtain ⟨⟨s,h1,h2⟩,_⟩:=h
     exact ⟨s,by rw [h1];rfl,trivial⟩
   | cons y r=>exact h.2.elim
noncomputable def zc5 (F G:List Value):List (Nat×AObj):=[(12,.table F),(12+1,.table G),(4,.table [.chan (some 4)]),(5,.table [.chan (some 5)])]
noncomputable def stP (F G:List Value):SS:=⟨zcy (zc5 F G),12+2,12+2⟩
theorem gdP (F G:List Value):Gd (stP F G):=⟨by simp [stP,zcy,zc5,PT.get_upd],by simp [stP,zcy,zc5,PT.get_upd],by show 12≤12+2;omega⟩
theorem stP_F (F G:List Value):(stP F G).mem.get 12=some (.table F):=by simp [stP,zcy,zc5,PT.get_upd]
theorem stP_G (F G:List Value):(stP F G).mem.get (12+1)=some (.table G):=by simp [stP,zcy,zc5,PT.get_upd]
def plP (p q:Pl):Nat→Pl:=fun i=>if i=12 then p else if i=12+1 then q else ⟨i,0,0,0⟩
abbrev symE (a4:TypeId) (u4:Value) (a5:TypeId) (u5:Value):Sym where
 v i:=if i=4 then .iface a4 u4 else .iface a5 u5
 ok i:=by
  refine .inr (.inr ?_)
  split<;>exact ⟨_,_,rfl⟩
theorem err_cells {W:World} {laid:List (String×DataW Unit)} (h:laidMet Tryd.prog laid W) (h4:∃ nm d,("strconv.ErrSyntax",DataW.iface nm d)∈laid):∃ arr T fr,W.heap[4]?=some (.cells arr T fr):=by
 obtain ⟨nm4,d4,m4⟩:=h4
 obtain ⟨a4,u4,c4⟩:=zfE h m4 (g:=4) (t:=118) (by kernel_rfl) (by kernel_rfl) Tryd.underlying118
 unfold World.cell? at c4
 simp only at c4
 split at c4
 ·rename_i arr T fr hh;exact ⟨_,_,_,hh⟩
 all_goals cases c4
theorem law_at2 {f:Nat} {fn:Func} (hf:Lk0.func f=some (f,fn)) {W:World} {laid:List (String×DataW Unit)} (h:laidMet Tryd.prog laid W) (h4:∃ nm d,("strconv.ErrSyntax",DataW.iface nm d)∈laid) (h5:∃ nm d,("strconv.ErrRange",DataW.iface nm d)∈laid)
  {F G:List Value} {p q:Pl} (oF:∃ obj,W.heap[p.b]?=some obj∧∀ [Sym] (β:Emb),OR β p obj (.table F)) (oG:∃ obj,W.heap[q.b]?=some obj∧∀ [Sym] (β:Emb),OR β q obj (.table G))
  {args args':List Value} (hargs:∀ [Sym] (β:Emb),β 12=some p→β (12+1)=some q→VRs β args args') (hlaw:∀ [Sym],∃ st',cc f args (stP F G)=some (.bool true,st')):
  Calls Tryd.prog f args'.toArray W fun e W'=>e=.returned (.bool true)∧RowKit.Below W.heap.size W W':=by
 obtain ⟨nm4,d4,m4⟩:=h4
 obtain ⟨nm5,d5,m5⟩:=h5
 obtain ⟨a4,u4,c4⟩:=zfE h m4 (g:=4) (t:=118) (by kernel_rfl) (by kernel_rfl) Tryd.underlying118
 obtain ⟨a5,u5,c5⟩:=zfE h m5 (g:=5) (t:=118) (by kernel_rfl) (by kernel_rfl) Tryd.underlying118
 letI:Sym:=symE a4 u4 a5 u5
 have hE:ErrSym:=⟨⟨a4,u4,rfl⟩,⟨a5,u5,rfl⟩⟩
 obtain ⟨st',hl⟩:=hlaw
 have hX:(plP p q) 12=p:=by unfold plP;rw [if_pos rfl]
 have hY:(plP p q) (12+1)=q:=by unfold plP;rw [if_neg (by omega),if_pos rfl]
 have h4':(plP p q) 4=⟨4,0,0,0⟩:=by unfold plP;rw [if_neg (by omega),if_neg (by omega)]
 have h5':(plP p q) 5=⟨5,0,0,0⟩:=by unfold plP;rw [if_neg (by omega),if_neg (by omega)]
 have b1:embB (zc5 F G) (plP p q) 12=some p:=by rw [zit (by simp [zc5]),hX]
 have b2:embB (zc5 F G) (plP p q) (12+1)=some q:=by rw [zit (by simp [zc5]),hY]
 refine znj zat (znl hE) hf (l:=zc5 F G) (nx:=12+2) (pl:=plP p q) hl rfl (hargs _ b1 b2) (fun x hx=>?_) (fun x hx=>?_) (fun g hg=>?_) (fun x hx=>?_)
 ·simp only [zc5,List.mem_cons,List.not_mem_nil,or_false] at hx
  rcases hx with rfl | rfl | rfl | rfl
  ·simp only [hX];exact ⟨oF.choose,oF.choose_spec.1,oF.choose_spec.2 _⟩
  ·simp only [hY];exact ⟨oG.choose,oG.choose_spec.1,oG.choose_spec.2 _⟩
  ·simp only [h4'];exact zlF (i:=4) c4
  ·simp only [h5'];exact zlF (i:=5) c5
 ·simp only [zc5,List.mem_cons,List.not_mem_nil,or_false] at hx
  rcases hx with rfl | rfl | rfl | rfl<;>exact ⟨_,rfl⟩
 ·have hg':(Nat.beq g 4||Nat.beq g 5)=true:=hg
  simp only [Bool.or_eq_true,zan,decide_eq_true_eq] at hg'
  rcases hg' with rfl | rfl
  ·exact ⟨by simp [zc5],by rw [h4'],by rw [h4']⟩
  ·exact ⟨by simp [zc5],by rw [h5'],by rw [h5']⟩
 ·simp only [zc5,List.mem_cons,List.not_mem_nil,or_false] at hx
  rcases hx with rfl | rfl | rfl | rfl
  ·show 12<12+2;omega
  ·show 12+1<12+2;omega
  ·show 4<12+2;omega
  ·show 5<12+2;omega
end Go.Proofs.YtifploedaacedaaDoorE
namespace Go.Proofs.YtifploedaacedaaDoorE
open Go Go.E Go.Proofs
def RdH (st:SS) (v:Value) (c:List Value) (z n hi:Nat):Prop:=Rd st v c z n∧∀ j k l q,v=.slice (some ⟨j,k,none⟩) l q→j<hi
theorem Rd.h {st:SS} {v:Value} {c:List Value} {z n:Nat} (h:Rd st v c z n):RdH st v c z n st.next:=by
 refine ⟨h,fun j k l q hv=>?_⟩
 obtain ⟨_,⟨ev,_⟩ | ⟨i,cap,ev,_,hi⟩⟩:=h
 ·rw [ev] at hv;cases hv
 ·rw [ev] at hv;cases hv;exact hi
theorem RdH.row {α:Type} {f:α→List Value} {st:SS} {v:Value} {z hi:Nat} {l:List α} (hf:∀ x,(f x).length=z) (h:RdH st v (rowsF f l) z l.length hi) {j:Nat} {x:α} (hx:l[j]?=some x):∃ p,zaD v (j:Int) z=some p∧∀ s:SS,RdH s v (rowsF f l) z l.length hi→s.ldN p.1 p.2 z=some (.agg (f x).toArray)∧∀ m,m<z→s.ld p.1 (p.2+m)=(f x)[m]?:=by
 have hlt:(j:Int)<(l.length:Int):=by have:=(List.getElem?_eq_some_iff.1 hx).1;omega
 obtain ⟨p,a1,_,_⟩:=h.1.load (j:=(j:Int)) (by omega) hlt (zeM hf l j x hx) (hf x)
 refine ⟨p,a1,fun s hs=>?_⟩
 obtain ⟨q,b1,b2,b3⟩:=hs.1.load (j:=(j:Int)) (by omega) hlt (zeM hf l j x hx) (hf x)
 rw [a1] at b1
 cases b1
 exact ⟨b2,b3⟩
theorem zmX:zh6 (bl ⟨#[103,111,58,32,97,108,117,61,97,100,100,32,116,111,61,103,111,43,49]⟩)=.ok [⟨1,[103,111],[],[],[⟨[97,108,117],5,⟨[97,100,100],0,9⟩⟩,⟨[116,111],13,⟨[103,111],1,16⟩⟩]⟩]:=by kernel_rfl
theorem eq_val (s s':ByteArray) (a b a' b':Int):eqA Tryd.prog Lk0 37 (.agg #[.string s,.int .i64 a,.int .i64 b]) (.agg #[.string s',.int .i64 a',.int .i64 b'])=some (eqT s s'&&(decide (a=a')&&(decide (b=b')&&true))):=by kernel_rfl
theorem zez.one {st:SS} {v:Value} {x:PLine} (h:zez st v [x]):∃ av pv,Rd st v (lnRow (x,av,pv)) 5 1∧Rd st av (rowsF zaG x.args) 3 x.args.length∧Rd st pv (rowsF zaX x.prs) 5 x.prs.length:=by
 obtain ⟨its,a,b,c⟩:=h
 cases its with
 | nil=>simp at a
 | cons y r=>
   cases r with
   | cons z r=>simp at a
   | nil=>
     obtain ⟨y1,av,pv⟩:=y
     have e:y1=x:=by simpa using a
     subst e
     have:=c (y1,av,pv) (by simp)
     exact ⟨av,pv,by simpa [rowsF] using b,this.1,this.2⟩
theorem zk5 [Sym] {st:SS} (hg:Gd st):∃ n,st.next≤n∧cc 6 [] st=some (.bool true,st.adv n):=by
 have h:=zjH (st:=st.ro st.next) hg.ro (zlr _) ⟨#[103,111,58,32,97,108,117,61,97,100,100,32,116,111,61,103,111,43,49]⟩ (by decide)
 rw [zmX] at h
 obtain ⟨v,s1,c1,x1,hl1⟩:=h
 obtain ⟨s6,e6,a6,x6,_⟩:=zbP (st:=s1) (x1.ll (zlr _)) (r:=[.int .i64 0,.int .i64 0]) (v:=zcv (0,0)) (row:=[.int .i64 0,.int .i64 0]) (n:=2) rfl rfl rfl rfl
 obtain ⟨av,pv,h1,h2,h3⟩:=(hl1.ext x6).one
 obtain ⟨p,b1,b2,b3⟩:=h1.load (j:=0) (by omega) (by omega) (row:=lnRow (⟨1,[103,111],[],[],[⟨[97,108,117],5,⟨[97,100,100],0,9⟩⟩,⟨[116,111],13,⟨[103,111],1,16⟩⟩]⟩,av,pv)) rfl rfl
 obtain ⟨q,g1,g2⟩:=(Rd.h h3).row zi1 (j:=1) (x:=⟨[116,111],13,⟨[103,111],1,16⟩⟩) rfl
 have g1':zaD pv 1 5=some q:=g1
 obtain ⟨g3,g4⟩:=g2 s6 (Rd.h h3)
 have m1:s6.ld p.1 (p.2+1)=some (.string ⟨#[103,111]⟩):=b3 1 (by omega)
 have m4:s6.ld p.1 (p.2+4)=some pv:=b3 4 (by omega)
 have hlv:(lenV v).bind (asI .i64)=some 1:=by rw [h1.len];rfl
 have hlp:(lenV pv).bind (asI .i64)=some 2:=by rw [h3.len];rfl
 have hN:s6.ldN q.1 (q.2+2) 3=some (.agg #[.string ⟨#[103,111]⟩,.int .i64 1,.int .i64 16]):=by
  obtain ⟨hA,hB⟩:=h3
  rcases hB with ⟨rfl,hz⟩ | ⟨i,cap,rfl,⟨z',hm⟩,hi⟩
  ·cases hz
  ·have:q=(i,5):=by
    have:zaD (.slice (some ⟨i,0,none⟩) 2 cap) 1 5=some (i,0+5):=rfl
    have h':some q=some (i,0+5):=g1'.symm.trans this
    injection h'
   subst this
   rw [SS.ldN_cells hm]
   rfl
 have c1':cc 8 [.string ⟨#[103,111,58,32,97,108,117,61,97,100,100,32,116,111,61,103,111,43,49]⟩] (st.ro st.next)=some (.tuple #[v,zcv (0,0),.int .i64 0],s1):=c1
 have hq1:eqT ⟨#[103,111]⟩ ⟨#[103,111]⟩=true:=rfl
 have hnx:st.next≤s6.next:=by have:=x1.next;have:=x6.next;simp at*;omega
 refine ⟨s6.next,hnx,zeY st ?_⟩
 simp only [zdx,c1',zob,zao,List.getElem?_toArray,zgs,zgz,zac,e6,decide_true,zct,hlv,b1,m1,zab,hq1,m4,hlp,g1',hN,eq_val,Bool.and_true,zai]
def zfS (x:UInt8):Bool:=decide (97≤x.toNat)&&decide (x.toNat≤122)
theorem zi3 [Sym] (s:ByteArray) (hs:s.size≤9223372036854775807):∀ (k i:Nat) (st:SS),s.size=k+i→
  zbk 2 [.string s,.int .i64 i] st=some (cond (((bl s).drop i).all zfS) (0,[.string s],st) (1,[.bool false],st))
 | 0,i,st,hk=>by
   have hlt:¬ (i:Int)<(s.size:Int):=by omega
   have hd:(bl s).drop i=[]:=by rw [List.drop_eq_nil_iff,zaV];omega
   refine zcC s _ st ?_
   simp only [zbl,zdf hlt,zcf,hd,List.all_nil,zct]
 | k+1,i,st,hk=>by
   have hlt:(i:Int)<(s.size:Int):=by omega
   obtain ⟨c,hb⟩:∃ c,(bl s)[i]?=some c:=⟨_,zge (by rw [zaV];omega)⟩
   have hix:(zeQ s (i:Int)).bind (asI .u8)=some (c.toNat:Int):=by
    obtain ⟨b',hb',hidx⟩:=zlD (s:=s) (i:=(i:Int)) (by omega) (by omega)
    have:b'=c:=by simp at hb';rw [hb] at hb';cases hb';rfl
    subst this
    rw [hidx];simp
   rw [drop_cons hb,List.all_cons]
   refine zcC s _ st ?_
   have hw:IntKind.wrap .i64 ((i:Int)+1)=((i+1:Nat):Int):=by rw [wrap64 (by omega) (by omega)];omega
   have ih:=zi3 s hs k (i+1) st (by omega)
   by_cases h1:c.toNat<97
   ·have h1':(c.toNat:Int)<97:=by omega
    have:zfS c=false:=by unfold zfS;rw [zdf (by omega)];rfl
    simp only [zbl,zdt hlt,zct,hix,zob,zdt h1',this,Bool.false_and,zcf]
   ·have h1':¬ (c.toNat:Int)<97:=by omega
    by_cases h2:122<c.toNat
    ·have h2':(122:Int)<(c.toNat:Int):=by omega
     have:zfS c=false:=by unfold zfS;rw [zdf (p:=c.toNat≤122) (by omega),Bool.and_false]
     simp only [zbl,zdt hlt,zct,hix,zob,zdf h1',zdt h2',this,Bool.false_and,zcf]
    ·have h2':¬ (122:Int)<(c.toNat:Int):=by omega
     have:zfS c=true:=by unfold zfS;rw [zdt (by omega),zdt (by omega)];rfl
     simp only [zbl,zdt hlt,zct,hix,zob,zdf h1',zdf h2',this,Bool.true_and,zcf,hw]
     exact ih
theorem zkp [Sym] (s:ByteArray) (hs:s.size≤9223372036854775807) (st:SS):∃ n,st.next≤n∧cc 7 [.string s] st=some (.bool (isW (bl s)),st.adv n):=by
 have h:=zi3 s hs s.size 0 (st.ro st.next) rfl
 rw [List.drop_zero] at h
 refine ⟨st.next,zlr _,zfk s st ?_⟩
 have hq:isW (bl s)=((bl s).all zfS&&decide (0<s.size)&&decide (s.size≤24)):=by rw [← zaV];rfl
 have hb0:Nat.beq 0 0=true:=rfl
 have hb1:Nat.beq 1 0=false:=rfl
 have h':zbk 2 [.string s,.int .i64 0] (st.ro st.next)=_:=h
 cases ha:(bl s).all zfS with
 | false=>
   rw [ha] at h' hq
   simp only [zbV,h',zcf,zob,hb1,zgz,zai,hq,Bool.false_and]
   rfl
 | true=>
   rw [ha] at h' hq
   by_cases h0:0<s.size
   ·have h0':(0:Int)<(s.size:Int):=by omega
    have h24:decide ((s.size:Int)≤24)=decide (s.size≤24):=decide_eq_decide.2 (by omega)
    simp only [zbV,h',zct,zob,hb0,zgz,zab,zdt h0',h24,hq,zdt h0,Bool.true_and]
    rfl
   ·have h0':¬ (0:Int)<(s.size:Int):=by omega
    simp only [zbV,h',zct,zcf,zob,hb0,zgz,zab,zdf h0',hq,zdf h0,Bool.true_and,Bool.false_and]
    rfl
theorem zmY {n:Nat} (hn:n≤2147483647):Int.tmod (n:Int) 10=((n%10:Nat):Int)∧IntKind.wrap .i64 (48+((n%10:Nat):Int))=((48+n%10:Nat):Int)∧IntKind.wrap .u8 (((48+n%10:Nat)):Int)=((zaA (n%10)).toNat:Int)∧IntKind.wrap .i64 (Int.tdiv (n:Int) 10)=((n/10:Nat):Int):=by
 have h10:=Nat.mod_lt n (show 0<10 by omega)
 refine ⟨by rw [Int.tmod_eq_emod_of_nonneg (by omega)];rfl,?_,?_,?_⟩
 ·rw [wrap64 (by omega) (by omega)];omega
 ·rw [ze5 (by omega) (by omega)]
  unfold zaA
  rw [UInt8.toNat_ofNat']
  omega
 ·have:Int.tdiv (n:Int) 10=((n/10:Nat):Int):=by rw [Int.tdiv_eq_ediv_of_nonneg (by omega)];rfl
  rw [this]
  exact wrap64 (by omega) (by omega)
theorem zmd (c:UInt8) (st:SS):(st.new (.cells [.int .u8 (c.toNat:Int)] 1)).bytes (.slice (some ⟨st.next,0,none⟩) 1 1)=some (mkS [c]):=
 zj2 (z:=1) SS.new_get rfl (by simp only [zdi];simp)
theorem zjM {R:Type} (F:ByteArray→Int→SS→Option R) (G:ByteArray→SS→Option R)
  (step:∀ (acc:List UInt8) (k:Nat) (st:SS) r,k≤2147483647→acc.length≤1099511627776→(0<k∨acc=[])→F (mkS (zaA (k%10)::acc)) ((k/10:Nat):Int) (st.new (.cells [.int .u8 ((zaA (k%10)).toNat:Int)] 1))=some r→F (mkS acc) (k:Int) st=some r)
  (fin:∀ (acc:List UInt8) (st:SS) r,acc≠[]→G (mkS acc) st=some r→F (mkS acc) 0 st=some r):
  ∀ (f k:Nat) (acc:List UInt8) (st:SS),k<f→(acc=[]→k+1<f)→k≤2147483647→acc.length+f≤1099511627776→∃ st',Ext st st'∧∀ r,G (mkS (zcs 10 zaA f k acc)) st'=some r→F (mkS acc) (k:Int) st=some r
 | 0,k,acc,st,h,_,_,_=>by omega
 | f+1,k,acc,st,h,h0,hk,hl=>by
   unfold zcs
   by_cases hc:k=0∧acc≠[]
   ·rw [if_pos hc]
    obtain ⟨rfl,ha⟩:=hc
    exact ⟨st,Ext.refl _,fun r hr=>fin acc st r ha hr⟩
   ·rw [if_neg hc]
    have hc':0<k∨acc=[]:=by
     by_cases ha:acc=[]
     ·exact .inr ha
     ·exact .inl (Nat.pos_of_ne_zero fun hk0=>hc ⟨hk0,ha⟩)
    have hlt:k/10<f:=by
     rcases hc' with h' | h'
     ·omega
     ·have:=h0 h';omega
    obtain ⟨st',x,hr⟩:=zjM F G step fin f (k/10) (zaA (k%10)::acc) (st.new (.cells [.int .u8 ((zaA (k%10)).toNat:Int)] 1)) hlt (fun h=>by cases h) (by omega) (by simp only [List.length_cons];omega)
    exact ⟨st',((Ext.refl st).new _).trans x,fun r h=>step acc k st r hk (by omega) hc' (hr r h)⟩
theorem znB {R:Type} (F:ByteArray→Int→SS→Option R) (G:ByteArray→SS→Option R)
  (step:∀ (acc:List UInt8) (k:Nat) (st:SS) r,k≤2147483647→acc.length≤1099511627776→(0<k∨acc=[])→F (mkS (zaA (k%10)::acc)) ((k/10:Nat):Int) (st.new (.cells [.int .u8 ((zaA (k%10)).toNat:Int)] 1))=some r→F (mkS acc) (k:Int) st=some r)
  (fin:∀ (acc:List UInt8) (st:SS) r,acc≠[]→G (mkS acc) st=some r→F (mkS acc) 0 st=some r) {k:Nat} (hk:k≤2147483647) (st:SS):∃ st',Ext st st'∧∀ r,G (mkS (zaL 10 zaA k)) st'=some r→F ⟨#[]⟩ (k:Int) st=some r:=
 zjM F G step fin (k+2) k [] st (by omega) (fun _=>by omega) hk (by simp only [List.length_nil];omega)
theorem Rg.at1 {α:Type} {f:α→List Value} {st:SS} {v:Value} {l:List α} {y:α→Value} (hf:∀ x,f x=[y x]) (h:Rg st v (rowsF f l) 1 l.length) {j:Nat} {x:α} (hx:l[j]?=some x):∃ p,zaD v (j:Int) 1=some p∧st.ld p.1 p.2=some (y x):=by
 have hlt:(j:Int)<(l.length:Int):=by have:=(List.getElem?_eq_some_iff.1 hx).1;omega
 obtain ⟨p,a1,_,a3⟩:=h.load (j:=(j:Int)) (by omega) hlt (zeM (fun x=>by rw [hf x];rfl) l j x hx) (by rw [hf x];rfl)
 exact ⟨p,a1,a3 0 _ (by rw [hf x];rfl)⟩
theorem strRg {st:SS} {v:Value} {l:List ByteArray} (h:Rg st v (rowsF strRow l) 1 l.length) {j:Nat} {x:ByteArray} (hx:l[j]?=some x):∃ p,zaD v (j:Int) 1=some p∧st.ld p.1 p.2=some (.string x):=Rg.at1 (y:=Value.string) (fun _=>rfl) h hx
theorem intRg {st:SS} {v:Value} {l:List Int} (h:Rg st v (rowsF intRow l) 1 l.length) {j:Nat} {x:Int} (hx:l[j]?=some x):∃ p,zaD v (j:Int) 1=some p∧st.ld p.1 p.2=some (.int .i64 x):=Rg.at1 (y:=Value.int .i64) (fun _=>rfl) h hx
theorem wrapJ {j:Nat} (h:j≤1099511627776):IntKind.wrap .i64 ((j:Int)+1)=((j+1:Nat):Int):=zew h
end Go.Proofs.YtifploedaacedaaDoorE
namespace Go.Proofs.YtifploedaacedaaDoorE
open Go Go.E Go.Proofs
theorem zgy [Sym] (a1 a2 a7:Value) (s0 s3 s4:ByteArray) (k5 i8 i9:Int) {k:Nat} (hk:k≤2147483647) (st:SS):
  ∃ st',Ext st st'∧zaa 14 [.string s0,a1,a2,.string s3,.string s4,.int .i64 k5,.int .i64 k,.string ⟨#[]⟩,a7,.int .i64 i8,.int .i64 i9] st=some (0,[.string s0,a1,a2,.string s3,.string s4,.int .i64 k5,.string (mkS (zaL 10 zaA k)),a7,.int .i64 i8,.int .i64 i9],st'):=by
 let F:ByteArray→Int→SS→Option (Nat×List Value×SS):=fun n k s=>zaa 14 [.string s0,a1,a2,.string s3,.string s4,.int .i64 k5,.int .i64 k,.string n,a7,.int .i64 i8,.int .i64 i9] s
 let G:ByteArray→SS→Option (Nat×List Value×SS):=fun n s=>some (0,[.string s0,a1,a2,.string s3,.string s4,.int .i64 k5,.string n,a7,.int .i64 i8,.int .i64 i9],s)
 suffices hh:∃ st',Ext st st'∧∀ r,G (mkS (zaL 10 zaA k)) st'=some r→F ⟨#[]⟩ (k:Int) st=some r by
  obtain ⟨st',x,h⟩:=hh
  exact ⟨st',x,h _ rfl⟩
 refine znB F G (fun acc k s r hk hl hc hr=>?_) (fun acc s r ha hr=>?_) hk st
 ·obtain ⟨d1,d2,d3,d4⟩:=zmY hk
  have hby:=zmd (zaA (k%10)) s
  have hcat:zaq (mkS [zaA (k%10)]) (mkS acc)=some (mkS (zaA (k%10)::acc)):=zfa (a:=[zaA (k%10)]) (b:=acc) (by simp;omega)
  refine zbI _ _ _ _ _ _ _ _ _ _ _ s ?_
  by_cases h0:0<k
  ·have h0':(0:Int)<(k:Int):=by omega
   simp only [za1,zdt h0',zct,d1,d2,d3,d4,hby,zob,hcat,zab]
   exact hr
  ·have h0':¬ (0:Int)<(k:Int):=by omega
   have ha:acc=[]:=hc.resolve_left h0
   subst ha
   have hq:eqT (mkS []) ⟨#[]⟩=true:=rfl
   simp only [za1,zdf h0',zcf,hq,zct,d1,d2,d3,d4,hby,zob,hcat,zab]
   exact hr
 ·refine zbI _ _ _ _ _ _ _ _ _ _ _ s ?_
  have hq:eqT (mkS acc) ⟨#[]⟩=false:=(ziB acc).trans (zdf ha)
  have h0':¬ (0:Int)<0:=by omega
  simp only [za1,zdf h0',zcf,hq]
  exact hr
def zbf (dir:ByteArray) (l:List (List UInt8×Int)):List Pc:=.blank::.sign 46::.blank::.word (bl dir)::l.flatMap zba
def vlOk (x:List UInt8×Int):Prop:=(x.1=[]∧0≤x.2∨isW x.1=true)∧ -2147483647≤x.2∧x.2≤2147483647
def vlT (x:List UInt8×Int):List UInt8:=if x.1=[] then zaL 10 zaA x.2.toNat else if x.2<0 then x.1++[45]++zaL 10 zaA (-x.2).toNat else x.1++[32,43,32]++zaL 10 zaA x.2.toNat
theorem zi4 (x:List UInt8×Int):zaw (zba x)=[32]++vlT x:=by
 unfold zba vlT
 by_cases h1:x.1=[]
 ·rw [if_pos h1,if_pos h1]
  show [32]++(zaL 10 zaA x.2.toNat++[])=_
  rw [List.append_nil]
 ·rw [if_neg h1,if_neg h1]
  by_cases h2:x.2<0
  ·rw [if_pos h2,if_pos h2]
   show [32]++(x.1++([45]++(zaL 10 zaA (-x.2).toNat++[])))=_
   simp
  ·rw [if_neg h2,if_neg h2]
   show [32]++(x.1++([32]++([43]++([32]++(zaL 10 zaA x.2.toNat++[])))))=_
   simp
theorem znC {x:List UInt8×Int} (h:vlOk x):(vlT x).length≤37:=by
 obtain ⟨h0,h1,h2⟩:=h
 have q1:=zeA (k:=x.2.toNat) (by omega)
 have q2:=zeA (k:=(-x.2).toNat) (by omega)
 unfold vlT
 split
 ·omega
 ·rename_i hx
  have hw:=(zcJ.1 (h0.resolve_left fun h=>hx h.1)).2.2
  split<;>simp only [List.length_append,List.length_cons,List.length_nil]<;>omega
theorem zme (dir:ByteArray) (l:List (List UInt8×Int)) (x:List UInt8×Int):zaw (zbf dir (l++[x]))=zaw (zbf dir l)++[32]++vlT x:=by
 have:zbf dir (l++[x])=zbf dir l++zba x:=by simp [zbf,List.flatMap_append]
 rw [this,zgv,zi4]
 simp
theorem zjN {dir:ByteArray} (hl:isW (bl dir)=true) {l:List (List UInt8×Int)} (h:∀ x∈l,vlOk x):(zaw (zbf dir l)).length≤27+38*l.length:=by
 have h1:=(zcJ.1 hl).2.2
 have key:∀ l:List (List UInt8×Int),(∀ x∈l,vlOk x)→(zaw (l.flatMap zba)).length≤38*l.length:=by
  intro l
  induction l with
  | nil=>intro _;exact zlr _
  | cons x l ih=>
    intro h
    rw [List.flatMap_cons,zgv,List.length_append,List.length_cons,zi4,List.length_append]
    have:=znC (h x (by simp))
    have:=ih fun y hy=>h y (by simp [hy])
    simp only [List.length_cons,List.length_nil]
    omega
 have:=key l h
 have e:zaw (zbf dir l)=[32]++([46]++([32]++(bl dir++zaw (l.flatMap zba)))):=rfl
 rw [e]
 simp only [List.length_append,List.length_cons,List.length_nil]
 omega
structure MvI (names:List ByteArray) (nums:List Int) (j:Nat) (l:List (List UInt8×Int)):Prop where
 len:l.length=j
 at':∀ (i:Nat) (x:List UInt8×Int),l[i]?=some x→names[i]?=some (mkS x.1)∧nums[i]?=some x.2
 ok:∀ x∈l,vlOk x
theorem MvI.snoc {names:List ByteArray} {nums:List Int} {j:Nat} {l:List (List UInt8×Int)} (h:MvI names nums j l) {n:ByteArray} {k:Int} (hn:names[j]?=some n) (hk:nums[j]?=some k) (ho:vlOk (bl n,k)):MvI names nums (j+1) (l++[(bl n,k)]):=by
 refine ⟨by rw [List.length_append,h.len];rfl,fun i x hx=>?_,fun x hx=>?_⟩
 ·by_cases hij:i<l.length
  ·rw [List.getElem?_append_left hij] at hx
   exact h.at' i x hx
  ·rw [List.getElem?_append_right (by omega)] at hx
   have e0:i-l.length=0:=by
    apply Classical.byContradiction
    intro hne
    rw [List.getElem?_eq_none (by simp;omega)] at hx;cases hx
   rw [e0] at hx
   have:i=j:=by have:=h.len;omega
   cases hx
   subst this
   exact ⟨by rw [ze7];exact hn,hk⟩
 ·rcases List.mem_append.1 hx with hx | hx
  ·exact h.ok x hx
  ·have:x=(bl n,k):=by simpa using hx
   subst this
   exact ho
theorem absI {k:Int} (h1: -2147483647≤k) (h2:k≤2147483647):(if IntKind.wrap .i64 (0-k)>k then IntKind.wrap .i64 (0-k) else k)=(((if k<0 then -k else k).toNat:Nat):Int):=by
 have:IntKind.wrap .i64 (0-k)= -k:=by rw [wrap64 (by omega) (by omega)];omega
 rw [this]
 split<;>split<;>omega
theorem zkq [Sym] (dir:ByteArray) (hdir:isW (bl dir)=true) (names:List ByteArray) (nums:List Int) (hns:∀ f∈names,f.size≤9223372036854775807) (hn20:names.length≤20) (hnn:names.length≤nums.length) (nv kv:Value) (st0:SS) (hN:Rg st0 nv (rowsF strRow names) 1 names.length) (hK:Rg st0 kv (rowsF intRow nums) 1 nums.length):
  ∀ (k j:Nat) (l:List (List UInt8×Int)) (st:SS),names.length=k+j→Ext st0 st→MvI names nums j l→∃ st',Ext st0 st'∧
   (zaa 7 [.string dir,nv,kv,.string (mkS (zaw (zbf dir l))),nv,.int .i64 names.length,.int .i64 j] st=some (1,[.bool true],st')∨
    ∃ l',MvI names nums names.length l'∧zaa 7 [.string dir,nv,kv,.string (mkS (zaw (zbf dir l))),nv,.int .i64 names.length,.int .i64 j] st=some (0,[.string dir,nv,kv,.string (mkS (zaw (zbf dir l')))],st'))
 | 0,j,l,st,hk,he,hi=>by
   have hlt:¬ (j:Int)<(names.length:Int):=by omega
   refine ⟨st,he,.inr ⟨l,by have:names.length=j:=by omega
                            rw [this];exact hi,zak _ _ _ _ _ _ _ st ?_⟩⟩
   simp only [zal,zdf hlt,zcf]
 | k+1,j,l,st,hk,he,hi=>by
   have hlt:(j:Int)<(names.length:Int):=by omega
   obtain ⟨n,hn⟩:∃ x,names[j]?=some x:=⟨_,zge (by omega)⟩
   obtain ⟨m,hm⟩:∃ x,nums[j]?=some x:=⟨_,zge (by omega)⟩
   obtain ⟨p1,e1,l1⟩:=strRg (hN.ext he) hn
   obtain ⟨p3,e3,l3⟩:=intRg (hK.ext he) hm
   have hw:=wrapJ (j:=j) (by omega)
   have y32:∀ a:List UInt8,a.length≤1000000→zaq (mkS a) ⟨#[32]⟩=some (mkS (a++[32])):=fun a h=>zfa (b:=[32]) (by simp;omega)
   have ycat:∀ a b:List UInt8,a.length≤1000000→b.length≤1000000→zaq (mkS a) (mkS b)=some (mkS (a++b)):=fun a b h h'=>zfa (by omega)
   have hll:=hi.len
   have hlenl:=zjN hdir hi.ok
   have yl:=y32 (zaw (zbf dir l)) (by omega)
   have fin:vlOk (bl n,m)→∀ s,Ext st0 s→(∀ r,zaa 7 [.string dir,nv,kv,.string (mkS (zaw (zbf dir l)++[32]++vlT (bl n,m))),nv,.int .i64 names.length,.int .i64 ((j+1:Nat):Int)] s=some r→zaa 7 [.string dir,nv,kv,.string (mkS (zaw (zbf dir l))),nv,.int .i64 names.length,.int .i64 j] st=some r)→∃ st',Ext st0 st'∧
    (zaa 7 [.string dir,nv,kv,.string (mkS (zaw (zbf dir l))),nv,.int .i64 names.length,.int .i64 j] st=some (1,[.bool true],st')∨
     ∃ l',MvI names nums names.length l'∧zaa 7 [.string dir,nv,kv,.string (mkS (zaw (zbf dir l))),nv,.int .i64 names.length,.int .i64 j] st=some (0,[.string dir,nv,kv,.string (mkS (zaw (zbf dir l')))],st')):=fun ho s hs step=>by
    obtain ⟨st',x',ih⟩:=zkq dir hdir names nums hns hn20 hnn nv kv st0 hN hK k (j+1) (l++[(bl n,m)]) s (by omega) hs (hi.snoc hn hm ho)
    rw [zme] at ih
    refine ⟨st',x',?_⟩
    rcases ih with ih | ⟨l',h1,h2⟩
    ·exact .inl (step _ ih)
    ·exact .inr ⟨l',h1,step _ h2⟩
   by_cases hnil:bl n=[]
   ·have hq:eqT n ⟨#[]⟩=true:=by rw [zdD,hnil];rfl
    by_cases h1:m< -2147483647
    ·refine ⟨st,he,.inl (zak _ _ _ _ _ _ _ st ?_)⟩
     simp only [zal,zdt hlt,zct,e1,zob,l1,zab,e3,l3,zac,hq,znt,zcf,zdt h1]
    by_cases h2:2147483647<m
    ·refine ⟨st,he,.inl (zak _ _ _ _ _ _ _ st ?_)⟩
     simp only [zal,zdt hlt,zct,e1,zob,l1,zab,e3,l3,zac,hq,znt,zcf,zdf h1,zdt h2]
    by_cases h3:m<0
    ·refine ⟨st,he,.inl (zak _ _ _ _ _ _ _ st ?_)⟩
     simp only [zal,zdt hlt,zct,e1,zob,l1,zab,e3,l3,zac,hq,znt,zcf,zdf h1,zdf h2,zdt h3]
    have habs:=absI (k:=m) (by omega) (by omega)
    rw [if_neg h3] at habs
    obtain ⟨s14,x14,c14⟩:=zgy nv kv nv dir (mkS (zaw (zbf dir l))) n m names.length j (k:=m.toNat) (by omega) st
    have hlen:=zeA (k:=m.toNat) (by omega)
    have y2:=ycat (zaw (zbf dir l)++[32]) (zaL 10 zaA m.toNat) (by simp only [List.length_append,List.length_cons,List.length_nil];omega) (by omega)
    have ht:vlT (bl n,m)=zaL 10 zaA m.toNat:=by unfold vlT;rw [if_pos hnil]
    refine fin ⟨.inl ⟨hnil,by omega⟩,by omega,by omega⟩ s14 (he.trans x14) fun r hr=>?_
    rw [ht] at hr
    refine zak _ _ _ _ _ _ _ st ?_
    simp only [zal,zdt hlt,zct,e1,zob,l1,zab,e3,l3,zac,hq,znt,zcf,zdf h1,zdf h2,zdf h3,habs]
    rw [c14,zob]
    simp only [zgz,zgs,zob,zab,zac,hq,znt,zcf,yl,y2,hw]
    exact hr
   ·have hq:eqT n ⟨#[]⟩=false:=by rw [zdD];exact zdf hnil
    obtain ⟨mm,hmm,c5⟩:=zkp n (hns n (zmg hn)) st
    have he5:Ext st0 (st.adv mm):=he.adv hmm
    cases hwf:isW (bl n) with
    | false=>
      rw [hwf] at c5
      refine ⟨st.adv mm,he5,.inl (zak _ _ _ _ _ _ _ st ?_)⟩
      simp only [zal,zdt hlt,zct,e1,zob,l1,zab,e3,l3,zac,hq,znf,c5,zai]
    | true=>
    rw [hwf] at c5
    by_cases h1:m< -2147483647
    ·refine ⟨st.adv mm,he5,.inl (zak _ _ _ _ _ _ _ st ?_)⟩
     simp only [zal,zdt hlt,zct,e1,zob,l1,zab,e3,l3,zac,hq,znf,c5,zai,znt,zcf,zdt h1]
    by_cases h2:2147483647<m
    ·refine ⟨st.adv mm,he5,.inl (zak _ _ _ _ _ _ _ st ?_)⟩
     simp only [zal,zdt hlt,zct,e1,zob,l1,zab,e3,l3,zac,hq,znf,c5,zai,znt,zcf,zdf h1,zdt h2]
    have hwl:=(zcJ.1 hwf).2.2
    by_cases h3:m<0
    ·have habs:=absI (k:=m) (by omega) (by omega)
     rw [if_pos h3] at habs
     obtain ⟨s14,x14,c14⟩:=zgy nv kv nv dir (mkS (zaw (zbf dir l))) n m names.length j (k:=(-m).toNat) (by omega) (st.adv mm)
     have hlen:=zeA (k:=(-m).toNat) (by omega)
     have y1:zaq n ⟨#[45]⟩=some (mkS (bl n++[45])):=by
      have:=zfa (a:=bl n) (b:=[45]) (by simp only [List.length_cons,List.length_nil];omega)
      rwa [ze7] at this
     have y2:=ycat (bl n++[45]) (zaL 10 zaA (-m).toNat) (by simp only [List.length_append,List.length_cons,List.length_nil];omega) (by omega)
     have y3:=ycat (zaw (zbf dir l)++[32]) (bl n++[45]++zaL 10 zaA (-m).toNat) (by simp only [List.length_append,List.length_cons,List.length_nil];omega) (by simp only [List.length_append,List.length_cons,List.length_nil];omega)
     have ht:vlT (bl n,m)=bl n++[45]++zaL 10 zaA (-m).toNat:=by unfold vlT;rw [if_neg hnil,if_pos h3]
     refine fin ⟨.inr hwf,by omega,by omega⟩ s14 (he5.trans x14) fun r hr=>?_
     rw [ht] at hr
     refine zak _ _ _ _ _ _ _ st ?_
     simp only [zal,zdt hlt,zct,e1,zob,l1,zab,e3,l3,zac,hq,znf,c5,zai,znt,zcf,zdf h1,zdf h2,habs]
     rw [c14,zob]
     simp only [zgz,zgs,zob,zab,zac,hq,znf,zct,zdt h3,y1,y2,yl,y3,hw]
     exact hr
    ·have habs:=absI (k:=m) (by omega) (by omega)
     rw [if_neg h3] at habs
     obtain ⟨s14,x14,c14⟩:=zgy nv kv nv dir (mkS (zaw (zbf dir l))) n m names.length j (k:=m.toNat) (by omega) (st.adv mm)
     have hlen:=zeA (k:=m.toNat) (by omega)
     have y1:zaq n ⟨#[32,43,32]⟩=some (mkS (bl n++[32,43,32])):=by
      have:=zfa (a:=bl n) (b:=[32,43,32]) (by simp only [List.length_cons,List.length_nil];omega)
      rwa [ze7] at this
     have y2:=ycat (bl n++[32,43,32]) (zaL 10 zaA m.toNat) (by simp only [List.length_append,List.length_cons,List.length_nil];omega) (by omega)
     have y3:=ycat (zaw (zbf dir l)++[32]) (bl n++[32,43,32]++zaL 10 zaA m.toNat) (by simp only [List.length_append,List.length_cons,List.length_nil];omega) (by simp only [List.length_append,List.length_cons,List.length_nil];omega)
     have ht:vlT (bl n,m)=bl n++[32,43,32]++zaL 10 zaA m.toNat:=by unfold vlT;rw [if_neg hnil,if_neg h3]
     refine fin ⟨.inr hwf,by omega,by omega⟩ s14 (he5.trans x14) fun r hr=>?_
     rw [ht] at hr
     refine zak _ _ _ _ _ _ _ st ?_
     simp only [zal,zdt hlt,zct,e1,zob,l1,zab,e3,l3,zac,hq,znf,c5,zai,znt,zcf,zdf h1,zdf h2,habs]
     rw [c14,zob]
     simp only [zgz,zgs,zob,zab,zac,hq,znf,zct,zdf h3,zcf,y1,y2,yl,y3,hw]
     exact hr
end Go.Proofs.YtifploedaacedaaDoorE
namespace Go.Proofs.YtifploedaacedaaDoorE
open Go Go.E Go.Proofs
theorem zkr:∀ (l:List (List UInt8×Int)) (col:Nat),l.length≤(zaQ col (l.flatMap zba)).length
 | [],col=>zlr _
 | x::l,col=>by
   rw [List.flatMap_cons,zcB,List.length_append,List.length_cons]
   have:=zkr l (col+(zaw (zba x)).length)
   have h1:0<(zaQ col (zba x)).length:=by
    unfold zba
    split
    ·show 0<1;omega
    ·split
     ·show 0<3;omega
     ·show 0<3;omega
   omega
theorem zmZ (dir:ByteArray) {l:List (List UInt8×Int)} (e:Tok) (he:e.kd=0) (h:∀ x∈l,vlOk x):∃ vs,readT (zaQ 0 (zbf dir l)++[e])=.ok ⟨0,[],bl dir,vs,[]⟩∧vs.map vlV=l:=by
 obtain ⟨vs,h1,h2⟩:=zi2 e he l (zaQ (0+1+1+1+(bl dir).length) (l.flatMap zba)++[e]).length (0+1+1+1+(bl dir).length) (by rw [List.length_append];have:=zkr l (0+1+1+1+(bl dir).length);omega) (fun x hx hn=>by
  obtain ⟨h0 | h0,_⟩:=h x hx
  ·exact h0.2
  ·exact absurd hn (zcJ.1 h0).2.1)
 refine ⟨vs,?_,h2⟩
 show readT (⟨3,[46],0,0+1+1⟩::⟨1,bl dir,0,0+1+1+1+1⟩::(zaQ (0+1+1+1+(bl dir).length) (l.flatMap zba)++[e]))=_
 rw [zdS,if_neg (fun h=>by cases h.1),zcI,if_pos (show zau (⟨3,[46],0,0+1+1⟩:Tok) [46]=true from rfl)]
 simp only [if_true,h1]
theorem mv_sep (dir:ByteArray) (hl:isW (bl dir)=true) (l:List (List UInt8×Int)) (h:∀ x∈l,vlOk x):zgx (zbf dir l):=by
 have key:∀ l:List (List UInt8×Int),(∀ x∈l,vlOk x)→zgx (l.flatMap zba)∧zgw (l.flatMap zba)=true:=by
  intro l
  induction l with
  | nil=>intro _;exact ⟨trivial,rfl⟩
  | cons x l ih=>
    intro h
    obtain ⟨h0,h1,h2⟩:=h x (by simp)
    obtain ⟨h3,h4⟩:=ih fun y hy=>h y (by simp [hy])
    rw [List.flatMap_cons]
    by_cases hn:x.1=[]
    ·have e:zba x=[.blank,.num x.2.toNat]:=by unfold zba;rw [if_pos hn]
     rw [e]
     exact ⟨⟨trivial,(fun h=>by cases h),by show x.2.toNat≤_;omega,fun _=>h4,h3⟩,rfl⟩
    ·have hw:=h0.resolve_left fun h=>hn h.1
     by_cases hm:x.2<0
     ·have e:zba x=[.blank,.word x.1,.sign 45,.num (-x.2).toNat]:=by unfold zba;rw [if_neg hn,if_pos hm]
      rw [e]
      exact ⟨⟨trivial,(fun h=>by cases h),hw,(fun _=>rfl),by show (45:UInt8)∈_;simp,(fun h=>by cases h),by show (-x.2).toNat≤_;omega,fun _=>h4,h3⟩,rfl⟩
     ·have e:zba x=[.blank,.word x.1,.blank,.sign 43,.blank,.num x.2.toNat]:=by unfold zba;rw [if_neg hn,if_neg hm]
      rw [e]
      exact ⟨⟨trivial,(fun h=>by cases h),hw,(fun _=>rfl),trivial,(fun h=>by cases h),by show (43:UInt8)∈_;simp,(fun h=>by cases h),trivial,(fun h=>by cases h),by show x.2.toNat≤_;omega,fun _=>h4,h3⟩,rfl⟩
 obtain ⟨k1,k2⟩:=key l h
 exact ⟨trivial,(fun h=>by cases h),by show (46:UInt8)∈_;simp,(fun h=>by cases h),trivial,(fun h=>by cases h),hl,fun _=>k2,k1⟩
theorem zjO [Sym] (names:List ByteArray) (nums:List Int) (nv kv av:Value) (vs:List Val) (hz:vs.length≤1000) (base:SS) (hll:base.lim≤base.next) (hN:Rg base nv (rowsF strRow names) 1 names.length) (hK:Rg base kv (rowsF intRow nums) 1 nums.length) (hA:Rd base av (rowsF zaG vs) 3 vs.length)
  (hall:∀ (j:Nat) p,vs[j]?=some p→names[j]?=some (mkS p.nm)∧nums[j]?=some p.x):∀ (k j:Nat) (st:SS),vs.length=k+j→Ext base st→∃ st',zaa 27 [nv,kv,av,.int .i64 vs.length,.int .i64 j] st=some (0,[],st')
 | 0,j,st,hk,he=>by
   have hlt:¬ (j:Int)<(vs.length:Int):=by omega
   refine ⟨st,zbJ _ _ _ _ _ st ?_⟩
   simp only [zbr,zdf hlt,zcf]
 | k+1,j,st,hk,he=>by
   have hlt:(j:Int)<(vs.length:Int):=by omega
   obtain ⟨p,hp⟩:∃ x,vs[j]?=some x:=⟨_,zge (by omega)⟩
   obtain ⟨q1,q2⟩:=hall j p hp
   obtain ⟨p1,e1,g1⟩:=(Rd.h (hA.ext he)).row zk0 hp
   have l1:=(g1 st (Rd.h (hA.ext he))).1
   obtain ⟨s4,e4,a4,x4,_⟩:=zbP (st:=st) (he.ll hll) (r:=[.string ⟨#[]⟩,.int .i64 0,.int .i64 0]) (zdp (zaG p)) (n:=3) rfl rfl rfl
   have he4:=he.trans x4
   obtain ⟨p6,e6,l6⟩:=strRg (hN.ext he4) q1
   obtain ⟨p10,e10,l10⟩:=intRg (hK.ext he4) q2
   have k0:s4.ld st.next 0=some (.string (mkS p.nm)):=a4.ld
   have k1:s4.ld st.next 1=some (.int .i64 p.x):=a4.ld
   have hq1:eqT (mkS p.nm) (mkS p.nm)=true:=by rw [zdD];simp
   have hw:=wrapJ (j:=j) (by omega)
   obtain ⟨st',ih⟩:=zjO names nums nv kv av vs hz base hll hN hK hA hall k (j+1) s4 (by omega) he4
   refine ⟨st',zbJ _ _ _ _ _ st ?_⟩
   simp only [zbr,zdt hlt,zct,e1,zob,l1,e4,k0,zab,e6,l6,hq1,znt,zcf,k1,zac,e10,l10,decide_true,hw]
   exact ih
theorem uparseValues_ok [Sym] {st:SS} (hg:Gd st) (hll:st.lim≤st.next) (dir:ByteArray) (hs:dir.size≤9223372036854775807) (names:List ByteArray) (nums:List Int) (hns:∀ f∈names,f.size≤9223372036854775807) (nv kv:Value) (hN:Rg st nv (rowsF strRow names) 1 names.length) (hK:Rg st kv (rowsF intRow nums) 1 nums.length):
  ∃ st',cc 4 [.string dir,nv,kv] st=some (.bool true,st'):=by
 obtain ⟨n1,hn1,ha⟩:=zk5 hg
 have hn:=hN.lenI
 have hk:=hK.lenI
 obtain ⟨n2,hn2,cw⟩:=zkp dir hs (st.adv n1)
 cases hdir:isW (bl dir) with
 | false=>
   rw [hdir] at cw
   refine ⟨(st.adv n1).adv n2,zaR dir nv kv st ?_⟩
   simp only [zaN,ha,zob,zai,znt,zcf,cw,znf,zct]
 | true=>
 rw [hdir] at cw
 by_cases h20:(20:Int)<(names.length:Int)
 ·refine ⟨(st.adv n1).adv n2,zaR dir nv kv st ?_⟩
  simp only [zaN,ha,zob,zai,znt,zcf,cw,hn,zdt h20,zct]
 by_cases hnf:(nums.length:Int)<(names.length:Int)
 ·refine ⟨(st.adv n1).adv n2,zaR dir nv kv st ?_⟩
  simp only [zaN,ha,zob,zai,znt,zcf,cw,hn,zdf h20,hk,zdt hnf,zct]
 have e2:Ext st ((st.adv n1).adv n2):=((Ext.refl st).adv hn1).adv hn2
 have hls:dir.size≤24:=by have:=(zcJ.1 hdir).2.2;rwa [zaV] at this
 have y9:zaq ⟨#[32,46,32]⟩ dir=some (mkS (zaw (zbf dir []))):=by
  have:=zfa (a:=[32,46,32]) (b:=bl dir) (by rw [zaV];simp;omega)
  rw [ze7] at this
  have e:zaw (zbf dir [])=[32,46,32]++bl dir:=by
   show [32]++([46]++([32]++(bl dir++[])))=_
   simp
  rw [e];exact this
 obtain ⟨s11,x11,hloop⟩:=zkq dir hdir names nums hns (by omega) (by omega) nv kv ((st.adv n1).adv n2) (hN.ext e2) (hK.ext e2) names.length 0 [] ((st.adv n1).adv n2) (by omega) (.refl _) ⟨rfl,(fun i x h=>by cases h),(fun x h=>by cases h)⟩
 have b0:Nat.beq 0 0=true:=rfl
 have b1:Nat.beq 1 0=false:=rfl
 rcases hloop with hloop | ⟨l,hi,hloop⟩
 ·have hloop':zaa 7 [.string dir,nv,kv,.string (mkS (zaw (zbf dir []))),nv,.int .i64 names.length,.int .i64 0] ((st.adv n1).adv n2)=_:=hloop
  refine ⟨s11,zaR dir nv kv st ?_⟩
  simp only [zaN,ha,zob,zai,znt,zcf,cw,hn,zdf h20,hk,zdf hnf,y9,zab]
  rw [hloop',zob]
  simp only [b1,zcf,zgz,zob,zai]
 have hloop':zaa 7 [.string dir,nv,kv,.string (mkS (zaw (zbf dir []))),nv,.int .i64 names.length,.int .i64 0] ((st.adv n1).adv n2)=_:=hloop
 have e11:Ext st s11:=e2.trans x11
 have hlen:=zjN hdir hi.ok
 have hl20:=hi.len
 obtain ⟨vs,r1,r2⟩:=zmZ dir (l:=l) (zcr (zaw (zbf dir l))) rfl hi.ok
 have hpar:=zmc (mv_sep dir hdir _ hi.ok) r1 (by unfold zbf;exact List.cons_ne_nil _ _)
 have hparse:=zjH (hg.ext e11) (e11.ll hll) (mkS (zaw (zbf dir l))) (by simp;omega)
 rw [zdm,hpar] at hparse
 obtain ⟨v,s16,c16,x16,hl16⟩:=hparse
 obtain ⟨s21,e21,a21,x21,_⟩:=zbP (st:=s16) (x16.ll (e11.ll hll)) (r:=[.int .i64 0,.int .i64 0]) (v:=zcv (0,0)) (row:=[.int .i64 0,.int .i64 0]) (n:=2) rfl rfl rfl rfl
 obtain ⟨av,pv,h1,h2,h3⟩:=(hl16.ext x21).one
 obtain ⟨p,g1,g2,g3⟩:=h1.load (j:=0) (by omega) (by omega) (row:=lnRow (⟨1,[],bl dir,vs,[]⟩,av,pv)) rfl rfl
 have m2:s21.ld p.1 (p.2+2)=some (.string (mkS (bl dir))):=g3 2 (by omega)
 have m3:s21.ld p.1 (p.2+3)=some av:=g3 3 (by omega)
 have m4:s21.ld p.1 (p.2+4)=some pv:=g3 4 (by omega)
 rw [ze7] at m2
 have e21':Ext st s21:=(e11.trans x16).trans x21
 have hvl:vs.length=names.length:=by
  have:=congrArg List.length r2
  rw [List.length_map] at this
  omega
 have hall:∀ (j:Nat) p,vs[j]?=some p→names[j]?=some (mkS p.nm)∧nums[j]?=some p.x:=fun j p hp=>by
  have hm:(vs.map vlV)[j]?=some (vlV p):=by rw [List.getElem?_map,hp];rfl
  rw [r2] at hm
  exact hi.at' j _ hm
 obtain ⟨s34,c34⟩:=zjO names nums nv kv av vs (by omega) s21 (e21'.ll hll) (hN.ext e21') (hK.ext e21') h2 hall vs.length 0 s21 (by omega) (.refl _)
 have c34':zaa 27 [nv,kv,av,.int .i64 vs.length,.int .i64 0] s21=_:=c34
 have c16':cc 8 [.string (mkS (zaw (zbf dir l)))] s11=some (.tuple #[v,zcv (0,0),.int .i64 0],s16):=c16
 have hlv:(lenV v).bind (asI .i64)=some 1:=by rw [h1.len];rfl
 have hla:(lenV av).bind (asI .i64)=some (vs.length:Int):=by rw [h2.len];rfl
 have hlp:(lenV pv).bind (asI .i64)=some 0:=by rw [h3.len];rfl
 have hq1:eqT dir dir=true:=by rw [zdD];simp
 have hq3:decide ((vs.length:Int)=(names.length:Int))=true:=zdt (by omega)
 refine ⟨s34,zaR dir nv kv st ?_⟩
 simp only [zaN,ha,zob,zai,znt,zcf,cw,hn,zdf h20,hk,zdf hnf,y9,zab]
 rw [hloop',zob]
 simp only [b0,zct,zgz,zgs,zob,zab]
 rw [c16',zob]
 simp only [zao,List.getElem?_toArray,zgz,zgs,zob,zac,e21,decide_true,znt,zcf,hlv,g1,m2,zab,hq1,m3,m4,hlp,hla,hn,hq3]
 rw [c34',zob]
 rfl
end Go.Proofs.YtifploedaacedaaDoorE
