/- Parts of the proof of UparseMakes, packed by a program: an evaluator over the given code, functions as plain texts, their laws. -/
import Derived.Test.YtifploedaacedaaDoorPMC
set_option linter.unusedVariables false
set_option linter.unusedSimpArgs false
namespace Go.Proofs.YtifploedaacedaaDoorE
set_option maxRecDepth 20000
open Go Go.E Go.Proofs
def zbR:LoopI:=⟨[(1,.any),(2,.any),(148,.any),(149,.int .i64),(150,.int .i64)],[(.exit 6,[]),(.ret,[(6,.bool)])]⟩
def zbS:LoopI:=⟨[(0,.str),(1,.any),(2,.any),(7,.str),(9,.str),(12,.str),(13,.int .i64),(43,.any),(44,.int .i64),(45,.int .i64)],[(.exit 4,[(0,.str),(1,.any),(2,.any),(7,.str),(9,.str),(12,.str),(43,.any),(44,.int .i64),(45,.int .i64)])]⟩
def zbT:LoopI:=⟨[(0,.str),(1,.any),(2,.any),(7,.str),(8,.int .i64),(9,.str),(43,.any),(44,.int .i64),(45,.int .i64),(69,.any),(70,.int .i64),(71,.int .i64)],[(.exit 2,[(0,.str),(1,.any),(2,.any),(7,.str),(8,.int .i64),(9,.str),(43,.any),(44,.int .i64),(45,.int .i64)]),(.ret,[(6,.bool)])]⟩
def zbY:LoopI:=⟨[(0,.str),(1,.any),(2,.any),(7,.str),(43,.any),(44,.int .i64),(45,.int .i64)],[(.exit 0,[(0,.str),(1,.any),(2,.any),(7,.str)]),(.ret,[(6,.bool)])]⟩
def zb4 (n:Nat):Option LoopI:=cond (Nat.beq n 7) (some zbY) (cond (Nat.beq n 12) (some zbT) (cond (Nat.beq n 19) (some zbS) (cond (Nat.beq n 28) (some zbR) (none))))
noncomputable def zaD (cf:zas) (lf:zah) (label':ByteArray) (fields':Value) (nums':Value) (st:SS):Option (Value×SS):=
 (cf 6 [] st).bind fun a=>
 ((some a.1).bind asB).bind fun b=>
 cond (!b) (
 some (.bool false,a.2)) (
 ((lenV fields').bind (asI .i64)).bind fun c=>
 cond (decide (20<c)) (
 some (.bool true,a.2)) (
 ((lenV fields').bind (asI .i64)).bind fun d=>
 cond (decide (d=0)) (
 some (.bool true,a.2)) (
 ((lenV nums').bind (asI .i64)).bind fun e=>
 ((lenV fields').bind (asI .i64)).bind fun f=>
 cond (decide (e<f)) (
 some (.bool true,a.2)) (
 (cf 7 [.string label'] a.2).bind fun g=>
 ((some g.1).bind asB).bind fun h=>
 cond (!h) (
 some (.bool true,g.2)) (
 (((zcp label' ⟨#[58]⟩).bind fun s=>some (.string s)).bind asS).bind fun i=>
 ((lenV fields').bind (asI .i64)).bind fun j=>
 (lf 7 [.string label',fields',nums',.string i,fields',.int .i64 j,.int .i64 0] g.2).bind fun k=>
 cond (Nat.beq k.1 0) (
 ((k.2.1[0]?).bind asS).bind fun l=>
 (k.2.1[1]?).bind fun m=>
 (k.2.1[2]?).bind fun n=>
 ((k.2.1[3]?).bind asS).bind fun o=>
 (cf 8 [.string o] k.2.2).bind fun p=>
 (zam p.1 0).bind fun q=>
 (zam p.1 1).bind fun r=>
 ((zam p.1 2).bind (asI .i64)).bind fun t=>
 let u:SS:=p.2.new (.cells [.int .i64 0,.int .i64 0] 0)
 (u.stV p.2.next 0 2 r).bind fun v=>
 cond (!(decide (t=0))) (
 some (.bool false,v)) (
 ((lenV q).bind (asI .i64)).bind fun w=>
 cond (!(decide (w=1))) (
 some (.bool false,v)) (
 (zay q 0 5).bind fun x=>
 ((v.ld x.1 (x.2+1)).bind asS).bind fun y=>
 cond (!(eqT y l)) (
 some (.bool false,v)) (
 (zay q 0 5).bind fun z=>
 ((v.ld z.1 (z.2+2)).bind asS).bind fun A=>
 cond (!(eqT A ⟨#[]⟩)) (
 some (.bool false,v)) (
 (zay q 0 5).bind fun B=>
 (v.ld B.1 (B.2+4)).bind fun C=>
 ((lenV C).bind (asI .i64)).bind fun D=>
 ((lenV m).bind (asI .i64)).bind fun E=>
 cond (!(decide (D=E))) (
 some (.bool false,v)) (
 (zay q 0 5).bind fun F=>
 (v.ld F.1 (F.2+4)).bind fun G=>
 ((lenV G).bind (asI .i64)).bind fun H=>
 (lf 28 [m,n,G,.int .i64 H,.int .i64 0] v).bind fun I=>
 cond (Nat.beq I.1 0) (
 some (.bool true,I.2.2)) (
 ((I.2.1[0]?).bind asB).bind fun J=>
 some (.bool J,I.2.2)))))))) (
 ((k.2.1[0]?).bind asB).bind fun K=>
 some (.bool K,k.2.2)))))))
noncomputable abbrev zaa:zah:=lS Tryd.prog Lk0 Tryd.f3 zb4
theorem zdG:Lk0.func 3=some (3,Tryd.f3):=by kernel_rfl
theorem zaH [Sym] (label':ByteArray) (fields':Value) (nums':Value) (st:SS) {r:Value×SS} (h:zaD cc zaa label' fields' nums' st=some r):cc 3 [.string label',fields',nums'] st=some r:=
 zao (li:=zb4) zaq zaz zdG rfl (fun _=>rfl) (.trans (by kernel_rfl) h)
noncomputable def zaA (cf:zas) (lf:zah) (label':ByteArray) (fields':Value) (nums':Value) (s':ByteArray) (t43':Value) (t44':Int) (t45':Int) (st:SS):Option (Nat×List Value×SS):=
 cond (decide (t45'<t44')) (
 (zay t43' t45' 1).bind fun a=>
 ((st.ld a.1 a.2).bind asS).bind fun b=>
 (cf 7 [.string b] st).bind fun c=>
 ((some c.1).bind asB).bind fun d=>
 cond (!d) (
 some (1,[.bool true],c.2)) (
 (zay nums' t45' 1).bind fun e=>
 ((c.2.ld e.1 e.2).bind (asI .i64)).bind fun f=>
 cond (decide (f<0)) (
 some (1,[.bool true],c.2)) (
 (zay nums' t45' 1).bind fun g=>
 ((c.2.ld g.1 g.2).bind (asI .i64)).bind fun h=>
 cond (decide (2147483647<h)) (
 some (1,[.bool true],c.2)) (
 (c.2.resl fields' 1 0 t45').bind fun i=>
 ((lenV i).bind (asI .i64)).bind fun j=>
 (lf 12 [.string label',fields',nums',.string s',.int .i64 t45',.string b,t43',.int .i64 t44',.int .i64 t45',i,.int .i64 j,.int .i64 0] c.2).bind fun k=>
 cond (Nat.beq k.1 0) (
 ((k.2.1[0]?).bind asS).bind fun l=>
 (k.2.1[1]?).bind fun m=>
 (k.2.1[2]?).bind fun n=>
 ((k.2.1[3]?).bind asS).bind fun o=>
 ((k.2.1[4]?).bind (asI .i64)).bind fun p=>
 ((k.2.1[5]?).bind asS).bind fun q=>
 (k.2.1[6]?).bind fun r=>
 ((k.2.1[7]?).bind (asI .i64)).bind fun t=>
 ((k.2.1[8]?).bind (asI .i64)).bind fun u=>
 (zay n p 1).bind fun v=>
 ((k.2.2.ld v.1 v.2).bind (asI .i64)).bind fun w=>
 (lf 19 [.string l,m,n,.string o,.string q,.string ⟨#[]⟩,.int .i64 w,r,.int .i64 t,.int .i64 u] k.2.2).bind fun x=>
 ((x.2.1[0]?).bind asS).bind fun y=>
 (x.2.1[1]?).bind fun z=>
 (x.2.1[2]?).bind fun A=>
 ((x.2.1[3]?).bind asS).bind fun B=>
 ((x.2.1[4]?).bind asS).bind fun C=>
 ((x.2.1[5]?).bind asS).bind fun D=>
 (x.2.1[6]?).bind fun E=>
 ((x.2.1[7]?).bind (asI .i64)).bind fun F=>
 ((x.2.1[8]?).bind (asI .i64)).bind fun G=>
 (((zcp B ⟨#[32]⟩).bind fun s=>some (.string s)).bind asS).bind fun H=>
 (((zcp H C).bind fun s=>some (.string s)).bind asS).bind fun I=>
 (((zcp I ⟨#[61]⟩).bind fun s=>some (.string s)).bind asS).bind fun J=>
 (((zcp J D).bind fun s=>some (.string s)).bind asS).bind fun K=>
 let L:Int:=IntKind.wrap .i64 (G+1)
 lf 7 [.string y,z,A,.string K,E,.int .i64 F,.int .i64 L] x.2.2) (
 ((k.2.1[0]?).bind asB).bind fun M=>
 some (1,[.bool M],k.2.2)))))) (
 some (0,[.string label',fields',nums',.string s'],st))
theorem zaB [Sym] (label':ByteArray) (fields':Value) (nums':Value) (s':ByteArray) (t43':Value) (t44':Int) (t45':Int) (st:SS) {r:Nat×List Value×SS} (h:zaA cc zaa label' fields' nums' s' t43' t44' t45' st=some r):zaa 7 [.string label',fields',nums',.string s',t43',.int .i64 t44',.int .i64 t45'] st=some r:=
 zaZ zaq zaz (key:=7) (I:=zbY) rfl (by kernel_rfl) (by kernel_rfl) rfl rfl (.trans (by kernel_rfl) h)
noncomputable def za0 (cf:zas) (lf:zah) (label':ByteArray) (fields':Value) (nums':Value) (s':ByteArray) (i':Int) (f':ByteArray) (t43':Value) (t44':Int) (t45':Int) (t69':Value) (t70':Int) (t71':Int) (st:SS):Option (Nat×List Value×SS):=
 cond (decide (t71'<t70')) (
 (zay t69' t71' 1).bind fun a=>
 ((st.ld a.1 a.2).bind asS).bind fun b=>
 cond (eqT f' b) (
 some (1,[.bool true],st)) (
 let c:Int:=IntKind.wrap .i64 (t71'+1)
 lf 12 [.string label',fields',nums',.string s',.int .i64 i',.string f',t43',.int .i64 t44',.int .i64 t45',t69',.int .i64 t70',.int .i64 c] st)) (
 some (0,[.string label',fields',nums',.string s',.int .i64 i',.string f',t43',.int .i64 t44',.int .i64 t45'],st))
theorem zbI [Sym] (label':ByteArray) (fields':Value) (nums':Value) (s':ByteArray) (i':Int) (f':ByteArray) (t43':Value) (t44':Int) (t45':Int) (t69':Value) (t70':Int) (t71':Int) (st:SS) {r:Nat×List Value×SS} (h:za0 cc zaa label' fields' nums' s' i' f' t43' t44' t45' t69' t70' t71' st=some r):zaa 12 [.string label',fields',nums',.string s',.int .i64 i',.string f',t43',.int .i64 t44',.int .i64 t45',t69',.int .i64 t70',.int .i64 t71'] st=some r:=
 zaZ zaq zaz (key:=12) (I:=zbT) rfl (by kernel_rfl) (by kernel_rfl) rfl rfl (.trans (by kernel_rfl) h)
noncomputable def za1 (cf:zas) (lf:zah) (label':ByteArray) (fields':Value) (nums':Value) (s':ByteArray) (f':ByteArray) (n':ByteArray) (k':Int) (t43':Value) (t44':Int) (t45':Int) (st:SS):Option (Nat×List Value×SS):=
 cond (decide (0<k')) (
 let n1:Int:=Int.tmod k' 10
 let n2:Int:=IntKind.wrap .i64 (48+n1)
 let n3:Int:=IntKind.wrap .u8 n2
 let st4:SS:=st.new (.cells ([.int .u8 n3]) 1)
 (st4.bytes (.slice (some ⟨st.next,0,none⟩) 1 1)).bind fun s5=>
 (((zcp s5 n').bind fun s=>some (.string s)).bind asS).bind fun s6=>
 let n7:Int:=IntKind.wrap .i64 (Int.tdiv k' 10)
 lf 19 [.string label',fields',nums',.string s',.string f',.string s6,.int .i64 n7,t43',.int .i64 t44',.int .i64 t45'] st4) (
 cond (eqT n' ⟨#[]⟩) (
 let n8:Int:=Int.tmod k' 10
 let n9:Int:=IntKind.wrap .i64 (48+n8)
 let n10:Int:=IntKind.wrap .u8 n9
 let st11:SS:=st.new (.cells ([.int .u8 n10]) 1)
 (st11.bytes (.slice (some ⟨st.next,0,none⟩) 1 1)).bind fun s12=>
 (((zcp s12 n').bind fun s=>some (.string s)).bind asS).bind fun s13=>
 let n14:Int:=IntKind.wrap .i64 (Int.tdiv k' 10)
 lf 19 [.string label',fields',nums',.string s',.string f',.string s13,.int .i64 n14,t43',.int .i64 t44',.int .i64 t45'] st11) (
 some (0,[.string label',fields',nums',.string s',.string f',.string n',t43',.int .i64 t44',.int .i64 t45'],st)))
theorem zbJ [Sym] (label':ByteArray) (fields':Value) (nums':Value) (s':ByteArray) (f':ByteArray) (n':ByteArray) (k':Int) (t43':Value) (t44':Int) (t45':Int) (st:SS) {r:Nat×List Value×SS} (h:za1 cc zaa label' fields' nums' s' f' n' k' t43' t44' t45' st=some r):zaa 19 [.string label',fields',nums',.string s',.string f',.string n',.int .i64 k',t43',.int .i64 t44',.int .i64 t45'] st=some r:=
 zaZ zaq zaz (key:=19) (I:=zbS) rfl (by kernel_rfl) (by kernel_rfl) rfl rfl (.trans (by kernel_rfl) h)
noncomputable def zbo (cf:zas) (lf:zah) (fields':Value) (nums':Value) (t148':Value) (t149':Int) (t150':Int) (st:SS):Option (Nat×List Value×SS):=
 cond (decide (t150'<t149')) (
 (zay t148' t150' 5).bind fun a=>
 (st.ldN a.1 a.2 5).bind fun b=>
 let c:SS:=st.new (.cells [.string ⟨#[]⟩,.int .i64 0,.string ⟨#[]⟩,.int .i64 0,.int .i64 0] 0)
 (c.stV st.next 0 5 b).bind fun d=>
 ((d.ld st.next 0).bind asS).bind fun e=>
 (zay fields' t150' 1).bind fun f=>
 ((d.ld f.1 f.2).bind asS).bind fun g=>
 cond (!(eqT e g)) (
 some (1,[.bool false],d)) (
 ((d.ld st.next 2).bind asS).bind fun h=>
 cond (!(eqT h ⟨#[]⟩)) (
 some (1,[.bool false],d)) (
 ((d.ld st.next 3).bind (asI .i64)).bind fun i=>
 (zay nums' t150' 1).bind fun j=>
 ((d.ld j.1 j.2).bind (asI .i64)).bind fun k=>
 cond (!(decide (i=k))) (
 some (1,[.bool false],d)) (
 let l:Int:=IntKind.wrap .i64 (t150'+1)
 lf 28 [fields',nums',t148',.int .i64 t149',.int .i64 l] d)))) (
 some (0,[],st))
theorem zbK [Sym] (fields':Value) (nums':Value) (t148':Value) (t149':Int) (t150':Int) (st:SS) {r:Nat×List Value×SS} (h:zbo cc zaa fields' nums' t148' t149' t150' st=some r):zaa 28 [fields',nums',t148',.int .i64 t149',.int .i64 t150'] st=some r:=
 zaZ zaq zaz (key:=28) (I:=zbR) rfl (by kernel_rfl) (by kernel_rfl) rfl rfl (.trans (by kernel_rfl) h)
noncomputable def zdw (cf:zas) (lf:zah) (st:SS):Option (Value×SS):=
 (cf 8 [.string ⟨#[103,111,58,32,97,108,117,61,97,100,100,32,116,111,61,103,111,43,49]⟩] (st.ro st.next)).bind fun a=>
 (zam a.1 0).bind fun b=>
 (zam a.1 1).bind fun c=>
 ((zam a.1 2).bind (asI .i64)).bind fun d=>
 let e:SS:=a.2.new (.cells [.int .i64 0,.int .i64 0] 0)
 (e.stV a.2.next 0 2 c).bind fun f=>
 cond (decide (d=0)) (
 ((lenV b).bind (asI .i64)).bind fun g=>
 cond (decide (g=1)) (
 (zay b 0 5).bind fun h=>
 ((f.ld h.1 (h.2+1)).bind asS).bind fun i=>
 cond (eqT i ⟨#[103,111]⟩) (
 (zay b 0 5).bind fun j=>
 (f.ld j.1 (j.2+4)).bind fun k=>
 ((lenV k).bind (asI .i64)).bind fun l=>
 cond (decide (l=2)) (
 (zay b 0 5).bind fun m=>
 (f.ld m.1 (m.2+4)).bind fun n=>
 (zay n 1 5).bind fun o=>
 (f.ldN o.1 (o.2+2) 3).bind fun p=>
 (((eqA Tryd.prog Lk0 37 p (.agg #[.string ⟨#[103,111]⟩,.int .i64 1,.int .i64 16])).bind fun r=>some (.bool r)).bind asB).bind fun q=>
 some (.bool q,st.adv f.next)) (
 some (.bool false,st.adv f.next))) (
 some (.bool false,st.adv f.next))) (
 some (.bool false,st.adv f.next))) (
 some (.bool false,st.adv f.next))
noncomputable abbrev zeZ:zah:=lS Tryd.prog Lk0 Tryd.f6 zaV
theorem ze0:Lk0.func 6=some (6,Tryd.f6):=by kernel_rfl
theorem ze1 [Sym] (st:SS) {r:Value×SS} (h:zdw cc zeZ st=some r):cc 6 [] st=some r:=
 zao (li:=zaV) zaq zaz ze0 rfl (fun _=>rfl) (.trans (by kernel_rfl) h)
def zcZ:LoopI:=⟨[(0,.str),(3,.int .i64)],[(.exit 0,[(0,.str)]),(.ret,[(2,.bool)])]⟩
def zdi (n:Nat):Option LoopI:=cond (Nat.beq n 2) (some zcZ) (none)
noncomputable def zbU (cf:zas) (lf:zah) (s':ByteArray) (st:SS):Option (Value×SS):=
 (lf 2 [.string s',.int .i64 0] (st.ro st.next)).bind fun a=>
 cond (Nat.beq a.1 0) (
 ((a.2.1[0]?).bind asS).bind fun b=>
 cond (decide (0<(b.size:Int))) (
 some (.bool (decide ((b.size:Int)≤24)),st.adv a.2.2.next)) (
 some (.bool false,st.adv a.2.2.next))) (
 ((a.2.1[0]?).bind asB).bind fun c=>
 some (.bool c,st.adv a.2.2.next))
noncomputable abbrev zbj:zah:=lS Tryd.prog Lk0 Tryd.f7 zdi
theorem zfl:Lk0.func 7=some (7,Tryd.f7):=by kernel_rfl
theorem zfm [Sym] (s':ByteArray) (st:SS) {r:Value×SS} (h:zbU cc zbj s' st=some r):cc 7 [.string s'] st=some r:=
 zao (li:=zdi) zaq zaz zfl rfl (fun _=>rfl) (.trans (by kernel_rfl) h)
noncomputable def zbk (cf:zas) (lf:zah) (s':ByteArray) (i':Int) (st:SS):Option (Nat×List Value×SS):=
 cond (decide (i'<(s'.size:Int))) (
 ((zeT s' i').bind (asI .u8)).bind fun a=>
 cond (decide (a<97)) (
 some (1,[.bool false],st)) (
 ((zeT s' i').bind (asI .u8)).bind fun b=>
 cond (decide (122<b)) (
 some (1,[.bool false],st)) (
 let c:Int:=IntKind.wrap .i64 (i'+1)
 lf 2 [.string s',.int .i64 c] st))) (
 some (0,[.string s'],st))
theorem zcD [Sym] (s':ByteArray) (i':Int) (st:SS) {r:Nat×List Value×SS} (h:zbk cc zbj s' i' st=some r):zbj 2 [.string s',.int .i64 i'] st=some r:=
 zaZ zaq zaz (key:=2) (I:=zcZ) rfl (by kernel_rfl) (by kernel_rfl) rfl rfl (.trans (by kernel_rfl) h)
end Go.Proofs.YtifploedaacedaaDoorE
namespace Go.Proofs.YtifploedaacedaaDoorE
open Go Go.E Go.Proofs
theorem arg_row {H:Type} {enc:TypeId×Value→H} {P:Program} {W:World} {spare:Nat→Bool} {held:Bool} {α:Type} {f:α→List Value} {ok:α→Prop} {t e d:Nat} {ks:List CK} {v:Value} {dd:DataW H} {p:List MemPlace} (id g:Nat) (hg:∃ arr T fr,W.heap[g]?=some (.cells arr T fr)) (ht:P.underlying t=some (.slice e)) (hk:zev P d e=some ks) (hc:P.cellsOf e=ks.length) (hz:0<ks.length)
  (hty:∀ r,Cks ks r→∃ s,r=f s∧ok s) (hfl:∀ s,(f s).all zbq=true) (hval:Value.okWide P W .any 0 t v) (h:DataW.Trod enc P W 0 spare held t v dd p):
  ∃ (l:List α) (av:Value) (pl:Pl),(∀ s∈l,ok s)∧Tv id l.length av∧(∃ obj,W.heap[pl.b]?=some obj∧∀ [Sym] (β:Emb),OR β pl obj (.table (l.flatMap f)))∧∀ [Sym] (β:Emb),β id=some pl→VR β av v:=by
 obtain ⟨l,h1,h2⟩:=zlJ (f:=f) ht hk hc hz hty hval h
 have hf:∀ x∈l.flatMap f,zbq x=true:=fun x hx=>by
  obtain ⟨s,_,hs⟩:=List.mem_flatMap.1 hx
  exact List.all_eq_true.1 (hfl s) x hs
 rcases h2 with ⟨rfl,rfl⟩ | ⟨b,off,cap,rfl,h3,h4,arr,T,fr,hh,h5⟩
 ·obtain ⟨arr,T,fr,hh⟩:=hg
  exact ⟨[],.slice none 0 0,⟨g,0,0,0⟩,h1,.inl ⟨rfl,rfl⟩,⟨_,hh,fun β=>⟨rfl,arr,T,fr,rfl,fun j x hx=>by cases hx⟩⟩,fun β _=>.slice0⟩
 ·refine ⟨l,.slice (some ⟨id,0,none⟩) l.length cap,⟨b,off,0,0⟩,h1,.inr ⟨cap,rfl,h3,h4⟩,⟨_,hh,fun β=>⟨rfl,arr,T,fr,rfl,fun j x hx=>⟨x,h5 j x hx,zbA (hf x (zmg hx))⟩⟩⟩,fun β hb=>?_⟩
  exact .slice (p:=⟨b,off,0,0⟩) hb h3 (zlr _) (.inr rfl) (.inl rfl)
def strRow (b:ByteArray):List Value:=[.string b]
def intRow (n:Int):List Value:=[.int .i64 n]
theorem strRow_len (b:ByteArray):(strRow b).length=1:=rfl
theorem intRow_len (n:Int):(intRow n).length=1:=rfl
theorem strs_ty (r:List Value) (h:Cks [.s] r):∃ s,r=strRow s∧s.size≤9223372036854775807:=by
 cases r with
 | nil=>exact h.elim
 | cons x r=>
   cases r with
   | nil=>
     obtain ⟨⟨s,h1,h2⟩,_⟩:=h
     refine ⟨s,by rw [h1];rfl,?_⟩
     unfold maxLen at h2
     omega
   | cons y r=>exact h.2.elim
theorem ints_ty (r:List Value) (h:Cks [.i .i64] r):∃ s,r=intRow s∧True:=by
 cases r with
 | nil=>exact h.elim
 | cons x r=>
   cases r with
   | nil=>
     obtain ⟨⟨s,h1,h2⟩,_⟩:=h
     exact ⟨s,by rw [h1];rfl,trivial⟩
   | cons y r=>exact h.2.elim
noncomputable def zc6 (F G:List Value):List (Nat×AObj):=[(12,.table F),(12+1,.table G),(4,.table [.chan (some 4)]),(5,.table [.chan (some 5)])]
noncomputable def stP (F G:List Value):SS:=⟨zcz (zc6 F G),12+2,12+2⟩
theorem gdP (F G:List Value):Gd (stP F G):=⟨by simp [stP,zcz,zc6,PT.get_upd],by simp [stP,zcz,zc6,PT.get_upd],by show 12≤12+2;omega⟩
theorem stP_F (F G:List Value):(stP F G).mem.get 12=some (.table F):=by simp [stP,zcz,zc6,PT.get_upd]
theorem stP_G (F G:List Value):(stP F G).mem.get (12+1)=some (.table G):=by simp [stP,zcz,zc6,PT.get_upd]
def plP (p q:Pl):Nat→Pl:=fun i=>if i=12 then p else if i=12+1 then q else ⟨i,0,0,0⟩
abbrev symE (a4:TypeId) (u4:Value) (a5:TypeId) (u5:Value):Sym where
 v i:=if i=4 then .iface a4 u4 else .iface a5 u5
 ok i:=by
  refine .inr (.inr ?_)
  split<;>exact ⟨_,_,rfl⟩
theorem err_cells {W:World} {laid:List (String×DataW Unit)} (h:laidMet Tryd.prog laid W) (h4:∃ nm d,("strconv.ErrSyntax",DataW.iface nm d)∈laid):∃ arr T fr,W.heap[4]?=some (.cells arr T fr):=by
 obtain ⟨nm4,d4,m4⟩:=h4
 obtain ⟨a4,u4,c4⟩:=zfG h m4 (g:=4) (t:=118) (by kernel_rfl) (by kernel_rfl) Tryd.underlying118
 unfold World.cell? at c4
 simp only at c4
 split at c4
 ·rename_i arr T fr hh;exact ⟨_,_,_,hh⟩
 all_goals cases c4
theorem law_at2 {f:Nat} {fn:Func} (hf:Lk0.func f=some (f,fn)) {W:World} {laid:List (String×DataW Unit)} (h:laidMet Tryd.prog laid W) (h4:∃ nm d,("strconv.ErrSyntax",DataW.iface nm d)∈laid) (h5:∃ nm d,("strconv.ErrRange",DataW.iface nm d)∈laid)
  {F G:List Value} {p q:Pl} (oF:∃ obj,W.heap[p.b]?=some obj∧∀ [Sym] (β:Emb),OR β p obj (.table F)) (oG:∃ obj,W.heap[q.b]?=some obj∧∀ [Sym] (β:Emb),OR β q obj (.table G))
  {args args':List Value} (hargs:∀ [Sym] (β:Emb),β 12=some p→β (12+1)=some q→VRs β args args') (hlaw:∀ [Sym],∃ st',cc f args (stP F G)=some (.bool true,st')):
  Calls Tryd.prog f args'.toArray W fun e W'=>e=.returned (.bool true)∧RowKit.Below W.heap.size W W':=by
 obtain ⟨nm4,d4,m4⟩:=h4
 obtain ⟨nm5,d5,m5⟩:=h5
 obtain ⟨a4,u4,c4⟩:=zfG h m4 (g:=4) (t:=118) (by kernel_rfl) (by kernel_rfl) Tryd.underlying118
 obtain ⟨a5,u5,c5⟩:=zfG h m5 (g:=5) (t:=118) (by kernel_rfl) (by kernel_rfl) Tryd.underlying118
 letI:Sym:=symE a4 u4 a5 u5
 have hE:ErrSym:=⟨⟨a4,u4,rfl⟩,⟨a5,u5,rfl⟩⟩
 obtain ⟨st',hl⟩:=hlaw
 have hX:(plP p q) 12=p:=by unfold plP;rw [if_pos rfl]
 have hY:(plP p q) (12+1)=q:=by unfold plP;rw [if_neg (by omega),if_pos rfl]
 have h4':(plP p q) 4=⟨4,0,0,0⟩:=by unfold plP;rw [if_neg (by omega),if_neg (by omega)]
 have h5':(plP p q) 5=⟨5,0,0,0⟩:=by unfold plP;rw [if_neg (by omega),if_neg (by omega)]
 have b1:embB (zc6 F G) (plP p q) 12=some p:=by rw [ziv (by simp [zc6]),hX]
 have b2:embB (zc6 F G) (plP p q) (12+1)=some q:=by rw [ziv (by simp [zc6]),hY]
 refine zno zaq (znq hE) hf (l:=zc6 F G) (nx:=12+2) (pl:=plP p q) hl rfl (hargs _ b1 b2) (fun x hx=>?_) (fun x hx=>?_) (fun g hg=>?_) (fun x hx=>?_)
 ·simp only [zc6,List.mem_cons,List.not_mem_nil,or_false] at hx
  rcases hx with rfl | rfl | rfl | rfl
  ·simp only [hX];exact ⟨oF.choose,oF.choose_spec.1,oF.choose_spec.2 _⟩
  ·simp only [hY];exact ⟨oG.choose,oG.choose_spec.1,oG.choose_spec.2 _⟩
  ·simp only [h4'];exact zlI (i:=4) c4
  ·simp only [h5'];exact zlI (i:=5) c5
 ·simp only [zc6,List.mem_cons,List.not_mem_nil,or_false] at hx
  rcases hx with rfl | rfl | rfl | rfl<;>exact ⟨_,rfl⟩
 ·have hg':(Nat.beq g 4||Nat.beq g 5)=true:=hg
  simp only [Bool.or_eq_true,zal,decide_eq_true_eq] at hg'
  rcases hg' with rfl | rfl
  ·exact ⟨by simp [zc6],by rw [h4'],by rw [h4']⟩
  ·exact ⟨by simp [zc6],by rw [h5'],by rw [h5']⟩
 ·simp only [zc6,List.mem_cons,List.not_mem_nil,or_false] at hx
  rcases hx with rfl | rfl | rfl | rfl
  ·show 12<12+2;omega
  ·show 12+1<12+2;omega
  ·show 4<12+2;omega
  ·show 5<12+2;omega
end Go.Proofs.YtifploedaacedaaDoorE
namespace Go.Proofs.YtifploedaacedaaDoorE
open Go Go.E Go.Proofs
def RdH (st:SS) (v:Value) (c:List Value) (z n hi:Nat):Prop:=Rd st v c z n∧∀ j k l q,v=.slice (some ⟨j,k,none⟩) l q→j<hi
theorem Rd.h {st:SS} {v:Value} {c:List Value} {z n:Nat} (h:Rd st v c z n):RdH st v c z n st.next:=by
 refine ⟨h,fun j k l q hv=>?_⟩
 obtain ⟨_,⟨ev,_⟩ | ⟨i,cap,ev,_,hi⟩⟩:=h
 ·rw [ev] at hv;cases hv
 ·rw [ev] at hv;cases hv;exact hi
theorem RdH.row {α:Type} {f:α→List Value} {st:SS} {v:Value} {z hi:Nat} {l:List α} (hf:∀ x,(f x).length=z) (h:RdH st v (rowsF f l) z l.length hi) {j:Nat} {x:α} (hx:l[j]?=some x):∃ p,zay v (j:Int) z=some p∧∀ s:SS,RdH s v (rowsF f l) z l.length hi→s.ldN p.1 p.2 z=some (.agg (f x).toArray)∧∀ m,m<z→s.ld p.1 (p.2+m)=(f x)[m]?:=by
 have hlt:(j:Int)<(l.length:Int):=by have:=(List.getElem?_eq_some_iff.1 hx).1;omega
 obtain ⟨p,a1,_,_⟩:=h.1.load (j:=(j:Int)) (by omega) hlt (zeP hf l j x hx) (hf x)
 refine ⟨p,a1,fun s hs=>?_⟩
 obtain ⟨q,b1,b2,b3⟩:=hs.1.load (j:=(j:Int)) (by omega) hlt (zeP hf l j x hx) (hf x)
 rw [a1] at b1
 cases b1
 exact ⟨b2,b3⟩
theorem zm1:zh9 (bl ⟨#[103,111,58,32,97,108,117,61,97,100,100,32,116,111,61,103,111,43,49]⟩)=.ok [⟨1,[103,111],[],[],[⟨[97,108,117],5,⟨[97,100,100],0,9⟩⟩,⟨[116,111],13,⟨[103,111],1,16⟩⟩]⟩]:=by kernel_rfl
theorem eq_val (s s':ByteArray) (a b a' b':Int):eqA Tryd.prog Lk0 37 (.agg #[.string s,.int .i64 a,.int .i64 b]) (.agg #[.string s',.int .i64 a',.int .i64 b'])=some (eqT s s'&&(decide (a=a')&&(decide (b=b')&&true))):=by kernel_rfl
theorem zeD.one {st:SS} {v:Value} {x:PLine} (h:zeD st v [x]):∃ av pv,Rd st v (lnRow (x,av,pv)) 5 1∧Rd st av (rowsF zaN x.args) 3 x.args.length∧Rd st pv (rowsF zaQ x.prs) 5 x.prs.length:=by
 obtain ⟨its,a,b,c⟩:=h
 cases its with
 | nil=>simp at a
 | cons y r=>
   cases r with
   | cons z r=>simp at a
   | nil=>
     obtain ⟨y1,av,pv⟩:=y
     have e:y1=x:=by simpa using a
     subst e
     have:=c (y1,av,pv) (by simp)
     exact ⟨av,pv,by simpa [rowsF] using b,this.1,this.2⟩
theorem zk6 [Sym] {st:SS} (hg:Gd st):∃ n,st.next≤n∧cc 6 [] st=some (.bool true,st.adv n):=by
 have h:=zjH (st:=st.ro st.next) hg.ro (zlr _) ⟨#[103,111,58,32,97,108,117,61,97,100,100,32,116,111,61,103,111,43,49]⟩ (by decide)
 rw [zm1] at h
 obtain ⟨v,s1,c1,x1,hl1⟩:=h
 obtain ⟨s6,e6,a6,x6,_⟩:=zbM (st:=s1) (x1.ll (zlr _)) (r:=[.int .i64 0,.int .i64 0]) (v:=zcw (0,0)) (row:=[.int .i64 0,.int .i64 0]) (n:=2) rfl rfl rfl rfl
 obtain ⟨av,pv,h1,h2,h3⟩:=(hl1.ext x6).one
 obtain ⟨p,b1,b2,b3⟩:=h1.load (j:=0) (by omega) (by omega) (row:=lnRow (⟨1,[103,111],[],[],[⟨[97,108,117],5,⟨[97,100,100],0,9⟩⟩,⟨[116,111],13,⟨[103,111],1,16⟩⟩]⟩,av,pv)) rfl rfl
 obtain ⟨q,g1,g2⟩:=(Rd.h h3).row zgx (j:=1) (x:=⟨[116,111],13,⟨[103,111],1,16⟩⟩) rfl
 have g1':zay pv 1 5=some q:=g1
 obtain ⟨g3,g4⟩:=g2 s6 (Rd.h h3)
 have m1:s6.ld p.1 (p.2+1)=some (.string ⟨#[103,111]⟩):=b3 1 (by omega)
 have m4:s6.ld p.1 (p.2+4)=some pv:=b3 4 (by omega)
 have hlv:(lenV v).bind (asI .i64)=some 1:=by rw [h1.len];rfl
 have hlp:(lenV pv).bind (asI .i64)=some 2:=by rw [h3.len];rfl
 have hN:s6.ldN q.1 (q.2+2) 3=some (.agg #[.string ⟨#[103,111]⟩,.int .i64 1,.int .i64 16]):=by
  obtain ⟨hA,hB⟩:=h3
  rcases hB with ⟨rfl,hz⟩ | ⟨i,cap,rfl,⟨z',hm⟩,hi⟩
  ·cases hz
  ·have:q=(i,5):=by
    have:zay (.slice (some ⟨i,0,none⟩) 2 cap) 1 5=some (i,0+5):=rfl
    have h':some q=some (i,0+5):=g1'.symm.trans this
    injection h'
   subst this
   rw [SS.ldN_cells hm]
   rfl
 have c1':cc 8 [.string ⟨#[103,111,58,32,97,108,117,61,97,100,100,32,116,111,61,103,111,43,49]⟩] (st.ro st.next)=some (.tuple #[v,zcw (0,0),.int .i64 0],s1):=c1
 have hq1:eqT ⟨#[103,111]⟩ ⟨#[103,111]⟩=true:=rfl
 have hnx:st.next≤s6.next:=by have:=x1.next;have:=x6.next;simp at*;omega
 refine ⟨s6.next,hnx,ze1 st ?_⟩
 simp only [zdw,c1',zob,zam,List.getElem?_toArray,zgs,zgz,zaf,e6,decide_true,zct,hlv,b1,m1,zab,hq1,m4,hlp,g1',hN,eq_val,Bool.and_true,zai]
def zfU (x:UInt8):Bool:=decide (97≤x.toNat)&&decide (x.toNat≤122)
theorem zi3 [Sym] (s:ByteArray) (hs:s.size≤9223372036854775807):∀ (k i:Nat) (st:SS),s.size=k+i→
  zbj 2 [.string s,.int .i64 i] st=some (cond (((bl s).drop i).all zfU) (0,[.string s],st) (1,[.bool false],st))
 | 0,i,st,hk=>by
   have hlt:¬ (i:Int)<(s.size:Int):=by omega
   have hd:(bl s).drop i=[]:=by rw [List.drop_eq_nil_iff,zaT];omega
   refine zcD s _ st ?_
   simp only [zbk,zdf hlt,zcf,hd,List.all_nil,zct]
 | k+1,i,st,hk=>by
   have hlt:(i:Int)<(s.size:Int):=by omega
   obtain ⟨c,hb⟩:∃ c,(bl s)[i]?=some c:=⟨_,zge (by rw [zaT];omega)⟩
   have hix:(zeT s (i:Int)).bind (asI .u8)=some (c.toNat:Int):=by
    obtain ⟨b',hb',hidx⟩:=zlG (s:=s) (i:=(i:Int)) (by omega) (by omega)
    have:b'=c:=by simp at hb';rw [hb] at hb';cases hb';rfl
    subst this
    rw [hidx];simp
   rw [drop_cons hb,List.all_cons]
   refine zcD s _ st ?_
   have hw:IntKind.wrap .i64 ((i:Int)+1)=((i+1:Nat):Int):=by rw [wrap64 (by omega) (by omega)];omega
   have ih:=zi3 s hs k (i+1) st (by omega)
   by_cases h1:c.toNat<97
   ·have h1':(c.toNat:Int)<97:=by omega
    have:zfU c=false:=by unfold zfU;rw [zdf (by omega)];rfl
    simp only [zbk,zdt hlt,zct,hix,zob,zdt h1',this,Bool.false_and,zcf]
   ·have h1':¬ (c.toNat:Int)<97:=by omega
    by_cases h2:122<c.toNat
    ·have h2':(122:Int)<(c.toNat:Int):=by omega
     have:zfU c=false:=by unfold zfU;rw [zdf (p:=c.toNat≤122) (by omega),Bool.and_false]
     simp only [zbk,zdt hlt,zct,hix,zob,zdf h1',zdt h2',this,Bool.false_and,zcf]
    ·have h2':¬ (122:Int)<(c.toNat:Int):=by omega
     have:zfU c=true:=by unfold zfU;rw [zdt (by omega),zdt (by omega)];rfl
     simp only [zbk,zdt hlt,zct,hix,zob,zdf h1',zdf h2',this,Bool.true_and,zcf,hw]
     exact ih
theorem zkq [Sym] (s:ByteArray) (hs:s.size≤9223372036854775807) (st:SS):∃ n,st.next≤n∧cc 7 [.string s] st=some (.bool (isW (bl s)),st.adv n):=by
 have h:=zi3 s hs s.size 0 (st.ro st.next) rfl
 rw [List.drop_zero] at h
 refine ⟨st.next,zlr _,zfm s st ?_⟩
 have hq:isW (bl s)=((bl s).all zfU&&decide (0<s.size)&&decide (s.size≤24)):=by rw [← zaT];rfl
 have hb0:Nat.beq 0 0=true:=rfl
 have hb1:Nat.beq 1 0=false:=rfl
 have h':zbj 2 [.string s,.int .i64 0] (st.ro st.next)=_:=h
 cases ha:(bl s).all zfU with
 | false=>
   rw [ha] at h' hq
   simp only [zbU,h',zcf,zob,hb1,zgz,zai,hq,Bool.false_and]
   rfl
 | true=>
   rw [ha] at h' hq
   by_cases h0:0<s.size
   ·have h0':(0:Int)<(s.size:Int):=by omega
    have h24:decide ((s.size:Int)≤24)=decide (s.size≤24):=decide_eq_decide.2 (by omega)
    simp only [zbU,h',zct,zob,hb0,zgz,zab,zdt h0',h24,hq,zdt h0,Bool.true_and]
    rfl
   ·have h0':¬ (0:Int)<(s.size:Int):=by omega
    simp only [zbU,h',zct,zcf,zob,hb0,zgz,zab,zdf h0',hq,zdf h0,Bool.true_and,Bool.false_and]
    rfl
theorem zm2 {n:Nat} (hn:n≤2147483647):Int.tmod (n:Int) 10=((n%10:Nat):Int)∧IntKind.wrap .i64 (48+((n%10:Nat):Int))=((48+n%10:Nat):Int)∧IntKind.wrap .u8 (((48+n%10:Nat)):Int)=((zaL (n%10)).toNat:Int)∧IntKind.wrap .i64 (Int.tdiv (n:Int) 10)=((n/10:Nat):Int):=by
 have h10:=Nat.mod_lt n (show 0<10 by omega)
 refine ⟨by rw [Int.tmod_eq_emod_of_nonneg (by omega)];rfl,?_,?_,?_⟩
 ·rw [wrap64 (by omega) (by omega)];omega
 ·rw [ze8 (by omega) (by omega)]
  unfold zaL
  rw [UInt8.toNat_ofNat']
  omega
 ·have:Int.tdiv (n:Int) 10=((n/10:Nat):Int):=by rw [Int.tdiv_eq_ediv_of_nonneg (by omega)];rfl
  rw [this]
  exact wrap64 (by omega) (by omega)
theorem zmh (c:UInt8) (st:SS):(st.new (.cells [.int .u8 (c.toNat:Int)] 1)).bytes (.slice (some ⟨st.next,0,none⟩) 1 1)=some (mkS [c]):=
 zj3 (z:=1) SS.new_get rfl (by simp only [zdj];simp)
theorem zjM {R:Type} (F:ByteArray→Int→SS→Option R) (G:ByteArray→SS→Option R)
  (step:∀ (acc:List UInt8) (k:Nat) (st:SS) r,k≤2147483647→acc.length≤1099511627776→(0<k∨acc=[])→F (mkS (zaL (k%10)::acc)) ((k/10:Nat):Int) (st.new (.cells [.int .u8 ((zaL (k%10)).toNat:Int)] 1))=some r→F (mkS acc) (k:Int) st=some r)
  (fin:∀ (acc:List UInt8) (st:SS) r,acc≠[]→G (mkS acc) st=some r→F (mkS acc) 0 st=some r):
  ∀ (f k:Nat) (acc:List UInt8) (st:SS),k<f→(acc=[]→k+1<f)→k≤2147483647→acc.length+f≤1099511627776→∃ st',Ext st st'∧∀ r,G (mkS (zcu 10 zaL f k acc)) st'=some r→F (mkS acc) (k:Int) st=some r
 | 0,k,acc,st,h,_,_,_=>by omega
 | f+1,k,acc,st,h,h0,hk,hl=>by
   unfold zcu
   by_cases hc:k=0∧acc≠[]
   ·rw [if_pos hc]
    obtain ⟨rfl,ha⟩:=hc
    exact ⟨st,Ext.refl _,fun r hr=>fin acc st r ha hr⟩
   ·rw [if_neg hc]
    have hc':0<k∨acc=[]:=by
     by_cases ha:acc=[]
     ·exact .inr ha
     ·exact .inl (Nat.pos_of_ne_zero fun hk0=>hc ⟨hk0,ha⟩)
    have hlt:k/10<f:=by
     rcases hc' with h' | h'
     ·omega
     ·have:=h0 h';omega
    obtain ⟨st',x,hr⟩:=zjM F G step fin f (k/10) (zaL (k%10)::acc) (st.new (.cells [.int .u8 ((zaL (k%10)).toNat:Int)] 1)) hlt (fun h=>by cases h) (by omega) (by simp only [List.length_cons];omega)
    exact ⟨st',((Ext.refl st).new _).trans x,fun r h=>step acc k st r hk (by omega) hc' (hr r h)⟩
theorem znG {R:Type} (F:ByteArray→Int→SS→Option R) (G:ByteArray→SS→Option R)
  (step:∀ (acc:List UInt8) (k:Nat) (st:SS) r,k≤2147483647→acc.length≤1099511627776→(0<k∨acc=[])→F (mkS (zaL (k%10)::acc)) ((k/10:Nat):Int) (st.new (.cells [.int .u8 ((zaL (k%10)).toNat:Int)] 1))=some r→F (mkS acc) (k:Int) st=some r)
  (fin:∀ (acc:List UInt8) (st:SS) r,acc≠[]→G (mkS acc) st=some r→F (mkS acc) 0 st=some r) {k:Nat} (hk:k≤2147483647) (st:SS):∃ st',Ext st st'∧∀ r,G (mkS (zbe 10 zaL k)) st'=some r→F ⟨#[]⟩ (k:Int) st=some r:=
 zjM F G step fin (k+2) k [] st (by omega) (fun _=>by omega) hk (by simp only [List.length_nil];omega)
theorem Rg.at1 {α:Type} {f:α→List Value} {st:SS} {v:Value} {l:List α} {y:α→Value} (hf:∀ x,f x=[y x]) (h:Rg st v (rowsF f l) 1 l.length) {j:Nat} {x:α} (hx:l[j]?=some x):∃ p,zay v (j:Int) 1=some p∧st.ld p.1 p.2=some (y x):=by
 have hlt:(j:Int)<(l.length:Int):=by have:=(List.getElem?_eq_some_iff.1 hx).1;omega
 obtain ⟨p,a1,_,a3⟩:=h.load (j:=(j:Int)) (by omega) hlt (zeP (fun x=>by rw [hf x];rfl) l j x hx) (by rw [hf x];rfl)
 exact ⟨p,a1,a3 0 _ (by rw [hf x];rfl)⟩
theorem zk7 {st:SS} {v:Value} {l:List ByteArray} (h:Rg st v (rowsF strRow l) 1 l.length) {j:Nat} {x:ByteArray} (hx:l[j]?=some x):∃ p,zay v (j:Int) 1=some p∧st.ld p.1 p.2=some (.string x):=Rg.at1 (y:=Value.string) (fun _=>rfl) h hx
theorem intRg {st:SS} {v:Value} {l:List Int} (h:Rg st v (rowsF intRow l) 1 l.length) {j:Nat} {x:Int} (hx:l[j]?=some x):∃ p,zay v (j:Int) 1=some p∧st.ld p.1 p.2=some (.int .i64 x):=Rg.at1 (y:=Value.int .i64) (fun _=>rfl) h hx
theorem zk8 {j:Nat} (h:j≤1099511627776):IntKind.wrap .i64 ((j:Int)+1)=((j+1:Nat):Int):=zeA h
end Go.Proofs.YtifploedaacedaaDoorE
namespace Go.Proofs.YtifploedaacedaaDoorE
open Go Go.E Go.Proofs
theorem zmj [Sym] (a0 a1 a2 a3 a4 a6 a7 a8:Value) (s0 s3 s4:ByteArray) (i7 i8:Int) (ha0:a0=.string s0) (ha3:a3=.string s3) (ha4:a4=.string s4) (ha7:a7=.int .i64 i7) (ha8:a8=.int .i64 i8) {k:Nat} (hk:k≤2147483647) (st:SS):
  ∃ st',Ext st st'∧zaa 19 [a0,a1,a2,a3,a4,.string ⟨#[]⟩,.int .i64 k,a6,a7,a8] st=some (0,[a0,a1,a2,a3,a4,.string (mkS (zbe 10 zaL k)),a6,a7,a8],st'):=by
 subst ha0 ha3 ha4 ha7 ha8
 let F:ByteArray→Int→SS→Option (Nat×List Value×SS):=fun n k s=>zaa 19 [.string s0,a1,a2,.string s3,.string s4,.string n,.int .i64 k,a6,.int .i64 i7,.int .i64 i8] s
 let G:ByteArray→SS→Option (Nat×List Value×SS):=fun n s=>some (0,[.string s0,a1,a2,.string s3,.string s4,.string n,a6,.int .i64 i7,.int .i64 i8],s)
 suffices hh:∃ st',Ext st st'∧∀ r,G (mkS (zbe 10 zaL k)) st'=some r→F ⟨#[]⟩ (k:Int) st=some r by
  obtain ⟨st',x,h⟩:=hh
  exact ⟨st',x,h _ rfl⟩
 refine znG F G (fun acc k s r hk hl hc hr=>?_) (fun acc s r ha hr=>?_) hk st
 ·obtain ⟨d1,d2,d3,d4⟩:=zm2 hk
  have hby:=zmh (zaL (k%10)) s
  have hcat:zcp (mkS [zaL (k%10)]) (mkS acc)=some (mkS (zaL (k%10)::acc)):=zfc (a:=[zaL (k%10)]) (b:=acc) (by simp;omega)
  refine zbJ _ _ _ _ _ _ _ _ _ _ s ?_
  by_cases h0:0<k
  ·have h0':(0:Int)<(k:Int):=by omega
   simp only [za1,zdt h0',zct,d1,d2,d3,d4,hby,zob,hcat,zab]
   exact hr
  ·have h0':¬ (0:Int)<(k:Int):=by omega
   have ha:acc=[]:=hc.resolve_left h0
   subst ha
   have hq:eqT (mkS []) ⟨#[]⟩=true:=rfl
   simp only [za1,zdf h0',zcf,hq,zct,d1,d2,d3,d4,hby,zob,hcat,zab]
   exact hr
 ·refine zbJ _ _ _ _ _ _ _ _ _ _ s ?_
  have hq:eqT (mkS acc) ⟨#[]⟩=false:=(ziD acc).trans (zdf ha)
  have h0':¬ (0:Int)<0:=by omega
  simp only [za1,zdf h0',zcf,hq]
  exact hr
theorem zjN [Sym] (label f s:ByteArray) (fv nv tv v9:Value) (i' t44 t45:Int) (fl:List ByteArray) (st:SS) (h:Rg st v9 (rowsF strRow fl) 1 fl.length) (hsz:fl.length≤1000):∀ (k i:Nat),fl.length=k+i→
  zaa 12 [.string label,fv,nv,.string s,.int .i64 i',.string f,tv,.int .i64 t44,.int .i64 t45,v9,.int .i64 fl.length,.int .i64 i] st=
   some (cond ((fl.drop i).any fun g=>eqT f g) (1,[.bool true],st) (0,[.string label,fv,nv,.string s,.int .i64 i',.string f,tv,.int .i64 t44,.int .i64 t45],st))
 | 0,i,hk=>by
   have hlt:¬ (i:Int)<(fl.length:Int):=by omega
   have hd:fl.drop i=[]:=by rw [List.drop_eq_nil_iff];omega
   refine zbI _ _ _ _ _ _ _ _ _ _ _ _ st ?_
   simp only [za0,zdf hlt,zcf,hd,List.any_nil]
 | k+1,i,hk=>by
   have hlt:(i:Int)<(fl.length:Int):=by omega
   obtain ⟨x,hx⟩:∃ x,fl[i]?=some x:=⟨_,zge (by omega)⟩
   obtain ⟨p,e,l⟩:=zk7 h hx
   have hd:fl.drop i=x::fl.drop (i+1):=by
    rw [List.drop_eq_getElem_cons (by omega)]
    rw [zge (by omega)] at hx
    cases hx;rfl
   have ih:=zjN label f s fv nv tv v9 i' t44 t45 fl st h hsz k (i+1) (by omega)
   have hw:=zk8 (j:=i) (by omega)
   refine zbI _ _ _ _ _ _ _ _ _ _ _ _ st ?_
   rw [hd,List.any_cons]
   cases hq:eqT f x with
   | true=>simp only [za0,zdt hlt,zct,e,zob,l,zab,hq,Bool.true_or]
   | false=>
     simp only [za0,zdt hlt,zct,e,zob,l,zab,hq,zcf,hw,Bool.false_or]
     exact ih
def za5 (label:ByteArray) (l:List (List UInt8×Nat)):List Pc:=.word (bl label)::.sign 58::l.flatMap zcC
structure MkI (fields:List ByteArray) (nums:List Int) (j:Nat) (l:List (List UInt8×Nat)):Prop where
 len:l.length=j
 at':∀ (i:Nat) (x:List UInt8×Nat),l[i]?=some x→fields[i]?=some (mkS x.1)∧nums[i]?=some (x.2:Int)
 ok:∀ x∈l,isW x.1=true∧x.2≤2147483647
 nd:(l.map (·.1)).Nodup
theorem MkI.fields {fields:List ByteArray} {nums:List Int} {j:Nat} {l:List (List UInt8×Nat)} (h:MkI fields nums j l) (hj:j≤fields.length):fields.take j=l.map fun x=>mkS x.1:=by
 refine List.ext_getElem? fun i=>?_
 rw [List.getElem?_take,List.getElem?_map]
 by_cases hi:i<j
 ·rw [if_pos hi]
  have:i<l.length:=by rw [h.len];exact hi
  rw [zge this]
  exact (h.at' i _ (zge this)).1
 ·rw [if_neg hi,List.getElem?_eq_none (by have:=h.len;omega)];rfl
theorem zm3 {x:List UInt8×Nat} (h:isW x.1=true∧x.2≤2147483647):(zat (zcC x)).length≤36:=by
 have h1:=(zdF.1 h.1).2.2
 have h2:=zmV h.2
 have:zat (zcC x)=[32]++(x.1++([61]++(zbe 10 zaL x.2++[]))):=rfl
 rw [this]
 simp only [List.length_append,List.length_cons,List.length_nil]
 omega
theorem zjO {label:ByteArray} (hl:isW (bl label)=true):∀ {l:List (List UInt8×Nat)},(∀ x∈l,isW x.1=true∧x.2≤2147483647)→(zat (za5 label l)).length≤25+36*l.length:=by
 intro l h
 have h1:=(zdF.1 hl).2.2
 have key:∀ l:List (List UInt8×Nat),(∀ x∈l,isW x.1=true∧x.2≤2147483647)→(zat (l.flatMap zcC)).length≤36*l.length:=by
  intro l
  induction l with
  | nil=>intro _;exact zlr _
  | cons x l ih=>
    intro h
    rw [List.flatMap_cons,zgA,List.length_append,List.length_cons]
    have:=zm3 (h x (by simp))
    have:=ih fun y hy=>h y (by simp [hy])
    omega
 have:=key l h
 have e:zat (za5 label l)=bl label++([58]++zat (l.flatMap zcC)):=rfl
 rw [e]
 simp only [List.length_append,List.length_cons,List.length_nil]
 omega
theorem zi4 (label:ByteArray) (l:List (List UInt8×Nat)) (x:List UInt8×Nat):zat (za5 label (l++[x]))=zat (za5 label l)++[32]++x.1++[61]++zbe 10 zaL x.2:=by
 have:za5 label (l++[x])=za5 label l++zcC x:=by simp [za5,List.flatMap_append]
 rw [this,zgA]
 have:zat (zcC x)=[32]++(x.1++([61]++(zbe 10 zaL x.2++[]))):=rfl
 rw [this]
 simp
theorem zkr [Sym] (label:ByteArray) (hlab:isW (bl label)=true) (fields:List ByteArray) (nums:List Int) (hfs:∀ f∈fields,f.size≤9223372036854775807) (hf20:fields.length≤20) (hnf:fields.length≤nums.length) (fv nv:Value) (st0:SS) (hF:Rg st0 fv (rowsF strRow fields) 1 fields.length) (hN:Rg st0 nv (rowsF intRow nums) 1 nums.length):
  ∀ (k j:Nat) (l:List (List UInt8×Nat)) (st:SS),fields.length=k+j→Ext st0 st→MkI fields nums j l→∃ st',Ext st0 st'∧
   (zaa 7 [.string label,fv,nv,.string (mkS (zat (za5 label l))),fv,.int .i64 fields.length,.int .i64 j] st=some (1,[.bool true],st')∨
    ∃ l',MkI fields nums fields.length l'∧zaa 7 [.string label,fv,nv,.string (mkS (zat (za5 label l))),fv,.int .i64 fields.length,.int .i64 j] st=some (0,[.string label,fv,nv,.string (mkS (zat (za5 label l')))],st'))
 | 0,j,l,st,hk,he,hi=>by
   have hlt:¬ (j:Int)<(fields.length:Int):=by omega
   refine ⟨st,he,.inr ⟨l,by have:fields.length=j:=by omega
                            rw [this];exact hi,zaB _ _ _ _ _ _ _ st ?_⟩⟩
   simp only [zaA,zdf hlt,zcf]
 | k+1,j,l,st,hk,he,hi=>by
   have hlt:(j:Int)<(fields.length:Int):=by omega
   obtain ⟨f,hf⟩:∃ x,fields[j]?=some x:=⟨_,zge (by omega)⟩
   obtain ⟨n,hn⟩:∃ x,nums[j]?=some x:=⟨_,zge (by omega)⟩
   have hFs:=hF.ext he
   obtain ⟨p1,e1,l1⟩:=zk7 hFs hf
   obtain ⟨m,hm,c3⟩:=zkq f (hfs f (zmg hf)) st
   have he3:Ext st0 (st.adv m):=he.adv hm
   obtain ⟨p5,e5,l5⟩:=intRg (hN.ext he3) hn
   cases hwf:isW (bl f) with
   | false=>
     rw [hwf] at c3
     refine ⟨st.adv m,he3,.inl (zaB _ _ _ _ _ _ _ st ?_)⟩
     simp only [zaA,zdt hlt,zct,e1,zob,l1,zab,c3,zai,znf]
   | true=>
   rw [hwf] at c3
   by_cases h0:n<0
   ·refine ⟨st.adv m,he3,.inl (zaB _ _ _ _ _ _ _ st ?_)⟩
    simp only [zaA,zdt hlt,zct,e1,zob,l1,zab,c3,zai,znt,zcf,e5,l5,zaf,zdt h0]
   by_cases h1:2147483647<n
   ·refine ⟨st.adv m,he3,.inl (zaB _ _ _ _ _ _ _ st ?_)⟩
    simp only [zaA,zdt hlt,zct,e1,zob,l1,zab,c3,zai,znt,zcf,e5,l5,zaf,zdf h0,zdt h1]
   obtain ⟨v9,e9,r9⟩:=(hF.ext he3).resl (m:=j) (by omega)
   rw [zk5 strRow_len] at r9
   have hlen9:(fields.take j).length=j:=by rw [List.length_take];omega
   have r9':Rg (st.adv m) v9 (rowsF strRow (fields.take j)) 1 (fields.take j).length:=by rw [hlen9];exact r9
   have c11:=zjN label f (mkS (zat (za5 label l))) fv nv fv v9 j fields.length j (fields.take j) (st.adv m) r9' (by omega) (fields.take j).length 0 (by omega)
   rw [hlen9,List.drop_zero] at c11
   have hv9:(lenV v9).bind (asI .i64)=some (j:Int):=r9.lenI
   have b0:Nat.beq 0 0=true:=rfl
   have b1:Nat.beq 1 0=false:=rfl
   cases hag:(fields.take j).any fun g=>eqT f g with
   | true=>
     rw [hag] at c11
     simp only [zct] at c11
     have c11':zaa 12 [.string label,fv,nv,.string (mkS (zat (za5 label l))),.int .i64 j,.string f,fv,.int .i64 fields.length,.int .i64 j,v9,.int .i64 j,.int .i64 0] (st.adv m)=some (1,[.bool true],st.adv m):=c11
     refine ⟨st.adv m,he3,.inl (zaB _ _ _ _ _ _ _ st ?_)⟩
     simp only [zaA,zdt hlt,zct,e1,zob,l1,zab,c3,zai,znt,zcf,e5,l5,zaf,zdf h0,zdf h1,e9,hv9]
     rw [c11',zob]
     simp only [b1,zcf,zgz,zob,zai]
   | false=>
   rw [hag] at c11
   simp only [zcf] at c11
   have c11':zaa 12 [.string label,fv,nv,.string (mkS (zat (za5 label l))),.int .i64 j,.string f,fv,.int .i64 fields.length,.int .i64 j,v9,.int .i64 j,.int .i64 0] (st.adv m)=_:=c11
   obtain ⟨q,hq⟩:∃ q:Nat,n=(q:Int):=⟨n.toNat,by omega⟩
   subst hq
   have hq2:q≤2147483647:=by omega
   obtain ⟨s23,x23,c23⟩:=zmj (.string label) fv nv (.string (mkS (zat (za5 label l)))) (.string f) fv (.int .i64 fields.length) (.int .i64 j) label (mkS (zat (za5 label l))) f fields.length j rfl rfl rfl rfl rfl hq2 (st.adv m)
   have hi':MkI fields nums (j+1) (l++[(bl f,q)]):=by
    refine ⟨by rw [List.length_append,hi.len];rfl,fun i x hx=>?_,fun x hx=>?_,?_⟩
    ·by_cases hij:i<l.length
     ·rw [List.getElem?_append_left hij] at hx
      exact hi.at' i x hx
     ·rw [List.getElem?_append_right (by omega)] at hx
      have e0:i-l.length=0:=by
       apply Classical.byContradiction
       intro hne
       rw [List.getElem?_eq_none (by simp;omega)] at hx;cases hx
      rw [e0] at hx
      have:i=j:=by have:=hi.len;omega
      cases hx
      subst this
      exact ⟨by rw [zgl];exact hf,hn⟩
    ·rcases List.mem_append.1 hx with hx | hx
     ·exact hi.ok x hx
     ·have:x=(bl f,q):=by simpa using hx
      subst this
      exact ⟨hwf,hq2⟩
    ·rw [List.map_append,List.nodup_append]
     refine ⟨hi.nd,by simp,fun a ha b hb=>?_⟩
     have:b=bl f:=by simpa using hb
     subst this
     intro hab
     subst hab
     rw [List.any_eq_false] at hag
     obtain ⟨x,hx,hxe⟩:=List.mem_map.1 ha
     have hmem:mkS x.1∈fields.take j:=by
      rw [hi.fields (by omega)]
      exact List.mem_map.2 ⟨x,hx,rfl⟩
     refine hag _ hmem ?_
     rw [zew,zcV,hxe]
     simp
   have hlen:=zjO hlab hi'.ok
   have hl20:(l++[(bl f,q)]).length≤20:=by rw [hi'.len];omega
   rw [zi4] at hlen
   simp only [List.length_append,List.length_cons,List.length_nil] at hlen hl20
   obtain ⟨st',x',ih⟩:=zkr label hlab fields nums hfs hf20 hnf fv nv st0 hF hN k (j+1) (l++[(bl f,q)]) s23 (by omega) (he3.trans x23) hi'
   rw [zi4] at ih
   have y1:zcp (mkS (zat (za5 label l))) ⟨#[32]⟩=some (mkS (zat (za5 label l)++[32])):=zfc (b:=[32]) (by simp;omega)
   have y2:zcp (mkS (zat (za5 label l)++[32])) f=some (mkS (zat (za5 label l)++[32]++bl f)):=by
    have:=zfc (a:=zat (za5 label l)++[32]) (b:=bl f) (by simp only [List.length_append,List.length_cons,List.length_nil];omega)
    rwa [zgl] at this
   have y3:zcp (mkS (zat (za5 label l)++[32]++bl f)) ⟨#[61]⟩=some (mkS (zat (za5 label l)++[32]++bl f++[61])):=zfc (b:=[61]) (by simp only [List.length_append,List.length_cons,List.length_nil];omega)
   have y4:zcp (mkS (zat (za5 label l)++[32]++bl f++[61])) (mkS (zbe 10 zaL q))=some (mkS (zat (za5 label l)++[32]++bl f++[61]++zbe 10 zaL q)):=zfc (by simp only [List.length_append,List.length_cons,List.length_nil];omega)
   have hw:=zk8 (j:=j) (by omega)
   have step:∀ r,zaa 7 [.string label,fv,nv,.string (mkS (zat (za5 label l)++[32]++bl f++[61]++zbe 10 zaL q)),fv,.int .i64 fields.length,.int .i64 ((j+1:Nat):Int)] s23=some r→zaa 7 [.string label,fv,nv,.string (mkS (zat (za5 label l))),fv,.int .i64 fields.length,.int .i64 j] st=some r:=fun r hr=>by
    refine zaB _ _ _ _ _ _ _ st ?_
    simp only [zaA,zdt hlt,zct,e1,zob,l1,zab,c3,zai,znt,zcf,e5,l5,zaf,zdf h0,zdf h1,e9,hv9]
    rw [c11',zob]
    simp only [b0,zct,zgz,zgs,zob,zab,zaf,e5,l5]
    rw [c23,zob]
    simp only [zgz,zgs,zob,zab,zaf,y1,y2,y3,y4,hw]
    exact hr
   refine ⟨st',x',?_⟩
   rcases ih with ih | ⟨l',h1,h2⟩
   ·exact .inl (step _ ih)
   ·exact .inr ⟨l',h1,step _ h2⟩
end Go.Proofs.YtifploedaacedaaDoorE
namespace Go.Proofs.YtifploedaacedaaDoorE
open Go Go.E Go.Proofs
theorem zks:∀ (l:List (List UInt8×Nat)) (col:Nat),(zbv col (l.flatMap zcC)).length=3*l.length
 | [],col=>rfl
 | x::l,col=>by
   show (_::_::_::zbv _ (l.flatMap zcC)).length=_
   simp only [List.length_cons,zks l]
   omega
theorem zm4 (label:ByteArray) {x:List UInt8×Nat} {l:List (List UInt8×Nat)} (e:Tok) (he:e.kd=0) (hd:((x::l).map (·.1)).Nodup):∃ prs,readT (zbv 0 (za5 label (x::l))++[e])=.ok ⟨0,bl label,[],[],prs⟩∧prs.map prV=(x::l).map fun x=>(x.1,[],(x.2:Int)):=by
 obtain ⟨prs,h1,h2⟩:=zif e he (x::l) (zbv (0+(bl label).length+1) ((x::l).flatMap zcC)++[e]).length (0+(bl label).length+1) [] (by rw [List.length_append,zks];omega) hd (fun _ _ h=>by cases h)
 refine ⟨prs,?_,h2⟩
 show readT (⟨1,bl label,0,0+1⟩::⟨3,[58],0,0+(bl label).length+1⟩::(zbv (0+(bl label).length+1) ((x::l).flatMap zcC)++[e]))=_
 rw [zdS,if_pos ⟨rfl,rfl⟩]
 have hc:∃ r,zbv (0+(bl label).length+1) ((x::l).flatMap zcC)++[e]=⟨1,x.1,0,0+(bl label).length+1+1+1⟩::r:=⟨_,rfl⟩
 obtain ⟨r,hr⟩:=hc
 rw [hr] at h1 ⊢
 rw [zcJ,if_neg (by simp [zar]),h1]
theorem mk_sep (label:ByteArray) (hl:isW (bl label)=true) (l:List (List UInt8×Nat)) (h:∀ x∈l,isW x.1=true∧x.2≤2147483647):zgC (za5 label l):=by
 have key:∀ l:List (List UInt8×Nat),(∀ x∈l,isW x.1=true∧x.2≤2147483647)→zgC (l.flatMap zcC)∧zgB (l.flatMap zcC)=true:=by
  intro l
  induction l with
  | nil=>intro _;exact ⟨trivial,rfl⟩
  | cons x l ih=>
    intro h
    obtain ⟨h1,h2⟩:=h x (by simp)
    obtain ⟨h3,h4⟩:=ih fun y hy=>h y (by simp [hy])
    rw [List.flatMap_cons]
    exact ⟨⟨trivial,(fun h=>by cases h),h1,fun _=>rfl,by show (61:UInt8)∈_;simp,(fun h=>by cases h),h2,fun _=>h4,h3⟩,rfl⟩
 exact ⟨hl,fun _=>rfl,by show (58:UInt8)∈_;simp,(fun h=>by cases h),(key l h).1⟩
abbrev Zp5:List Value:=[.string ⟨#[]⟩,.int .i64 0,.string ⟨#[]⟩,.int .i64 0,.int .i64 0]
theorem zjP [Sym] (fields:List ByteArray) (nums:List Int) (fv nv pv:Value) (prs:List Pr) (hz:prs.length≤1000) (base:SS) (hll:base.lim≤base.next) (hF:Rg base fv (rowsF strRow fields) 1 fields.length) (hN:Rg base nv (rowsF intRow nums) 1 nums.length) (hP:Rd base pv (rowsF zaQ prs) 5 prs.length)
  (hall:∀ (j:Nat) p,prs[j]?=some p→fields[j]?=some (mkS p.fd)∧nums[j]?=some p.v.x∧p.v.nm=[]):∀ (k j:Nat) (st:SS),prs.length=k+j→Ext base st→∃ st',zaa 28 [fv,nv,pv,.int .i64 prs.length,.int .i64 j] st=some (0,[],st')
 | 0,j,st,hk,he=>by
   have hlt:¬ (j:Int)<(prs.length:Int):=by omega
   refine ⟨st,zbK _ _ _ _ _ st ?_⟩
   simp only [zbo,zdf hlt,zcf]
 | k+1,j,st,hk,he=>by
   have hlt:(j:Int)<(prs.length:Int):=by omega
   obtain ⟨p,hp⟩:∃ x,prs[j]?=some x:=⟨_,zge (by omega)⟩
   obtain ⟨q1,q2,q3⟩:=hall j p hp
   obtain ⟨p1,e1,g1⟩:=(Rd.h (hP.ext he)).row zgx hp
   have l1:=(g1 st (Rd.h (hP.ext he))).1
   obtain ⟨s4,e4,a4,x4,_⟩:=zbM (st:=st) (he.ll hll) (r:=Zp5) (zdq (zaQ p)) (n:=5) rfl rfl rfl
   have he4:=he.trans x4
   obtain ⟨p6,e6,l6⟩:=zk7 (hF.ext he4) q1
   obtain ⟨p10,e10,l10⟩:=intRg (hN.ext he4) q2
   have k0:s4.ld st.next 0=some (.string (mkS p.fd)):=a4.ld
   have k2:s4.ld st.next 2=some (.string (mkS p.v.nm)):=a4.ld
   have k3:s4.ld st.next 3=some (.int .i64 p.v.x):=a4.ld
   have hq1:eqT (mkS p.fd) (mkS p.fd)=true:=by rw [zew];simp
   have hq2:eqT (mkS p.v.nm) ⟨#[]⟩=true:=by rw [q3];rfl
   have hw:=zk8 (j:=j) (by omega)
   obtain ⟨st',ih⟩:=zjP fields nums fv nv pv prs hz base hll hF hN hP hall k (j+1) s4 (by omega) he4
   refine ⟨st',zbK _ _ _ _ _ st ?_⟩
   simp only [zbo,zdt hlt,zct,e1,zob,l1,e4,k0,zab,e6,l6,hq1,znt,zcf,k2,hq2,k3,zaf,e10,l10,decide_true,hw]
   exact ih
theorem uparseMakes_ok [Sym] {st:SS} (hg:Gd st) (hll:st.lim≤st.next) (label:ByteArray) (hs:label.size≤9223372036854775807) (fields:List ByteArray) (nums:List Int) (hfs:∀ f∈fields,f.size≤9223372036854775807) (fv nv:Value) (hF:Rg st fv (rowsF strRow fields) 1 fields.length) (hN:Rg st nv (rowsF intRow nums) 1 nums.length):
  ∃ st',cc 3 [.string label,fv,nv] st=some (.bool true,st'):=by
 obtain ⟨n1,hn1,ha⟩:=zk6 hg
 have hf:=hF.lenI
 have hn:=hN.lenI
 by_cases h20:(20:Int)<(fields.length:Int)
 ·refine ⟨st.adv n1,zaH label fv nv st ?_⟩
  simp only [zaD,ha,zob,zai,znt,zcf,hf,zdt h20,zct]
 by_cases h0:(fields.length:Int)=0
 ·refine ⟨st.adv n1,zaH label fv nv st ?_⟩
  simp only [zaD,ha,zob,zai,znt,zcf,hf,zdf h20,zdt h0,zct]
 by_cases hnf:(nums.length:Int)<(fields.length:Int)
 ·refine ⟨st.adv n1,zaH label fv nv st ?_⟩
  simp only [zaD,ha,zob,zai,znt,zcf,hf,zdf h20,zdf h0,hn,zdt hnf,zct]
 obtain ⟨n2,hn2,cw⟩:=zkq label hs (st.adv n1)
 cases hlab:isW (bl label) with
 | false=>
   rw [hlab] at cw
   refine ⟨(st.adv n1).adv n2,zaH label fv nv st ?_⟩
   simp only [zaD,ha,zob,zai,znt,zcf,hf,zdf h20,zdf h0,hn,zdf hnf,cw,znf,zct]
 | true=>
 rw [hlab] at cw
 have e2:Ext st ((st.adv n1).adv n2):=((Ext.refl st).adv hn1).adv hn2
 have hls:label.size≤24:=by have:=(zdF.1 hlab).2.2;rwa [zaT] at this
 have y9:zcp label ⟨#[58]⟩=some (mkS (zat (za5 label []))):=by
  have:=zfc (a:=bl label) (b:=[58]) (by rw [zaT];simp;omega)
  rwa [zgl] at this
 have hloop:=zkr label hlab fields nums hfs (by omega) (by omega) fv nv ((st.adv n1).adv n2) (hF.ext e2) (hN.ext e2) fields.length 0 [] ((st.adv n1).adv n2) (by omega) (.refl _) ⟨rfl,(fun i x h=>by cases h),(fun x h=>by cases h),List.nodup_nil⟩
 obtain ⟨s11,x11,hloop⟩:=hloop
 have b0:Nat.beq 0 0=true:=rfl
 have b1:Nat.beq 1 0=false:=rfl
 rcases hloop with hloop | ⟨l,hi,hloop⟩
 ·have hloop':zaa 7 [.string label,fv,nv,.string (mkS (zat (za5 label []))),fv,.int .i64 fields.length,.int .i64 0] ((st.adv n1).adv n2)=_:=hloop
  refine ⟨s11,zaH label fv nv st ?_⟩
  simp only [zaD,ha,zob,zai,znt,zcf,hf,zdf h20,zdf h0,hn,zdf hnf,cw,y9,zab,hloop',b1,zgz]
 have hloop':zaa 7 [.string label,fv,nv,.string (mkS (zat (za5 label []))),fv,.int .i64 fields.length,.int .i64 0] ((st.adv n1).adv n2)=_:=hloop
 have e11:Ext st s11:=e2.trans x11
 cases l with
 | nil=>have:=hi.len;simp only [List.length_nil] at this;omega
 | cons x l=>
 have hlen:=zjO hlab hi.ok
 have hl20:=hi.len
 simp only [List.length_cons] at hlen hl20
 obtain ⟨prs,r1,r2⟩:=zm4 label (x:=x) (l:=l) (zcs (zat (za5 label (x::l)))) rfl hi.nd
 have hpar:=zmf (mk_sep label hlab _ hi.ok) r1 (by unfold za5;exact List.cons_ne_nil _ _)
 have hparse:=zjH (hg.ext e11) (e11.ll hll) (mkS (zat (za5 label (x::l)))) (by simp;omega)
 rw [zcV,hpar] at hparse
 obtain ⟨v,s16,c16,x16,hl16⟩:=hparse
 obtain ⟨s21,e21,a21,x21,_⟩:=zbM (st:=s16) (x16.ll (e11.ll hll)) (r:=[.int .i64 0,.int .i64 0]) (v:=zcw (0,0)) (row:=[.int .i64 0,.int .i64 0]) (n:=2) rfl rfl rfl rfl
 obtain ⟨av,pv,h1,h2,h3⟩:=(hl16.ext x21).one
 obtain ⟨p,g1,g2,g3⟩:=h1.load (j:=0) (by omega) (by omega) (row:=lnRow (⟨1,bl label,[],[],prs⟩,av,pv)) rfl rfl
 have m1:s21.ld p.1 (p.2+1)=some (.string (mkS (bl label))):=g3 1 (by omega)
 have m2:s21.ld p.1 (p.2+2)=some (.string (mkS [])):=g3 2 (by omega)
 have m4:s21.ld p.1 (p.2+4)=some pv:=g3 4 (by omega)
 rw [zgl] at m1
 have e21':Ext st s21:=(e11.trans x16).trans x21
 have hpl:prs.length=fields.length:=by
  have:=congrArg List.length r2
  simp only [List.length_map,List.length_cons] at this
  omega
 have hall:∀ (j:Nat) p,prs[j]?=some p→fields[j]?=some (mkS p.fd)∧nums[j]?=some p.v.x∧p.v.nm=[]:=fun j p hp=>by
  have hj:=(List.getElem?_eq_some_iff.1 hp).1
  have hm:(prs.map prV)[j]?=some (prV p):=by rw [List.getElem?_map,hp];rfl
  rw [r2,List.getElem?_map] at hm
  cases hy:(x::l)[j]? with
  | none=>rw [hy] at hm;cases hm
  | some y=>
    rw [hy] at hm
    have hm':(y.1,([]:List UInt8),(y.2:Int))=(p.fd,p.v.nm,p.v.x):=by injection hm
    obtain ⟨f1,f2⟩:=hi.at' j y hy
    have q1:y.1=p.fd:=congrArg (·.1) hm'
    have q2:[]=p.v.nm:=congrArg (·.2.1) hm'
    have q3:(y.2:Int)=p.v.x:=congrArg (·.2.2) hm'
    exact ⟨by rw [← q1];exact f1,by rw [← q3];exact f2,q2.symm⟩
 obtain ⟨s34,c34⟩:=zjP fields nums fv nv pv prs (by omega) s21 (e21'.ll hll) (hF.ext e21') (hN.ext e21') h3 hall prs.length 0 s21 (by omega) (.refl _)
 have c34':zaa 28 [fv,nv,pv,.int .i64 prs.length,.int .i64 0] s21=_:=c34
 have c16':cc 8 [.string (mkS (zat (za5 label (x::l))))] s11=some (.tuple #[v,zcw (0,0),.int .i64 0],s16):=c16
 have hlv:(lenV v).bind (asI .i64)=some 1:=by rw [h1.len];rfl
 have hlp:(lenV pv).bind (asI .i64)=some (prs.length:Int):=by rw [h3.len];rfl
 have hq1:eqT label label=true:=by rw [zew];simp
 have hq2:eqT (mkS []) ⟨#[]⟩=true:=rfl
 have hq3:decide ((prs.length:Int)=(fields.length:Int))=true:=zdt (by omega)
 refine ⟨s34,zaH label fv nv st ?_⟩
 simp only [zaD,ha,zob,zai,znt,zcf,hf,zdf h20,zdf h0,hn,zdf hnf,cw,y9,zab]
 rw [hloop',zob]
 simp only [b0,zct,zgz,zgs,zob,zab]
 rw [c16',zob]
 simp only [zam,List.getElem?_toArray,zgz,zgs,zob,zaf,e21,decide_true,znt,zcf,hlv,g1,m1,zab,hq1,m2,hq2,m4,hlp,hf,hq3]
 rw [c34',zob]
 rfl
end Go.Proofs.YtifploedaacedaaDoorE
