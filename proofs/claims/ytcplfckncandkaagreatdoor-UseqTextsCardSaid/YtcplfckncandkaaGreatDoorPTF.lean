/- Parts of the proof of UseqTexts, packed by a program: an evaluator over the given code, functions as plain texts, their laws. -/
import Derived.ChangeSame
import Derived.Test.YtcplfckncandkaaGreatDoorPTE
set_option linter.unusedVariables false
set_option linter.unusedSimpArgs false
namespace Go.Proofs.YtcplfckncandkaaGreatDoorE
set_option maxRecDepth 100000
open Go Go.E Go.Proofs
def zf3:List UInt8:=[46,101,110,116,114,121,32,102,101,116,99,104,10,46,101,110,116,114,121,32,111,112,101,114,97,110,100,10,46,101,110,116,114,121,32,98,114,97,110,99,104,10,46,101,110,116,114,121,32,102,97,117,108,116,10,46,101,110,116,114,121,32,105,110,116,101,114,114,117,112,116,10,102,101,116,99,104,58,32,115,101,113,61,106,109,112,32,116,111,61,111,112,101,114,97,110,100,10,111,112,101,114,97,110,100,58,32,115,101,113,61,101,110,100,10,98,114,97,110,99,104,58,32,115,101,113,61,101,110,100,10,102,97,117,108,116,58,32,115,101,113,61,114,101,116,10,105,110,116,101,114,114,117,112,116,58,32,115,101,113,61,101,110,100,10]
theorem zru [Sym] {st:SS} (hg:Gd st) (hl:st.lim≤st.next) (text:ByteArray) (steps:List Step5) {tv:Value} (hT:Rg st tv (rowsF stepRow steps) 5 steps.length):∃ s',cc 3 [.string text,tv] st=some (.bool true,s'):=by
 obtain ⟨n,hn,c1⟩:=zxQ st hg
 have x1:Ext st (st.adv n):=(Ext.refl _).adv hn
 have q3:=hT.lenI
 have early:∀ z,zbr cc zd8 text tv st=some (.bool true,z)→∃ s',cc 3 [.string text,tv] st=some (.bool true,s'):=fun z h=>⟨z,zhj _ _ st h⟩
 by_cases h1:(2048:Int)<(text.size:Int)
 ·refine early (st.adv n) ?_
  simp only [zbr]
  rw [c1,zob]
  simp only [zob,zaf,znt,zcf,zdt h1,zct]
 by_cases h2:(200:Int)<(steps.length:Int)
 ·refine early (st.adv n) ?_
  simp only [zbr]
  rw [c1,zob]
  simp only [zob,zaf,znt,zcf,zdf h1,q3,zdt h2,zct]
 have hpl:zf3.length≤1000:=by decide+kernel
 have hbl:(bl text).length=text.size:=zaR text
 have y4:zlp (mkS zf3) text=some (mkS (zf3++bl text)):=by
  have:=cat_ok (a:=zf3) (b:=bl text) (by omega)
  rwa [zuz] at this
 have y4':zlp ⟨#[46,101,110,116,114,121,32,102,101,116,99,104,10,46,101,110,116,114,121,32,111,112,101,114,97,110,100,10,46,101,110,116,114,121,32,98,114,97,110,99,104,10,46,101,110,116,114,121,32,102,97,117,108,116,10,46,101,110,116,114,121,32,105,110,116,101,114,114,117,112,116,10,102,101,116,99,104,58,32,115,101,113,61,106,109,112,32,116,111,61,111,112,101,114,97,110,100,10,111,112,101,114,97,110,100,58,32,115,101,113,61,101,110,100,10,98,114,97,110,99,104,58,32,115,101,113,61,101,110,100,10,102,97,117,108,116,58,32,115,101,113,61,114,101,116,10,105,110,116,101,114,114,117,112,116,58,32,115,101,113,61,101,110,100,10]⟩ text=some (mkS (zf3++bl text)):=y4
 have htl:(zf3++bl text).length≤65536:=by rw [List.length_append];omega
 have ha:=zvn (hg.ext x1) (x1.ll hl) (mkS (zf3++bl text)) (by rw [zbD];exact htl)
 rw [zbN] at ha
 have t0:∀ (a b c:Value),zao (.tuple #[a,b,c]) 0=some a:=fun _ _ _=>rfl
 have t1:∀ (a b c:Value),zao (.tuple #[a,b,c]) 1=some b:=fun _ _ _=>rfl
 have t2:∀ (a b c:Value),zao (.tuple #[a,b,c]) 2=some c:=fun _ _ _=>rfl
 cases hr:zkW (zf3++bl text) with
 | error e=>
   rw [hr] at ha
   obtain ⟨s5,c5,x5⟩:=ha
   obtain ⟨s7,s8,e7,e8,a8,x8,n8⟩:=zpg (x5.ll (x1.ll hl)) (wv:=.slice none 0 0) (ev:=.slice none 0 0) rfl rfl e
   have h40:decide ((4:Int)=0)=false:=rfl
   refine early s8 ?_
   simp only [zbr]
   rw [c1,zob]
   simp only [zob,zaf,znt,zcf,zdf h1,q3,zdf h2,y4',zad]
   rw [c5,zob]
   simp only [t0,t1,t2,zob,zaa]
   rw [e7,zob,e8,zob]
   simp only [h40,znf,zct]
 | ok r=>
   obtain ⟨ws,es⟩:=r
   rw [hr] at ha
   obtain ⟨hwd,hwl⟩:=zsx hr
   have hnm:=ztV (by omega) hr
   obtain ⟨s5,wv,ev,c5,x5,o1,o2⟩:=ha
   obtain ⟨s7,s8,e7,e8,a8,x8,n8⟩:=zpg (x5.ll (x1.ll hl)) o1.cell.2 o2.cell.2 (0,0)
   have hx8:=(x1.trans x5).trans x8
   have o1':Rg s8 wv (rowsF uRow (toU ws)) 1 (toU ws).length:=by rw [← pk_u hwd,zsF];exact (o1.ext x8).rg
   have o2':Rg s8 ev (rowsF zaJ es) 2 es.length:=(o2.ext x8).rg
   obtain ⟨s14,c14⟩:=zxR hnm (hg.ext hx8) (hx8.ll hl) (zvy hwd) o1' o2' steps (by omega) (hT.ext hx8)
   have l13:s8.ldN s5.next 0 2=some (zbL wv ev):=a8.ldN rfl
   refine early s14 ?_
   simp only [zbr]
   rw [c1,zob]
   simp only [zob,zaf,znt,zcf,zdf h1,q3,zdf h2,y4',zad]
   rw [c5,zob]
   simp only [t0,t1,t2,zob,zaa]
   rw [e7,zob,e8,zob]
   simp only [decide_true,znt,zcf]
   rw [l13,zob,c14,zob]
   rfl
end Go.Proofs.YtcplfckncandkaaGreatDoorE
namespace Go.Proofs.YtcplfckncandkaaGreatDoorE
open Go Go.E Go.Proofs
theorem arg_row {H:Type} {enc:TypeId×Value→H} {P:Program} {W:World} {spare:Nat→Bool} {held:Bool} {α:Type} {f:α→List Value} {ok:α→Prop} {t e d:Nat} {ks:List CK} {v:Value} {dd:DataW H} {p:List MemPlace} (id g:Nat) (hg:∃ arr T fr,W.heap[g]?=some (.cells arr T fr)) (ht:P.underlying t=some (.slice e)) (hk:zib P d e=some ks) (hc:P.cellsOf e=ks.length) (hz:0<ks.length)
  (hty:∀ r,Cks ks r→∃ s,r=f s∧ok s) (hfl:∀ s,(f s).all zbu=true) (hval:Value.okWide P W .any 0 t v) (h:DataW.Trod enc P W 0 spare held t v dd p):
  ∃ (l:List α) (av:Value) (pl:Pl),(∀ s∈l,ok s)∧Tv id l.length av∧(∃ obj,W.heap[pl.b]?=some obj∧∀ [Sym] (β:Emb),OR β pl obj (.table (l.flatMap f)))∧∀ [Sym] (β:Emb),β id=some pl→VR β av v:=by
 obtain ⟨l,h1,h2⟩:=zuy (f:=f) ht hk hc hz hty hval h
 have hf:∀ x∈l.flatMap f,zbu x=true:=fun x hx=>by
  obtain ⟨s,_,hs⟩:=List.mem_flatMap.1 hx
  exact List.all_eq_true.1 (hfl s) x hs
 rcases h2 with ⟨rfl,rfl⟩ | ⟨b,off,cap,rfl,h3,h4,arr,T,fr,hh,h5⟩
 ·obtain ⟨arr,T,fr,hh⟩:=hg
  exact ⟨[],.slice none 0 0,⟨g,0,0,0⟩,h1,.inl ⟨rfl,rfl⟩,⟨_,hh,fun β=>⟨rfl,arr,T,fr,rfl,fun j x hx=>by cases hx⟩⟩,fun β _=>.slice0⟩
 ·refine ⟨l,.slice (some ⟨id,0,none⟩) l.length cap,⟨b,off,0,0⟩,h1,.inr ⟨cap,rfl,h3,h4⟩,⟨_,hh,fun β=>⟨rfl,arr,T,fr,rfl,fun j x hx=>⟨x,h5 j x hx,zcS (hf x (zmg hx))⟩⟩⟩,fun β hb=>?_⟩
  exact .slice (p:=⟨b,off,0,0⟩) hb h3 (zlr _) (.inr rfl) (.inl rfl)
abbrev W12:={ w:List Int//w.length=12 }
def row12 (w:W12):List Value:=w.1.map (.int .i64)
theorem flat_i (w:W12):(row12 w).all zbu=true:=by
 rw [List.all_eq_true]
 intro x hx
 obtain ⟨n,_,rfl⟩:=List.mem_map.1 hx
 rfl
noncomputable def stP (C:List Value):SS:=⟨zeq ((12,.table C)::zeR),12+1,12+1⟩
theorem zvD (C:List Value):stP C=(st0.new (.table C)).ro (12+1):=rfl
theorem gdP (C:List Value):Gd (stP C):=by
 rw [zvD]
 exact (gd0.ext ((Ext.refl st0).new _)).ro
theorem stP_F (C:List Value):(stP C).mem.get 12=some (.table C):=by
 rw [zvD]
 exact SS.new_get (st:=st0)
def plP (p:Pl):Nat→Pl:=fun i=>if i=12 then p else ⟨i,0,0,0⟩
theorem err_cells {W:World} {laid:List (String×DataW Unit)} (h:laidMet Tryz.prog laid W) (h4:∃ nm d,("strconv.ErrSyntax",DataW.iface nm d)∈laid):∃ arr T fr,W.heap[5]?=some (.cells arr T fr):=by
 obtain ⟨nm4,d4,m4⟩:=h4
 obtain ⟨a4,u4,c4⟩:=zkq h m4 (g:=5) (t:=167) (by kernel_rfl) (by kernel_rfl) Tryz.underlying167
 unfold World.cell? at c4
 simp only at c4
 split at c4
 ·rename_i arr T fr hh;exact ⟨_,_,_,hh⟩
 all_goals cases c4
theorem law_at1 {f:Nat} {fn:Func} (hf:Lk0.func f=some (f,fn)) {W:World} {laid:List (String×DataW Unit)} (h:laidMet Tryz.prog laid W) (h4:∃ nm d,("strconv.ErrSyntax",DataW.iface nm d)∈laid) (h5:∃ nm d,("strconv.ErrRange",DataW.iface nm d)∈laid)
  (hF:("camshaft/uword.fields",laidF)∈laid) (hS:("strings.asciiSpace",laidS)∈laid)
  {C:List Value} {p:Pl} (oC:∃ obj,W.heap[p.b]?=some obj∧∀ [Sym] (β:Emb),OR β p obj (.table C))
  {args args':List Value} (hargs:∀ [Sym] (β:Emb),β 12=some p→VRs β args args') (hlaw:∀ [Sym],∃ st',cc f args (stP C)=some (.bool true,st')):
  Calls Tryz.prog f args'.toArray W fun e W'=>e=.returned (.bool true)∧RowKit.Below W.heap.size W W':=by
 obtain ⟨nm4,d4,m4⟩:=h4
 obtain ⟨nm5,d5,m5⟩:=h5
 obtain ⟨a4,u4,c4⟩:=zkq h m4 (g:=5) (t:=167) (by kernel_rfl) (by kernel_rfl) Tryz.underlying167
 obtain ⟨a5,u5,c5⟩:=zkq h m5 (g:=6) (t:=167) (by kernel_rfl) (by kernel_rfl) Tryz.underlying167
 letI:Sym:=symE a4 u4 a5 u5
 have hE:ErrSym:=⟨⟨a4,u4,rfl⟩,⟨a5,u5,rfl⟩⟩
 obtain ⟨oF,f1,f2⟩:=zsV h hF (g:=0) (kk:=.i64) (by kernel_rfl) (by kernel_rfl) Tryz.underlying123 Tryz.underlying122 (by kernel_rfl) rfl rfl rfl Tryz.underlying9 Tryz.underlying3 rfl rfl (by kernel_rfl) (by kernel_rfl) _ (by simp [zb1]) rfl
 obtain ⟨oS,s1,s2⟩:=zua h hS (g:=2) (kk:=.u8) (by kernel_rfl) (by kernel_rfl) Tryz.underlying187 Tryz.underlying5 (by kernel_rfl) _ rfl
 obtain ⟨st',hl⟩:=hlaw
 have hX:(plP p) 12=p:=by unfold plP;rw [if_pos rfl]
 have hO:∀ x∈zeR,(plP p) x.1=⟨x.1,0,0,0⟩:=fun x hx=>by
  have:=ztO x hx
  unfold plP;rw [if_neg (by omega)]
 have b1:embB ((12,.table C)::zeR) (plP p) 12=some p:=by rw [zsd (by simp),hX]
 have hT:∀ x∈zeR,∃ obj,W.heap[((plP p) x.1).b]?=some obj∧OR (embB ((12,.table C)::zeR) (plP p)) ((plP p) x.1) obj x.2:=fun x hx=>by
  rw [hO x hx]
  simp only [zeR,List.mem_cons,List.not_mem_nil,or_false] at hx
  rcases hx with rfl | rfl | rfl | rfl
  ·exact zux (i:=5) c4
  ·exact zux (i:=6) c5
  ·exact ⟨oF,f1,f2 _⟩
  ·exact ⟨oS,s1,s2 _⟩
 refine zxa zai (zxc hE) hf (l:=(12,.table C)::zeR) (nx:=12+1) (pl:=plP p) hl rfl (hargs _ b1) (fun x hx=>?_) (fun x hx=>?_) (fun g hg=>?_) (fun x hx=>?_)
 ·rcases List.mem_cons.1 hx with rfl | hx
  ·simp only [hX];exact ⟨oC.choose,oC.choose_spec.1,oC.choose_spec.2 _⟩
  ·exact hT x hx
 ·rcases List.mem_cons.1 hx with rfl | hx
  ·exact ⟨_,rfl⟩
  ·simp only [zeR,List.mem_cons,List.not_mem_nil,or_false] at hx
   rcases hx with rfl | rfl | rfl | rfl<;>exact ⟨_,rfl⟩
 ·have hm:=zvr g hg
  obtain ⟨x,hx,rfl⟩:=List.mem_map.1 hm
  refine ⟨by rw [List.map_cons];exact List.mem_cons_of_mem _ hm,by rw [hO x hx],by rw [hO x hx]⟩
 ·rcases List.mem_cons.1 hx with rfl | hx
  ·show 12<12+1;omega
  ·have:=ztO x hx;omega
end Go.Proofs.YtcplfckncandkaaGreatDoorE
namespace Go.Proofs.YtcplfckncandkaaGreatDoorE
open Go Go.E Go.Proofs Go.ChangeShapes
theorem stepRow_flat (x:Step5):(stepRow x).all zbu=true:=rfl
theorem step_ty (r:List Value) (h:Cks [.b,.i .i64,.b,.i .i64,.i .i64] r):∃ s,r=stepRow s∧True:=by
 cases r with
 | nil=>exact h.elim
 | cons x r=>
 obtain ⟨⟨b1,h1⟩,h⟩:=h
 cases r with
 | nil=>exact h.elim
 | cons x r=>
 obtain ⟨⟨n2,h2,_⟩,h⟩:=h
 cases r with
 | nil=>exact h.elim
 | cons x r=>
 obtain ⟨⟨b3,h3⟩,h⟩:=h
 cases r with
 | nil=>exact h.elim
 | cons x r=>
 obtain ⟨⟨n4,h4,_⟩,h⟩:=h
 cases r with
 | nil=>exact h.elim
 | cons x r=>
 obtain ⟨⟨n5,h5,_⟩,h⟩:=h
 cases r with
 | cons z r=>exact h.elim
 | nil=>exact ⟨⟨b1,n2,b3,n4,n5⟩,by unfold stepRow;rw [h1,h2,h3,h4,h5],trivial⟩
end Go.Proofs.YtcplfckncandkaaGreatDoorE
namespace Go.Proofs.YtcplfckncandkaaGreatDoorE
open Go Go.E Go.Proofs
theorem useqTexts_ok [Sym] {C:List Value} (hg:Gd (stP C)) (hll:(stP C).lim≤(stP C).next) (text:ByteArray) (hs:text.size≤9223372036854775807) (steps:List Step5) (tv:Value) (hT:Rg (stP C) tv (rowsF stepRow steps) 5 steps.length):∃ s',cc 3 [.string text,tv] (stP C)=some (.bool true,s'):=
 zru hg hll text steps hT
end Go.Proofs.YtcplfckncandkaaGreatDoorE
