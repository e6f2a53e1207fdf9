/- Parts of the proof of UseqRuns, packed by a program: an evaluator over the given code, functions as plain texts, their laws. -/
import Derived.ChangeSame
import Derived.Test.YtifploedaacedaaGreatDoorPRE
set_option linter.unusedVariables false
set_option linter.unusedSimpArgs false
namespace Go.Proofs.YtifploedaacedaaGreatDoorE
set_option maxRecDepth 1000000
open Go Go.E Go.Proofs
theorem zle [Sym] {base:SS} {B b:Nat} {ws:List Nat} {E:List Int} {q:Int×List Int×Bool} {s:SS} {i:Nat} (h:Sq base B b ws E q.1 q.2.1 s) (hi:i<3) (hq:inW ws q.1 q.2.1=true) (hn:(nx0 ws E q).2.2=false):
  ∃ s',Sq base B b ws E (nx0 ws E q).1 (nx0 ws E q).2.1 s'∧∀ r,zbj 6 [ptr b 0,.int .i64 (i+1:Nat)] s'=some r→zbj 6 [ptr b 0,.int .i64 i] s=some r:=by
 obtain ⟨s',c,h'⟩:=h.next hq false 0 0
 have hn':(zbN ws E q.1 q.2.1 false 0 0).2.2=false:=hn
 rw [hn'] at c
 have h3:(i:Int)<3:=by omega
 have hw:=zaR (i:=i) (by omega)
 refine ⟨s',h',fun r hr=>zeI _ _ s ?_⟩
 simp only [zfG,zdt h3,zct,c,zob,zah,zcf,hw]
 exact hr
theorem zxV [Sym] (st:SS) (hg:Gd st):∃ n,st.next≤n∧cc 35 [] st=some (.bool true,st.adv n):=by
 obtain ⟨s1,wv,ev,s7,s8,s10,b,ws,E,c1,e7,e8,l9,c10,q0,hp⟩:=zxQ (st:=st.ro st.next) hg.ro (zlr _) (t:=zrC) (by decide) aliveQ
 unfold zvB at hp
 simp only [zae,Bool.not_eq_true',decide_eq_true_eq] at hp
 obtain ⟨i0,i1,i2,i3,f1,f2,f3,p3,f4,p4⟩:=hp
 obtain ⟨t1,q1,r1⟩:=zle (i:=0) (q:=(E.getD 0 0,[],false)) q0 (by omega) i0 f1
 obtain ⟨t2,q2,r2⟩:=zle (i:=1) q1 (by omega) i1 f2
 obtain ⟨t3,q3,r3⟩:=zle (i:=2) q2 (by omega) i2 f3
 have r4:zbj 6 [ptr b 0,.int .i64 (3:Nat)] t3=some (0,[ptr b 0],t3):=by
  refine zeI _ _ t3 ?_
  rfl
 have f13:zbj 6 [ptr b 0,.int .i64 0] s10=some (0,[ptr b 0],t3):=r1 _ (r2 _ (r3 _ r4))
 have c15:=q3.at
 obtain ⟨t4,c17,q4⟩:=q3.next i3 false 0 0
 have f4':(zbN ws E (nx0 ws E (nx0 ws E (nx0 ws E (E.getD 0 0,[],false)))).1 (nx0 ws E (nx0 ws E (nx0 ws E (E.getD 0 0,[],false)))).2.1 false 0 0).2.2=true:=f4
 rw [f4'] at c17
 have c19:=q4.at
 have p4':(zbN ws E (nx0 ws E (nx0 ws E (nx0 ws E (E.getD 0 0,[],false)))).1 (nx0 ws E (nx0 ws E (nx0 ws E (E.getD 0 0,[],false)))).2.1 false 0 0).1=0:=p4
 have b0:Nat.beq 0 0=true:=rfl
 have c1':cc 16 [.string (mkS zrC)] (st.ro st.next)=_:=c1
 refine ⟨t4.next,q4.ext.next,zjF st ?_⟩
 unfold zgH
 refine zbi.2 ⟨_,c1',?_⟩
 refine zbi.2 ⟨_,rfl,?_⟩
 refine zbi.2 ⟨_,rfl,?_⟩
 refine zbi.2 ⟨_,rfl,?_⟩
 refine zbi.2 ⟨_,e7,?_⟩
 refine zbi.2 ⟨_,e8,?_⟩
 refine zbi.2 ⟨_,l9,?_⟩
 refine zbi.2 ⟨_,c10,?_⟩
 refine zbi.2 ⟨_,rfl,?_⟩
 refine zbi.2 ⟨_,rfl,?_⟩
 simp only [decide_true,znt,zcf]
 refine zbi.2 ⟨_,f13,?_⟩
 simp only [b0,zct,zgz,zob,c15,zaa,zdt p3,c17,zah,c19,zdt p4']
abbrev Q:=Int×List Int×Bool
section
variable {base : SS} {B b : Nat} {ws : List Nat} {E : List Int}
end
end Go.Proofs.YtifploedaacedaaGreatDoorE
namespace Go.Proofs.YtifploedaacedaaGreatDoorE
open Go Go.E Go.Proofs
theorem zxW [Sym] {ws:List Nat} {es:List En} (hnl:∀ e∈es,e.1.length≤1000000) {wv ev tv:Value} {st:SS} (hg:Gd st) (hl:st.lim≤st.next) (hX:∀ X∈ws,X<2^64) (o1:Rg st wv (rowsF uRow ws) 1 ws.length) (o2:Rg st ev (rowsF enRow es) 2 es.length) (steps:List Step5) (hn:steps.length≤1000) (hT:Rg st tv (rowsF stepRow steps) 5 steps.length):
  ∃ s',cc 36 [romV wv ev,tv] st=some (.bool true,s'):=by
 have hc:(romV wv ev).cells.toList=[wv,ev]:=by show (Value.agg [wv,ev].toArray).cells.toList=_;exact zaB _
 have x1:Ext st (st.new (.cells [wv,ev] 0)):=(Ext.refl _).new _
 have a1:At (st.new (.cells [wv,ev] 0)) st.next [wv,ev]:=At.new hl _
 have hn1:(st.new (.cells [wv,ev] 0)).next=st.next+1:=rfl
 obtain ⟨s1,hs1⟩:∃ s1,st.new (.cells [wv,ev] 0)=s1:=⟨_,rfl⟩
 rw [hs1] at x1 a1 hn1
 have l2:s1.ldN st.next 0 2=some (romV wv ev):=a1.ldN rfl
 have hu:=zsK (hg.ext x1) (x1.ll hl) hX (o1.ext x1) (o2.ext x1)
 cases hq:newT ws es with
 | none=>
   rw [hq] at hu
   obtain ⟨s3,x3,c3⟩:=hu
   have l6:s3.ldN st.next 0 2=some (romV wv ev):=(a1.ext x3).ldN rfl
   have hr:=zsO hnl (x3.ll (x1.ll hl)) hX ((o1.ext x1).ext x3) ((o2.ext x1).ext x3)
   rw [hq] at hr
   obtain ⟨s7,x7,c7⟩:=hr
   have t0:∀ a b:Value,zar (.tuple #[a,b]) 0=some a:=fun _ _=>rfl
   have t1:∀ a b:Value,zar (.tuple #[a,b]) 1=some b:=fun _ _=>rfl
   have hnil:zjI (.pointer none)=some true:=rfl
   refine ⟨s7,zf4 _ _ st ?_⟩
   simp only [zeR,hc,hs1]
   rw [l2,zob,c3,zob]
   simp only [t0,t1,zob,zaa]
   rw [l6,zob,c7,zob]
   simp only [t0,t1,zob,zah,znf,zct,decide_true,hnil]
 | some E=>
   rw [hq] at hu
   obtain ⟨hE,s3,b,v,x3,c3,hb,a3,o3⟩:=hu
   have l6:s3.ldN st.next 0 2=some (romV wv ev):=(a1.ext x3).ldN rfl
   have hr:=zsO hnl (x3.ll (x1.ll hl)) hX ((o1.ext x1).ext x3) ((o2.ext x1).ext x3)
   rw [hq] at hr
   obtain ⟨s7,b2,v2,w2,x7,c7,hb2,a7,p7,q7⟩:=hr
   obtain ⟨hw,_,hN,hEn⟩:=zxR hq
   have hb3:=a3.2.1
   have hb7:=a7.2.1
   have a37:=a3.ext x7
   have sq:SqI b2 s7 b ws E (E.getD 0 0) zaF:=⟨v,a37,by omega,(o3.rg).ext x7,fun i l c e=>by
    obtain ⟨_,⟨rfl,_⟩ | ⟨i',rfl,_,_,h1,h2⟩⟩:=o3
    ·cases e
    ·cases e;exact ⟨by omega,by omega⟩⟩
   have mq:MqI s7.next s7 b2 ws E (E.getD 0 0) zaF:=⟨v2,w2,a7,hb7,p7.rg,q7.rg,fun i l c e=>by
    obtain ⟨_,⟨rfl,_⟩ | ⟨i',rfl,_,_,h1,h2⟩⟩:=p7
    ·cases e
    ·cases e;exact ⟨by omega,h2⟩,fun i l c e=>by
    obtain ⟨_,⟨rfl,_⟩ | ⟨i',rfl,_,_,h1,h2⟩⟩:=q7
    ·cases e
    ·cases e;exact ⟨by omega,h2⟩⟩
   have x17:Ext s1 s7:=x3.trans x7
   have two:Two s1 s7.next b b2 ws E (E.getD 0 0) [] s7:=⟨⟨zaF,zaF,sq,mq,Stk.nil,Stk.nil,fun i o l c e=>by cases e⟩,hE,zlr _,a37.2.2,x17,hb,hN⟩
   have hXb:12≤s1.next:=by have:=hg.nx;omega
   have hwl:=(o1.ext x1).len
   obtain ⟨s12,hlp⟩:=zqb hXb hw hEn a1 hwl steps hn tv (hT.ext x1) steps.length 0 _ _ s7 (by omega) two (hEn 0 (by omega)) (fun a ha=>by cases ha) (by simp)
   have hlp':zbo 8 [ptr st.next 0,ptr b 0,ptr b2 0,tv,.int .i64 steps.length,.int .i64 0] s7=some (0,[],s12):=hlp
   have htl:=hT.lenI
   have t0:∀ a b:Value,zar (.tuple #[a,b]) 0=some a:=fun _ _=>rfl
   have t1:∀ a b:Value,zar (.tuple #[a,b]) 1=some b:=fun _ _=>rfl
   have b0:Nat.beq 0 0=true:=rfl
   refine ⟨s12,zf4 _ _ st ?_⟩
   simp only [zeR,hc,hs1]
   rw [l2,zob,c3,zob]
   simp only [t0,t1,zob,zaa]
   rw [l6,zob,c7,zob]
   simp only [t0,t1,zob,zah,znt,zcf,decide_true,htl]
   rw [hlp',zob]
   simp only [b0,zct]
theorem zoT [Sym] (es:List En) (hn:es.length≤1000) (tv rv ev:Value) (base:SS) (hll:base.lim≤base.next) (hE:Rg base ev (rowsF enRow es) 2 es.length):∀ (k j:Nat) (s:SS),es.length=k+j→Ext base s→(∀ e∈es.take j,e.1.length≤100)→
  ∃ s',Ext base s'∧(zaM 6 [tv,rv,ev,.int .i64 es.length,.int .i64 j] s=some (1,[.bool true],s')∨((∀ e∈es,e.1.length≤100)∧zaM 6 [tv,rv,ev,.int .i64 es.length,.int .i64 j] s=some (0,[tv,rv],s')))
 | 0,j,s,hk,he,hs=>by
   have hlt:¬ (j:Int)<(es.length:Int):=by omega
   refine ⟨s,he,.inr ⟨by rwa [List.take_of_length_le (by omega)] at hs,zcq _ _ _ _ _ s ?_⟩⟩
   simp only [zb8,zdf hlt,zcf]
 | k+1,j,s,hk,he,hs=>by
   have hlt:(j:Int)<(es.length:Int):=by omega
   obtain ⟨x,hx⟩:∃ x,es[j]?=some x:=⟨_,zge (by omega)⟩
   obtain ⟨p1,e1,l1,_⟩:=(hE.ext he).load (j:=(j:Int)) (by omega) hlt (zaL zci es j x hx) (zci x)
   obtain ⟨s4,e4,a4,x4,n4⟩:=zaP (st:=s) (he.ll hll) (r:=[.string ⟨#[]⟩,.int .i64 0]) (zaB (enRow x)) (n:=2) (zci x) rfl rfl
   have t0:s4.ld s.next 0=some (.string (mkS x.1)):=a4.ld
   have he4:=he.trans x4
   have hw1:IntKind.wrap .i64 ((j:Int)+1)=((j+1:Nat):Int):=zaR (by omega)
   by_cases hb:100<x.1.length
   ·have hb':(100:Int)<((mkS x.1).size:Int):=by rw [zbw];omega
    refine ⟨s4,he4,.inl (zcq _ _ _ _ _ s ?_)⟩
    simp only [zb8,zdt hlt,zct,e1,zob,l1]
    rw [e4,zob]
    simp only [t0,zob,zad,zdt hb',zct]
   ·have hb':¬ (100:Int)<((mkS x.1).size:Int):=by rw [zbw];omega
    have hs':∀ e∈es.take (j+1),e.1.length≤100:=fun e hm=>by
     rw [List.take_add_one,hx] at hm
     rcases List.mem_append.1 hm with hm | hm
     ·exact hs e hm
     ·have:e=x:=by simpa using hm
      rw [this];omega
    obtain ⟨s',x',ih⟩:=zoT es hn tv rv ev base hll hE k (j+1) s4 (by omega) he4 hs'
    have step:∀ r,zaM 6 [tv,rv,ev,.int .i64 es.length,.int .i64 ((j+1:Nat):Int)] s4=some r→zaM 6 [tv,rv,ev,.int .i64 es.length,.int .i64 j] s=some r:=fun r hr=>by
     refine zcq _ _ _ _ _ s ?_
     simp only [zb8,zdt hlt,zct,e1,zob,l1]
     rw [e4,zob]
     simp only [t0,zob,zad,zdf hb',zcf,hw1]
     exact hr
    refine ⟨s',x',?_⟩
    rcases ih with ih | ⟨h1,h2⟩
    ·exact .inl (step _ ih)
    ·exact .inr ⟨h1,step _ h2⟩
theorem zsa [Sym] {ws:List Nat} {es:List En} {wv ev tv:Value} {st:SS} (hg:Gd st) (hl:st.lim≤st.next) (hX:∀ X∈ws,X<2^64) (o1:Rg st wv (rowsF uRow ws) 1 ws.length) (o2:Rg st ev (rowsF enRow es) 2 es.length) (steps:List Step5) (hT:Rg st tv (rowsF stepRow steps) 5 steps.length):
  ∃ s',cc 10 [romV wv ev,tv] st=some (.bool true,s'):=by
 have hc:(romV wv ev).cells.toList=[wv,ev]:=by show (Value.agg [wv,ev].toArray).cells.toList=_;exact zaB _
 have x1:Ext st (st.new (.cells [wv,ev] 0)):=(Ext.refl _).new _
 have a1:At (st.new (.cells [wv,ev] 0)) st.next [wv,ev]:=At.new hl _
 obtain ⟨s1,hs1⟩:∃ s1,st.new (.cells [wv,ev] 0)=s1:=⟨_,rfl⟩
 rw [hs1] at x1 a1
 obtain ⟨n,hn,c2⟩:=zxV s1 (hg.ext x1)
 have x2:Ext s1 (s1.adv n):=(Ext.refl _).adv hn
 have a2:=a1.ext x2
 have l0:(s1.adv n).ld st.next 0=some wv:=a2.ld
 have l1:(s1.adv n).ld st.next 1=some ev:=a2.ld
 have x12:=x1.trans x2
 have q1:=o1.lenI
 have q2:=o2.lenI
 have q3:=hT.lenI
 have early:∀ z,zbh cc zaM (romV wv ev) tv st=some (.bool true,z)→∃ s',cc 10 [romV wv ev,tv] st=some (.bool true,s'):=fun z h=>⟨z,zhS _ _ st h⟩
 by_cases h1:(100:Int)<(ws.length:Int)
 ·refine early (s1.adv n) ?_
  simp only [zbh,hc,hs1]
  rw [c2,zob]
  simp only [zob,zah,znt,zcf,l0,q1,zdt h1,zct]
 by_cases h2:(20:Int)<(es.length:Int)
 ·refine early (s1.adv n) ?_
  simp only [zbh,hc,hs1]
  rw [c2,zob]
  simp only [zob,zah,znt,zcf,l0,q1,zdf h1,l1,q2,zdt h2,zct]
 by_cases h3:(200:Int)<(steps.length:Int)
 ·refine early (s1.adv n) ?_
  simp only [zbh,hc,hs1]
  rw [c2,zob]
  simp only [zob,zah,znt,zcf,l0,q1,zdf h1,l1,q2,zdf h2,q3,zdt h3,zct]
 obtain ⟨s11,x11,hlp⟩:=zoT es (by omega) tv (ptr st.next 0) ev (s1.adv n) (x12.ll hl) (o2.ext x12) es.length 0 (s1.adv n) (by omega) (.refl _) (fun e he=>by simp at he)
 have b0:Nat.beq 0 0=true:=rfl
 have b1:Nat.beq 1 0=false:=rfl
 rcases hlp with hlp | ⟨hnm,hlp⟩
 ·have hlp':zaM 6 [tv,ptr st.next 0,ev,.int .i64 es.length,.int .i64 0] (s1.adv n)=_:=hlp
  refine early s11 ?_
  simp only [zbh,hc,hs1]
  rw [c2,zob]
  simp only [zob,zah,znt,zcf,l0,q1,zdf h1,l1,q2,zdf h2,q3,zdf h3]
  rw [hlp',zob]
  simp only [b1,zcf,zgz,zob,zah]
 ·have hlp':zaM 6 [tv,ptr st.next 0,ev,.int .i64 es.length,.int .i64 0] (s1.adv n)=_:=hlp
  have e11:=x12.trans x11
  have l15:s11.ldN st.next 0 2=some (romV wv ev):=(a2.ext x11).ldN rfl
  obtain ⟨s16,c16⟩:=zxW (fun e he=>by have:=hnm e he;omega) (hg.ext e11) (e11.ll hl) hX (o1.ext e11) (o2.ext e11) steps (by omega) (hT.ext e11)
  refine early s16 ?_
  simp only [zbh,hc,hs1]
  rw [c2,zob]
  simp only [zob,zah,znt,zcf,l0,q1,zdf h1,l1,q2,zdf h2,q3,zdf h3]
  rw [hlp',zob]
  simp only [b0,zct,zgz,zgs,zob,zab]
  rw [l15,zob,c16,zob]
  rfl
end Go.Proofs.YtifploedaacedaaGreatDoorE
namespace Go.Proofs.YtifploedaacedaaGreatDoorE
open Go Go.E Go.Proofs
theorem arg_row {H:Type} {enc:TypeId×Value→H} {P:Program} {W:World} {spare:Nat→Bool} {held:Bool} {α:Type} {f:α→List Value} {ok:α→Prop} {t e d:Nat} {ks:List CK} {v:Value} {dd:DataW H} {p:List MemPlace} (id g:Nat) (hg:∃ arr T fr,W.heap[g]?=some (.cells arr T fr)) (ht:P.underlying t=some (.slice e)) (hk:zik P d e=some ks) (hc:P.cellsOf e=ks.length) (hz:0<ks.length)
  (hty:∀ r,Cks ks r→∃ s,r=f s∧ok s) (hfl:∀ s,(f s).all zbs=true) (hval:Value.okWide P W .any 0 t v) (h:DataW.Trod enc P W 0 spare held t v dd p):
  ∃ (l:List α) (av:Value) (pl:Pl),(∀ s∈l,ok s)∧Tv id l.length av∧(∃ obj,W.heap[pl.b]?=some obj∧∀ [Sym] (β:Emb),OR β pl obj (.table (l.flatMap f)))∧∀ [Sym] (β:Emb),β id=some pl→VR β av v:=by
 obtain ⟨l,h1,h2⟩:=zuC (f:=f) ht hk hc hz hty hval h
 have hf:∀ x∈l.flatMap f,zbs x=true:=fun x hx=>by
  obtain ⟨s,_,hs⟩:=List.mem_flatMap.1 hx
  exact List.all_eq_true.1 (hfl s) x hs
 rcases h2 with ⟨rfl,rfl⟩ | ⟨b,off,cap,rfl,h3,h4,arr,T,fr,hh,h5⟩
 ·obtain ⟨arr,T,fr,hh⟩:=hg
  exact ⟨[],.slice none 0 0,⟨g,0,0,0⟩,h1,.inl ⟨rfl,rfl⟩,⟨_,hh,fun β=>⟨rfl,arr,T,fr,rfl,fun j x hx=>by cases hx⟩⟩,fun β _=>.slice0⟩
 ·refine ⟨l,.slice (some ⟨id,0,none⟩) l.length cap,⟨b,off,0,0⟩,h1,.inr ⟨cap,rfl,h3,h4⟩,⟨_,hh,fun β=>⟨rfl,arr,T,fr,rfl,fun j x hx=>⟨x,h5 j x hx,zcX (hf x (zmg hx))⟩⟩⟩,fun β hb=>?_⟩
  exact .slice (p:=⟨b,off,0,0⟩) hb h3 (zlr _) (.inr rfl) (.inl rfl)
theorem err_cells {W:World} {laid:List (String×DataW Unit)} (h:laidMet Tryz.prog laid W) (h4:∃ nm d,("strconv.ErrSyntax",DataW.iface nm d)∈laid):∃ arr T fr,W.heap[6]?=some (.cells arr T fr):=by
 obtain ⟨nm4,d4,m4⟩:=h4
 obtain ⟨a4,u4,c4⟩:=zkC h m4 (g:=6) (t:=208) (by kernel_rfl) (by kernel_rfl) Tryz.underlying208
 unfold World.cell? at c4
 simp only at c4
 split at c4
 ·rename_i arr T fr hh;exact ⟨_,_,_,hh⟩
 all_goals cases c4
end Go.Proofs.YtifploedaacedaaGreatDoorE
namespace Go.Proofs.YtifploedaacedaaGreatDoorE
open Go Go.E Go.Proofs Go.ChangeShapes
theorem uRow_flat (x:Nat):(uRow x).all zbs=true:=rfl
theorem enRow_flat (x:En):(enRow x).all zbs=true:=rfl
theorem stepRow_flat (x:Step5):(stepRow x).all zbs=true:=rfl
theorem u64_ty (r:List Value) (h:Cks [.i .u64] r):∃ s,r=uRow s∧s<2^64:=by
 cases r with
 | nil=>exact h.elim
 | cons x r=>
   cases r with
   | cons y r=>exact h.2.elim
   | nil=>
     obtain ⟨⟨n,h1,h2⟩,_⟩:=h
     have h3:0≤n∧n<18446744073709551616:=by
      have h4:IntKind.min .u64≤n∧n≤IntKind.max .u64:=by simpa [Lit.wf] using h2
      have e1:IntKind.min .u64=0:=by rfl
      have e2:IntKind.max .u64=18446744073709551615:=by rfl
      rw [e1,e2] at h4
      omega
     refine ⟨n.toNat,?_,by omega⟩
     unfold uRow
     rw [Int.toNat_of_nonneg h3.1,h1]
theorem en_ty (r:List Value) (h:Cks [.s,.i .i64] r):∃ s,r=enRow s∧True:=by
 cases r with
 | nil=>exact h.elim
 | cons x r=>
   obtain ⟨⟨s,h1,_⟩,h⟩:=h
   cases r with
   | nil=>exact h.elim
   | cons y r=>
     obtain ⟨⟨n,h2,_⟩,h⟩:=h
     cases r with
     | cons z r=>exact h.elim
     | nil=>exact ⟨(bl s,n),by unfold enRow;rw [h1,h2,zuD],trivial⟩
theorem step_ty (r:List Value) (h:Cks [.b,.i .i64,.b,.i .i64,.i .i64] r):∃ s,r=stepRow s∧True:=by
 cases r with
 | nil=>exact h.elim
 | cons x r=>
 obtain ⟨⟨b1,h1⟩,h⟩:=h
 cases r with
 | nil=>exact h.elim
 | cons x r=>
 obtain ⟨⟨n2,h2,_⟩,h⟩:=h
 cases r with
 | nil=>exact h.elim
 | cons x r=>
 obtain ⟨⟨b3,h3⟩,h⟩:=h
 cases r with
 | nil=>exact h.elim
 | cons x r=>
 obtain ⟨⟨n4,h4,_⟩,h⟩:=h
 cases r with
 | nil=>exact h.elim
 | cons x r=>
 obtain ⟨⟨n5,h5,_⟩,h⟩:=h
 cases r with
 | cons z r=>exact h.elim
 | nil=>exact ⟨⟨b1,n2,b3,n4,n5⟩,by unfold stepRow;rw [h1,h2,h3,h4,h5],trivial⟩
theorem open_two {H:Type} {enc:TypeId×Value→H} {P:Program} {W:World} {spare:Nat→Bool} {held:Bool} {t e0 e1:TypeId} {f0 f1:Field} {v:Value} {dd:DataW H} {p:List MemPlace} (ht:P.underlying t=some (.struct #[f0,f1])) (hct:P.cellTypes P.depth t=some [f0.type,f1.type]) (hs:P.cellsOf t=2) (ho0:f0.offset=0) (ho1:f1.offset=1)
  (hc0:P.cellsOf f0.type=1) (hc1:P.cellsOf f1.type=1) (s0:P.underlying f0.type=some (.slice e0)) (s1:P.underlying f1.type=some (.slice e1)) (hval:Value.okWide P W .any 0 t v) (h:DataW.Trod enc P W 0 spare held t v dd p):
  ∃ v0 v1 d0 d1 p0 p1,v=.agg #[v0,v1]∧Value.okWide P W .any 0 f0.type v0∧Value.okWide P W .any 0 f1.type v1∧DataW.Trod enc P W 0 spare held f0.type v0 d0 p0∧DataW.Trod enc P W 0 spare held f1.type v1 d1 p1:=by
 unfold Value.okWide at hval
 rw [ht] at hval
 obtain ⟨cs,rfl,hsz,ts,h1,_,h3⟩:=hval
 rw [hct] at h1
 cases h1
 rw [hs] at hsz
 obtain ⟨v0,v1,rfl⟩:∃ v0 v1,cs=#[v0,v1]:=by
  obtain ⟨l⟩:=cs
  match l,hsz with
  | [a,b],_=>exact ⟨a,b,rfl⟩
 obtain ⟨u0,g0,k0⟩:=h3 0 v0 rfl
 obtain ⟨u1,g1,k1⟩:=h3 1 v1 rfl
 cases g0
 cases g1
 have w0:Value.okWide P W .any 0 f0.type v0:=by unfold Value.okWide;rw [s0];exact k0
 have w1:Value.okWide P W .any 0 f1.type v1:=by unfold Value.okWide;rw [s1];exact k1
 obtain ⟨fuel,hf⟩:=h
 obtain ⟨y0,y1,n,_,_,q0,q1⟩:=trod_struct2 ht hf
 rw [ho0,hc0] at q0
 rw [ho1,hc1] at q1
 obtain ⟨a0,l0,c0,rfl⟩:=WideShapes.okWide_slice s0 w0
 obtain ⟨a1,l1,c1,rfl⟩:=WideShapes.okWide_slice s1 w1
 exact ⟨_,_,y0.1,y1.1,y0.2,y1.2,rfl,w0,w1,⟨n,q0⟩,⟨n,q1⟩⟩
theorem VR.agg2 [Sym] {β:Emb} {a b a' b':Value} (h1:VR β a a') (h2:VR β b b'):VR β (.agg #[a,b]) (.agg #[a',b']):=by
 refine .agg rfl fun i x y hx hy=>?_
 match i,hx,hy with
 | 0,hx,hy=>cases hx;cases hy;exact h1
 | 1,hx,hy=>cases hx;cases hy;exact h2
noncomputable def stR (C0 C1 C2:List Value):SS:=⟨zcM ((12+2,.table C2)::(12+1,.table C1)::(12,.table C0)::zfR),12+3,12+3⟩
theorem stR_eq (C0 C1 C2:List Value):stR C0 C1 C2=(((st0.new (.table C0)).new (.table C1)).new (.table C2)).ro (12+3):=by kernel_rfl
theorem gdR (C0 C1 C2:List Value):Gd (stR C0 C1 C2):=by
 rw [stR_eq]
 exact (gd0.ext ((((Ext.refl st0).new _).new _).new _)).ro
theorem stR_0 (C0 C1 C2:List Value):(stR C0 C1 C2).mem.get 12=some (.table C0):=by
 show (zcM _).get 12=_
 simp [zcM,putAll,PT.get_upd]
theorem stR_1 (C0 C1 C2:List Value):(stR C0 C1 C2).mem.get (12+1)=some (.table C1):=by
 show (zcM _).get (12+1)=_
 simp [zcM,putAll,PT.get_upd]
theorem stR_2 (C0 C1 C2:List Value):(stR C0 C1 C2).mem.get (12+2)=some (.table C2):=by
 show (zcM _).get (12+2)=_
 simp [zcM,putAll,PT.get_upd]
def zed (p q r:Pl):Nat→Pl:=fun i=>if i=12 then p else if i=12+1 then q else if i=12+2 then r else ⟨i,0,0,0⟩
theorem law_at3 {f:Nat} {fn:Func} (hf:Lk0.func f=some (f,fn)) {W:World} {laid:List (String×DataW Unit)} (h:laidMet Tryz.prog laid W) (h4:∃ nm d,("strconv.ErrSyntax",DataW.iface nm d)∈laid) (h5:∃ nm d,("strconv.ErrRange",DataW.iface nm d)∈laid)
  (hF:("camshaft/uword.fields",laidF)∈laid) (hS:("strings.asciiSpace",laidS)∈laid)
  {C0 C1 C2:List Value} {p q r:Pl} (o0:∃ obj,W.heap[p.b]?=some obj∧∀ [Sym] (β:Emb),OR β p obj (.table C0)) (o1:∃ obj,W.heap[q.b]?=some obj∧∀ [Sym] (β:Emb),OR β q obj (.table C1)) (o2:∃ obj,W.heap[r.b]?=some obj∧∀ [Sym] (β:Emb),OR β r obj (.table C2))
  {args args':List Value} (hargs:∀ [Sym] (β:Emb),β 12=some p→β (12+1)=some q→β (12+2)=some r→VRs β args args') (hlaw:∀ [Sym],∃ st',cc f args (stR C0 C1 C2)=some (.bool true,st')):
  Calls Tryz.prog f args'.toArray W fun e W'=>e=.returned (.bool true)∧RowKit.Below W.heap.size W W':=by
 obtain ⟨nm4,d4,m4⟩:=h4
 obtain ⟨nm5,d5,m5⟩:=h5
 obtain ⟨a4,u4,c4⟩:=zkC h m4 (g:=6) (t:=208) (by kernel_rfl) (by kernel_rfl) Tryz.underlying208
 obtain ⟨a5,u5,c5⟩:=zkC h m5 (g:=7) (t:=208) (by kernel_rfl) (by kernel_rfl) Tryz.underlying208
 letI:Sym:=symE a4 u4 a5 u5
 have hE:ErrSym:=⟨⟨a4,u4,rfl⟩,⟨a5,u5,rfl⟩⟩
 obtain ⟨oF,f1,f2⟩:=zs3 h hF (g:=0) (kk:=.i64) (by kernel_rfl) (by kernel_rfl) Tryz.underlying128 Tryz.underlying127 (by kernel_rfl) rfl rfl rfl Tryz.underlying9 Tryz.underlying3 rfl rfl (by kernel_rfl) (by kernel_rfl) _ (by simp [zb1]) rfl
 obtain ⟨oS,s1,s2⟩:=zuh h hS (g:=2) (kk:=.u8) (by kernel_rfl) (by kernel_rfl) Tryz.underlying233 Tryz.underlying5 (by kernel_rfl) _ rfl
 obtain ⟨st',hl⟩:=hlaw
 obtain ⟨l,hL⟩:∃ l,l=(12+2,AObj.table C2)::(12+1,AObj.table C1)::(12,AObj.table C0)::zfR:=⟨_,rfl⟩
 have pX:(zed p q r) 12=p:=by unfold zed;rw [if_pos rfl]
 have pY:(zed p q r) (12+1)=q:=by unfold zed;rw [if_neg (by omega),if_pos rfl]
 have pZ:(zed p q r) (12+2)=r:=by unfold zed;rw [if_neg (by omega),if_neg (by omega),if_pos rfl]
 have hO:∀ x∈zfR,(zed p q r) x.1=⟨x.1,0,0,0⟩:=fun x hx=>by
  have:=ztT x hx
  unfold zed;rw [if_neg (by omega),if_neg (by omega),if_neg (by omega)]
 have b0:embB l (zed p q r) 12=some p:=by rw [zmv (by rw [hL];simp),pX]
 have b1:embB l (zed p q r) (12+1)=some q:=by rw [zmv (by rw [hL];simp),pY]
 have b2:embB l (zed p q r) (12+2)=some r:=by rw [zmv (by rw [hL];simp),pZ]
 have hT:∀ x∈zfR,∃ obj,W.heap[((zed p q r) x.1).b]?=some obj∧OR (embB l (zed p q r)) ((zed p q r) x.1) obj x.2:=fun x hx=>by
  rw [hO x hx]
  simp only [zfR,List.mem_cons,List.not_mem_nil,or_false] at hx
  rcases hx with rfl | rfl | rfl | rfl
  ·exact zuB (i:=6) c4
  ·exact zuB (i:=7) c5
  ·exact ⟨oF,f1,f2 _⟩
  ·exact ⟨oS,s1,s2 _⟩
 have hl':cS Tryz.prog Lk0 f args ⟨zcM l,12+3,12+3⟩=some (.bool true,st'):=by rw [hL];exact hl
 refine zxb zai (zxd hE) hf (l:=l) (nx:=12+3) (pl:=zed p q r) hl' rfl (hargs _ b0 b1 b2) (fun x hx=>?_) (fun x hx=>?_) (fun g hg=>?_) (fun x hx=>?_)
 ·rw [hL] at hx
  rcases List.mem_cons.1 hx with rfl | hx
  ·simp only [pZ];exact ⟨o2.choose,o2.choose_spec.1,o2.choose_spec.2 _⟩
  rcases List.mem_cons.1 hx with rfl | hx
  ·simp only [pY];exact ⟨o1.choose,o1.choose_spec.1,o1.choose_spec.2 _⟩
  rcases List.mem_cons.1 hx with rfl | hx
  ·simp only [pX];exact ⟨o0.choose,o0.choose_spec.1,o0.choose_spec.2 _⟩
  ·exact hT x hx
 ·rw [hL] at hx
  rcases List.mem_cons.1 hx with rfl | hx
  ·exact ⟨_,rfl⟩
  rcases List.mem_cons.1 hx with rfl | hx
  ·exact ⟨_,rfl⟩
  rcases List.mem_cons.1 hx with rfl | hx
  ·exact ⟨_,rfl⟩
  ·simp only [zfR,List.mem_cons,List.not_mem_nil,or_false] at hx
   rcases hx with rfl | rfl | rfl | rfl<;>exact ⟨_,rfl⟩
 ·have hm:=zvu g hg
  obtain ⟨x,hx,rfl⟩:=List.mem_map.1 hm
  refine ⟨by rw [hL];simp only [List.map_cons];exact List.mem_cons_of_mem _ (List.mem_cons_of_mem _ (List.mem_cons_of_mem _ hm)),by rw [hO x hx],by rw [hO x hx]⟩
 ·rw [hL] at hx
  rcases List.mem_cons.1 hx with rfl | hx
  ·show 12+2<12+3;omega
  rcases List.mem_cons.1 hx with rfl | hx
  ·show 12+1<12+3;omega
  rcases List.mem_cons.1 hx with rfl | hx
  ·show 12<12+3;omega
  ·have:=ztT x hx;omega
theorem useqRuns_ok [Sym] {ws:List Nat} {es:List En} {steps:List Step5} (hX:∀ X∈ws,X<2^64) {wv ev tv:Value} (t0:Tv 12 ws.length wv) (t1:Tv (12+1) es.length ev) (t2:Tv (12+2) steps.length tv):
  ∃ s',cc 10 [romV wv ev,tv] (stR (ws.flatMap uRow) (es.flatMap enRow) (steps.flatMap stepRow))=some (.bool true,s'):=
 zsa (gdR _ _ _) (zlr _) hX (t0.rg (fun _=>rfl) (stR_0 _ _ _) (by show 12<12+3;omega)) (t1.rg zci (stR_1 _ _ _) (by show 12+1<12+3;omega)) steps (t2.rg zhb (stR_2 _ _ _) (by show 12+2<12+3;omega))
end Go.Proofs.YtifploedaacedaaGreatDoorE
