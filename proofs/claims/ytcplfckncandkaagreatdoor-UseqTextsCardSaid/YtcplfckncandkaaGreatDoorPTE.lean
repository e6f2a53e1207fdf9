/- Parts of the proof of UseqTexts, packed by a program: an evaluator over the given code, functions as plain texts, their laws. -/
import Derived.Test.YtcplfckncandkaaGreatDoorPTD
set_option linter.unusedVariables false
set_option linter.unusedSimpArgs false
namespace Go.Proofs.YtcplfckncandkaaGreatDoorE
open Go Go.E Go.Proofs
def VOk (v:Val):Prop:=0<v.col∧ -2147483648≤v.x∧v.x≤2147483647
def POk (p:Pr):Prop:=0<p.col∧VOk p.v
structure LineOk (M:Nat) (x:PLine):Prop where
 args:∀ v∈x.args,VOk v
 prs:∀ p∈x.prs,POk p
 sa:x.args.length≤M
 sp:x.prs.length≤M
def zkV (t:Tok):Prop:=TokOk t∧0<t.col
theorem zvf (k col:Nat) (l:List UInt8) (ts:List Tok) (h:zdz k col l=.ok ts):∀ t∈ts,0<t.col:=by
 induction k generalizing col l ts with
 | zero=>cases h;intro t ht;cases ht
 | succ k ih=>
   unfold zdz at h
   split at h
   ·cases h;intro t ht;cases ht
   ·exact ih _ _ _ h
   ·rename_i kd n x hs
    cases hx:zdz k (col+n) (l.drop n) with
    | error e=>rw [hx] at h;cases h
    | ok us=>
      rw [hx] at h;cases h
      intro t ht
      rcases List.mem_cons.1 ht with rfl | ht
      ·exact Nat.succ_pos _
      ·exact ih _ _ _ hx t ht
   ·cases h
theorem zwC {p:List UInt8} {ts:List Tok} (h:zcB p=.ok ts):∀ t∈ts,zkV t:=fun t ht=>by
 refine ⟨(zqV h).2 t ht,?_⟩
 unfold zcB at h
 split at h
 ·rename_i us hu
  cases h
  rcases List.mem_append.1 ht with ht | ht
  ·exact zvf _ _ _ _ hu t ht
  ·have:t=zga p:=by simpa using ht
   subst this
   exact Nat.succ_pos _
 ·cases h
theorem zpK {α:Type} {n:Nat} {l:List α} {x:α} (h:x∈l.drop n):x∈l:=List.mem_of_mem_drop h
theorem zst {l:List Tok} (hl:∀ t∈l,zkV t) {v:Val} {n:Nat} (h:zev l=.ok (v,n)):VOk v:=by
 cases l with
 | nil=>cases h
 | cons t r=>
   rw [zgc] at h
   have ht:=hl t (by simp)
   have n0:=ht.1.nm0
   have n1:=ht.1.nm1
   split at h
   ·cases h;exact ⟨ht.2,by show -2147483648≤t.nm;omega,by show t.nm≤2147483647;omega⟩
   ·split at h
    ·cases r with
     | nil=>cases h
     | cons s u=>
       simp only at h
       split at h
       ·cases u with
        | nil=>cases h
        | cons m w=>
          simp only at h
          have hm:=(hl m (by simp)).1
          have m0:=hm.nm0
          have m1:=hm.nm1
          split at h
          ·cases h;exact ⟨ht.2,by show -2147483648≤m.nm;omega,by show m.nm≤2147483647;omega⟩
          ·cases h
       ·split at h
        ·cases u with
         | nil=>cases h
         | cons m w=>
           simp only at h
           have hm:=(hl m (by simp)).1
           have m0:=hm.nm0
           have m1:=hm.nm1
           split at h
           ·cases h;exact ⟨ht.2,by show -2147483648≤ -m.nm;omega,by show -m.nm≤2147483647;omega⟩
           ·cases h
        ·cases h;exact ⟨ht.2,by show (-2147483648:Int)≤0;omega,by show (0:Int)≤2147483647;omega⟩
    ·cases h
theorem zxC (k:Nat) (l:List Tok) (hl:∀ t∈l,zkV t) (vs:List Val) (h:zdo k l=.ok vs):(∀ v∈vs,VOk v)∧vs.length≤k:=by
 induction k generalizing l vs with
 | zero=>cases h;exact ⟨fun v hv=>(by cases hv),zlr _⟩
 | succ k ih=>
   cases l with
   | nil=>cases h;exact ⟨fun v hv=>(by cases hv),by simp⟩
   | cons t r=>
     unfold zdo at h
     split at h
     ·cases h;exact ⟨fun v hv=>(by cases hv),by simp⟩
     ·cases hx:zev (t::r) with
      | error o=>rw [hx] at h;cases h
      | ok y=>
        obtain ⟨v,n⟩:=y
        rw [hx] at h
        simp only at h
        cases hy:zdo k ((t::r).drop n) with
        | error o=>rw [hy] at h;cases h
        | ok us=>
          rw [hy] at h;cases h
          obtain ⟨h1,h2⟩:=ih _ (fun q hq=>hl q (zpK hq)) us hy
          refine ⟨fun w hw=>?_,by simp;omega⟩
          rcases List.mem_cons.1 hw with rfl | hw
          ·exact zst hl hx
          ·exact h1 w hw
theorem zxD {seen:List (List UInt8)} {l:List Tok} (hl:∀ t∈l,zkV t) {p:Pr} {n:Nat} (h:pairT seen l=.ok (p,n)):POk p:=by
 cases l with
 | nil=>cases h
 | cons t r=>
   rw [zkC] at h
   split at h
   ·cases r with
    | nil=>cases h
    | cons e u=>
      simp only at h
      split at h
      ·cases hx:zev u with
       | error o=>rw [hx] at h;cases h
       | ok y=>
         obtain ⟨v,m⟩:=y
         rw [hx] at h;cases h
         exact ⟨(hl t (by simp)).2,zst (fun q hq=>hl q (by simp [hq])) hx⟩
      ·cases h
   ·cases h
theorem zwD (k:Nat) (seen:List (List UInt8)) (l:List Tok) (hl:∀ t∈l,zkV t) (ps:List Pr) (h:zbG k seen l=.ok ps):(∀ p∈ps,POk p)∧ps.length≤k:=by
 induction k generalizing seen l ps with
 | zero=>cases h;exact ⟨fun v hv=>(by cases hv),zlr _⟩
 | succ k ih=>
   cases l with
   | nil=>cases h;exact ⟨fun v hv=>(by cases hv),by simp⟩
   | cons t r=>
     unfold zbG at h
     split at h
     ·cases h;exact ⟨fun v hv=>(by cases hv),by simp⟩
     ·cases hx:pairT seen (t::r) with
      | error o=>rw [hx] at h;cases h
      | ok y=>
        obtain ⟨p,n⟩:=y
        rw [hx] at h
        simp only at h
        cases hy:zbG k (seen++[p.fd]) ((t::r).drop n) with
        | error o=>rw [hy] at h;cases h
        | ok us=>
          rw [hy] at h;cases h
          obtain ⟨h1,h2⟩:=ih _ _ (fun q hq=>hl q (zpK hq)) us hy
          refine ⟨fun w hw=>?_,by simp;omega⟩
          rcases List.mem_cons.1 hw with rfl | hw
          ·exact zxD hl hx
          ·exact h1 w hw
theorem zpd {M:Nat} (lab:List UInt8) (l:List Tok) (hl:∀ t∈l,zkV t) (hM:l.length≤M) (x:PLine) (h:zdp lab l=.ok x):LineOk M x:=by
 cases l with
 | nil=>cases h
 | cons t r=>
   rw [zd3] at h
   split at h
   ·cases r with
    | nil=>cases h
    | cons d u=>
      simp only at h
      split at h
      ·cases hx:zdo u.length u with
       | error o=>rw [hx] at h;cases h
       | ok vs=>
         rw [hx] at h;cases h
         obtain ⟨h1,h2⟩:=zxC _ _ (fun q hq=>hl q (by simp [hq])) vs hx
         simp only [List.length_cons] at hM
         exact ⟨h1,fun p hp=>(by cases hp),by show vs.length≤M;omega,by simp⟩
      ·cases h
   ·cases hx:zbG (t::r).length [] (t::r) with
    | error o=>rw [hx] at h;cases h
    | ok ps=>
      rw [hx] at h;cases h
      obtain ⟨h1,h2⟩:=zwD _ _ _ hl ps hx
      exact ⟨fun p hp=>(by cases hp),h1,by simp,by show ps.length≤M;omega⟩
theorem zxE {M:Nat} (l:List Tok) (hl:∀ t∈l,zkV t) (hM:l.length≤M) (x:PLine) (h:readT l=.ok x):LineOk M x:=by
 unfold readT at h
 split at h
 ·rename_i t s r
  split at h
  ·split at h
   ·cases h
   ·rename_i y hy
    cases h
    simp only [List.length_cons] at hM
    exact zpd _ _ (fun q hq=>hl q (by simp [hq])) (by omega) _ hy
  ·exact zpd _ _ hl hM _ h
 ·exact zpd _ _ hl hM _ h
theorem zvg {M:Nat} (tss:List (List Tok)) (i:Nat) (hl:∀ ts∈tss,(∀ t∈ts,zkV t)∧ts.length≤M) (xs:List PLine) (h:zc4 i tss=.ok xs):(∀ x∈xs,LineOk M x∧0<x.ln)∧xs.length≤tss.length:=by
 induction tss generalizing i xs with
 | nil=>cases h;exact ⟨fun v hv=>(by cases hv),zlr _⟩
 | cons ts r ih=>
   unfold zc4 at h
   cases hx:readT ts with
   | error o=>rw [hx] at h;cases h
   | ok x=>
     rw [hx] at h
     simp only at h
     cases hy:zc4 (i+1) r with
     | error e=>rw [hy] at h;cases h
     | ok ys=>
       rw [hy] at h;cases h
       obtain ⟨h1,h2⟩:=ih (i+1) (fun q hq=>hl q (by simp [hq])) ys hy
       obtain ⟨g1,g2⟩:=hl ts (by simp)
       have hv:=zxE ts g1 g2 x hx
       split
       ·refine ⟨fun w hw=>?_,by simp;omega⟩
        rcases List.mem_cons.1 hw with rfl | hw
        ·exact ⟨⟨hv.args,hv.prs,hv.sa,hv.sp⟩,Nat.succ_pos _⟩
        ·exact h1 w hw
       ·exact ⟨h1,by simp;omega⟩
theorem zxF (ps:List (List UInt8)) (M i:Nat) (hM:∀ p∈ps,p.length+1≤M) (tss:List (List Tok)) (h:zco i ps=.ok tss):∀ ts∈tss,(∀ t∈ts,zkV t)∧ts.length≤M:=by
 induction ps generalizing i tss with
 | nil=>cases h;intro ts hts;cases hts
 | cons p r ih=>
   unfold zco at h
   cases hx:zcB p with
   | error c=>rw [hx] at h;cases h
   | ok ts=>
     rw [hx] at h
     cases hy:zco (i+1) r with
     | error e=>rw [hy] at h;cases h
     | ok us=>
       rw [hy] at h;cases h
       intro ts' ht
       rcases List.mem_cons.1 ht with rfl | ht
       ·exact ⟨zwC hx,zlt (zpC p _ hx) (hM p (by simp))⟩
       ·exact ih _ (fun q hq=>hM q (by simp [hq])) _ hy ts' ht
theorem zsu {l:List UInt8} {xs:List PLine} (h:zgW l=.ok xs):(∀ x∈xs,LineOk (l.length+1) x∧0<x.ln)∧xs.length≤l.length+1:=by
 unfold zgW at h
 cases hy:zco 0 (pieces 10 l) with
 | error e=>rw [hy] at h;cases h
 | ok tss=>
   rw [hy] at h
   obtain ⟨h1,h2⟩:=zvg tss 0 (zxF _ (l.length+1) _ (fun p hp=>by have:=zkB 10 l p hp;omega) tss hy) xs h
   exact ⟨h1,zlt h2 (by rw [zu5 _ _ _ hy];exact pieces_len 10 l)⟩
def zgS (l:Lay):List PLine→Except (Nat×Nat) Lay
 | []=>.ok l
 | x::r=>match zhN l x with
   | none=>.error (x.ln,1)
   | some l'=>zgS l' r
def zho:Lay:=⟨0,[],[],[]⟩
structure LayOk (M:Nat) (l:Lay):Prop where
 pl:l.pl≤2048
 nms:NmsOk l.nms
 ris:l.wds.Pairwise fun a b=>a.1<b.1
 lt:∀ x∈l.wds,x.1<l.pl
 prs:∀ x∈l.wds,LineOk M x.2∧x.2.prs≠[]∧0<x.2.ln
 ent:∀ e∈l.ents,e.1.nm≠[]∧0<e.2.1∧0<e.2.2
theorem zpe (M:Nat):LayOk M zho:=⟨by decide,fun x hx=>(by cases hx),List.Pairwise.nil,fun x hx=>(by cases hx),fun x hx=>(by cases hx),fun x hx=>(by cases hx)⟩
theorem Lay.define_ok {M:Nat} {l l':Lay} (h:LayOk M l) {n:List UInt8} {x:Int} (hx: -4294967296≤x∧x≤4294967296) (hd:l.define n x=some l'):LayOk M l'∧l'.pl=l.pl∧l'.ents=l.ents∧l'.wds=l.wds:=by
 unfold Lay.define at hd
 split at hd
 ·cases hd
 ·cases hd
  refine ⟨{ h with nms:=fun y hy=>?_ },rfl,rfl,rfl⟩
  rcases List.mem_append.1 hy with hy | hy
  ·exact h.nms y hy
  ·have:y=(n,x):=by simpa using hy
   subst this
   exact hx
theorem LayOk.place {M:Nat} {l:Lay} (h:LayOk M l) {p:Nat} (h1:l.pl≤p) (h2:p≤2048):LayOk M { l with pl:=p }:={ h with pl:=h2,lt:=fun x hx=>zll (h.lt x hx) h1 }
theorem zwE {p n:Nat} (hn:1≤n):p≤(p+n-1)/n*n:=by
 have h1:=Nat.div_add_mod (p+n-1) n
 have h2:=Nat.mod_lt (p+n-1) (show 0<n by omega)
 have h3:n*((p+n-1)/n)=(p+n-1)/n*n:=Nat.mul_comm _ _
 omega
theorem zxG {M:Nat} {l l':Lay} (h:LayOk M l) {x:PLine} (hx:LineOk M x) (h0:0<x.ln) (hd:zcL l x=some l'):LayOk M l'∧l'.ents.length≤l.ents.length+1:=by
 unfold zcL at hd
 cases ha:x.args with
 | nil=>rw [ha] at hd;cases hd
 | cons v r=>
   rw [ha] at hd
   simp only at hd
   have hv:=hx.args v (by rw [ha];simp)
   split at hd
   ·split at hd
    ·rename_i hc
     cases hd
     exact ⟨h.place (by omega) (by omega),by simp⟩
    ·cases hd
   ·split at hd
    ·split at hd
     ·rename_i hc
      cases hd
      exact ⟨h.place (zwE (by omega)) hc.2.2.2.2,by simp⟩
     ·cases hd
    ·split at hd
     ·split at hd
      ·rename_i y
       split at hd
       ·have hy:=hx.args y (by rw [ha];simp)
        obtain ⟨g1,g2,g3,g4⟩:=Lay.define_ok h (by have:=hy.2;omega) hd
        exact ⟨g1,by rw [g3];omega⟩
       ·cases hd
      ·cases hd
     ·split at hd
      ·split at hd
       ·rename_i hc
        cases hd
        refine ⟨{ h with ent:=fun e he=>?_ },by simp⟩
        rcases List.mem_append.1 he with he | he
        ·exact h.ent e he
        ·have:e=(v,x.ln,v.col):=by simpa using he
         subst this
         exact ⟨hc.1,h0,hv.1⟩
       ·cases hd
      ·cases hd
theorem zre {M:Nat} {l l':Lay} (h:LayOk M l) {x:PLine} (hx:LineOk M x) (h0:0<x.ln) (hd:zhN l x=some l'):LayOk M l'∧l'.ents.length≤l.ents.length+1:=by
 rw [zrd] at hd
 have hlab:∃ l1,(if x.lab=[] then some l else l.define x.lab l.pl)=some l1∧LayOk M l1∧l1.ents=l.ents∧zkU l1 x=some l':=by
  cases hc:(if x.lab=[] then some l else l.define x.lab l.pl) with
  | none=>rw [hc] at hd;cases hd
  | some l1=>
    rw [hc] at hd
    refine ⟨l1,rfl,?_⟩
    split at hc
    ·cases hc;exact ⟨h,rfl,hd⟩
    ·have:=h.pl
     obtain ⟨g1,g2,g3,g4⟩:=Lay.define_ok h (by omega) hc
     exact ⟨g1,g3,hd⟩
 obtain ⟨l1,_,h1,h2,h3⟩:=hlab
 rw [← h2]
 unfold zkU at h3
 split at h3
 ·exact zxG h1 hx h0 h3
 ·split at h3
  ·cases h3;exact ⟨h1,by omega⟩
  ·split at h3
   ·rename_i hp hpl
    cases h3
    refine ⟨⟨hpl,h1.nms,?_,fun y hy=>?_,fun y hy=>?_,h1.ent⟩,by simp⟩
    ·show List.Pairwise _ (l1.wds++[(l1.pl,x)])
     rw [List.pairwise_append]
     refine ⟨h1.ris,List.pairwise_singleton _ _,fun a ha b hb=>?_⟩
     have:b=(l1.pl,x):=by simpa using hb
     subst this
     exact h1.lt a ha
    ·show y.1<l1.pl+1
     rcases List.mem_append.1 hy with hy | hy
     ·have:=h1.lt y hy;omega
     ·have:y=(l1.pl,x):=by simpa using hy
      subst this
      exact Nat.lt_succ_self _
    ·rcases List.mem_append.1 hy with hy | hy
     ·exact h1.prs y hy
     ·have:y=(l1.pl,x):=by simpa using hy
      subst this
      exact ⟨hx,hp,h0⟩
   ·cases h3
theorem zsv {M:Nat} (xs:List PLine) (l l':Lay) (h:LayOk M l) (hx:∀ x∈xs,LineOk M x∧0<x.ln) (hd:zgS l xs=.ok l'):LayOk M l'∧l'.ents.length≤l.ents.length+xs.length:=by
 induction xs generalizing l with
 | nil=>cases hd;exact ⟨h,by simp⟩
 | cons x r ih=>
   unfold zgS at hd
   cases hc:zhN l x with
   | none=>rw [hc] at hd;cases hd
   | some l1=>
     rw [hc] at hd
     obtain ⟨g1,g2⟩:=zre h (hx x (by simp)).1 (hx x (by simp)).2 hc
     obtain ⟨g3,g4⟩:=ih l1 g1 (fun y hy=>hx y (by simp [hy])) hd
     exact ⟨g3,by simp;omega⟩
theorem LayOk.wlen {M:Nat} {l:Lay} (h:LayOk M l):l.wds.length≤l.pl:=by
 have key:∀ (w:List (Nat×PLine)) (a p:Nat),a≤p→w.Pairwise (fun a b=>a.1<b.1)→(∀ x∈w,a≤x.1∧x.1<p)→w.length+a≤p:=by
  intro w
  induction w with
  | nil=>intro a p h _ _;simpa using h
  | cons x r ih=>
    intro a p h h1 h2
    rw [List.pairwise_cons] at h1
    have hx:=h2 x (by simp)
    have:=ih (x.1+1) p (by omega) h1.2 fun y hy=>⟨h1.1 y hy,(h2 y (by simp [hy])).2⟩
    simp only [List.length_cons]
    omega
 have:=key l.wds 0 l.pl (Nat.zero_le _) h.ris fun x hx=>⟨Nat.zero_le _,h.lt x hx⟩
 omega
def sizeT (l:Lay):Nat:=match l.wds.getLast? with | none=>0 | some x=>x.1+1
def zdx (nms:Nms) (N:Nat):List (Nat×PLine)→List Wd→Except (Nat×Nat) (List Wd)
 | [],ws=>.ok ws
 | x::r,ws=>if (zby nms za2 x.2.prs).2≠0 then .error (x.2.ln,(zby nms za2 x.2.prs).2)
   else if ((zbX ((zby nms za2 x.2.prs).1.getD 8 0) ((zby nms za2 x.2.prs).1.getD 10 0) x.1).any fun t=>decide ((N:Int)<t.1+t.2))=true then .error (x.2.ln,((x.2.prs.head?).map (·.col)).getD 0)
   else zdx nms N r (ws.set x.1 (zby nms za2 x.2.prs).1)
def zfC (nms:Nms) (N:Nat):List (Val×Nat×Nat)→Except (Nat×Nat) (List (List UInt8×Int))
 | []=>.ok []
 | e::r=>match zcZ nms e.1.nm with
   | none=>.error e.2
   | some x=>if x<0∨(N:Int)≤x then .error e.2 else match zfC nms N r with
     | .error z=>.error z
     | .ok es=>.ok ((e.1.nm,x)::es)
def ziy (l:Lay):Except (Nat×Nat) (List Wd×List (List UInt8×Int)):=match zdx l.nms (sizeT l) l.wds (List.replicate (sizeT l) za2) with
 | .error z=>.error z
 | .ok ws=>match zfC l.nms (sizeT l) l.ents with
   | .error z=>.error z
   | .ok es=>.ok (ws,es)
def zkW (t:List UInt8):Except (Nat×Nat) (List Wd×List (List UInt8×Int)):=match zgW t with
 | .error z=>.error z
 | .ok xs=>match zgS zho xs with
   | .error z=>.error z
   | .ok l=>ziy l
theorem znC {M:Nat} {l:Lay} (h:LayOk M l):(∀ x∈l.wds,x.1<sizeT l)∧sizeT l≤2048:=by
 unfold sizeT
 cases hg:l.wds.getLast? with
 | none=>
   have:l.wds=[]:=List.getLast?_eq_none_iff.1 hg
   rw [this]
   exact ⟨fun x hx=>(by cases hx),by simp⟩
 | some y=>
   obtain ⟨w,hw⟩:=List.getLast?_eq_some_iff.1 hg
   have hris:=h.ris
   rw [hw,List.pairwise_append] at hris
   have hy:=h.lt y (by rw [hw];simp)
   have hp:=h.pl
   refine ⟨fun x hx=>?_,by simp only;omega⟩
   rw [hw] at hx
   simp only
   rcases List.mem_append.1 hx with hx | hx
   ·have:=hris.2.2 x hx y (by simp);omega
   ·have:x=y:=by simpa using hx
    subst this
    omega
def zjr (w:Wd):Prop:=w.length=12∧zdw w=true
theorem zpL {w:Wd}:zdw w=true↔∀ k,k<12→fitsT (w.getD k 0) (zax k)=true:=by
 unfold zdw
 rw [List.all_eq_true]
 exact ⟨fun h k hk=>h k (List.mem_range.2 hk),fun h k hk=>h k (List.mem_range.1 hk)⟩
theorem zvh {w:Wd} (hw:w.length=12) (hg:zdw w=true) (f:List UInt8) (x:Int) (h:(zcg w f x).2=0):zdw (zcg w f x).1=true:=by
 rw [zpL] at hg ⊢
 intro k hk
 unfold zcg at h ⊢
 cases hf:zgl f with
 | none=>rw [hf] at h;cases h
 | some i=>
   rw [hf] at h
   simp only at h
   obtain ⟨_,_,_,hi⟩:=zny hf
   show fitsT ((if fitsT x (zax i)=true then (w.set i x,(0:Int)) else (w,1)).1.getD k 0) _=true
   by_cases hfit:fitsT x (zax i)=true
   ·rw [if_pos hfit]
    by_cases hki:k=i
    ·subst hki
     rw [List.getD_eq_getElem?_getD,List.getElem?_set_self (by omega)]
     exact hfit
    ·rw [List.getD_eq_getElem?_getD,List.getElem?_set_ne (fun e=>hki e.symm),← List.getD_eq_getElem?_getD]
     exact hg k hk
   ·rw [if_neg hfit] at h
    cases h
theorem zvi (nms:Nms) (prs:List Pr) (w:Wd) (hw:w.length=12) (hg:zdw w=true):zdw (zby nms w prs).1=true:=by
 induction prs generalizing w with
 | nil=>exact hg
 | cons p r ih=>
   unfold zby
   split
   ·exact hg
   ·split
    ·exact hg
    ·split
     ·rename_i h;exact ih _ (by rw [zdC,hw]) (zvh hw hg _ _ h)
     ·exact hg
theorem zrf:zjr za2:=⟨rfl,by decide+kernel⟩
theorem zsw (nms:Nms) (prs:List Pr):zjr (zby nms za2 prs).1:=⟨by rw [znB];rfl,zvi nms prs za2 rfl zrf.2⟩
end Go.Proofs.YtcplfckncandkaaGreatDoorE
namespace Go.Proofs.YtcplfckncandkaaGreatDoorE
open Go Go.E Go.Proofs
structure OL where
 v:Value
 c:List Value
 z:Nat
 n:Nat
structure Owns (B:Nat) (st:SS) (L:List OL):Prop where
 own:∀ (k:Nat) o,L[k]?=some o→Own B st o.v o.c o.z o.n
 dis:∀ (k m:Nat) a b j,L[k]?=some a→L[m]?=some b→blkOf a.v=some j→blkOf b.v=some j→k=m
section
variable {B : Nat} {st st' : SS} {L : List OL}
theorem Owns.ext (h:Owns B st L) (x:Ext st st'):Owns B st' L:=⟨fun k o e=>(h.own k o e).ext x,h.dis⟩
theorem Owns.modLt {S:List Nat} (h:Owns B st L) (m:Mod S st st') (hS:∀ j,j∈S→j<B):Owns B st' L:=⟨fun k o e=>(h.own k o e).modLt m hS,h.dis⟩
theorem Owns.push (h:Owns B st L) {k:Nat} {v:Value} {c row:List Value} {z n bt:Nat} (hk:L[k]?=some ⟨v,c,z,n⟩) (hb:B≤st.next) (hl:st.lim≤B) (hr:row.length=z) (hz:0<z) (h1:row.all one=true) (hs:(n+2)*bt≤2^44) (hn:n+1≤2^44):
  ∃ j s',(st.new (.cells row z)).app z bt v (.slice (some ⟨st.next,0,none⟩) 1 1)=some (.slice (some ⟨j,0,none⟩) (n+1) (n+1),s')∧Owns B s' (L.set k ⟨.slice (some ⟨j,0,none⟩) (n+1) (n+1),c++row,z,n+1⟩)∧Keep B [] st s':=by
 obtain ⟨j,s',g1,g2,g3,g4,g5,g6⟩:=zkT (row:=row) (bt:=bt) (h.own k _ hk) hb hl hr hz h1 hs hn
 have hlt:k<L.length:=(List.getElem?_eq_some_iff.1 hk).1
 have hget:∀ m o,(L.set k ⟨.slice (some ⟨j,0,none⟩) (n+1) (n+1),c++row,z,n+1⟩)[m]?=some o→(m=k∧o=⟨.slice (some ⟨j,0,none⟩) (n+1) (n+1),c++row,z,n+1⟩)∨(m≠k∧L[m]?=some o):=fun m o ho=>by
  by_cases hm:m=k
  ·subst hm
   rw [List.getElem?_set_self hlt] at ho
   cases ho;exact .inl ⟨rfl,rfl⟩
  ·rw [List.getElem?_set_ne (fun e=>hm e.symm)] at ho
   exact .inr ⟨hm,ho⟩
 refine ⟨j,s',g1,⟨fun m o ho=>?_,fun m1 m2 a b q h1 h2 q1 q2=>?_⟩,⟨g5,g4,fun i hi _=>g6 i (by omega) fun e=>by have:=(zcQ (h.own k _ hk) e).1;omega⟩⟩
 ·rcases hget m o ho with ⟨_,rfl⟩ | ⟨hm,ho⟩
  ·exact g3
  ·exact zfJ (h.own m o ho) g5 fun i hi e=>g6 i hi fun e'=>hm (h.dis m k _ _ i ho hk e e')
 ·rcases hget m1 a h1 with ⟨e1,rfl⟩ | ⟨e1,h1⟩<;>rcases hget m2 b h2 with ⟨e2,rfl⟩ | ⟨e2,h2⟩
  ·rw [e1,e2]
  ·cases q1
   have:=(zcQ (h.own m2 _ h2) q2).2
   omega
  ·cases q2
   have:=(zcQ (h.own m1 _ h1) q1).2
   omega
  ·exact h.dis m1 m2 a b q h1 h2 q1 q2
end
end Go.Proofs.YtcplfckncandkaaGreatDoorE
namespace Go.Proofs.YtcplfckncandkaaGreatDoorE
set_option maxRecDepth 20000
open Go Go.E Go.Proofs
def zf1:LoopI:=⟨[(0,.any),(2,.any),(3,.any),(4,.any),(103,.any),(104,.int .i64),(105,.int .i64)],[(.exit 4,[(2,.any),(3,.any),(4,.any)]),(.ret,[(2,.any),(3,.any)])]⟩
def zf2:LoopI:=⟨[(0,.any),(2,.any),(3,.any),(4,.any),(7,.any),(8,.any),(38,.any),(39,.int .i64),(40,.int .i64),(62,.any),(63,.int .i64),(64,.int .i64)],[(.exit 2,[(0,.any),(2,.any),(3,.any),(4,.any),(7,.any),(8,.any),(38,.any),(39,.int .i64),(40,.int .i64)]),(.ret,[(2,.any),(3,.any)])]⟩
def zgp:LoopI:=⟨[(0,.any),(2,.any),(3,.any),(4,.any),(38,.any),(39,.int .i64),(40,.int .i64)],[(.exit 0,[(0,.any),(2,.any),(3,.any),(4,.any)]),(.ret,[(2,.any),(3,.any)])]⟩
def zgy (n:Nat):Option LoopI:=cond (Nat.beq n 6) (some zgp) (cond (Nat.beq n 12) (some zf2) (cond (Nat.beq n 20) (some zf1) (none)))
noncomputable def zdd (cf:zak) (lf:zac) (b':Value) (st:SS):Option (Value×SS):=
 let a:SS:=st.new (.cells [.slice none 0 0,.slice none 0 0] 0)
 let b:SS:=a.new (.cells [.int .i64 0,.int .i64 0] 0)
 let c:SS:=b.new (.cells [.slice none 0 0,.slice none 0 0] 0)
 (zaj b').bind fun d=>
 (addr? d).bind fun e=>
 (c.ld e.1 (e.2+2)).bind fun f=>
 ((lenV f).bind (asI .i64)).bind fun g=>
 cond (decide (0<g)) (
 (zaj b').bind fun h=>
 (addr? h).bind fun i=>
 (c.ld i.1 (i.2+2)).bind fun j=>
 let k:Int:=IntKind.wrap .i64 (g-1)
 (zam j k 6).bind fun l=>
 ((c.ld l.1 l.2).bind (asI .i64)).bind fun m=>
 let n:Int:=IntKind.wrap .i64 (m+1)
 (zfB n n 8).bind fun _=>
 let o:SS:=c.new (.cells (zfh [.int .u64 0] n) 1)
 (o.st b.next 0 [.slice (some ⟨c.next,0,none⟩) ((n:Int).toNat) ((n:Int).toNat)]).bind fun p=>
 (zaj b').bind fun q=>
 (addr? q).bind fun r=>
 (p.ld r.1 (r.2+2)).bind fun s=>
 ((lenV s).bind (asI .i64)).bind fun t=>
 (lf 6 [b',ptr st.next 0,ptr a.next 0,ptr b.next 0,s,.int .i64 t,.int .i64 0] p).bind fun u=>
 cond (Nat.beq u.1 0) (
 (u.2.1[0]?).bind fun v=>
 (u.2.1[1]?).bind fun w=>
 (u.2.1[2]?).bind fun x=>
 (u.2.1[3]?).bind fun y=>
 (zaj v).bind fun z=>
 (addr? z).bind fun A=>
 (u.2.2.ld A.1 (A.2+4)).bind fun B=>
 ((lenV B).bind (asI .i64)).bind fun C=>
 (lf 20 [v,w,x,y,B,.int .i64 C,.int .i64 0] u.2.2).bind fun D=>
 cond (Nat.beq D.1 0) (
 (D.2.1[0]?).bind fun E=>
 (D.2.1[1]?).bind fun F=>
 (D.2.1[2]?).bind fun G=>
 (addr? G).bind fun H=>
 (D.2.2.ldN H.1 H.2 2).bind fun I=>
 (addr? E).bind fun J=>
 (D.2.2.stV J.1 J.2 2 I).bind fun K=>
 (addr? F).bind fun L=>
 (K.st L.1 L.2 [.int .i64 0,.int .i64 0]).bind fun M=>
 (addr? E).bind fun N=>
 (M.rdN N.1 N.2 2).bind fun O=>
 (addr? F).bind fun P=>
 (M.rdN P.1 P.2 2).bind fun Q=>
 some (.tuple #[O,Q],M)) (
 (D.2.1[0]?).bind fun R=>
 (D.2.1[1]?).bind fun S=>
 (addr? R).bind fun T=>
 (D.2.2.rdN T.1 T.2 2).bind fun U=>
 (addr? S).bind fun V=>
 (D.2.2.rdN V.1 V.2 2).bind fun W=>
 some (.tuple #[U,W],D.2.2))) (
 (u.2.1[0]?).bind fun X=>
 (u.2.1[1]?).bind fun Y=>
 (addr? X).bind fun Z=>
 (u.2.2.rdN Z.1 Z.2 2).bind fun aA=>
 (addr? Y).bind fun aB=>
 (u.2.2.rdN aB.1 aB.2 2).bind fun aC=>
 some (.tuple #[aA,aC],u.2.2))) (
 (zaj b').bind fun aD=>
 (addr? aD).bind fun aE=>
 (c.ld aE.1 (aE.2+2)).bind fun aF=>
 ((lenV aF).bind (asI .i64)).bind fun aG=>
 (lf 6 [b',ptr st.next 0,ptr a.next 0,ptr b.next 0,aF,.int .i64 aG,.int .i64 0] c).bind fun aH=>
 cond (Nat.beq aH.1 0) (
 (aH.2.1[0]?).bind fun aI=>
 (aH.2.1[1]?).bind fun aJ=>
 (aH.2.1[2]?).bind fun aK=>
 (aH.2.1[3]?).bind fun aL=>
 (zaj aI).bind fun aM=>
 (addr? aM).bind fun aN=>
 (aH.2.2.ld aN.1 (aN.2+4)).bind fun aO=>
 ((lenV aO).bind (asI .i64)).bind fun aP=>
 (lf 20 [aI,aJ,aK,aL,aO,.int .i64 aP,.int .i64 0] aH.2.2).bind fun aQ=>
 cond (Nat.beq aQ.1 0) (
 (aQ.2.1[0]?).bind fun aR=>
 (aQ.2.1[1]?).bind fun aS=>
 (aQ.2.1[2]?).bind fun aT=>
 (addr? aT).bind fun aU=>
 (aQ.2.2.ldN aU.1 aU.2 2).bind fun aV=>
 (addr? aR).bind fun aW=>
 (aQ.2.2.stV aW.1 aW.2 2 aV).bind fun aX=>
 (addr? aS).bind fun aY=>
 (aX.st aY.1 aY.2 [.int .i64 0,.int .i64 0]).bind fun aZ=>
 (addr? aR).bind fun bA=>
 (aZ.rdN bA.1 bA.2 2).bind fun bB=>
 (addr? aS).bind fun bC=>
 (aZ.rdN bC.1 bC.2 2).bind fun bD=>
 some (.tuple #[bB,bD],aZ)) (
 (aQ.2.1[0]?).bind fun bE=>
 (aQ.2.1[1]?).bind fun bF=>
 (addr? bE).bind fun bG=>
 (aQ.2.2.rdN bG.1 bG.2 2).bind fun bH=>
 (addr? bF).bind fun bI=>
 (aQ.2.2.rdN bI.1 bI.2 2).bind fun bJ=>
 some (.tuple #[bH,bJ],aQ.2.2))) (
 (aH.2.1[0]?).bind fun bK=>
 (aH.2.1[1]?).bind fun bL=>
 (addr? bK).bind fun bM=>
 (aH.2.2.rdN bM.1 bM.2 2).bind fun bN=>
 (addr? bL).bind fun bO=>
 (aH.2.2.rdN bO.1 bO.2 2).bind fun bP=>
 some (.tuple #[bN,bP],aH.2.2)))
noncomputable abbrev zar:zac:=lS Tryz.prog Lk0 Tryz.f17 zgy
theorem zlc:Lk0.func 17=some (17,Tryz.f17):=by kernel_rfl
theorem zdh [Sym] (b':Value) (st:SS) {r:Value×SS} (h:zdd cc zar b' st=some r):cc 17 [b'] st=some r:=
 zah (li:=zgy) zai zal zlc rfl (fun _=>rfl) (.trans (by kernel_rfl) h)
noncomputable def zck (cf:zak) (lf:zac) (b':Value) (t2':Value) (t3':Value) (r':Value) (t38':Value) (t39':Int) (t40':Int) (st:SS):Option (Nat×List Value×SS):=
 cond (decide (t40'<t39')) (
 (zam t38' t40' 6).bind fun a=>
 (st.ldN a.1 a.2 6).bind fun b=>
 let c:SS:=st.new (.cells [.int .i64 0,.int .i64 0,.string ⟨#[]⟩,.string ⟨#[]⟩,.slice none 0 0,.slice none 0 0] 0)
 (c.stV st.next 0 6 b).bind fun d=>
 (d.ldN st.next 1 5).bind fun e=>
 (cf 35 [b',e] d).bind fun f=>
 (zao f.1 0).bind fun g=>
 ((zao f.1 1).bind (asI .i64)).bind fun h=>
 let i:SS:=f.2.new (.cells [.int .i64 0,.int .i64 0,.int .i64 0,.int .i64 0,.int .i64 0,.int .i64 0,.int .i64 0,.int .i64 0,.int .i64 0,.int .i64 0,.int .i64 0,.int .i64 0] 0)
 (i.stV f.2.next 0 12 g).bind fun j=>
 cond (decide (0<h)) (
 ((j.ld st.next 1).bind (asI .i64)).bind fun k=>
 cond (zbY (ptr st.next 1) t2') (
 (addr? t2').bind fun l=>
 (j.st l.1 l.2 [.slice none 0 0,.slice none 0 0]).bind fun m=>
 (addr? t3').bind fun n=>
 (m.st n.1 n.2 [.int .i64 k,.int .i64 h]).bind fun o=>
 some (1,[t2',t3'],o)) (
 none)) (
 (j.ldN f.2.next 0 12).bind fun p=>
 ((j.ld st.next 0).bind (asI .i64)).bind fun q=>
 (cf 25 [p,.int .i64 q] j).bind fun r=>
 ((lenV r.1).bind (asI .i64)).bind fun s=>
 (lf 12 [b',t2',t3',r',ptr st.next 0,ptr f.2.next 0,t38',.int .i64 t39',.int .i64 t40',r.1,.int .i64 s,.int .i64 0] r.2).bind fun t=>
 cond (Nat.beq t.1 0) (
 (t.2.1[0]?).bind fun u=>
 (t.2.1[1]?).bind fun v=>
 (t.2.1[2]?).bind fun w=>
 (t.2.1[3]?).bind fun x=>
 (t.2.1[4]?).bind fun y=>
 (t.2.1[5]?).bind fun z=>
 (t.2.1[6]?).bind fun A=>
 ((t.2.1[7]?).bind (asI .i64)).bind fun B=>
 ((t.2.1[8]?).bind (asI .i64)).bind fun C=>
 (addr? x).bind fun D=>
 (t.2.2.ld D.1 D.2).bind fun E=>
 (addr? y).bind fun F=>
 ((t.2.2.ld F.1 F.2).bind (asI .i64)).bind fun G=>
 (addr? z).bind fun H=>
 (t.2.2.ldN H.1 H.2 12).bind fun I=>
 (cf 36 [I] (t.2.2.ro t.2.2.next)).bind fun J=>
 ((zao J.1 0).bind (asI .u64)).bind fun K=>
 ((zao J.1 1).bind (asI .i64)).bind fun L=>
 (zam E G 1).bind fun M=>
 ((J.2.ro t.2.2.lim).st M.1 M.2 [.int .u64 K]).bind fun N=>
 let O:Int:=IntKind.wrap .i64 (C+1)
 lf 6 [u,v,w,x,A,.int .i64 B,.int .i64 O] N) (
 (t.2.1[0]?).bind fun P=>
 (t.2.1[1]?).bind fun Q=>
 some (1,[P,Q],t.2.2)))) (
 some (0,[b',t2',t3',r'],st))
theorem zcu [Sym] (b':Value) (t2':Value) (t3':Value) (r':Value) (t38':Value) (t39':Int) (t40':Int) (st:SS) {r:Nat×List Value×SS} (h:zck cc zar b' t2' t3' r' t38' t39' t40' st=some r):zar 6 [b',t2',t3',r',t38',.int .i64 t39',.int .i64 t40'] st=some r:=
 zay zai zal (key:=6) (I:=zgp) rfl (by kernel_rfl) (by kernel_rfl) rfl rfl (.trans (by kernel_rfl) h)
noncomputable def zc0 (cf:zak) (lf:zac) (b':Value) (t2':Value) (t3':Value) (r':Value) (x':Value) (w':Value) (t38':Value) (t39':Int) (t40':Int) (t62':Value) (t63':Int) (t64':Int) (st:SS):Option (Nat×List Value×SS):=
 cond (decide (t64'<t63')) (
 (zam t62' t64' 2).bind fun a=>
 (st.ldN a.1 a.2 2).bind fun b=>
 let c:SS:=st.new (.cells [.int .i64 0,.int .i64 0] 0)
 (c.stV st.next 0 2 b).bind fun d=>
 (zaP (ptr st.next 0) 2 0 1).bind fun e=>
 ((d.ld e.1 e.2).bind (asI .i64)).bind fun f=>
 (zaP (ptr st.next 0) 2 1 1).bind fun g=>
 ((d.ld g.1 g.2).bind (asI .i64)).bind fun h=>
 let i:Int:=IntKind.wrap .i64 (f+h)
 (addr? r').bind fun j=>
 (d.ld j.1 j.2).bind fun k=>
 ((lenV k).bind (asI .i64)).bind fun l=>
 cond (decide (l<i)) (
 (addr? x').bind fun m=>
 ((d.ld m.1 (m.2+1)).bind (asI .i64)).bind fun n=>
 (addr? x').bind fun o=>
 (d.ld o.1 (o.2+1+4)).bind fun p=>
 (zam p 0 5).bind fun q=>
 ((d.ld q.1 (q.2+1)).bind (asI .i64)).bind fun r=>
 cond (zbY (ptr m.1 (m.2+1)) t2') (
 cond (zbY (ptr o.1 (o.2+1+4)) t2') (
 cond (zbY (ptr q.1 (q.2+1)) t2') (
 (addr? t2').bind fun s=>
 (d.st s.1 s.2 [.slice none 0 0,.slice none 0 0]).bind fun t=>
 (addr? t3').bind fun u=>
 (t.st u.1 u.2 [.int .i64 n,.int .i64 r]).bind fun v=>
 some (1,[t2',t3'],v)) (
 none)) (
 none)) (
 none)) (
 let w:Int:=IntKind.wrap .i64 (t64'+1)
 lf 12 [b',t2',t3',r',x',w',t38',.int .i64 t39',.int .i64 t40',t62',.int .i64 t63',.int .i64 w] d)) (
 some (0,[b',t2',t3',r',x',w',t38',.int .i64 t39',.int .i64 t40'],st))
theorem zdl [Sym] (b':Value) (t2':Value) (t3':Value) (r':Value) (x':Value) (w':Value) (t38':Value) (t39':Int) (t40':Int) (t62':Value) (t63':Int) (t64':Int) (st:SS) {r:Nat×List Value×SS} (h:zc0 cc zar b' t2' t3' r' x' w' t38' t39' t40' t62' t63' t64' st=some r):zar 12 [b',t2',t3',r',x',w',t38',.int .i64 t39',.int .i64 t40',t62',.int .i64 t63',.int .i64 t64'] st=some r:=
 zay zai zal (key:=12) (I:=zf2) rfl (by kernel_rfl) (by kernel_rfl) rfl rfl (.trans (by kernel_rfl) h)
noncomputable def zbK (cf:zak) (lf:zac) (b':Value) (t2':Value) (t3':Value) (r':Value) (t103':Value) (t104':Int) (t105':Int) (st:SS):Option (Nat×List Value×SS):=
 cond (decide (t105'<t104')) (
 (zam t103' t105' 3).bind fun a=>
 (st.ldN a.1 a.2 3).bind fun b=>
 let c:SS:=st.new (.cells [.string ⟨#[]⟩,.int .i64 0,.int .i64 0] 0)
 (c.stV st.next 0 3 b).bind fun d=>
 (zaj b').bind fun e=>
 (addr? e).bind fun f=>
 (d.ld f.1 (f.2+1)).bind fun g=>
 ((d.ld st.next 0).bind asS).bind fun h=>
 (d.mapF g h).bind fun i=>
 zf7 i (
 (zaj b').bind fun j=>
 (addr? j).bind fun k=>
 (d.ld k.1 (k.2+3)).bind fun l=>
 (zam l t105' 2).bind fun m=>
 (d.ldN m.1 m.2 2).bind fun n=>
 cond (zbY (ptr k.1 (k.2+3)) t2') (
 cond (zbY (ptr m.1 m.2) t2') (
 (addr? t2').bind fun o=>
 (d.st o.1 o.2 [.slice none 0 0,.slice none 0 0]).bind fun p=>
 (addr? t3').bind fun q=>
 (p.stV q.1 q.2 2 n).bind fun r=>
 some (1,[t2',t3'],r)) (
 none)) (
 none)) (fun s=>
 ((zao (.tuple #[s,.bool true]) 0).bind (asI .i64)).bind fun t=>
 cond (decide (t<0)) (
 (zaj b').bind fun u=>
 (addr? u).bind fun v=>
 (d.ld v.1 (v.2+3)).bind fun w=>
 (zam w t105' 2).bind fun x=>
 (d.ldN x.1 x.2 2).bind fun y=>
 cond (zbY (ptr v.1 (v.2+3)) t2') (
 cond (zbY (ptr x.1 x.2) t2') (
 (addr? t2').bind fun z=>
 (d.st z.1 z.2 [.slice none 0 0,.slice none 0 0]).bind fun A=>
 (addr? t3').bind fun B=>
 (A.stV B.1 B.2 2 y).bind fun C=>
 some (1,[t2',t3'],C)) (
 none)) (
 none)) (
 (addr? r').bind fun D=>
 (d.ld D.1 D.2).bind fun E=>
 ((lenV E).bind (asI .i64)).bind fun F=>
 cond (decide (F≤t)) (
 (zaj b').bind fun G=>
 (addr? G).bind fun H=>
 (d.ld H.1 (H.2+3)).bind fun I=>
 (zam I t105' 2).bind fun J=>
 (d.ldN J.1 J.2 2).bind fun K=>
 cond (zbY (ptr H.1 (H.2+3)) t2') (
 cond (zbY (ptr J.1 J.2) t2') (
 (addr? t2').bind fun L=>
 (d.st L.1 L.2 [.slice none 0 0,.slice none 0 0]).bind fun M=>
 (addr? t3').bind fun N=>
 (M.stV N.1 N.2 2 K).bind fun O=>
 some (1,[t2',t3'],O)) (
 none)) (
 none)) (
 (addr? r').bind fun P=>
 (d.ld P.1 (P.2+1)).bind fun Q=>
 ((d.ld st.next 0).bind asS).bind fun R=>
 let S:SS:=d.new (.cells ([.string R,.int .i64 t]) 2)
 (S.app 2 24 Q (.slice (some ⟨d.next,0,none⟩) 1 1)).bind fun T=>
 (addr? r').bind fun U=>
 (T.2.stV U.1 (U.2+1) 1 T.1).bind fun V=>
 let W:Int:=IntKind.wrap .i64 (t105'+1)
 lf 20 [b',t2',t3',r',t103',.int .i64 t104',.int .i64 W] V)))) (
 some (0,[t2',t3',r'],st))
theorem zbP [Sym] (b':Value) (t2':Value) (t3':Value) (r':Value) (t103':Value) (t104':Int) (t105':Int) (st:SS) {r:Nat×List Value×SS} (h:zbK cc zar b' t2' t3' r' t103' t104' t105' st=some r):zar 20 [b',t2',t3',r',t103',.int .i64 t104',.int .i64 t105'] st=some r:=
 zay zai zal (key:=20) (I:=zf1) rfl (by kernel_rfl) (by kernel_rfl) rfl rfl (.trans (by kernel_rfl) h)
def zhs:LoopI:=⟨[(2,.any),(3,.any),(8,.any),(27,.any),(28,.int .i64),(29,.int .i64)],[(.exit 0,[(2,.any),(3,.any),(8,.any)]),(.ret,[(2,.any),(3,.any),(4,.int .i64)])]⟩
def ziz (n:Nat):Option LoopI:=cond (Nat.beq n 6) (some zhs) (none)
noncomputable def zed (cf:zak) (lf:zac) (text':ByteArray) (st:SS):Option (Value×SS):=
 let a:SS:=st.new (.cells [.slice none 0 0,.slice none 0 0] 0)
 let b:SS:=a.new (.cells [.int .i64 0,.int .i64 0] 0)
 (cf 15 [.string text'] b).bind fun c=>
 (zao c.1 0).bind fun d=>
 (zao c.1 1).bind fun e=>
 ((zao c.1 2).bind (asI .i64)).bind fun f=>
 let g:SS:=c.2.new (.cells [.int .i64 0,.int .i64 0] 0)
 (g.stV c.2.next 0 2 e).bind fun h=>
 cond (!(decide (f=0))) (
 (h.ldN c.2.next 0 2).bind fun i=>
 cond (zbY (ptr c.2.next 0) (ptr st.next 0)) (
 (h.st st.next 0 [.slice none 0 0,.slice none 0 0]).bind fun j=>
 (j.stV a.next 0 2 i).bind fun k=>
 (k.rdN st.next 0 2).bind fun l=>
 (k.rdN a.next 0 2).bind fun m=>
 some (.tuple #[l,m,.int .i64 f],k)) (
 none)) (
 let n:SS:=h.new (.map [])
 let o:SS:=n.new (.cells [.int .i64 0,.map (some h.next),.slice none 0 0,.slice none 0 0,.slice none 0 0] 0)
 ((lenV d).bind (asI .i64)).bind fun p=>
 (lf 6 [ptr st.next 0,ptr a.next 0,ptr n.next 0,d,.int .i64 p,.int .i64 0] o).bind fun q=>
 cond (Nat.beq q.1 0) (
 (q.2.1[0]?).bind fun s=>
 (q.2.1[1]?).bind fun t=>
 (q.2.1[2]?).bind fun u=>
 (cf 17 [u] q.2.2).bind fun v=>
 (zao v.1 0).bind fun w=>
 (zao v.1 1).bind fun x=>
 let y:SS:=v.2.new (.cells [.slice none 0 0,.slice none 0 0] 0)
 let z:SS:=y.new (.cells [.int .i64 0,.int .i64 0] 0)
 (z.stV v.2.next 0 2 w).bind fun A=>
 (A.stV y.next 0 2 x).bind fun B=>
 (B.ldN y.next 0 2).bind fun C=>
 (((eqA Tryz.prog Lk0 62 C (.agg #[.int .i64 0,.int .i64 0])).bind fun r=>some (.bool !r)).bind asB).bind fun D=>
 cond D (
 (B.ldN y.next 0 2).bind fun E=>
 cond (zbY (ptr y.next 0) s) (
 (addr? s).bind fun F=>
 (B.st F.1 F.2 [.slice none 0 0,.slice none 0 0]).bind fun G=>
 (addr? t).bind fun H=>
 (G.stV H.1 H.2 2 E).bind fun I=>
 (addr? s).bind fun J=>
 (I.rdN J.1 J.2 2).bind fun K=>
 (addr? t).bind fun L=>
 (I.rdN L.1 L.2 2).bind fun M=>
 some (.tuple #[K,M,.int .i64 4],I)) (
 none)) (
 (B.ldN v.2.next 0 2).bind fun N=>
 (addr? s).bind fun O=>
 (B.stV O.1 O.2 2 N).bind fun P=>
 (addr? t).bind fun Q=>
 (P.st Q.1 Q.2 [.int .i64 0,.int .i64 0]).bind fun R=>
 (addr? s).bind fun S=>
 (R.rdN S.1 S.2 2).bind fun T=>
 (addr? t).bind fun U=>
 (R.rdN U.1 U.2 2).bind fun V=>
 some (.tuple #[T,V,.int .i64 0],R))) (
 (q.2.1[0]?).bind fun W=>
 (q.2.1[1]?).bind fun X=>
 ((q.2.1[2]?).bind (asI .i64)).bind fun Y=>
 (addr? W).bind fun Z=>
 (q.2.2.rdN Z.1 Z.2 2).bind fun aA=>
 (addr? X).bind fun aB=>
 (q.2.2.rdN aB.1 aB.2 2).bind fun aC=>
 some (.tuple #[aA,aC,.int .i64 Y],q.2.2)))
noncomputable abbrev zbH:zac:=lS Tryz.prog Lk0 Tryz.f7 ziz
theorem znD:Lk0.func 7=some (7,Tryz.f7):=by kernel_rfl
theorem zd5 [Sym] (text':ByteArray) (st:SS) {r:Value×SS} (h:zed cc zbH text' st=some r):cc 7 [.string text'] st=some r:=
 zah (li:=ziz) zai zal znD rfl (fun _=>rfl) (.trans (by kernel_rfl) h)
noncomputable def zd6 (cf:zak) (lf:zac) (t2':Value) (t3':Value) (b':Value) (t27':Value) (t28':Int) (t29':Int) (st:SS):Option (Nat×List Value×SS):=
 cond (decide (t29'<t28')) (
 (zam t27' t29' 5).bind fun a=>
 (st.ldN a.1 a.2 5).bind fun b=>
 let c:SS:=st.new (.cells [.int .i64 0,.string ⟨#[]⟩,.string ⟨#[]⟩,.slice none 0 0,.slice none 0 0] 0)
 (c.stV st.next 0 5 b).bind fun d=>
 (d.ldN st.next 0 5).bind fun e=>
 (cf 16 [b',e] d).bind fun f=>
 ((some f.1).bind asB).bind fun g=>
 cond (!g) (
 ((f.2.ld st.next 0).bind (asI .i64)).bind fun h=>
 cond (zbY (ptr st.next 0) t2') (
 (addr? t2').bind fun i=>
 (f.2.st i.1 i.2 [.slice none 0 0,.slice none 0 0]).bind fun j=>
 (addr? t3').bind fun k=>
 (j.st k.1 k.2 [.int .i64 h,.int .i64 1]).bind fun l=>
 some (1,[t2',t3',.int .i64 4],l)) (
 none)) (
 let m:Int:=IntKind.wrap .i64 (t29'+1)
 lf 6 [t2',t3',b',t27',.int .i64 t28',.int .i64 m] f.2)) (
 some (0,[t2',t3',b'],st))
theorem zet [Sym] (t2':Value) (t3':Value) (b':Value) (t27':Value) (t28':Int) (t29':Int) (st:SS) {r:Nat×List Value×SS} (h:zd6 cc zbH t2' t3' b' t27' t28' t29' st=some r):zbH 6 [t2',t3',b',t27',.int .i64 t28',.int .i64 t29'] st=some r:=
 zay zai zal (key:=6) (I:=zhs) rfl (by kernel_rfl) (by kernel_rfl) rfl rfl (.trans (by kernel_rfl) h)
end Go.Proofs.YtcplfckncandkaaGreatDoorE
namespace Go.Proofs.YtcplfckncandkaaGreatDoorE
open Go Go.E Go.Proofs
theorem zpM {α:Type} {f:α→List Value} {z:Nat} (hz:∀ x,(f x).length=z) (x:α):∀ (l:List α) (k:Nat),k<l.length→(rowsF f l).take (k*z)++(f x++(rowsF f l).drop (k*z+z))=rowsF f (l.set k x)
 | [],k,h=>by simp at h
 | a::r,0,_=>by
   rw [zb8,List.set_cons_zero,zb8,Nat.zero_mul,List.take_zero,List.nil_append,Nat.zero_add,List.drop_append,hz,Nat.sub_self,List.drop_of_length_le (by rw [hz];exact zlr _)]
   simp
 | a::r,k+1,h=>by
   have ih:=zpM hz x r k (by simpa using h)
   have e1:(k+1)*z-z=k*z:=by rw [Nat.add_mul];omega
   have e2:(k+1)*z+z-z=k*z+z:=by rw [Nat.add_mul];omega
   have e3:z≤(k+1)*z:=by rw [Nat.add_mul];omega
   rw [zb8,List.set_cons_succ,zb8,List.take_append,List.drop_append,hz,e1,e2,List.take_of_length_le (by rw [hz];exact e3),List.drop_of_length_le (by rw [hz];omega),List.nil_append,List.append_assoc,ih]
theorem zvj {α:Type} {f:α→List Value} {z:Nat} (hz:∀ x,(f x).length=z) (l:List α) (k:Nat) (x:α) (hk:k<l.length):zc3 (rowsF f l) (k*z) (f x)=some (rowsF f (l.set k x)):=by
 have h1:(k+1)*z≤l.length*z:=Nat.mul_le_mul_right _ hk
 rw [Nat.add_mul,Nat.one_mul] at h1
 rw [zbC (by rw [hz,zg5 hz];exact h1),hz,zpM hz x l k hk]
theorem Own.put {b:Nat} {st:SS} {v:Value} {α:Type} {f:α→List Value} {z:Nat} (hz:∀ x,(f x).length=z) {l:List α} {n:Nat} (h:Own b st v (rowsF f l) z n) (hn:l.length=n) (hl:st.lim≤b) {k:Nat} (hk:k<n) (x:α) (h1:(f x).all one=true):
  ∃ i st',zam v (k:Int) z=some (i,k*z)∧b≤i∧i<st.next∧st.st i (k*z) (f x)=some st'∧(∀ u:Value,u.cells.toList=f x→st.stV i (k*z) z u=some st')∧Own b st' v (rowsF f (l.set k x)) z n∧Mod [i] st st'∧st'.next=st.next:=by
 obtain ⟨h2,⟨rfl,h0⟩ | ⟨i,rfl,h0,hm,hb,hi⟩⟩:=h
 ·omega
 ·have hs:=SS.st_cells hm (by omega) h1 (zvj hz l k x (by omega))
  refine ⟨i,_,?_,hb,hi,hs,fun u hu=>?_,⟨?_,.inr ⟨i,rfl,h0,by simp,hb,by simpa using hi⟩⟩,⟨zlr _,rfl,fun j hj hS=>SS.set_old (by simpa using hS)⟩,rfl⟩
  ·unfold zam
   simp [hk]
  ·unfold SS.stV
   have:u.cells.size=z:=by rw [← hz x,← hu];simp
   rw [this,hu,hs]
   simp
  ·rw [zg5 hz,List.length_set,hn]
def zd7 (w:Wd):List Value:=[.int .u64 (zgm w)]
def zaJ (e:List UInt8×Int):List Value:=[.string (mkS e.1),.int .i64 e.2]
abbrev NN:List Value:=[.slice none 0 0,.slice none 0 0]
abbrev Z2:List Value:=[.int .i64 0,.int .i64 0]
def inR (N:Nat) (T:List (Int×Int)):Bool:=T.any fun t=>decide ((N:Int)<t.1+t.2)
theorem zvk {x:Int} {n:Nat}:fitsT x n=true↔0≤x∧x<2^n:=by unfold fitsT;rw [decide_eq_true_eq]
theorem zrg {s tw a:Int} (ha:0≤a∧a≤4096) (ht:0≤tw∧tw<2048):∀ t∈zbX s tw a,0≤t.1∧t.1≤100000∧0≤t.2∧t.2≤100000:=by
 intro t h
 unfold zbX at h
 repeat' (split at h)
 all_goals first
  | (cases h;done)
  | (simp only [List.mem_cons,List.not_mem_nil,or_false] at h
     rcases h with rfl | rfl<;>simp only<;>omega)
  | (simp only [List.mem_cons,List.not_mem_nil,or_false] at h
     subst h
     simp only
     omega)
theorem zxH {w:Wd} (h:zjr w):0≤w.getD 10 0∧w.getD 10 0<2048:=by
 have h1:=zpL.1 h.2 10 (by omega)
 have e:zax 10=11:=rfl
 rw [zvk,e] at h1
 exact ⟨h1.1,by have:=h1.2;simpa using this⟩
theorem getD_some {w:Wd} {k:Nat} (h:k<w.length):w[k]?=some (w.getD k 0):=by
 rw [List.getD_eq_getElem?_getD,zge h];rfl
theorem zwF [Sym] {base st0:SS} (hx0:Ext base st0) (hll:base.lim≤base.next) {T:List (Int×Int)} (hT:∀ t∈T,0≤t.1∧t.1≤100000∧0≤t.2∧t.2≤100000) (hTl:T.length≤10) {x:WItem} {b' w' t38 v wv ev:Value} {n j:Int} {t2 t3 r xb N:Nat}
  (hN:(lenV wv).bind (asI .i64)=some (N:Int)) (hr:At st0 r [wv,ev]) (a2:At st0 t2 NN) (a3:At st0 t3 Z2) (ax:At st0 xb (wdRow x)) (hne:t2≠t3) (h2:base.next≤t2) (h3:base.next≤t3) (hxb:xb≠t2) (p0:Pr) (ps:List Pr) (hps:x.2.1.prs=p0::ps) (hp:Rd base x.2.2.2 (rowsF prRow x.2.1.prs) 5 x.2.1.prs.length)
  (hv:Rd st0 v (rowsF zbl T) 2 T.length):∀ (k i:Nat) (s:SS),T.length=k+i→Ext st0 s→
  ∃ s',if inR N (T.drop i)=true then zar 12 [b',ptr t2 0,ptr t3 0,ptr r 0,ptr xb 0,w',t38,.int .i64 n,.int .i64 j,v,.int .i64 T.length,.int .i64 i] s=some (1,[ptr t2 0,ptr t3 0],s')∧Ext base s'∧At s' t2 NN∧At s' t3 [.int .i64 x.2.1.ln,.int .i64 p0.col]
   else zar 12 [b',ptr t2 0,ptr t3 0,ptr r 0,ptr xb 0,w',t38,.int .i64 n,.int .i64 j,v,.int .i64 T.length,.int .i64 i] s=some (0,[b',ptr t2 0,ptr t3 0,ptr r 0,ptr xb 0,w',t38,.int .i64 n,.int .i64 j],s')∧Ext st0 s':=by
 intro k
 induction k with
 | zero=>
   intro i s hk he
   have h:¬ (i:Int)<(T.length:Int):=by omega
   rw [List.drop_of_length_le (by omega)]
   refine ⟨s,?_⟩
   rw [if_neg (by simp [inR])]
   refine ⟨zdl _ _ _ _ _ _ _ _ _ _ _ _ s ?_,he⟩
   simp only [zc0,zdf h,zcf]
 | succ k ih=>
   intro i s hk he
   have h:(i:Int)<(T.length:Int):=by omega
   obtain ⟨t,ht⟩:∃ t,T[i]?=some t:=⟨_,zge (by omega)⟩
   obtain ⟨q1,q2,q3,q4⟩:=hT t (zmg ht)
   obtain ⟨p,b1,b2,_⟩:=(hv.ext he).load (j:=(i:Int)) (by omega) h (zaM (f:=zbl) (z:=2) (fun _=>rfl) T i t ht) rfl
   have b2':s.ldN p.1 p.2 2=some (.agg (zbl t).toArray):=b2
   have hlm:s.lim≤s.next:=((hx0.trans he).ll hll)
   obtain ⟨s4,e4,a4,x4,n4⟩:=zaQ (st:=s) hlm (r:=Z2) (row:=zbl t) (v:=.agg (zbl t).toArray) (zaC _) rfl rfl rfl
   have e4':(s.new (.cells [.int .i64 0,.int .i64 0] 0)).stV s.next 0 2 (.agg (zbl t).toArray)=some s4:=e4
   have he4:=he.trans x4
   have c5:zaP (ptr s.next 0) 2 0 1=some (s.next,0):=rfl
   have c7:zaP (ptr s.next 0) 2 1 1=some (s.next,1):=rfl
   have l6:s4.ld s.next 0=some (.int .i64 t.1):=a4.ld
   have l8:s4.ld s.next 1=some (.int .i64 t.2):=a4.ld
   have hw9:IntKind.wrap .i64 (t.1+t.2)=t.1+t.2:=wrap64 (by omega) (by omega)
   have l11:s4.ld r 0=some wv:=(hr.ext he4).ld
   have hd:=drop_cons ht
   by_cases hc:(N:Int)<t.1+t.2
   ·obtain ⟨i15,z15,g1,g2,g3⟩:=hp.elem (j:=(0:Int)) (by omega) (by rw [hps];simp)
    obtain ⟨p17,f1,_,f3⟩:=((hp.ext hx0).ext he4).load (j:=(0:Int)) (by omega) (by rw [hps];simp) (row:=prRow p0) (by rw [hps];rfl) rfl
    have hp17:p17.1<base.next:=by rw [g1] at f1;cases f1;exact g3
    have l18:s4.ld p17.1 (p17.2+1)=some (.int .i64 p0.col):=f3 1 (by omega)
    have l14:s4.ld xb (0+1)=some (.int .i64 x.2.1.ln):=(ax.ext he4).ld
    have l16:s4.ld xb (0+1+4)=some x.2.2.2:=(ax.ext he4).ld
    have a24:=a2.ext he4
    have a34:=a3.ext he4
    obtain ⟨s20,e20,a20,m20,n20⟩:=a24.sto (k:=0) (vs:=NN) (row':=NN) rfl rfl
    obtain ⟨s22,e22,a22,m22,n22⟩:=(a34.mod m20 (by simpa using hne.symm)).sto (k:=0) (vs:=[.int .i64 x.2.1.ln,.int .i64 p0.col]) (row':=[.int .i64 x.2.1.ln,.int .i64 p0.col]) rfl rfl
    refine ⟨s22,?_⟩
    rw [if_pos (by unfold inR;rw [hd,List.any_cons,zdt hc];rfl)]
    refine ⟨zdl _ _ _ _ _ _ _ _ _ _ _ _ s ?_,zaH (zaH (hx0.trans he4) m20 h2) m22 h3,a20.mod m22 (by simpa using hne),a22⟩
    simp only [zc0,zdt h,zct,b1,b2',e4',c5,c7,l6,l8,zob,zaa,hw9,zab,l11,hN,zdt hc,l14,l16,f1,l18,zdc hxb,zdc (show p17.1≠t2 by omega),e20,e22]
   ·obtain ⟨s',hs'⟩:=ih (i+1) s4 (by omega) he4
    have hw1:=zaS (i:=i) (by omega)
    refine ⟨s',?_⟩
    have e:inR N (T.drop i)=inR N (T.drop (i+1)):=by unfold inR;rw [hd,List.any_cons,zdf hc,Bool.false_or]
    rw [e]
    have go:∀ z,zar 12 [b',ptr t2 0,ptr t3 0,ptr r 0,ptr xb 0,w',t38,.int .i64 n,.int .i64 j,v,.int .i64 T.length,.int .i64 ((i+1:Nat):Int)] s4=some z→zar 12 [b',ptr t2 0,ptr t3 0,ptr r 0,ptr xb 0,w',t38,.int .i64 n,.int .i64 j,v,.int .i64 T.length,.int .i64 i] s=some z:=fun z hz=>by
     refine zdl _ _ _ _ _ _ _ _ _ _ _ _ s ?_
     simp only [zc0,zdt h,zct,b1,b2',e4',c5,c7,l6,l8,zob,zaa,hw9,zab,l11,hN,zdf hc,zcf,hw1]
     exact hz
    split
    ·rename_i hh
     rw [if_pos hh] at hs'
     exact ⟨go _ hs'.1,hs'.2⟩
    ·rename_i hh
     rw [if_neg hh] at hs'
     exact ⟨go _ hs'.1,hs'.2⟩
theorem zwG {M:Nat} {x:PLine} (h:LineOk M x) (hM:M≤1099511627776):ztI x.prs:=⟨zlt h.sp hM,fun p hp=>by
 obtain ⟨h1,h2,h3,h4⟩:=h.prs p hp
 exact ⟨h1,h2,by omega,by omega⟩⟩
def LayW (base:SS) (t2 t3 r N:Nat) (b' wv:Value) (res:Option (Nat×List Value×SS)):Except (Nat×Nat) (List Wd)→Prop
 | .error e=>∃ s',res=some (1,[ptr t2 0,ptr t3 0],s')∧Ext base s'∧At s' t2 NN∧At s' t3 [.int .i64 e.1,.int .i64 e.2]
 | .ok ws=>∃ s',res=some (0,[b',ptr t2 0,ptr t3 0,ptr r 0],s')∧Ext base s'∧At s' t2 NN∧At s' t3 Z2∧At s' r [wv,.slice none 0 0]∧Own (base.next+3) s' wv (rowsF zd7 ws) 1 N∧ws.length=N
theorem zxI [Sym] {st0 base:SS} {B b i M:Nat} {vw ve vv wv:Value} {l:Lay} {its:List WItem} (hB:Bld st0 base B b i vw ve vv l its) (hL:LayOk M l) (hM:M≤100000) (hg:Gd base)
  (hN:(lenV wv).bind (asI .i64)=some ((sizeT l:Nat):Int)):∀ (k j:Nat) (ws:List Wd) (s:SS),its.length=k+j→ws.length=sizeT l→Ext base s→At s base.next NN→At s (base.next+1) Z2→At s (base.next+2) [wv,.slice none 0 0]→Own (base.next+3) s wv (rowsF zd7 ws) 1 (sizeT l)→
  LayW base base.next (base.next+1) (base.next+2) (sizeT l) (ptr b 0) wv (zar 6 [ptr b 0,ptr base.next 0,ptr (base.next+1) 0,ptr (base.next+2) 0,vw,.int .i64 its.length,.int .i64 j] s) (zdx l.nms (sizeT l) (l.wds.drop j) ws):=by
 have hll:base.lim≤base.next:=by rw [hB.ext.lim];have:=hB.ll;have:=hB.ext.next;omega
 have hil:its.length≤2048:=by
  have h1:=hL.wlen
  have h2:=hL.pl
  rw [← hB.wds,List.length_map] at h1
  omega
 obtain ⟨hat,hNb⟩:=znC hL
 intro k
 induction k with
 | zero=>
   intro j ws s hk hws he a2 a3 ar ow
   have h:¬ (j:Int)<(its.length:Int):=by omega
   have hd:l.wds.drop j=[]:=List.drop_of_length_le (by rw [← hB.wds,List.length_map];omega)
   rw [hd]
   refine ⟨s,zcu _ _ _ _ _ _ _ s ?_,he,a2,a3,ar,ow,hws⟩
   simp only [zck,zdf h,zcf]
 | succ k ih=>
   intro j ws s hk hws he a2 a3 ar ow
   have h:(j:Int)<(its.length:Int):=by omega
   obtain ⟨x,hx⟩:∃ x,its[j]?=some x:=⟨_,zge (by omega)⟩
   have hwx:l.wds[j]?=some (x.1,x.2.1):=by rw [← hB.wds,List.getElem?_map,hx];rfl
   have hmem:=zmg hwx
   obtain ⟨hlo,hpne,hln⟩:=hL.prs _ hmem
   have hxat:x.1<sizeT l:=hat _ hmem
   have hd:=drop_cons hwx
   obtain ⟨p0,ps,hps⟩:∃ p0 ps,x.2.1.prs=p0::ps:=by
    cases hp:x.2.1.prs with
    | nil=>exact absurd hp hpne
    | cons a r=>exact ⟨a,r,rfl⟩
   have hsb:=hB.then he
   have hlm:s.lim≤s.next:=he.ll hll
   obtain ⟨p1,b1,b2,_⟩:=hsb.ow.rd.load (j:=(j:Int)) (by omega) h (zaM (f:=wdRow) (z:=6) (fun _=>rfl) its j x hx) rfl
   have b2':s.ldN p1.1 p1.2 6=some (.agg (wdRow x).toArray):=b2
   obtain ⟨s4,e4,a4,x4,n4⟩:=zaQ (st:=s) hlm (r:=wdRow (0,⟨0,[],[],[],[]⟩,.slice none 0 0,.slice none 0 0)) (row:=wdRow x) (v:=.agg (wdRow x).toArray) (zaC _) rfl (by
    obtain ⟨hr1,hr2⟩:=hB.itr x (zmg hx)
    have o1:one x.2.2.1=true:=by obtain ⟨_,⟨e,_⟩ | ⟨i,c,e,_⟩⟩:=hr1<;>rw [e]<;>rfl
    have o2:one x.2.2.2=true:=by obtain ⟨_,⟨e,_⟩ | ⟨i,c,e,_⟩⟩:=hr2<;>rw [e]<;>rfl
    simp only [wdRow,lnRow,List.all_cons,List.all_nil,o1,o2]
    rfl) rfl
   have e4':(s.new (.cells [.int .i64 0,.int .i64 0,.string ⟨#[]⟩,.string ⟨#[]⟩,.slice none 0 0,.slice none 0 0] 0)).stV s.next 0 6 (.agg (wdRow x).toArray)=some s4:=e4
   have he4:=he.trans x4
   have hsb4:=hB.then he4
   have l5:s4.ldN s.next 1 5=some (.agg (lnRow x.2).toArray):=a4.ldC rfl
   have hpr:Rd st0 x.2.2.2 (rowsF prRow x.2.1.prs) 5 x.2.1.prs.length:=(hB.itr x (zmg hx)).2
   have hprb:=hpr.ext hB.ext
   obtain ⟨n6,u,hn6,hu,huo,c6⟩:=zvd l.nms hL.nms x.2 (zwG hlo (by omega)) b i (.int .i64 l.pl) vw ve vv s4 (hg.ext he4) hsb4.row.1 hsb4.row.lt hsb4.mp (by have:=hsb4.iB;have:=hsb4.BN;omega) (hprb.ext he4)
   have x6:Ext s4 (s4.adv n6):=(Ext.refl _).adv hn6
   have he6:=he4.trans x6
   obtain ⟨s10,e10,a10,x10,n10⟩:=zaQ (n:=12) (st:=s4.adv n6) (he6.ll hll) (r:=Z12) (row:=wRow u) (v:=wV u) (zaC _) (by rw [za3,hu]) (zcc u) rfl
   have e10':((s4.adv n6).new (.cells [.int .i64 0,.int .i64 0,.int .i64 0,.int .i64 0,.int .i64 0,.int .i64 0,.int .i64 0,.int .i64 0,.int .i64 0,.int .i64 0,.int .i64 0,.int .i64 0] 0)).stV n6 0 12 (wV u)=some s10:=e10
   have he10:=he6.trans x10
   have he4_10:Ext s4 s10:=x6.trans x10
   have a4_10:=a4.ext he4_10
   have t0:∀ (a:Value) (z:Int),zao (.tuple #[a,.int .i64 z]) 0=some a:=fun _ _=>rfl
   have t1:∀ (a:Value) (z:Int),(zao (.tuple #[a,.int .i64 z]) 1).bind (asI .i64)=some z:=fun _ _=>rfl
   have hE:zdx l.nms (sizeT l) (l.wds.drop j) ws=if (zby l.nms za2 x.2.1.prs).2≠0 then .error (x.2.1.ln,(zby l.nms za2 x.2.1.prs).2)
    else if inR (sizeT l) (zbX ((zby l.nms za2 x.2.1.prs).1.getD 8 0) ((zby l.nms za2 x.2.1.prs).1.getD 10 0) x.1)=true then .error (x.2.1.ln,((x.2.1.prs.head?).map (·.col)).getD 0)
    else zdx l.nms (sizeT l) (l.wds.drop (j+1)) (ws.set x.1 (zby l.nms za2 x.2.1.prs).1):=by rw [hd];rfl
   have hlt2:base.next<s.next:=a2.lt
   have hlt3:base.next+1<s.next:=a3.lt
   by_cases hc:(zby l.nms za2 x.2.1.prs).2=0
   ·rw [if_neg (fun hh=>hh hc)] at hE
    have hcz:¬ (0:Int)<(((zby l.nms za2 x.2.1.prs).2:Nat):Int):=by omega
    have hue:=huo hc
    have hwok:=zsw l.nms x.2.1.prs
    generalize hw:(zby l.nms za2 x.2.1.prs).1=w at*
    subst hue
    have l16:s10.ldN n6 0 12=some (wV u):=a10.ldN (by rw [za3,hu])
    have l17:s10.ld s.next 0=some (.int .i64 x.1):=a4_10.ld
    have hto:=zxH hwok
    obtain ⟨v18,s18,c18,x18,o18⟩:=zq2 u (x.1:Int) (u.getD 8 0) (u.getD 10 0) (getD_some (by omega)) (getD_some (by omega)) (by omega) (by omega) s10 (he10.ll hll)
    have he18:=he10.trans x18
    have hT:=zrg (s:=u.getD 8 0) (a:=(x.1:Int)) (by omega) hto
    have hTl:(zbX (u.getD 8 0) (u.getD 10 0) (x.1:Int)).length≤10:=by
     unfold zbX
     repeat' split
     all_goals simp
    obtain ⟨s20,h20⟩:=zwF (b':=ptr b 0) (w':=ptr n6 0) (t38:=vw) (n:=its.length) (j:=j) he18 hll hT hTl (x:=x) (N:=sizeT l) hN (ar.ext ((x4.trans he4_10).trans x18)) (a2.ext ((x4.trans he4_10).trans x18)) (a3.ext ((x4.trans he4_10).trans x18)) (a4_10.ext x18) (by omega) (zlr _) (by omega) (by omega) p0 ps hps hprb o18.rd
     _ 0 s18 rfl (Ext.refl _)
    rw [List.drop_zero] at h20
    have hlen:(lenV v18).bind (asI .i64)=some ((zbX (u.getD 8 0) (u.getD 10 0) (x.1:Int)).length:Int):=by rw [o18.len];rfl
    have b0:Nat.beq 0 0=true:=rfl
    have b1':Nat.beq 1 0=false:=rfl
    by_cases hr:inR (sizeT l) (zbX (u.getD 8 0) (u.getD 10 0) (x.1:Int))=true
    ·rw [if_pos hr] at hE h20
     rw [hE]
     obtain ⟨g1,g2,g3,g4⟩:=h20
     have g1':zar 12 [ptr b 0,ptr base.next 0,ptr (base.next+1) 0,ptr (base.next+2) 0,ptr s.next 0,ptr n6 0,vw,.int .i64 its.length,.int .i64 j,v18,.int .i64 (zbX (u.getD 8 0) (u.getD 10 0) (x.1:Int)).length,.int .i64 0] s18=_:=g1
     refine ⟨s20,zcu _ _ _ _ _ _ _ s ?_,g2,g3,by rw [hps];exact g4⟩
     simp only [zck,zdt h,zct,b1,b2',e4',l5,c6,t0,t1,zob,SS.adv_next,e10',zdf hcz,zcf,l16,l17,zaa,c18,hlen]
     rw [g1',zob]
     simp only [b1',zcf,zob,zgs,zgz]
    ·rw [if_neg hr] at hE h20
     rw [hE]
     obtain ⟨g1,g2⟩:=h20
     have g1':zar 12 [ptr b 0,ptr base.next 0,ptr (base.next+1) 0,ptr (base.next+2) 0,ptr s.next 0,ptr n6 0,vw,.int .i64 its.length,.int .i64 j,v18,.int .i64 (zbX (u.getD 8 0) (u.getD 10 0) (x.1:Int)).length,.int .i64 0] s18=_:=g1
     have he20:=he18.trans g2
     have xs20:Ext s s20:=((x4.trans he4_10).trans x18).trans g2
     have l31:s20.ld (base.next+2) 0=some wv:=(ar.ext xs20).ld
     have l33:s20.ld s.next 0=some (.int .i64 x.1):=(a4_10.ext (x18.trans g2)).ld
     have l35:s20.ldN n6 0 12=some (wV u):=(a10.ext (x18.trans g2)).ldN (by rw [za3,hu])
     obtain ⟨n36,hn36,c36⟩:=zxu u hu (s20.ro s20.next) (hg.ext he20).ro
     rw [if_pos hwok.2] at c36
     have hn36':s20.next≤n36:=hn36
     have x36:Ext s20 (s20.adv n36):=(Ext.refl _).adv hn36'
     have hst:((s20.ro s20.next).adv n36).ro s20.lim=s20.adv n36:=rfl
     have u0:∀ (a:Int) (z:Int),(zao (.tuple #[.int .u64 a,.int .i64 z]) 0).bind (asI .u64)=some a:=fun _ _=>rfl
     have u1:∀ (a:Int) (z:Int),(zao (.tuple #[.int .u64 a,.int .i64 z]) 1).bind (asI .i64)=some z:=fun _ _=>rfl
     have he36:=he20.trans x36
     obtain ⟨iw,s40,f1,f2,f3,f4,_,f6,f7,f8⟩:=Own.put (f:=zd7) (fun _=>rfl) ((ow.ext xs20).ext x36) hws (by rw [he36.lim];omega) hxat u rfl
     rw [Nat.mul_one] at f1 f4
     have f4':(s20.adv n36).st iw x.1 [.int .u64 (zgm u)]=some s40:=f4
     have xs36:=xs20.trans x36
     have next:=ih (j+1) (ws.set x.1 u) s40 (by omega) (by rw [List.length_set,hws]) (zaH he36 f7 (by omega)) ((a2.ext xs36).mod f7 (by simp;omega)) ((a3.ext xs36).mod f7 (by simp;omega)) ((ar.ext xs36).mod f7 (by simp;omega)) f6
     have hw1:=zaS (i:=j) (by omega)
     have step:∀ z,zar 6 [ptr b 0,ptr base.next 0,ptr (base.next+1) 0,ptr (base.next+2) 0,vw,.int .i64 its.length,.int .i64 ((j+1:Nat):Int)] s40=some z→zar 6 [ptr b 0,ptr base.next 0,ptr (base.next+1) 0,ptr (base.next+2) 0,vw,.int .i64 its.length,.int .i64 j] s=some z:=fun z hz=>by
      refine zcu _ _ _ _ _ _ _ s ?_
      simp only [zck,zdt h,zct,b1,b2',e4',l5,c6,t0,t1,zob,SS.adv_next,e10',zdf hcz,zcf,l16,l17,zaa,c18,hlen]
      rw [g1',zob]
      simp only [b0,zct,zaa,zob,zgs,zgz,zab,l31,l33,l35,c36,u0,u1,hst,f1,f4',hw1]
      exact hz
     cases hz:zdx l.nms (sizeT l) (l.wds.drop (j+1)) (ws.set x.1 u) with
     | error e=>
       rw [hz] at next
       obtain ⟨s',d1,d2⟩:=next
       exact ⟨s',step _ d1,d2⟩
     | ok ws'=>
       rw [hz] at next
       obtain ⟨s',d1,d2⟩:=next
       exact ⟨s',step _ d1,d2⟩
   ·rw [if_pos hc] at hE
    rw [hE]
    have hcz:(0:Int)<(((zby l.nms za2 x.2.1.prs).2:Nat):Int):=by omega
    have xs10:Ext s s10:=x4.trans he4_10
    have l11:s10.ld s.next 1=some (.int .i64 x.2.1.ln):=a4_10.ld
    obtain ⟨s13,e13,a13,m13,n13⟩:=(a2.ext xs10).sto (k:=0) (vs:=NN) (row':=NN) rfl rfl
    obtain ⟨s15,e15,a15,m15,n15⟩:=((a3.ext xs10).mod m13 (by simp)).sto (k:=0) (vs:=[.int .i64 x.2.1.ln,.int .i64 (zby l.nms za2 x.2.1.prs).2]) (row':=[.int .i64 x.2.1.ln,.int .i64 (zby l.nms za2 x.2.1.prs).2]) rfl rfl
    refine ⟨s15,zcu _ _ _ _ _ _ _ s ?_,zaH (zaH he10 m13 (zlr _)) m15 (by omega),a13.mod m15 (by simp),a15⟩
    simp only [zck,zdt h,zct,b1,b2',e4',l5,c6,t0,t1,zob,SS.adv_next,e10',zdt hcz,l11,zaa,zdc (show s.next≠base.next by omega),zab,e13,e15]
end Go.Proofs.YtcplfckncandkaaGreatDoorE
namespace Go.Proofs.YtcplfckncandkaaGreatDoorE
open Go Go.E Go.Proofs
def LayE (base:SS) (t2 t3 r N:Nat) (wv:Value) (ws:List Wd) (es:List (List UInt8×Int)) (res:Option (Nat×List Value×SS)):Except (Nat×Nat) (List (List UInt8×Int))→Prop
 | .error e=>∃ s',res=some (1,[ptr t2 0,ptr t3 0],s')∧Ext base s'∧At s' t2 NN∧At s' t3 [.int .i64 e.1,.int .i64 e.2]
 | .ok es'=>∃ s' ev',res=some (0,[ptr t2 0,ptr t3 0,ptr r 0],s')∧Ext base s'∧At s' t2 NN∧At s' t3 Z2∧At s' r [wv,ev']∧Owns (base.next+3) s' [⟨wv,rowsF zd7 ws,1,N⟩,⟨ev',rowsF zaJ (es++es'),2,(es++es').length⟩]
theorem zwH [Sym] {st0 base:SS} {B b i M N:Nat} {vw ve vv wv:Value} {l:Lay} {its:List WItem} (hB:Bld st0 base B b i vw ve vv l its) (hL:LayOk M l) (hn:l.ents.length≤100000) (ws:List Wd)
  (hN:(lenV wv).bind (asI .i64)=some (N:Int)):∀ (k j:Nat) (es:List (List UInt8×Int)) (ev:Value) (s:SS),l.ents.length=k+j→es.length≤j→Ext base s→At s base.next NN→At s (base.next+1) Z2→At s (base.next+2) [wv,ev]→Owns (base.next+3) s [⟨wv,rowsF zd7 ws,1,N⟩,⟨ev,rowsF zaJ es,2,es.length⟩]→
  LayE base base.next (base.next+1) (base.next+2) N wv ws es (zar 20 [ptr b 0,ptr base.next 0,ptr (base.next+1) 0,ptr (base.next+2) 0,vv,.int .i64 l.ents.length,.int .i64 j] s) (zfC l.nms N (l.ents.drop j)):=by
 have hll:base.lim≤base.next:=by rw [hB.ext.lim];have:=hB.ll;have:=hB.ext.next;omega
 intro k
 induction k with
 | zero=>
   intro j es ev s hk hes he a2 a3 ar ow
   have h:¬ (j:Int)<(l.ents.length:Int):=by omega
   rw [List.drop_of_length_le (by omega)]
   refine ⟨s,ev,zbP _ _ _ _ _ _ _ s ?_,he,a2,a3,ar,by rw [List.append_nil];exact ow⟩
   simp only [zbK,zdf h,zcf]
 | succ k ih=>
   intro j es ev s hk hes he a2 a3 ar ow
   have h:(j:Int)<(l.ents.length:Int):=by omega
   obtain ⟨e,hx⟩:∃ e,l.ents[j]?=some e:=⟨_,zge (by omega)⟩
   have hd:=drop_cons hx
   have hE:zfC l.nms N (l.ents.drop j)=match zcZ l.nms e.1.nm with
    | none=>.error e.2
    | some x=>if x<0∨(N:Int)≤x then .error e.2 else match zfC l.nms N (l.ents.drop (j+1)) with
      | .error z=>.error z
      | .ok es=>.ok ((e.1.nm,x)::es):=by rw [hd];rfl
   have hsb:=hB.then he
   have hlm:s.lim≤s.next:=he.ll hll
   have ov:=hsb.ov
   rw [show l.ents.length=(l.ents.map (·.1)).length by simp] at ov
   have hmx:(l.ents.map (·.1))[j]?=some e.1:=by rw [List.getElem?_map,hx];rfl
   obtain ⟨p1,b1,b2,_⟩:=ov.rd.load (j:=(j:Int)) (by omega) (by simpa using h) (zaM (f:=valRow) (z:=3) (fun _=>rfl) _ j e.1 hmx) rfl
   have b2':s.ldN p1.1 p1.2 3=some (.agg (valRow e.1).toArray):=b2
   obtain ⟨s4,e4,a4,x4,n4⟩:=zaQ (n:=3) (st:=s) hlm (r:=valRow ⟨[],0,0⟩) (row:=valRow e.1) (v:=.agg (valRow e.1).toArray) (zaC _) rfl rfl rfl
   have e4':(s.new (.cells [.string ⟨#[]⟩,.int .i64 0,.int .i64 0] 0)).stV s.next 0 3 (.agg (valRow e.1).toArray)=some s4:=e4
   have he4:=he.trans x4
   have hsb4:=hB.then he4
   have hnl:zaj (ptr b 0)=some (ptr b 0):=rfl
   have l7:s4.ld b (0+1)=some (.map (some i)):=hsb4.row.ld
   have l8:s4.ld s.next 0=some (.string (mkS e.1.nm)):=a4.ld
   have l13:s4.ld b (0+3)=some ve:=hsb4.row.ld
   have m7:s4.mapF (.map (some i)) (mkS e.1.nm)=some ((zcZ l.nms e.1.nm).map (.int .i64)):=by
    unfold SS.mapF
    simp only [hsb4.mp,zob,znA]
   obtain ⟨p14,c1,c2,_⟩:=hsb4.oe.rd.load (j:=(j:Int)) (by omega) h (zaM (f:=entRow) (z:=2) (fun _=>rfl) l.ents j e hx) rfl
   have c2':s4.ldN p14.1 p14.2 2=some (.agg (entRow e).toArray):=c2
   have hp14:p14.1<base.next:=by
    obtain ⟨i',z',g1,g2,g3⟩:=hB.oe.rd.elem (j:=(j:Int)) (by omega) h
    rw [g1] at c1;cases c1;exact g3
   have hbt:b≠base.next:=by have:=hB.row.lt;omega
   have a24:=a2.ext x4
   have a34:=a3.ext x4
   obtain ⟨s17,e17,a17,m17,n17⟩:=a24.sto (k:=0) (vs:=NN) (row':=NN) rfl rfl
   obtain ⟨s19,e19,a19,m19,n19⟩:=(a34.mod m17 (by simp)).stV (k:=0) (n:=2) (v:=.agg (entRow e).toArray) (zaC _) rfl rfl (row':=entRow e) rfl
   have hbad:∀ z,z=some (1,[ptr base.next 0,ptr (base.next+1) 0],s19)→LayE base base.next (base.next+1) (base.next+2) N wv ws es z (.error e.2):=fun z hz=>⟨s19,hz,zaH (zaH he4 m17 (zlr _)) m19 (by omega),a17.mod m19 (by simp),a19⟩
   have hp2:zbY (ptr p14.1 p14.2) (ptr base.next 0)=true:=zdc (by omega)
   have hp1:zbY (ptr b (0+3)) (ptr base.next 0)=true:=zdc hbt
   rw [hE]
   cases hf:zcZ l.nms e.1.nm with
   | none=>
     rw [hf] at m7
     refine hbad _ (zbP _ _ _ _ _ _ _ s ?_)
     simp only [zbK,zdt h,zct,b1,b2',e4',hnl,zab,l7,l8,m7,zob,zad,Option.map_none,zf7,l13,c1,c2',hp1,hp2,e17,e19]
   | some y=>
     rw [hf] at m7
     have ht:(zao (.tuple #[.int .i64 y,.bool true]) 0).bind (asI .i64)=some y:=rfl
     by_cases hy:y<0
     ·simp only [if_pos (show y<0∨(N:Int)≤y from .inl hy)]
      refine hbad _ (zbP _ _ _ _ _ _ _ s ?_)
      simp only [zbK,zdt h,zct,b1,b2',e4',hnl,zab,l7,l8,m7,zob,zad,Option.map_some,zf7,ht,zdt hy,l13,c1,c2',hp1,hp2,e17,e19]
     ·have l31:s4.ld (base.next+2) 0=some wv:=(ar.ext x4).ld
      by_cases hyN:(N:Int)≤y
      ·simp only [if_pos (show y<0∨(N:Int)≤y from .inr hyN)]
       refine hbad _ (zbP _ _ _ _ _ _ _ s ?_)
       simp only [zbK,zdt h,zct,b1,b2',e4',hnl,zab,l7,l8,m7,zob,zad,Option.map_some,zf7,ht,zdf hy,zcf,l31,hN,zdt hyN,l13,c1,c2',hp1,hp2,e17,e19]
      ·simp only [if_neg (show ¬ (y<0∨(N:Int)≤y) by omega)]
       have l43:s4.ld (base.next+2) (0+1)=some ev:=(ar.ext x4).ld
       have hlt2:base.next+2<s.next:=ar.lt
       obtain ⟨q,s46,f1,f2,f3⟩:=(ow.ext x4).push (k:=1) (row:=zaJ (e.1.nm,y)) (bt:=24) rfl (by have:=x4.next;omega) (by rw [he4.lim];omega) rfl (by omega) rfl (by omega) (by omega)
       have f1':(s4.new (.cells ([.string (mkS e.1.nm),.int .i64 y]) 2)).app 2 24 ev (.slice (some ⟨s4.next,0,none⟩) 1 1)=some (.slice (some ⟨q,0,none⟩) (es.length+1) (es.length+1),s46):=f1
       have ar46:At s46 (base.next+2) [wv,ev]:=(ar.ext x4).keepB f3 (by omega) (by simp)
       have a246:=a24.keepB f3 (by omega) (by simp)
       have a346:=a34.keepB f3 (by omega) (by simp)
       obtain ⟨s48,e48,a48,m48,n48⟩:=ar46.stV (k:=1) (n:=1) (v:=.slice (some ⟨q,0,none⟩) (es.length+1) (es.length+1)) (zpc _ _ _) rfl rfl (row':=[wv,.slice (some ⟨q,0,none⟩) (es.length+1) (es.length+1)]) rfl
       have e48':s46.stV (base.next+2) (0+1) 1 (.slice (some ⟨q,0,none⟩) (es.length+1) (es.length+1))=some s48:=e48
       have he46:Ext base s46:=⟨zlt he4.next f3.next,f3.lim.trans he4.lim,fun m hm=>(f3.keep m (by omega) (by simp)).trans (he4.keep m hm)⟩
       have hw1:=zaS (i:=j) (by omega)
       have ow48:=f2.modLt m48 (by intro m hm;have e:m=base.next+2:=(by simpa using hm);omega)
       have ow48':Owns (base.next+3) s48 [⟨wv,rowsF zd7 ws,1,N⟩,⟨.slice (some ⟨q,0,none⟩) (es.length+1) (es.length+1),rowsF zaJ (es++[(e.1.nm,y)]),2,(es++[(e.1.nm,y)]).length⟩]:=by
        rw [zbW,zc2,List.length_append]
        exact ow48
       have next:=ih (j+1) (es++[(e.1.nm,y)]) _ s48 (by omega) (by simp;omega) (zaH he46 m48 (by omega)) (a246.mod m48 (by simp)) (a346.mod m48 (by simp)) a48 ow48'
       have step:∀ z,zar 20 [ptr b 0,ptr base.next 0,ptr (base.next+1) 0,ptr (base.next+2) 0,vv,.int .i64 l.ents.length,.int .i64 ((j+1:Nat):Int)] s48=some z→zar 20 [ptr b 0,ptr base.next 0,ptr (base.next+1) 0,ptr (base.next+2) 0,vv,.int .i64 l.ents.length,.int .i64 j] s=some z:=fun z hz=>by
        refine zbP _ _ _ _ _ _ _ s ?_
        simp only [zbK,zdt h,zct,b1,b2',e4',hnl,zab,l7,l8,m7,zob,zad,Option.map_some,zf7,ht,zdf hy,zcf,l31,hN,zdf hyN,l43,List.append_nil,f1',e48',hw1]
        exact hz
       cases hz:zfC l.nms N (l.ents.drop (j+1)) with
       | error z=>
         rw [hz] at next
         obtain ⟨s',d1,d2⟩:=next
         exact ⟨s',step _ d1,d2⟩
       | ok es'=>
         rw [hz] at next
         obtain ⟨s',ev',d1,d2,d3,d4,d5,d6⟩:=next
         refine ⟨s',ev',step _ d1,d2,d3,d4,d5,?_⟩
         rw [List.append_assoc] at d6
         exact d6
def zbL (w e:Value):Value:=.agg #[w,e]
def LayR (base:SS) (res:Option (Value×SS)):Except (Nat×Nat) (List Wd×List (List UInt8×Int))→Prop
 | .error e=>∃ s',res=some (.tuple #[zbL (.slice none 0 0) (.slice none 0 0),zbT e],s')∧Ext base s'∧e≠(0,0)
 | .ok (ws,es)=>∃ s' wv ev,res=some (.tuple #[zbL wv ev,zbT (0,0)],s')∧Ext base s'∧Own base.next s' wv (rowsF zd7 ws) 1 ws.length∧Own base.next s' ev (rowsF zaJ es) 2 es.length
theorem zoB {M:Nat} {nms:Nms} {N:Nat}:∀ (xs:List (Nat×PLine)) (ws:List Wd) (e:Nat×Nat),(∀ x∈xs,LineOk M x.2∧x.2.prs≠[]∧0<x.2.ln)→zdx nms N xs ws=.error e→0<e.1
 | [],ws,e,_,h=>by cases h
 | x::r,ws,e,hx,h=>by
   unfold zdx at h
   have:=(hx x (by simp)).2.2
   split at h
   ·cases h;exact this
   ·split at h
    ·cases h;exact this
    ·exact zoB r _ e (fun y hy=>hx y (by simp [hy])) h
theorem zpN {nms:Nms} {N:Nat}:∀ (xs:List (Val×Nat×Nat)) (e:Nat×Nat),(∀ x∈xs,x.1.nm≠[]∧0<x.2.1∧0<x.2.2)→zfC nms N xs=.error e→0<e.1
 | [],e,_,h=>by cases h
 | x::r,e,hx,h=>by
   unfold zfC at h
   have:=(hx x (by simp)).2.1
   split at h
   ·cases h;exact this
   ·split at h
    ·cases h;exact this
    ·split at h
     ·rename_i hz
      cases h
      exact zpN r _ (fun y hy=>hx y (by simp [hy])) hz
     ·cases h
theorem ztK:zgm za2=0:=by decide+kernel
theorem zpO (n:Nat):rowsF zd7 (List.replicate n za2)=List.replicate n (.int .u64 0):=by
 induction n with
 | zero=>rfl
 | succ n ih=>rw [List.replicate_succ,zb8,ih,List.replicate_succ];unfold zd7;rw [ztK];rfl
theorem zkX {nms:Nms} {N:Nat}:∀ (xs:List (Nat×PLine)) (ws ws':List Wd),zdx nms N xs ws=.ok ws'→ws'.length=ws.length
 | [],ws,ws',h=>by cases h;rfl
 | x::r,ws,ws',h=>by
   unfold zdx at h
   split at h
   ·cases h
   ·split at h
    ·cases h
    ·rw [zkX r _ ws' h,List.length_set]
theorem lay_ok [Sym] {st0 base:SS} {B b i M:Nat} {vw ve vv:Value} {l:Lay} {its:List WItem} (hB:Bld st0 base B b i vw ve vv l its) (hL:LayOk M l) (hM:M≤100000) (hn:l.ents.length≤100000) (hg:Gd base):
  LayR base (cc 17 [ptr b 0] base) (ziy l):=by
 have hll:base.lim≤base.next:=by rw [hB.ext.lim];have:=hB.ll;have:=hB.ext.next;omega
 have hil:its.length=l.wds.length:=by rw [← hB.wds,List.length_map]
 have hil2:its.length≤2048:=by
  have h1:=hL.wlen
  have h2:=hL.pl
  omega
 have x1:Ext base (base.new (.cells NN 0)):=(Ext.refl _).new _
 have x2:Ext (base.new (.cells NN 0)) ((base.new (.cells NN 0)).new (.cells Z2 0)):=(Ext.refl _).new _
 have x3:Ext ((base.new (.cells NN 0)).new (.cells Z2 0)) (((base.new (.cells NN 0)).new (.cells Z2 0)).new (.cells NN 0)):=(Ext.refl _).new _
 have a2:At (((base.new (.cells NN 0)).new (.cells Z2 0)).new (.cells NN 0)) base.next NN:=((At.new hll NN).ext x2).ext x3
 have a3:At (((base.new (.cells NN 0)).new (.cells Z2 0)).new (.cells NN 0)) (base.next+1) Z2:=(At.new (st:=base.new (.cells NN 0)) (x1.ll hll) Z2).ext x3
 have ar:At (((base.new (.cells NN 0)).new (.cells Z2 0)).new (.cells NN 0)) (base.next+2) NN:=At.new (st:=(base.new (.cells NN 0)).new (.cells Z2 0)) ((x1.trans x2).ll hll) NN
 have he3:Ext base (((base.new (.cells NN 0)).new (.cells Z2 0)).new (.cells NN 0)):=x1.trans (x2.trans x3)
 have hn1:(base.new (.cells NN 0)).next=base.next+1:=rfl
 have hn2:((base.new (.cells NN 0)).new (.cells Z2 0)).next=base.next+2:=rfl
 have hn3:(((base.new (.cells NN 0)).new (.cells Z2 0)).new (.cells NN 0)).next=base.next+3:=rfl
 generalize hs3:((base.new (.cells NN 0)).new (.cells Z2 0)).new (.cells NN 0)=s3 at*
 have hsb:=hB.then he3
 have hnl:zaj (ptr b 0)=some (ptr b 0):=rfl
 have l6:s3.ld b (0+2)=some vw:=hsb.row.ld
 have hlen:(lenV vw).bind (asI .i64)=some (its.length:Int):=by rw [hB.ow.len];rfl
 have rest:∀ (s:SS) (wv:Value),Ext base s→At s base.next NN→At s (base.next+1) Z2→At s (base.next+2) [wv,.slice none 0 0]→Own (base.next+3) s wv (rowsF zd7 (List.replicate (sizeT l) za2)) 1 (sizeT l)→
   LayR base ((zar 6 [ptr b 0,ptr base.next 0,ptr (base.next+1) 0,ptr (base.next+2) 0,vw,.int .i64 its.length,.int .i64 0] s).bind fun r21=>cond (Nat.beq r21.1 0) (
  (r21.2.1[0]?).bind fun v22=>
  (r21.2.1[1]?).bind fun v23=>
  (r21.2.1[2]?).bind fun v24=>
  (r21.2.1[3]?).bind fun v25=>
  (zaj v22).bind fun v26=>
  (addr? v26).bind fun p27=>
  (r21.2.2.ld p27.1 (p27.2+4)).bind fun v28=>
  ((lenV v28).bind (asI .i64)).bind fun n29=>
  (zar 20 [v22,v23,v24,v25,v28,.int .i64 n29,.int .i64 0] r21.2.2).bind fun r30=>
  cond (Nat.beq r30.1 0) (
   (r30.2.1[0]?).bind fun v31=>
   (r30.2.1[1]?).bind fun v32=>
   (r30.2.1[2]?).bind fun v33=>
   (addr? v33).bind fun p34=>
   (r30.2.2.ldN p34.1 p34.2 2).bind fun v35=>
   (addr? v31).bind fun p36=>
   (r30.2.2.stV p36.1 p36.2 2 v35).bind fun st37=>
   (addr? v32).bind fun p38=>
   (st37.st p38.1 p38.2 [.int .i64 0,.int .i64 0]).bind fun st39=>
   (addr? v31).bind fun p40=>
   (st39.rdN p40.1 p40.2 2).bind fun v41=>
   (addr? v32).bind fun p42=>
   (st39.rdN p42.1 p42.2 2).bind fun v43=>
   some (.tuple #[v41,v43],st39)) (
   (r30.2.1[0]?).bind fun v44=>
   (r30.2.1[1]?).bind fun v45=>
   (addr? v44).bind fun p46=>
   (r30.2.2.rdN p46.1 p46.2 2).bind fun v47=>
   (addr? v45).bind fun p48=>
   (r30.2.2.rdN p48.1 p48.2 2).bind fun v49=>
   some (.tuple #[v47,v49],r30.2.2))) (
  (r21.2.1[0]?).bind fun v50=>
  (r21.2.1[1]?).bind fun v51=>
  (addr? v50).bind fun p52=>
  (r21.2.2.rdN p52.1 p52.2 2).bind fun v53=>
  (addr? v51).bind fun p54=>
  (r21.2.2.rdN p54.1 p54.2 2).bind fun v55=>
  some (.tuple #[v53,v55],r21.2.2))) (ziy l):=by
  intro s wv he b2 b3 br bo
  have hN:(lenV wv).bind (asI .i64)=some ((sizeT l:Nat):Int):=by rw [bo.len];rfl
  have hw:=zxI hB hL hM hg hN its.length 0 (List.replicate (sizeT l) za2) s rfl (by simp) he b2 b3 br bo
  rw [List.drop_zero] at hw
  have b0:Nat.beq 0 0=true:=rfl
  have b1:Nat.beq 1 0=false:=rfl
  unfold ziy
  cases hws:zdx l.nms (sizeT l) l.wds (List.replicate (sizeT l) za2) with
  | error e=>
    rw [hws] at hw
    obtain ⟨s',c1,c2,c3,c4⟩:=hw
    have c1':zar 6 [ptr b 0,ptr base.next 0,ptr (base.next+1) 0,ptr (base.next+2) 0,vw,.int .i64 its.length,.int .i64 0] s=_:=c1
    have r1:=c3.rdN (n:=2) rfl
    have r2:=c4.rdN (n:=2) rfl
    refine ⟨s',?_,c2,fun hh=>by have:=zoB _ _ _ hL.prs hws;rw [hh] at this;omega⟩
    rw [c1',zob]
    simp only [b1,zcf,zgs,zgz,zob,zab,r1,r2]
    rfl
  | ok ws=>
    rw [hws] at hw
    obtain ⟨s',c1,c2,c3,c4,c5,c6,c7⟩:=hw
    have c1':zar 6 [ptr b 0,ptr base.next 0,ptr (base.next+1) 0,ptr (base.next+2) 0,vw,.int .i64 its.length,.int .i64 0] s=_:=c1
    have hsb':=hB.then c2
    have l28:s'.ld b (0+4)=some vv:=hsb'.row.ld
    have hlen2:(lenV vv).bind (asI .i64)=some (l.ents.length:Int):=by rw [hB.ov.len];rfl
    have ow:Owns (base.next+3) s' [⟨wv,rowsF zd7 ws,1,sizeT l⟩,⟨.slice none 0 0,rowsF zaJ [],2,([]:List (List UInt8×Int)).length⟩]:=by
     refine ⟨fun k o ho=>?_,fun k m a b' j ha hb h1 h2=>?_⟩
     ·match k,ho with
      | 0,ho=>cases ho;exact c6
      | 1,ho=>cases ho;exact Own.nil _ _ _
      | k+2,ho=>simp at ho
     ·match k,m,ha,hb with
      | 0,0,_,_=>rfl
      | 1,1,_,_=>rfl
      | 0,1,_,hb=>cases hb;cases h2
      | 1,0,ha,_=>cases ha;cases h1
      | k+2,_,ha,_=>simp at ha
      | _,k+2,_,hb=>simp at hb
    have hen:=zwH hB hL hn ws hN l.ents.length 0 [] _ s' rfl (by simp) c2 c3 c4 c5 ow
    rw [List.drop_zero] at hen
    rw [c1',zob]
    simp only [b0,zct,zgs,zgz,zob,hnl,zab,l28,hlen2]
    cases hes:zfC l.nms (sizeT l) l.ents with
    | error e=>
      rw [hes] at hen
      obtain ⟨s2,d1,d2,d3,d4⟩:=hen
      have d1':zar 20 [ptr b 0,ptr base.next 0,ptr (base.next+1) 0,ptr (base.next+2) 0,vv,.int .i64 l.ents.length,.int .i64 0] s'=_:=d1
      have r1:=d3.rdN (n:=2) rfl
      have r2:=d4.rdN (n:=2) rfl
      refine ⟨s2,?_,d2,fun hh=>by have:=zpN _ _ hL.ent hes;rw [hh] at this;omega⟩
      rw [d1',zob]
      simp only [b1,zcf,zgs,zgz,zob,zab,r1,r2]
      rfl
    | ok es=>
      rw [hes] at hen
      obtain ⟨s2,ev,d1,d2,d3,d4,d5,d6⟩:=hen
      have d1':zar 20 [ptr b 0,ptr base.next 0,ptr (base.next+1) 0,ptr (base.next+2) 0,vv,.int .i64 l.ents.length,.int .i64 0] s'=_:=d1
      have l35:=d5.ldN (n:=2) rfl
      have o1:=d6.own 0 _ rfl
      have o2:=d6.own 1 _ rfl
      simp only [List.nil_append] at o2
      have w1:one wv=true:=(Own.cell o1).2
      have w2:one ev=true:=(Own.cell o2).2
      obtain ⟨s37,e37,a37,m37,n37⟩:=d3.stV (k:=0) (n:=2) (v:=.agg [wv,ev].toArray) (zaC _) rfl (by simp [w1,w2]) (row':=[wv,ev]) rfl
      obtain ⟨s39,e39,a39,m39,n39⟩:=(d4.mod m37 (by simp)).sto (k:=0) (vs:=Z2) (row':=Z2) rfl rfl
      have r1:=(a37.mod m39 (by simp)).rdN (n:=2) rfl
      have r2:=a39.rdN (n:=2) rfl
      have hlw:=zkX _ _ _ hws
      rw [List.length_replicate] at hlw
      have q1:∀ m,m∈[base.next]→m<base.next+3:=(by intro m hm;have e:m=base.next:=(by simpa using hm);omega)
      have q2:∀ m,m∈[base.next+1]→m<base.next+3:=(by intro m hm;have e:m=base.next+1:=(by simpa using hm);omega)
      refine ⟨s39,wv,ev,?_,zaH (zaH d2 m37 (zlr _)) m39 (by omega),?_,((o2.modLt m37 q1).modLt m39 q2).low (by omega)⟩
      ·rw [d1',zob]
       simp only [b0,zct,zgs,zgz,zob,zab,l35,e37,e39,r1,r2]
       rfl
      ·rw [hlw]
       exact ((o1.modLt m37 q1).modLt m39 q2).low (by omega)
 by_cases hw0:0<its.length
 ·have hp:(0:Int)<(its.length:Int):=by omega
  obtain ⟨x,hx⟩:∃ x,its[its.length-1]?=some x:=⟨_,zge (by omega)⟩
  have hwx:l.wds.getLast?=some (x.1,x.2.1):=by
   rw [List.getLast?_eq_getElem?,← hB.wds,List.length_map,List.getElem?_map,hx];rfl
  have hsz:sizeT l=x.1+1:=by unfold sizeT;rw [hwx]
  have hszb:=(znC hL).2
  have n11:IntKind.wrap .i64 ((its.length:Int)-1)=((its.length-1:Nat):Int):=by rw [wrap64 (by omega) (by omega)];omega
  obtain ⟨p12,b1,_,b3⟩:=hsb.ow.rd.load (j:=((its.length-1:Nat):Int)) (by omega) (by omega) (zaM (f:=wdRow) (z:=6) (fun _=>rfl) its (its.length-1) x hx) rfl
  have l13:s3.ld p12.1 p12.2=some (.int .i64 x.1):=b3 0 (by omega)
  have n14:IntKind.wrap .i64 ((x.1:Int)+1)=((sizeT l:Nat):Int):=by rw [wrap64 (by omega) (by omega),hsz];omega
  have hmk:zfB ((sizeT l:Nat):Int) ((sizeT l:Nat):Int) 8=some ():=znj (by omega) (by omega) (by omega)
  have x15:Ext s3 (s3.new (.cells (List.replicate (sizeT l) (.int .u64 0)) 1)):=(Ext.refl _).new _
  obtain ⟨s16,e16,a16,m16,n16⟩:=(ar.ext x15).sto (k:=0) (vs:=[.slice (some ⟨s3.next,0,none⟩) (sizeT l) (sizeT l)]) (row':=[.slice (some ⟨s3.next,0,none⟩) (sizeT l) (sizeT l),.slice none 0 0]) rfl rfl
  have ow16:Own (base.next+3) s16 (.slice (some ⟨s3.next,0,none⟩) (sizeT l) (sizeT l)) (rowsF zd7 (List.replicate (sizeT l) za2)) 1 (sizeT l):=by
   refine ⟨by rw [zpO];simp,.inr ⟨s3.next,rfl,by omega,?_,by omega,by rw [n16];simp⟩⟩
   rw [zpO]
   exact m16.get (by simp) (by simp;omega) (SS.new_get)
  have hr:=rest s16 _ (zaH (he3.trans x15) m16 (by omega)) ((a2.ext x15).mod m16 (by simp)) ((a3.ext x15).mod m16 (by simp)) a16 ow16
  have l19:s16.ld b (0+2)=some vw:=(hB.then (zaH (he3.trans x15) m16 (by omega))).row.ld
  have hst:∀ z,z=zdd cc zar (ptr b 0) base→LayR base z (ziy l):=fun z hz=>by
   rw [hz]
   simp only [zdd,hs3,hn1,hn2,hnl,zob,zab,l6,hlen,zdt hp,zct,n11,b1,l13,zaa,n14,hmk,zkw,Int.toNat_natCast,e16,l19]
   exact hr
  have hfin:=hst _ rfl
  cases hro:ziy l with
  | error e=>
    rw [hro] at hfin
    obtain ⟨s',c,d⟩:=hfin
    exact ⟨s',zdh _ base c,d⟩
  | ok y=>
    obtain ⟨ws,es⟩:=y
    rw [hro] at hfin
    obtain ⟨s',wv,ev,c,d⟩:=hfin
    exact ⟨s',wv,ev,zdh _ base c,d⟩
 ·have hp:¬ (0:Int)<(its.length:Int):=by omega
  have hwn:l.wds=[]:=List.length_eq_zero_iff.1 (by omega)
  have hsz:sizeT l=0:=by unfold sizeT;rw [hwn];rfl
  have hr:=rest s3 (.slice none 0 0) he3 a2 a3 ar (by rw [hsz];exact Own.nil _ _ _)
  have hst:∀ z,z=zdd cc zar (ptr b 0) base→LayR base z (ziy l):=fun z hz=>by
   rw [hz]
   simp only [zdd,hs3,hn1,hn2,hnl,zob,zab,l6,hlen,zdf hp,zcf]
   exact hr
  have hfin:=hst _ rfl
  cases hro:ziy l with
  | error e=>
    rw [hro] at hfin
    obtain ⟨s',c,d⟩:=hfin
    exact ⟨s',zdh _ base c,d⟩
  | ok y=>
    obtain ⟨ws,es⟩:=y
    rw [hro] at hfin
    obtain ⟨s',wv,ev,c,d⟩:=hfin
    exact ⟨s',wv,ev,zdh _ base c,d⟩
end Go.Proofs.YtcplfckncandkaaGreatDoorE
namespace Go.Proofs.YtcplfckncandkaaGreatDoorE
open Go Go.E Go.Proofs
abbrev En:=List UInt8×Int
def zhe (N:Nat) (es:List En) (i:Nat):Bool:=match es[i]? with
 | none=>true
 | some e=>ziY e.1&&(!decide (e.2<0)&&(!decide ((N:Int)≤e.2)&&!decide (e.1∈(es.take i).map (·.1))))
theorem zg1 {N i:Nat} {es:List En} {e:En} (h:es[i]?=some e):zhe N es i=(ziY e.1&&(!decide (e.2<0)&&(!decide ((N:Int)≤e.2)&&!decide (e.1∈(es.take i).map (·.1))))):=by unfold zhe;rw [h]
def zdO (N:Nat) (es:List En):Bool:=Nat.ble N 2048&&(Nat.ble es.length 255&&(List.range es.length).all (zhe N es))
theorem zcR {st st':SS} {q k:Nat} (he:Ext st st') (hq:q<st.next):st'.ld q k=st.ld q k:=by unfold SS.ld;rw [he.keep q hq]
theorem zdT (e:En):(zaJ e).length=2:=rfl
theorem zwI [Sym] (x:En) (f:List UInt8) (q:Nat) (st:SS) (hq:st.ld q 0=some (.string (mkS f))) (hlt:q<st.next):∃ n,st.next≤n∧cc 44 [.agg (zaJ x).toArray,ptr q 0] st=some (.bool (decide (x.1=f)),st.adv n):=by
 refine ⟨st.next+1,by omega,zwd _ _ st ?_⟩
 have x1:Ext (st.ro st.next) ((st.ro st.next).new (.cells (zaJ x) 0)):=(Ext.refl _).new _
 have l0:((st.ro st.next).new (.cells (zaJ x) 0)).ld st.next 0=some (.string (mkS x.1)):=by
  have hm:((st.ro st.next).new (.cells (zaJ x) 0)).mem.get st.next=some (.cells (zaJ x) 0):=SS.new_get (st:=st.ro st.next)
  rw [SS.ld_cells hm];rfl
 have l1:((st.ro st.next).new (.cells (zaJ x) 0)).ld q 0=some (.string (mkS f)):=(zcR x1 (show q<(st.ro st.next).next from hlt)).trans hq
 simp only [entEq,zaC,SS.ro_next,l0,zob,zad,zab,l1,zce]
 rfl
theorem zwJ [Sym] (ps:List En) (hsz:ps.length≤1099511627776) (f:List UInt8) (q:Nat) (v:Value) (st0:SS) (hv:Rg st0 v (rowsF zaJ ps) 2 ps.length) (hq:st0.ld q 0=some (.string (mkS f))) (hlt:q<st0.next):
  ∀ (k j:Nat) (st:SS),ps.length=k+j→Ext st0 st→∃ e vs st',zg8 2 [v,.func (.func 44) #[] #[ptr q 0],.int .i64 ps.length,.int .i64 j] st=some (e,vs,st')∧Ext st0 st'∧
   ((e=0∧vs=[]∧f∉(ps.drop j).map (·.1))∨(e=1∧f∈(ps.drop j).map (·.1)∧∃ m:Nat,vs=[.int .i64 m])):=by
 intro k
 induction k with
 | zero=>
   intro j st hk he
   refine ⟨0,[],st,zio v q _ _ st ?_,he,.inl ⟨rfl,rfl,?_⟩⟩
   ·have:¬ (j:Int)<(ps.length:Int):=by omega
    simp only [ziX,zdf this,zcf]
   ·rw [List.drop_of_length_le (by omega)];simp
 | succ k ih=>
   intro j st hk he
   obtain ⟨p,hp⟩:∃ p,ps[j]?=some p:=⟨_,zge (by omega)⟩
   have hjl:(j:Int)<(ps.length:Int):=by omega
   obtain ⟨x,b1,b2,_⟩:=(hv.ext he).load (j:=(j:Int)) (by omega) hjl (zaM zdT ps j p hp) rfl
   obtain ⟨n,hn,c1⟩:=zwI p f q st ((zcR he hlt).trans hq) (zll hlt he.next)
   have b2':st.ldN x.1 x.2 2=some (.agg (zaJ p).toArray):=b2
   have hd:=drop_cons hp
   have hw:=zaS (i:=j) (by omega)
   by_cases hf:p.1=f
   ·refine ⟨1,[.int .i64 j],st.adv n,zio v q _ _ st ?_,he.adv (by have:=he.next;omega),.inr ⟨rfl,?_,j,rfl⟩⟩
    ·rw [zdt hf] at c1
     simp only [ziX,zdt hjl,zct,b1,zob,b2',c1,zaf]
    ·rw [hd];simp [hf]
   ·obtain ⟨e,vs,st',d1,d2,d3⟩:=ih (j+1) (st.adv n) (by omega) (he.adv (by have:=he.next;omega))
    rw [zdf hf] at c1
    refine ⟨e,vs,st',zio v q _ _ st ?_,d2,?_⟩
    ·simp only [ziX,zdt hjl,zct,b1,zob,b2',c1,zaf,zcf,hw]
     exact d1
    ·rw [hd]
     rcases d3 with ⟨e1,e2,e3⟩ | ⟨e1,e2,e3⟩
     ·exact .inl ⟨e1,e2,by simp only [List.map_cons,List.mem_cons,not_or];exact ⟨fun x=>hf x.symm,e3⟩⟩
     ·exact .inr ⟨e1,by simp only [List.map_cons,List.mem_cons];exact .inr e2,e3⟩
theorem zwK [Sym] (ps:List En) (hsz:ps.length≤1099511627776) (f:List UInt8) (q:Nat) (v:Value) (st:SS) (hv:Rg st v (rowsF zaJ ps) 2 ps.length) (hq:st.ld q 0=some (.string (mkS f))) (hlt:q<st.next):
  ∃ n,st.next≤n∧cc 43 [v,.func (.func 44) #[] #[ptr q 0]] st=some (.bool (decide (f∈ps.map (·.1))),st.adv n):=by
 obtain ⟨e,vs,st',d1,d2,d3⟩:=zwJ ps hsz f q v ((st.ro st.next).ro (st.ro st.next).next) hv hq hlt ps.length 0 ((st.ro st.next).ro (st.ro st.next).next) (by omega) (.refl _)
 have d1':zg8 2 [v,.func (.func 44) #[] #[ptr q 0],.int .i64 ps.length,.int .i64 0] ((st.ro st.next).ro (st.ro st.next).next)=some (e,vs,st'):=d1
 have hlen:=hv.lenI
 rw [List.drop_zero] at d3
 have hnx:=d2.next
 simp at hnx
 refine ⟨st'.next,hnx,ztn _ _ st ?_⟩
 rcases d3 with ⟨rfl,rfl,e3⟩ | ⟨rfl,e2,m,rfl⟩
 ·have c:cc 64 [v,.func (.func 44) #[] #[ptr q 0]] (st.ro st.next)=some (.int .i64 (-1),(st.ro st.next).adv st'.next):=by
   refine zpF _ _ _ ?_
   have hb0:Nat.beq 0 0=true:=rfl
   simp only [zqW,hlen,zob,d1',hb0,zct]
  have h0:¬ (0:Int)≤ -1:=by omega
  rw [zdf e3]
  simp only [zo4,c,zob,zaa,zdf h0]
  rfl
 ·have c:cc 64 [v,.func (.func 44) #[] #[ptr q 0]] (st.ro st.next)=some (.int .i64 m,(st.ro st.next).adv st'.next):=by
   refine zpF _ _ _ ?_
   have hb0:Nat.beq 1 0=false:=rfl
   simp only [zqW,hlen,zob,d1',hb0,zcf,zgz,zaa]
  have h0:(0:Int)≤(m:Int):=by omega
  rw [zdt e2]
  simp only [zo4,c,zob,zaa,zdt h0]
  rfl
def zkY (base:SS) (N:Nat) (es:List En) (i:Nat) (res:Option (Nat×List Value×SS)):Prop:=
 ∃ e vs s',res=some (e,vs,s')∧Ext base s'∧((e=0∧vs=[]∧∀ j,i≤j→zhe N es j=true)∨(e=1∧vs=[.bool false]∧∃ j,i≤j∧j<es.length∧zhe N es j=false))
theorem zkY.up {base:SS} {N i:Nat} {es:List En} {res res':Option (Nat×List Value×SS)} (h:zkY base N es (i+1) res) (hi:zhe N es i=true) (hr:∀ r,res=some r→res'=some r):zkY base N es i res':=by
 obtain ⟨e,vs,s',h1,h2,h3⟩:=h
 refine ⟨e,vs,s',hr _ h1,h2,h3.imp (fun ⟨a,b,c⟩=>⟨a,b,fun j hj=>?_⟩) fun ⟨a,b,j,c,d⟩=>⟨a,b,j,by omega,d⟩⟩
 by_cases e:j=i
 ·rw [e];exact hi
 ·exact c j (by omega)
theorem zrh {base:SS} {N i:Nat} {es:List En} {s:SS} {res:Option (Nat×List Value×SS)} (hi:es.length≤i) (he:Ext base s) (h:res=some (0,[],s)):zkY base N es i res:=
 ⟨0,[],s,h,he,.inl ⟨rfl,rfl,fun j hj=>by unfold zhe;rw [List.getElem?_eq_none (by omega)]⟩⟩
theorem zeQ {base:SS} {N i:Nat} {es:List En} {s:SS} {res:Option (Nat×List Value×SS)} (hl:i<es.length) (hi:zhe N es i=false) (he:Ext base s) (h:res=some (1,[.bool false],s)):zkY base N es i res:=
 ⟨1,_,s,h,he,.inr ⟨rfl,rfl,i,zlr _,hl,hi⟩⟩
section
variable {r : Nat} {wv ev : Value} {N : Nat} {es : List En} {base : SS}
theorem ztL [Sym] (hN:(lenV wv).bind (asI .i64)=some (N:Int)) (hsz:es.length≤255) (hll:base.lim≤base.next) (hr:base.ld r 0=some wv) (hr1:base.ld r (0+1)=some ev) (hlt:r<base.next) (hv:Rg base ev (rowsF zaJ es) 2 es.length):∀ (k i:Nat) (s:SS),es.length=k+i→Ext base s→
  zkY base N es i (zfp 4 [ptr r 0,ev,.int .i64 es.length,.int .i64 i] s):=by
 intro k
 induction k with
 | zero=>
   intro i s hk he
   have h:¬ (i:Int)<(es.length:Int):=by omega
   refine zrh (by omega) he (zc6 _ _ _ _ s ?_)
   simp only [zdB,zdf h,zcf]
 | succ k ih=>
   intro i s hk he
   have h:(i:Int)<(es.length:Int):=by omega
   obtain ⟨e,hg⟩:∃ e,es[i]?=some e:=⟨_,zge (by omega)⟩
   have hga:=zg1 (N:=N) hg
   obtain ⟨p1,b1,b2,_⟩:=(hv.ext he).load (j:=(i:Int)) (by omega) h (zaM zdT es i e hg) rfl
   have b2':s.ldN p1.1 p1.2 2=some (.agg (zaJ e).toArray):=b2
   obtain ⟨s4,e4,a4,x4,n4⟩:=zaQ (n:=2) (st:=s) (he.ll hll) (r:=zaJ ([],0)) (row:=zaJ e) (v:=.agg (zaJ e).toArray) (zaC _) rfl rfl rfl
   have e4':(s.new (.cells [.string ⟨#[]⟩,.int .i64 0] 0)).stV s.next 0 2 (.agg (zaJ e).toArray)=some s4:=e4
   have he4:=he.trans x4
   have l5:s4.ld s.next 0=some (.string (mkS e.1)):=a4.ld
   obtain ⟨n6,hn6,c6⟩:=ztt e.1 s4
   have x6:Ext s4 (s4.adv n6):=Ext.advR s4 hn6
   have he6:=he4.trans x6
   have a6:=a4.ext x6
   cases hnm:ziY e.1 with
   | false=>
     rw [hnm] at c6
     refine zeQ (by omega) (by rw [hga,hnm];rfl) he6 (zc6 _ _ _ _ s ?_)
     simp only [zdB,zdt h,zct,b1,b2',e4',zob,l5,zad,c6,zaf,znf]
   | true=>
   rw [hnm] at c6 hga
   have l8:(s4.adv n6).ld s.next 1=some (.int .i64 e.2):=a6.ld
   by_cases q1:e.2<0
   ·refine zeQ (by omega) (by rw [hga,zdt q1];rfl) he6 (zc6 _ _ _ _ s ?_)
    simp only [zdB,zdt h,zct,b1,b2',e4',zob,l5,zad,c6,zaf,znt,zcf,l8,zaa,zdt q1]
   have l11:(s4.adv n6).ld r 0=some wv:=(zcR he6 hlt).trans hr
   by_cases q2:(N:Int)≤e.2
   ·refine zeQ (by omega) (by rw [hga,zdt q2];simp) he6 (zc6 _ _ _ _ s ?_)
    simp only [zdB,zdt h,zct,b1,b2',e4',zob,l5,zad,c6,zaf,znt,zcf,l8,zaa,zdf q1,zab,l11,hN,zdt q2]
   have l14:(s4.adv n6).ld r (0+1)=some ev:=(zcR he6 hlt).trans hr1
   obtain ⟨v15,c15,g15⟩:=(hv.ext he6).resl (m:=i) (by omega)
   rw [zoc zdT] at g15
   have hli:(es.take i).length=i:=by rw [List.length_take];omega
   have g15':Rg (s4.adv n6) v15 (rowsF zaJ (es.take i)) 2 (es.take i).length:=by rw [hli];exact g15
   obtain ⟨n16,hn16,c16⟩:=zwK (es.take i) (by omega) e.1 s.next v15 (s4.adv n6) g15' a6.ld a6.lt
   have x16:=Ext.advR (s4.adv n6) hn16
   have he16:=he6.trans x16
   have hw1:=zaS (i:=i) (by omega)
   rw [zdf q1,zdf q2] at hga
   by_cases q3:e.1∈(es.take i).map (·.1)
   ·rw [zdt q3] at c16
    refine zeQ (by omega) (by rw [hga,zdt q3];rfl) he16 (zc6 _ _ _ _ s ?_)
    simp only [zdB,zdt h,zct,b1,b2',e4',zob,l5,zad,c6,zaf,znt,zcf,l8,zaa,zdf q1,zab,l11,hN,zdf q2,l14,c15,c16]
   ·rw [zdf q3] at c16
    refine (ih (i+1) ((s4.adv n6).adv n16) (by omega) he16).up (by rw [hga,zdf q3];rfl) fun rr hrr=>zc6 _ _ _ _ s ?_
    simp only [zdB,zdt h,zct,b1,b2',e4',zob,l5,zad,c6,zaf,znt,zcf,l8,zaa,zdf q1,zab,l11,hN,zdf q2,l14,c15,c16,hw1]
    exact hrr
end
theorem zpP {n:Nat} {p:Nat→Bool} (h:∀ j,0≤j→p j=true):(List.range n).all p=true:=by rw [List.all_eq_true];exact fun j _=>h j (Nat.zero_le _)
theorem zk8 {n j:Nat} {p:Nat→Bool} (hj:j<n) (h:p j=false):(List.range n).all p=false:=by
 rw [List.all_eq_false];exact ⟨j,List.mem_range.2 hj,by rw [h];simp⟩
theorem ztM [Sym] {N:Nat} {es:List En} {wv ev:Value} {cw:List Value} {z:Nat} {st:SS} (o1:Rg st wv cw z N) (o2:Rg st ev (rowsF zaJ es) 2 es.length):∃ n,st.next≤n∧cc 23 [zbL wv ev] st=some (.bool (zdO N es),st.adv n):=by
 have hc:(zbL wv ev).cells.toList=[wv,ev]:=by show (Value.agg [wv,ev].toArray).cells.toList=_;exact zaC _
 have x1:Ext (st.ro st.next) ((st.ro st.next).new (.cells [wv,ev] 0)):=(Ext.refl _).new _
 have hn1:((st.ro st.next).new (.cells [wv,ev] 0)).next=st.next+1:=rfl
 have hl1:((st.ro st.next).new (.cells [wv,ev] 0)).lim=st.next:=rfl
 have hm:((st.ro st.next).new (.cells [wv,ev] 0)).mem.get st.next=some (.cells [wv,ev] 0):=SS.new_get (st:=st.ro st.next)
 have l0:((st.ro st.next).new (.cells [wv,ev] 0)).ld st.next 0=some wv:=by rw [SS.ld_cells hm];rfl
 have l1:((st.ro st.next).new (.cells [wv,ev] 0)).ld st.next 1=some ev:=by rw [SS.ld_cells hm];rfl
 have q1:=o1.lenI
 have q2:=o2.lenI
 have o2':Rg ((st.ro st.next).new (.cells [wv,ev] 0)) ev (rowsF zaJ es) 2 es.length:=Rg.ext (st:=st.ro st.next) o2 x1
 by_cases z1:(2048:Int)<(N:Int)
 ·have hb:Nat.ble N 2048=false:=by rw [Bool.eq_false_iff];intro h;rw [Nat.ble_eq] at h;omega
  refine ⟨st.next+1,by omega,zjg _ st ?_⟩
  simp only [zin,hc,SS.ro_next,l0,zob,q1,zdt z1,zct,zdO,hb,Bool.false_and,hn1]
 have hb:Nat.ble N 2048=true:=by rw [Nat.ble_eq];omega
 by_cases z2:(255:Int)<(es.length:Int)
 ·have hb2:Nat.ble es.length 255=false:=by rw [Bool.eq_false_iff];intro h;rw [Nat.ble_eq] at h;omega
  refine ⟨st.next+1,by omega,zjg _ st ?_⟩
  simp only [zin,hc,SS.ro_next,l0,zob,q1,zdf z1,zcf,l1,q2,zdt z2,zct,zdO,hb,hb2,Bool.false_and,Bool.true_and,hn1]
 have hb2:Nat.ble es.length 255=true:=by rw [Nat.ble_eq];omega
 obtain ⟨e,vs,s',h1,h2,h3⟩:=ztL q1 (show es.length≤255 by omega) (by omega) l0 l1 (by omega) o2' es.length 0 _ rfl (Ext.refl _)
 have h1':zfp 4 [ptr st.next 0,ev,.int .i64 es.length,.int .i64 0] ((st.ro st.next).new (.cells [wv,ev] 0))=some (e,vs,s'):=h1
 have hnx:=h2.next
 refine ⟨s'.next,by omega,zjg _ st ?_⟩
 rcases h3 with ⟨rfl,rfl,h3⟩ | ⟨rfl,rfl,j,_,hj,h3⟩
 ·have b0:Nat.beq 0 0=true:=rfl
  simp only [zin,hc,SS.ro_next,l0,zob,q1,zdf z1,zcf,l1,q2,zdf z2]
  rw [h1',zob]
  simp only [b0,zct,zdO,hb,hb2,zpP h3,Bool.and_self]
 ·have b0:Nat.beq 1 0=false:=rfl
  simp only [zin,hc,SS.ro_next,l0,zob,q1,zdf z1,zcf,l1,q2,zdf z2]
  rw [h1',zob]
  simp only [b0,zcf,zgz,zob,zaf,zdO,hb,hb2,zk8 hj h3,Bool.and_false]
theorem rin_ok [Sym] {r' t18 v15:Value} {t19 t20:Int} {eb:Nat} {e:En} (ps:List En) (hsz:ps.length≤1099511627776) (base:SS) (hll:base.lim≤base.next) (hv:Rg base v15 (rowsF zaJ ps) 2 ps.length) (ae:base.ld eb 0=some (.string (mkS e.1))) (hlt:eb<base.next):∀ (k j:Nat) (s:SS),ps.length=k+j→Ext base s→
  ∃ ee vs s',za1 9 [r',ptr eb 0,t18,.int .i64 t19,.int .i64 t20,v15,.int .i64 ps.length,.int .i64 j] s=some (ee,vs,s')∧Ext base s'∧((ee=0∧vs=[r',t18,.int .i64 t19,.int .i64 t20]∧e.1∉(ps.drop j).map (·.1))∨(ee=1∧vs=[.bool false]∧e.1∈(ps.drop j).map (·.1))):=by
 intro k
 induction k with
 | zero=>
   intro j s hk he
   have h:¬ (j:Int)<(ps.length:Int):=by omega
   refine ⟨0,_,s,zdb _ _ _ _ _ _ _ _ s ?_,he,.inl ⟨rfl,rfl,by rw [List.drop_of_length_le (by omega)];simp⟩⟩
   simp only [zcG,zdf h,zcf]
 | succ k ih=>
   intro j s hk he
   have h:(j:Int)<(ps.length:Int):=by omega
   obtain ⟨x,hg⟩:∃ x,ps[j]?=some x:=⟨_,zge (by omega)⟩
   obtain ⟨p1,b1,b2,_⟩:=(hv.ext he).load (j:=(j:Int)) (by omega) (by omega) (zaM zdT ps j x hg) rfl
   have b2':s.ldN p1.1 p1.2 2=some (.agg (zaJ x).toArray):=b2
   obtain ⟨s4,e4,a4,x4,n4⟩:=zaQ (n:=2) (st:=s) (he.ll hll) (r:=zaJ ([],0)) (row:=zaJ x) (v:=.agg (zaJ x).toArray) (zaC _) rfl rfl rfl
   have e4':(s.new (.cells [.string ⟨#[]⟩,.int .i64 0] 0)).stV s.next 0 2 (.agg (zaJ x).toArray)=some s4:=e4
   have he4:=he.trans x4
   have l5:s4.ld s.next 0=some (.string (mkS x.1)):=a4.ld
   have l7:s4.ld eb 0=some (.string (mkS e.1)):=(zcR he4 hlt).trans ae
   have hd:=drop_cons hg
   by_cases hf:x.1=e.1
   ·refine ⟨1,_,s4,zdb _ _ _ _ _ _ _ _ s ?_,he4,.inr ⟨rfl,rfl,by rw [hd];simp [hf]⟩⟩
    simp only [zcG,zdt h,zct,b1,b2',e4',zob,l5,zad,zab,l7,zce,zdt hf]
   ·have hw1:=zaS (i:=j) (by omega)
    obtain ⟨ee,vs,s',f1,f2,f3⟩:=ih (j+1) s4 (by omega) he4
    refine ⟨ee,vs,s',zdb _ _ _ _ _ _ _ _ s ?_,f2,?_⟩
    ·simp only [zcG,zdt h,zct,b1,b2',e4',zob,l5,zad,zab,l7,zce,zdf hf,zcf,hw1]
     exact f1
    ·rw [hd]
     rcases f3 with ⟨e1,e2,e3⟩ | ⟨e1,e2,e3⟩
     ·exact .inl ⟨e1,e2,by simp only [List.map_cons,List.mem_cons,not_or];exact ⟨fun x=>hf x.symm,e3⟩⟩
     ·exact .inr ⟨e1,e2,by simp only [List.map_cons,List.mem_cons];exact .inr e3⟩
theorem ztN [Sym] {r:Nat} {wv ev:Value} {N:Nat} {es:List En} {base:SS} (hN:(lenV wv).bind (asI .i64)=some (N:Int)) (hsz:es.length≤255) (hnl:∀ e∈es,e.1.length≤1000000) (hll:base.lim≤base.next) (hr:base.ld r 0=some wv) (hr1:base.ld r (0+1)=some ev) (hlt:r<base.next) (hv:Rg base ev (rowsF zaJ es) 2 es.length):∀ (k i:Nat) (s:SS),es.length=k+i→Ext base s→
  zkY base N es i (za1 4 [ptr r 0,ev,.int .i64 es.length,.int .i64 i] s):=by
 intro k
 induction k with
 | zero=>
   intro i s hk he
   have h:¬ (i:Int)<(es.length:Int):=by omega
   refine zrh (by omega) he (zbp _ _ _ _ s ?_)
   simp only [zbo,zdf h,zcf]
 | succ k ih=>
   intro i s hk he
   have h:(i:Int)<(es.length:Int):=by omega
   obtain ⟨e,hg⟩:∃ e,es[i]?=some e:=⟨_,zge (by omega)⟩
   have hga:=zg1 (N:=N) hg
   obtain ⟨p1,b1,b2,_⟩:=(hv.ext he).load (j:=(i:Int)) (by omega) h (zaM zdT es i e hg) rfl
   have b2':s.ldN p1.1 p1.2 2=some (.agg (zaJ e).toArray):=b2
   obtain ⟨s4,e4,a4,x4,n4⟩:=zaQ (n:=2) (st:=s) (he.ll hll) (r:=zaJ ([],0)) (row:=zaJ e) (v:=.agg (zaJ e).toArray) (zaC _) rfl rfl rfl
   have e4':(s.new (.cells [.string ⟨#[]⟩,.int .i64 0] 0)).stV s.next 0 2 (.agg (zaJ e).toArray)=some s4:=e4
   have he4:=he.trans x4
   have l5:s4.ld s.next 0=some (.string (mkS e.1)):=a4.ld
   have c6:=zwi e.1 (hnl e (zmg hg)) s4
   cases hnm:ziY e.1 with
   | false=>
     rw [hnm] at c6
     refine zeQ (by omega) (by rw [hga,hnm];rfl) he4 (zbp _ _ _ _ s ?_)
     simp only [zbo,zdt h,zct,b1,b2',e4',zob,l5,zad,c6,zaf,znf]
   | true=>
   rw [hnm] at c6 hga
   have l8:s4.ld s.next 1=some (.int .i64 e.2):=a4.ld
   by_cases q1:e.2<0
   ·refine zeQ (by omega) (by rw [hga,zdt q1];rfl) he4 (zbp _ _ _ _ s ?_)
    simp only [zbo,zdt h,zct,b1,b2',e4',zob,l5,zad,c6,zaf,znt,zcf,l8,zaa,zdt q1]
   have l11:s4.ld r 0=some wv:=(zcR he4 hlt).trans hr
   by_cases q2:(N:Int)≤e.2
   ·refine zeQ (by omega) (by rw [hga,zdt q2];simp) he4 (zbp _ _ _ _ s ?_)
    simp only [zbo,zdt h,zct,b1,b2',e4',zob,l5,zad,c6,zaf,znt,zcf,l8,zaa,zdf q1,zab,l11,hN,zdt q2]
   have l14:s4.ld r (0+1)=some ev:=(zcR he4 hlt).trans hr1
   obtain ⟨v15,c15,g15⟩:=(hv.ext he4).resl (m:=i) (by omega)
   rw [zoc zdT] at g15
   have hli:(es.take i).length=i:=by rw [List.length_take];omega
   have g15':Rg s4 v15 (rowsF zaJ (es.take i)) 2 (es.take i).length:=by rw [hli];exact g15
   have l16:=g15.lenI
   obtain ⟨ee,vs,s17,f17,x17,f3⟩:=rin_ok (r':=ptr r 0) (t18:=ev) (t19:=es.length) (t20:=i) (e:=e) (es.take i) (by omega) s4 (he4.ll hll) g15' l5 a4.lt (es.take i).length 0 s4 rfl (Ext.refl _)
   rw [hli] at f17
   have f17':za1 9 [ptr r 0,ptr s.next 0,ev,.int .i64 es.length,.int .i64 i,v15,.int .i64 i,.int .i64 0] s4=some (ee,vs,s17):=f17
   have he17:=he4.trans x17
   have hw1:=zaS (i:=i) (by omega)
   rw [zdf q1,zdf q2] at hga
   rw [List.drop_zero] at f3
   rcases f3 with ⟨rfl,rfl,q3⟩ | ⟨rfl,rfl,q3⟩
   ·have b0:Nat.beq 0 0=true:=rfl
    refine (ih (i+1) s17 (by omega) he17).up (by rw [hga,zdf q3];rfl) fun rr hrr=>zbp _ _ _ _ s ?_
    simp only [zbo,zdt h,zct,b1,b2',e4',zob,l5,zad,c6,zaf,znt,zcf,l8,zaa,zdf q1,zab,l11,hN,zdf q2,l14,c15,l16]
    rw [f17',zob]
    simp only [b0,zct,zgs,zgz,zob,zaa,hw1]
    exact hrr
   ·have b0:Nat.beq 1 0=false:=rfl
    refine zeQ (by omega) (by rw [hga,zdt q3];rfl) he17 (zbp _ _ _ _ s ?_)
    simp only [zbo,zdt h,zct,b1,b2',e4',zob,l5,zad,c6,zaf,znt,zcf,l8,zaa,zdf q1,zab,l11,hN,zdf q2,l14,c15,l16]
    rw [f17',zob]
    simp only [b0,zcf,zgz,zob,zaf]
theorem zrZ [Sym] {N:Nat} {es:List En} (hnl:∀ e∈es,e.1.length≤1000000) {wv ev:Value} {cw:List Value} {z:Nat} {st:SS} (hl:st.lim≤st.next) (o1:Rg st wv cw z N) (o2:Rg st ev (rowsF zaJ es) 2 es.length):∃ s',cc 37 [zbL wv ev] st=some (.bool (zdO N es),s')∧Ext st s':=by
 have hc:(zbL wv ev).cells.toList=[wv,ev]:=by show (Value.agg [wv,ev].toArray).cells.toList=_;exact zaC _
 have x1:Ext st (st.new (.cells [wv,ev] 0)):=(Ext.refl _).new _
 have a1:At (st.new (.cells [wv,ev] 0)) st.next [wv,ev]:=At.new hl _
 have l0:(st.new (.cells [wv,ev] 0)).ld st.next 0=some wv:=a1.ld
 have l1:(st.new (.cells [wv,ev] 0)).ld st.next 1=some ev:=a1.ld
 have q1:=o1.lenI
 have q2:=o2.lenI
 by_cases z1:(2048:Int)<(N:Int)
 ·have hb:Nat.ble N 2048=false:=by rw [Bool.eq_false_iff];intro h;rw [Nat.ble_eq] at h;omega
  refine ⟨_,zdL _ st ?_,x1⟩
  simp only [zcz,hc,l0,zob,q1,zdt z1,zct,zdO,hb,Bool.false_and]
 have hb:Nat.ble N 2048=true:=by rw [Nat.ble_eq];omega
 by_cases z2:(255:Int)<(es.length:Int)
 ·have hb2:Nat.ble es.length 255=false:=by rw [Bool.eq_false_iff];intro h;rw [Nat.ble_eq] at h;omega
  refine ⟨_,zdL _ st ?_,x1⟩
  simp only [zcz,hc,l0,zob,q1,zdf z1,zcf,l1,q2,zdt z2,zct,zdO,hb,hb2,Bool.false_and,Bool.true_and]
 have hb2:Nat.ble es.length 255=true:=by rw [Nat.ble_eq];omega
 obtain ⟨e,vs,s',h1,h2,h3⟩:=ztN q1 (show es.length≤255 by omega) hnl (x1.ll hl) l0 l1 a1.lt (o2.ext x1) es.length 0 _ rfl (Ext.refl _)
 have h1':za1 4 [ptr st.next 0,ev,.int .i64 es.length,.int .i64 0] (st.new (.cells [wv,ev] 0))=some (e,vs,s'):=h1
 refine ⟨s',zdL _ st ?_,x1.trans h2⟩
 rcases h3 with ⟨rfl,rfl,h3⟩ | ⟨rfl,rfl,j,_,hj,h3⟩
 ·have b0:Nat.beq 0 0=true:=rfl
  simp only [zcz,hc,l0,zob,q1,zdf z1,zcf,l1,q2,zdf z2]
  rw [h1',zob]
  simp only [b0,zct,zdO,hb,hb2,zpP h3,Bool.and_self]
 ·have b0:Nat.beq 1 0=false:=rfl
  simp only [zcz,hc,l0,zob,q1,zdf z1,zcf,l1,q2,zdf z2]
  rw [h1',zob]
  simp only [b0,zcf,zgz,zob,zaf,zdO,hb,hb2,zk8 hj h3,Bool.and_false]
def zeC (es:List En) (n:List UInt8):Option Int:=match es with
 | []=>none
 | e::r=>if e.1=n then some e.2 else zeC r n
theorem zvl [Sym] {v:Value} (es:List En) (hsz:es.length≤1099511627776) (n:List UInt8) (base:SS) (hll:base.lim≤base.next) (hv:Rg base v (rowsF zaJ es) 2 es.length):∀ (k i:Nat) (s:SS),es.length=k+i→Ext base s→
  ∃ s',Ext base s'∧zeo 2 [.string (mkS n),v,.int .i64 es.length,.int .i64 i] s=match zeC (es.drop i) n with
   | none=>some (0,[],s')
   | some x=>some (1,[.int .i64 x,.bool true],s'):=by
 intro k
 induction k with
 | zero=>
   intro i s hk he
   have h:¬ (i:Int)<(es.length:Int):=by omega
   rw [List.drop_of_length_le (by omega)]
   refine ⟨s,he,ze0 _ _ _ _ s ?_⟩
   simp only [zfq,zdf h,zcf]
 | succ k ih=>
   intro i s hk he
   have h:(i:Int)<(es.length:Int):=by omega
   obtain ⟨e,hg⟩:∃ e,es[i]?=some e:=⟨_,zge (by omega)⟩
   obtain ⟨p1,b1,b2,_⟩:=(hv.ext he).load (j:=(i:Int)) (by omega) h (zaM zdT es i e hg) rfl
   have b2':s.ldN p1.1 p1.2 2=some (.agg (zaJ e).toArray):=b2
   obtain ⟨s4,e4,a4,x4,n4⟩:=zaQ (n:=2) (st:=s) (he.ll hll) (r:=zaJ ([],0)) (row:=zaJ e) (v:=.agg (zaJ e).toArray) (zaC _) rfl rfl rfl
   have e4':(s.new (.cells [.string ⟨#[]⟩,.int .i64 0] 0)).stV s.next 0 2 (.agg (zaJ e).toArray)=some s4:=e4
   have he4:=he.trans x4
   have l5:s4.ld s.next 0=some (.string (mkS e.1)):=a4.ld
   have l6:s4.ld s.next 1=some (.int .i64 e.2):=a4.ld
   have hw1:=zaS (i:=i) (by omega)
   rw [drop_cons hg]
   unfold zeC
   by_cases hf:e.1=n
   ·rw [if_pos hf]
    refine ⟨s4,he4,ze0 _ _ _ _ s ?_⟩
    simp only [zfq,zdt h,zct,b1,b2',e4',zob,l5,zad,zce,zdt hf,l6,zaa]
   ·rw [if_neg hf]
    obtain ⟨s',f1,f2⟩:=ih (i+1) s4 (by omega) he4
    refine ⟨s',f1,?_⟩
    cases hq:zeC (es.drop (i+1)) n with
    | none=>
      rw [hq] at f2
      refine ze0 _ _ _ _ s ?_
      simp only [zfq,zdt h,zct,b1,b2',e4',zob,l5,zad,zce,zdf hf,zcf,hw1]
      exact f2
    | some x=>
      rw [hq] at f2
      refine ze0 _ _ _ _ s ?_
      simp only [zfq,zdt h,zct,b1,b2',e4',zob,l5,zad,zce,zdf hf,zcf,hw1]
      exact f2
theorem find_ok [Sym] {es:List En} (hsz:es.length≤1099511627776) (n:List UInt8) {wv ev:Value} {st:SS} (o2:Rg st ev (rowsF zaJ es) 2 es.length):
  ∃ m,st.next≤m∧cc 27 [zbL wv ev,.string (mkS n)] st=some (.tuple #[.int .i64 ((zeC es n).getD 0),.bool (zeC es n).isSome],st.adv m):=by
 have hc:(zbL wv ev).cells.toList=[wv,ev]:=by show (Value.agg [wv,ev].toArray).cells.toList=_;exact zaC _
 have x1:Ext (st.ro st.next) ((st.ro st.next).new (.cells [wv,ev] 0)):=(Ext.refl _).new _
 have hn1:((st.ro st.next).new (.cells [wv,ev] 0)).next=st.next+1:=rfl
 have hl1:((st.ro st.next).new (.cells [wv,ev] 0)).lim=st.next:=rfl
 have hm:((st.ro st.next).new (.cells [wv,ev] 0)).mem.get st.next=some (.cells [wv,ev] 0):=SS.new_get (st:=st.ro st.next)
 have l1:((st.ro st.next).new (.cells [wv,ev] 0)).ld st.next 1=some ev:=by rw [SS.ld_cells hm];rfl
 have o2':Rg ((st.ro st.next).new (.cells [wv,ev] 0)) ev (rowsF zaJ es) 2 es.length:=Rg.ext (st:=st.ro st.next) o2 x1
 have q2:=o2.lenI
 obtain ⟨s',h1,h2⟩:=zvl es hsz n _ (by omega) o2' es.length 0 _ rfl (Ext.refl _)
 rw [List.drop_zero] at h2
 have hnx:=h1.next
 refine ⟨s'.next,by omega,zrP _ _ st ?_⟩
 cases hq:zeC es n with
 | none=>
   rw [hq] at h2
   have h2':zeo 2 [.string (mkS n),ev,.int .i64 es.length,.int .i64 0] ((st.ro st.next).new (.cells [wv,ev] 0))=some (0,[],s'):=h2
   have b0:Nat.beq 0 0=true:=rfl
   simp only [znv,hc,SS.ro_next,l1,zob,q2]
   rw [h2',zob]
   simp only [b0,zct]
   rfl
 | some x=>
   rw [hq] at h2
   have h2':zeo 2 [.string (mkS n),ev,.int .i64 es.length,.int .i64 0] ((st.ro st.next).new (.cells [wv,ev] 0))=some (1,[.int .i64 x,.bool true],s'):=h2
   have b0:Nat.beq 1 0=false:=rfl
   simp only [znv,hc,SS.ro_next,l1,zob,q2]
   rw [h2',zob]
   simp only [b0,zcf,zgz,zgs,zob,zaa,zaf]
   rfl
end Go.Proofs.YtcplfckncandkaaGreatDoorE
namespace Go.Proofs.YtcplfckncandkaaGreatDoorE
open Go Go.E Go.Proofs
theorem zri (a b c d:Int):eqA Tryz.prog Lk0 62 (.agg #[.int .i64 a,.int .i64 b]) (.agg #[.int .i64 c,.int .i64 d])=some (decide (a=c)&&(decide (b=d)&&true)):=by kernel_rfl
theorem At.frm {b i j:Nat} {vw:Value} {st st':SS} {row:List Value} (h:At st j row) (f:Frm b i vw st st') (h1:j≠b) (h2:j≠i) (h3:blkOf vw≠some j):At st' j row:=⟨(f.keep j h.lt h1 h2 h3).trans h.1,zll h.lt f.next,by rw [f.lim];exact h.2.2⟩
theorem zvm {st:SS} {v:Value} {c:List Value} {z n:Nat} (h:Rd st v c z n):one v=true:=by obtain ⟨_,⟨e,_⟩ | ⟨i,c,e,_⟩⟩:=h<;>rw [e]<;>rfl
def AsmL (base st0:SS) (B b i t2 t3:Nat) (res:Option (Nat×List Value×SS)):Except (Nat×Nat) Lay→Prop
 | .error e=>∃ s',res=some (1,[ptr t2 0,ptr t3 0,.int .i64 4],s')∧Ext base s'∧At s' t2 NN∧At s' t3 [.int .i64 e.1,.int .i64 e.2]
 | .ok l=>∃ s' vw ve vv its,res=some (0,[ptr t2 0,ptr t3 0,ptr b 0],s')∧Bld st0 s' B b i vw ve vv l its
theorem zxJ [Sym] {base st0:SS} {B b i M:Nat} (hM:M≤100000) (items:List Item) (hits:items.length≤99999) (hok:∀ x∈items,LineOk M x.1∧0<x.1.ln) (v:Value) (hv:Rd st0 v (rowsF lnRow items) 5 items.length)
  (hrd:∀ x∈items,Rd st0 x.2.1 (rowsF valRow x.1.args) 3 x.1.args.length∧Rd st0 x.2.2 (rowsF prRow x.1.prs) 5 x.1.prs.length) (hx0:Ext base st0) (hb2:base.next+2≤st0.next) (a2:At st0 base.next NN) (a3:At st0 (base.next+1) Z2):
  ∀ (k j:Nat) (l:Lay) (vw ve vv:Value) (its:List WItem) (s:SS),items.length=k+j→Bld st0 s B b i vw ve vv l its→LayOk M l→l.ents.length≤j→
  AsmL base st0 B b i base.next (base.next+1) (zbH 6 [ptr base.next 0,ptr (base.next+1) 0,ptr b 0,v,.int .i64 items.length,.int .i64 j] s) (zgS l ((items.drop j).map (·.1))):=by
 intro k
 induction k with
 | zero=>
   intro j l vw ve vv its s hk hB hL hen
   have h:¬ (j:Int)<(items.length:Int):=by omega
   rw [List.drop_of_length_le (by omega)]
   refine ⟨s,vw,ve,vv,its,zet _ _ _ _ _ _ s ?_,hB⟩
   simp only [zd6,zdf h,zcf]
 | succ k ih=>
   intro j l vw ve vv its s hk hB hL hen
   have h:(j:Int)<(items.length:Int):=by omega
   obtain ⟨x,hx⟩:∃ x,items[j]?=some x:=⟨_,zge (by omega)⟩
   have hmem:=zmg hx
   have hd:=drop_cons hx
   have hlm:s.lim≤s.next:=hB.ext.ll hB.ll
   have hil:its.length≤2048:=by
    have h1:=hL.wlen
    have h2:=hL.pl
    rw [← hB.wds,List.length_map] at h1
    omega
   obtain ⟨p1,b1,b2,_⟩:=(hv.ext hB.ext).load (j:=(j:Int)) (by omega) h (zaM (f:=lnRow) (z:=5) (fun _=>rfl) items j x hx) rfl
   have b2':s.ldN p1.1 p1.2 5=some (.agg (lnRow x).toArray):=b2
   have ho:one x.2.1=true∧one x.2.2=true:=⟨zvm (hrd x hmem).1,zvm (hrd x hmem).2⟩
   obtain ⟨s4,e4,a4,x4,n4⟩:=zaQ (n:=5) (st:=s) hlm (r:=lnRow (⟨0,[],[],[],[]⟩,.slice none 0 0,.slice none 0 0)) (row:=lnRow x) (v:=.agg (lnRow x).toArray) (zaC _) rfl (by
    simp only [lnRow,List.all_cons,List.all_nil,ho.1,ho.2]
    rfl) rfl
   have e4':(s.new (.cells [.int .i64 0,.string ⟨#[]⟩,.string ⟨#[]⟩,.slice none 0 0,.slice none 0 0] 0)).stV s.next 0 5 (.agg (lnRow x).toArray)=some s4:=e4
   have l5:s4.ldN s.next 0 5=some (.agg (lnRow x).toArray):=a4.ldN rfl
   have hf:=zwB (hB.then x4) x (hrd x hmem) ho hL.pl (by omega) (by omega) (by have:=(hok x hmem).1.sa;omega)
   have hL6:zgS l ((items.drop j).map (·.1))=match zhN l x.1 with
    | none=>.error (x.1.ln,1)
    | some l'=>zgS l' ((items.drop (j+1)).map (·.1)):=by rw [hd];rfl
   rw [hL6]
   cases hln:zhN l x.1 with
   | none=>
     rw [hln] at hf
     obtain ⟨s6,c6,f6⟩:=hf
     have hxs:∀ q,q<st0.next→q≠b∧q≠i∧blkOf vw≠some q:=fun q hq=>⟨by have:=hB.b0;omega,by have:=hB.i0;omega,fun e=>by have:=(zcQ hB.ow e).1;have:=hB.b0;have:=hB.bB;omega⟩
     have a46:At s6 s.next (lnRow x):=At.frm a4 f6 (by have:=hB.bB;have:=hB.BN;omega) (by have:=hB.iB;have:=hB.BN;omega) fun e=>by have:=(zcQ hB.ow e).2;omega
     have a26:At s6 base.next NN:=At.frm (a2.ext (hB.ext.trans x4)) f6 (hxs _ (by omega)).1 (hxs _ (by omega)).2.1 (hxs _ (by omega)).2.2
     have a36:At s6 (base.next+1) Z2:=At.frm (a3.ext (hB.ext.trans x4)) f6 (hxs _ (by omega)).1 (hxs _ (by omega)).2.1 (hxs _ (by omega)).2.2
     have x6:Ext base s6:=by
      have y:=(hx0.trans hB.ext).trans x4
      exact ⟨zlt y.next f6.next,f6.lim.trans y.lim,fun q hq=>(f6.keep q (zll hq y.next) (hxs q (by omega)).1 (hxs q (by omega)).2.1 (hxs q (by omega)).2.2).trans (y.keep q hq)⟩
     have l8:s6.ld s.next 0=some (.int .i64 x.1.ln):=a46.ld
     obtain ⟨s10,e10,a10,m10,n10⟩:=a26.sto (k:=0) (vs:=NN) (row':=NN) rfl rfl
     obtain ⟨s12,e12,a12,m12,n12⟩:=(a36.mod m10 (by simp)).sto (k:=0) (vs:=[.int .i64 x.1.ln,.int .i64 1]) (row':=[.int .i64 x.1.ln,.int .i64 1]) rfl rfl
     have hne:zbY (ptr s.next 0) (ptr base.next 0)=true:=zdc (by have:=hB.ext.next;omega)
     refine ⟨s12,zet _ _ _ _ _ _ s ?_,zaH (zaH x6 m10 (zlr _)) m12 (by omega),a10.mod m12 (by simp),a12⟩
     simp only [zd6,zdt h,zct,b1,b2',e4',l5,c6,zob,zaf,znf,l8,zaa,hne,zab,e10,e12]
   | some l'=>
     rw [hln] at hf
     obtain ⟨s6,vw',ve',vv',its',c6,h6,_⟩:=hf
     obtain ⟨g1,g2⟩:=zre hL (hok x hmem).1 (hok x hmem).2 hln
     have next:=ih (j+1) l' vw' ve' vv' its' s6 (by omega) h6 g1 (by omega)
     have hw1:=zaS (i:=j) (by omega)
     have step:∀ z,zbH 6 [ptr base.next 0,ptr (base.next+1) 0,ptr b 0,v,.int .i64 items.length,.int .i64 ((j+1:Nat):Int)] s6=some z→zbH 6 [ptr base.next 0,ptr (base.next+1) 0,ptr b 0,v,.int .i64 items.length,.int .i64 j] s=some z:=fun z hz=>by
      refine zet _ _ _ _ _ _ s ?_
      simp only [zd6,zdt h,zct,b1,b2',e4',l5,c6,zob,zaf,znt,zcf,hw1]
      exact hz
     simp only
     cases hz:zgS l' ((items.drop (j+1)).map (·.1)) with
     | error e=>
       rw [hz] at next
       obtain ⟨s',d1,d2⟩:=next
       exact ⟨s',step _ d1,d2⟩
     | ok l2=>
       rw [hz] at next
       obtain ⟨s',w1,w2,w3,w4,d1,d2⟩:=next
       exact ⟨s',w1,w2,w3,w4,step _ d1,d2⟩
def AsmR (st:SS) (res:Option (Value×SS)):Except (Nat×Nat) (List Wd×List (List UInt8×Int))→Prop
 | .error e=>∃ s',res=some (.tuple #[zbL (.slice none 0 0) (.slice none 0 0),zbT e,.int .i64 4],s')∧Ext st s'
 | .ok (ws,es)=>∃ s' wv ev,res=some (.tuple #[zbL wv ev,zbT (0,0),.int .i64 0],s')∧Ext st s'∧Own st.next s' wv (rowsF zd7 ws) 1 ws.length∧Own st.next s' ev (rowsF zaJ es) 2 es.length
theorem zvn [Sym] {st:SS} (hg:Gd st) (hl:st.lim≤st.next) (s:ByteArray) (hs:s.size≤65536):AsmR st (cc 7 [.string s] st) (zkW (bl s)):=by
 have x1:Ext st (st.new (.cells NN 0)):=(Ext.refl _).new _
 have x2:Ext (st.new (.cells NN 0)) ((st.new (.cells NN 0)).new (.cells Z2 0)):=(Ext.refl _).new _
 have a2:At ((st.new (.cells NN 0)).new (.cells Z2 0)) st.next NN:=(At.new hl NN).ext x2
 have a3:At ((st.new (.cells NN 0)).new (.cells Z2 0)) (st.next+1) Z2:=At.new (st:=st.new (.cells NN 0)) (x1.ll hl) Z2
 have hn1:(st.new (.cells NN 0)).next=st.next+1:=rfl
 have hn2:((st.new (.cells NN 0)).new (.cells Z2 0)).next=st.next+2:=rfl
 have x02:=x1.trans x2
 generalize hs2:(st.new (.cells NN 0)).new (.cells Z2 0)=s2 at*
 have hp:=zwq (hg.ext x02) (x02.ll hl) s hs
 have t0:∀ (a b c:Value),zao (.tuple #[a,b,c]) 0=some a:=fun _ _ _=>rfl
 have t1:∀ (a b c:Value),zao (.tuple #[a,b,c]) 1=some b:=fun _ _ _=>rfl
 have t2:∀ (a b c:Value),zao (.tuple #[a,b,c]) 2=some c:=fun _ _ _=>rfl
 have u0:∀ (a b:Value),zao (.tuple #[a,b]) 0=some a:=fun _ _=>rfl
 have u1:∀ (a b:Value),zao (.tuple #[a,b]) 1=some b:=fun _ _=>rfl
 unfold zkW
 cases hpt:zgW (bl s) with
 | error e=>
   rw [hpt] at hp
   obtain ⟨s3,c3,x3⟩:=hp
   obtain ⟨s8,e8,a8,x8,n8⟩:=zaQ (n:=2) (st:=s3) ((x02.trans x3).ll hl) (r:=Z2) (row:=[.int .i64 e.1,.int .i64 e.2]) (v:=zbT e) rfl rfl rfl rfl
   have e8':(s3.new (.cells [.int .i64 0,.int .i64 0] 0)).stV s3.next 0 2 (zbT e)=some s8:=e8
   have h4:¬ (4:Int)=0:=by decide
   have a28:=(a2.ext x3).ext x8
   have a38:=(a3.ext x3).ext x8
   have l9:s8.ldN s3.next 0 2=some (zbT e):=a8.ldN rfl
   have hne:zbY (ptr s3.next 0) (ptr st.next 0)=true:=zdc (by have:=x3.next;omega)
   obtain ⟨s10,e10,a10,m10,n10⟩:=a28.sto (k:=0) (vs:=NN) (row':=NN) rfl rfl
   obtain ⟨s11,e11,a11,m11,n11⟩:=(a38.mod m10 (by simp)).stV (k:=0) (n:=2) (v:=zbT e) (vs:=[.int .i64 e.1,.int .i64 e.2]) rfl rfl rfl (row':=[.int .i64 e.1,.int .i64 e.2]) rfl
   have r1:=(a10.mod m11 (by simp)).rdN (n:=2) rfl
   have r2:=a11.rdN (n:=2) rfl
   refine ⟨s11,zd5 _ st ?_,zaH (zaH ((x02.trans x3).trans x8) m10 (zlr _)) m11 (by omega)⟩
   simp only [zed,hs2,hn1,c3,t0,t1,t2,zob,zaa,e8',zdf h4,znf,zct,l9,hne,e10,e11,r1,r2]
   rfl
 | ok xs=>
   rw [hpt] at hp
   obtain ⟨v,s3,c3,x3,items,hxs,hv,hrd⟩:=hp
   obtain ⟨hok,hlen⟩:=zsu hpt
   rw [zaR] at hok hlen
   obtain ⟨s8,e8,a8,x8,n8⟩:=zaQ (n:=2) (st:=s3) ((x02.trans x3).ll hl) (r:=Z2) (row:=Z2) (v:=zbT (0,0)) rfl rfl rfl rfl
   have e8':(s3.new (.cells [.int .i64 0,.int .i64 0] 0)).stV s3.next 0 2 (zbT (0,0))=some s8:=e8
   have h0:(0:Int)=0:=rfl
   have x08:=(x02.trans x3).trans x8
   have hl8:=x08.ll hl
   have hlen':(lenV v).bind (asI .i64)=some (items.length:Int):=by rw [hv.len];rfl
   have hil:items.length=xs.length:=by rw [← hxs,List.length_map]
   have hmp:((s8.new (.map [])).new (.cells (bldRow 0 s8.next (.slice none 0 0) (.slice none 0 0) (.slice none 0 0)) 0)).mem.get s8.next=some (.map []):=by
    rw [SS.new_old (by simp)];exact SS.new_get
   have hB0:Bld s8 ((s8.new (.map [])).new (.cells (bldRow 0 s8.next (.slice none 0 0) (.slice none 0 0) (.slice none 0 0)) 0)) (s8.next+2) (s8.next+1) s8.next (.slice none 0 0) (.slice none 0 0) (.slice none 0 0) zho []:=
    ⟨((Ext.refl s8).new _).new _,hl8,At.new (st:=s8.new (.map [])) (by simp;omega) _,hmp,by omega,zlr _,by omega,by omega,by omega,by simp,Own.nil _ _ _,Own.nil _ _ _,Own.nil _ _ _,fun j hj=>(by cases hj),fun j hj=>(by cases hj),rfl,fun x hx=>(by cases hx)⟩
   have hb2:st.next+2≤s8.next:=by have:=x3.next;have:=x8.next;omega
   have hloop:=zxJ (base:=st) (st0:=s8) (B:=s8.next+2) (b:=s8.next+1) (i:=s8.next) (M:=s.size+1) (by omega) items (by omega) (fun x hx=>hok x.1 (by rw [← hxs];exact List.mem_map_of_mem hx)) v (hv.ext x8) (fun x hx=>⟨(hrd x hx).1.ext x8,(hrd x hx).2.ext x8⟩) x08 hb2 ((a2.ext x3).ext x8) ((a3.ext x3).ext x8)
    items.length 0 zho _ _ _ [] _ rfl hB0 (zpe _) (by simp [zho])
   rw [List.drop_zero,hxs] at hloop
   have b0:Nat.beq 0 0=true:=rfl
   have b1:Nat.beq 1 0=false:=rfl
   simp only
   cases hly:zgS zho xs with
   | error e=>
     rw [hly] at hloop
     obtain ⟨s17,d1,d2,d3,d4⟩:=hloop
     have d1':zbH 6 [ptr st.next 0,ptr (st.next+1) 0,ptr (s8.new (.map [])).next 0,v,.int .i64 items.length,.int .i64 0] ((s8.new (.map [])).new (.cells [.int .i64 0,.map (some s8.next),.slice none 0 0,.slice none 0 0,.slice none 0 0] 0))=_:=d1
     have r1:=d3.rdN (n:=2) rfl
     have r2:=d4.rdN (n:=2) rfl
     refine ⟨s17,zd5 _ st ?_,d2⟩
     simp only [zed,hs2,hn1,c3,t0,t1,t2,zob,zaa,e8',decide_true,znt,zcf,hlen']
     rw [d1',zob]
     simp only [b1,zcf,zgs,zgz,zob,zab,zaa,r1,r2]
     rfl
   | ok l=>
     rw [hly] at hloop
     obtain ⟨s17,vw,ve,vv,its,d1,hB⟩:=hloop
     have d1':zbH 6 [ptr st.next 0,ptr (st.next+1) 0,ptr (s8.new (.map [])).next 0,v,.int .i64 items.length,.int .i64 0] ((s8.new (.map [])).new (.cells [.int .i64 0,.map (some s8.next),.slice none 0 0,.slice none 0 0,.slice none 0 0] 0))=_:=d1
     obtain ⟨hL,hen⟩:=zsv xs zho l (zpe (s.size+1)) hok hly
     simp only [zho,List.length_nil,Nat.zero_add] at hen
     have x017:=x08.trans hB.ext
     have hlay:=lay_ok hB hL (by omega) (by omega) (hg.ext x017)
     have a217:=((a2.ext x3).ext x8).ext hB.ext
     have a317:=((a3.ext x3).ext x8).ext hB.ext
     have hn17:st.next+2≤s17.next:=zlt hb2 hB.ext.next
     simp only
     cases hro:ziy l with
     | error e=>
       rw [hro] at hlay
       obtain ⟨s21,c21,x21,hne⟩:=hlay
       have hll21:=x21.ll (x017.ll hl)
       have y1:Ext s21 (s21.new (.cells NN 0)):=(Ext.refl _).new _
       have y2:Ext (s21.new (.cells NN 0)) ((s21.new (.cells NN 0)).new (.cells Z2 0)):=(Ext.refl _).new _
       have q1:At ((s21.new (.cells NN 0)).new (.cells Z2 0)) s21.next NN:=(At.new hll21 NN).ext y2
       have q2:At ((s21.new (.cells NN 0)).new (.cells Z2 0)) (s21.new (.cells NN 0)).next Z2:=At.new (st:=s21.new (.cells NN 0)) (y1.ll hll21) Z2
       have hnn:(s21.new (.cells NN 0)).next=s21.next+1:=rfl
       obtain ⟨s26,e26,a26,m26,n26⟩:=q1.stV (k:=0) (n:=2) (v:=zbL (.slice none 0 0) (.slice none 0 0)) (vs:=NN) rfl rfl rfl (row':=NN) rfl
       obtain ⟨s27,e27,a27,m27,n27⟩:=(q2.mod m26 (by simp)).stV (k:=0) (n:=2) (v:=zbT e) (vs:=[.int .i64 e.1,.int .i64 e.2]) rfl rfl rfl (row':=[.int .i64 e.1,.int .i64 e.2]) rfl
       have l28:s27.ldN (s21.new (.cells NN 0)).next 0 2=some (.agg #[.int .i64 e.1,.int .i64 e.2]):=a27.ldN rfl
       have heq:(decide ((e.1:Int)=0)&&(decide ((e.2:Int)=0)&&true))=false:=by
        rw [Bool.and_true,← Bool.decide_and,decide_eq_false_iff_not]
        exact fun hh=>hne (Prod.ext (by omega) (by omega))
       have x27:Ext s21 s27:=zaH (zaH (y1.trans y2) m26 (zlr _)) m27 (by simp)
       have xx27:=(x017.trans x21).trans x27
       have hp1:zbY (ptr (s21.new (.cells NN 0)).next 0) (ptr st.next 0)=true:=zdc (by have:=x21.next;simp;omega)
       obtain ⟨s32,e32,a32,m32,n32⟩:=((a217.ext x21).ext x27).sto (k:=0) (vs:=NN) (row':=NN) rfl rfl
       obtain ⟨s34,e34,a34,m34,n34⟩:=(((a317.ext x21).ext x27).mod m32 (by simp)).stV (k:=0) (n:=2) (v:=.agg #[.int .i64 e.1,.int .i64 e.2]) (vs:=[.int .i64 e.1,.int .i64 e.2]) rfl rfl rfl (row':=[.int .i64 e.1,.int .i64 e.2]) rfl
       have r1:=(a32.mod m34 (by simp)).rdN (n:=2) rfl
       have r2:=a34.rdN (n:=2) rfl
       refine ⟨s34,zd5 _ st ?_,zaH (zaH xx27 m32 (zlr _)) m34 (by omega)⟩
       simp only [zed,hs2,hn1,c3,t0,t1,t2,zob,zaa,e8',decide_true,znt,zcf,hlen']
       rw [d1',zob]
       simp only [b0,zct,zgs,zgz,zob]
       rw [c21,zob]
       simp only [u0,u1,zob,e26,e27,l28,zri,heq,znf,zaf,zct,hp1,zab,e32,e34,r1,r2]
       rfl
     | ok y=>
       obtain ⟨ws,es⟩:=y
       rw [hro] at hlay
       obtain ⟨s21,wv,ev,c21,x21,o1,o2⟩:=hlay
       have hll21:=x21.ll (x017.ll hl)
       have w1:one wv=true:=(Own.cell o1).2
       have w2:one ev=true:=(Own.cell o2).2
       have y1:Ext s21 (s21.new (.cells NN 0)):=(Ext.refl _).new _
       have y2:Ext (s21.new (.cells NN 0)) ((s21.new (.cells NN 0)).new (.cells Z2 0)):=(Ext.refl _).new _
       have q1:At ((s21.new (.cells NN 0)).new (.cells Z2 0)) s21.next NN:=(At.new hll21 NN).ext y2
       have q2:At ((s21.new (.cells NN 0)).new (.cells Z2 0)) (s21.new (.cells NN 0)).next Z2:=At.new (st:=s21.new (.cells NN 0)) (y1.ll hll21) Z2
       obtain ⟨s26,e26,a26,m26,n26⟩:=q1.stV (k:=0) (n:=2) (v:=zbL wv ev) (vs:=[wv,ev]) rfl rfl (by simp [w1,w2]) (row':=[wv,ev]) rfl
       obtain ⟨s27,e27,a27,m27,n27⟩:=(q2.mod m26 (by simp)).stV (k:=0) (n:=2) (v:=zbT (0,0)) (vs:=Z2) rfl rfl rfl (row':=Z2) rfl
       have l28:s27.ldN (s21.new (.cells NN 0)).next 0 2=some (.agg #[.int .i64 0,.int .i64 0]):=a27.ldN rfl
       have heq:(decide ((0:Int)=0)&&(decide ((0:Int)=0)&&true))=true:=rfl
       have x27:Ext s21 s27:=zaH (zaH (y1.trans y2) m26 (zlr _)) m27 (by simp)
       have xx27:=(x017.trans x21).trans x27
       have l39:s27.ldN s21.next 0 2=some (.agg [wv,ev].toArray):=(a26.mod m27 (by simp)).ldN rfl
       obtain ⟨s41,e41,a41,m41,n41⟩:=((a217.ext x21).ext x27).stV (k:=0) (n:=2) (v:=.agg [wv,ev].toArray) (vs:=[wv,ev]) (zaC _) rfl (by simp [w1,w2]) (row':=[wv,ev]) rfl
       obtain ⟨s43,e43,a43,m43,n43⟩:=(((a317.ext x21).ext x27).mod m41 (by simp)).sto (k:=0) (vs:=Z2) (row':=Z2) rfl rfl
       have r1:=(a41.mod m43 (by simp)).rdN (n:=2) rfl
       have r2:=a43.rdN (n:=2) rfl
       have z1:∀ m,m∈[st.next]→m<s17.next:=by intro m hm;have e:m=st.next:=(by simpa using hm);omega
       have z2:∀ m,m∈[st.next+1]→m<s17.next:=by intro m hm;have e:m=st.next+1:=(by simpa using hm);omega
       refine ⟨s43,wv,ev,zd5 _ st ?_,zaH (zaH xx27 m41 (zlr _)) m43 (by omega),(((o1.ext x27).modLt m41 z1).modLt m43 z2).low (by omega),(((o2.ext x27).modLt m41 z1).modLt m43 z2).low (by omega)⟩
       simp only [zed,hs2,hn1,c3,t0,t1,t2,zob,zaa,e8',decide_true,znt,zcf,hlen']
       rw [d1',zob]
       simp only [b0,zct,zgs,zgz,zob]
       rw [c21,zob]
       simp only [u0,u1,zob,e26,e27,l28,zri,heq,znt,zaf,zcf,l39,zab,e41,e43,r1,r2]
       rfl
end Go.Proofs.YtcplfckncandkaaGreatDoorE
namespace Go.Proofs.YtcplfckncandkaaGreatDoorE
open Go Go.E Go.Proofs
def Free (L:List OL) (j:Nat):Prop:=∀ (k:Nat) (o:OL),L[k]?=some o→blkOf o.v≠some j
structure FrL (b:Nat) (st:SS) (L:List OL) (st':SS) (L':List OL):Prop where
 next:st.next≤st'.next
 lim:st'.lim=st.lim
 keep:∀ j,j<st.next→j≠b→Free L j→st'.mem.get j=st.mem.get j∧Free L' j
section
variable {b B : Nat} {st st' st'' : SS} {L L' L'' : List OL}
theorem FrL.trans (h:FrL b st L st' L') (k:FrL b st' L' st'' L''):FrL b st L st'' L'':=⟨zlt h.next k.next,k.lim.trans h.lim,fun j h1 h2 h3=>by
 obtain ⟨a,c⟩:=h.keep j h1 h2 h3
 obtain ⟨d,e⟩:=k.keep j (zll h1 h.next) h2 c
 exact ⟨d.trans a,e⟩⟩
theorem FrL.ext (x:Ext st st'):FrL b st L st' L:=⟨x.next,x.lim,fun j h1 _ h3=>⟨x.keep j h1,h3⟩⟩
theorem FrL.mod (m:Mod [b] st st'):FrL b st L st' L:=⟨m.next,m.lim,fun j h1 h2 h3=>⟨m.keep j h1 (by simpa using h2),h3⟩⟩
theorem Owns.free (h:Owns B st L) {j:Nat} (hj:j<B):Free L j:=fun k o ho e=>by have:=(zcQ (h.own k o ho) e).1;omega
theorem FrL.at (f:FrL b st L st' L') {j:Nat} {row:List Value} (h:At st j row) (h1:j≠b) (h2:Free L j):At st' j row:=⟨(f.keep j h.lt h1 h2).1.trans h.1,zll h.lt f.next,by rw [f.lim];exact h.2.2⟩
theorem FrL.toExt {st0:SS} (f:FrL b st L st' L') (x:Ext st0 st) (hb:st0.next≤b) (ow:Owns B st L) (hB:st0.next≤B):Ext st0 st':=⟨zlt x.next f.next,f.lim.trans x.lim,fun j hj=>(f.keep j (zll hj x.next) (by omega) (ow.free (by omega))).1.trans (x.keep j hj)⟩
end
structure V6 where
 n:Value
 m:Value
 l:Value
 p:Value
 e:Value
 a:Value
def nmR (x:List UInt8×Int):List Value:=[.string (mkS x.1)]
def nuR (x:List UInt8×Int):List Value:=[.int .i64 x.2]
def lnR (x:WItem):List Value:=lnRow x.2
def plR (x:WItem):List Value:=[.int .i64 x.1]
def veR (x:Val×Nat×Nat):List Value:=valRow x.1
def LO (v:V6) (l:Lay) (its:List WItem):List OL:=[⟨v.n,rowsF nmR l.nms,1,l.nms.length⟩,⟨v.m,rowsF nuR l.nms,1,l.nms.length⟩,⟨v.l,rowsF lnR its,5,its.length⟩,⟨v.p,rowsF plR its,1,its.length⟩,⟨v.e,rowsF veR l.ents,3,l.ents.length⟩,⟨v.a,rowsF entRow l.ents,2,l.ents.length⟩]
def ldRow (v:V6) (pl:Nat):List Value:=[v.n,v.m,v.l,v.p,v.e,v.a,.int .i64 pl]
structure Rld (st0 st:SS) (B b:Nat) (v:V6) (l:Lay) (its:List WItem):Prop where
 ext:Ext st0 st
 ll:st0.lim≤st0.next
 row:At st b (ldRow v l.pl)
 b0:st0.next≤b
 bB:b<B
 BN:B≤st.next
 ow:Owns B st (LO v l its)
 wds:its.map (fun x=>(x.1,x.2.1))=l.wds
 itr:∀ x∈its,Rd st0 x.2.2.1 (rowsF valRow x.2.1.args) 3 x.2.1.args.length∧Rd st0 x.2.2.2 (rowsF prRow x.2.1.prs) 5 x.2.1.prs.length
section
variable {st0 st st' : SS} {B b : Nat} {v : V6} {l : Lay} {its : List WItem}
theorem Rld.then (h:Rld st0 st B b v l its) (x:Ext st st'):Rld st0 st' B b v l its:=
 { h with ext:=h.ext.trans x,row:=h.row.ext x,BN:=zlt h.BN x.next,ow:=h.ow.ext x }
theorem Rld.place (h:Rld st0 st B b v l its) (p:Nat):∃ st',st.st b 6 [.int .i64 p]=some st'∧Rld st0 st' B b v { l with pl:=p } its∧Mod [b] st st':=by
 obtain ⟨s',e,a,m,_⟩:=h.row.sto (k:=6) (vs:=[.int .i64 p]) (row':=ldRow v p) rfl rfl
 exact ⟨s',e,{ h with ext:=zaH h.ext m h.b0,row:=a,BN:=zlt h.BN m.next,ow:=h.ow.modLt m (by intro j hj;have e:j=b:=(by simpa using hj);have:=h.bB;omega) },m⟩
end
end Go.Proofs.YtcplfckncandkaaGreatDoorE
namespace Go.Proofs.YtcplfckncandkaaGreatDoorE
open Go Go.E Go.Proofs
def zhP (k:Nat):Nat:=(zcr.drop k).sum
theorem zoC {k:Nat} (h:k<12):zhP k=zax k+zhP (k+1)∧zhP k≤64:=by
 have:∀ k,k<12→zhP k=zax k+zhP (k+1)∧zhP k≤64:=by decide+kernel
 exact this k h
theorem zvo {w:Wd} (hw:w.length=12):zeA (zcr.drop 12) (w.drop 12)=0:=by
 rw [List.drop_of_length_le (l:=w) (by omega)]
 rfl
theorem zkZ {w:Wd} (hw:w.length=12) {k:Nat} (h:k<12):zeA (zcr.drop k) (w.drop k)=w.getD k 0+2^zax k*zeA (zcr.drop (k+1)) (w.drop (k+1)):=by
 rw [zot h,getD_drop (by omega)];rfl
theorem zmh {w:Wd} (hw:w.length=12) (hg:zdw w=true):∀ (m k:Nat),12=m+k→∃ X:Nat,zeA (zcr.drop k) (w.drop k)=X∧X<2^zhP k
 | 0,k,h=>by
   have:k=12:=by omega
   subst this
   exact ⟨0,zvo hw,Nat.two_pow_pos _⟩
 | m+1,k,h=>by
   obtain ⟨X,h1,h2⟩:=zmh hw hg m (k+1) (by omega)
   obtain ⟨p,hp,hlt⟩:=zkS hg (k:=k) (by omega)
   have ht:=(zoC (k:=k) (by omega)).1
   refine ⟨p+2^zax k*X,by rw [zkZ hw (by omega),h1,hp];push_cast;rfl,?_⟩
   rw [ht,Nat.pow_add]
   have h3:2^zax k*(X+1)≤2^zax k*2^zhP (k+1):=Nat.mul_le_mul_left _ h2
   rw [Nat.mul_add,Nat.mul_one] at h3
   omega
theorem zpQ {nms:Nms} {N:Nat}:∀ (xs:List (Nat×PLine)) (ws ws':List Wd),(∀ w∈ws,zjr w)→zdx nms N xs ws=.ok ws'→∀ w∈ws',zjr w
 | [],ws,ws',hw,h=>by cases h;exact hw
 | x::r,ws,ws',hw,h=>by
   unfold zdx at h
   split at h
   ·cases h
   ·split at h
    ·cases h
    ·refine zpQ r _ ws' (fun w hm=>?_) h
     rcases List.mem_or_eq_of_mem_set hm with h1 | h1
     ·exact hw w h1
     ·rw [h1];exact zsw _ _
theorem zsx {t:List UInt8} {ws:List Wd} {es:List (List UInt8×Int)} (h:zkW t=.ok (ws,es)):(∀ w∈ws,zjr w)∧ws.length≤2048:=by
 unfold zkW at h
 cases hp:zgW t with
 | error z=>rw [hp] at h;cases h
 | ok xs=>
   rw [hp] at h
   simp only at h
   cases hl:zgS zho xs with
   | error z=>rw [hl] at h;cases h
   | ok l=>
     rw [hl] at h
     obtain ⟨hok,hlen⟩:=zsu hp
     obtain ⟨hL,_⟩:=zsv xs zho l (zpe _) hok hl
     simp only [ziy] at h
     cases hw:zdx l.nms (sizeT l) l.wds (List.replicate (sizeT l) za2) with
     | error z=>rw [hw] at h;cases h
     | ok ws'=>
       rw [hw] at h
       simp only at h
       cases he:zfC l.nms (sizeT l) l.ents with
       | error z=>rw [he] at h;cases h
       | ok es'=>
         rw [he] at h
         cases h
         refine ⟨zpQ _ _ _ (fun w hm=>by rw [List.eq_of_mem_replicate hm];exact zrf) hw,?_⟩
         rw [zkX _ _ _ hw,List.length_replicate]
         exact (znC hL).2
end Go.Proofs.YtcplfckncandkaaGreatDoorE
namespace Go.Proofs.YtcplfckncandkaaGreatDoorE
open Go Go.E Go.Proofs
def zaq (X k:Nat):Nat:=X/2^zaZ k%2^zax k
def upTo (X k:Nat):Wd:=(List.range 12).map fun i=>if i<k then ((zaq X i:Nat):Int) else 0
def zbd (X:Nat):Wd:=upTo X 12
theorem ziA (X k:Nat):(upTo X k).length=12:=by simp [upTo]
theorem zvp (X:Nat):upTo X 0=za2:=by
 apply List.ext_getElem
 ·simp [upTo,za2]
 ·intro i a b
  simp only [upTo,List.getElem_map,List.getElem_range,za2,List.getElem_replicate,if_neg (Nat.not_lt_zero i)]
theorem zwL (X k:Nat) (hk:k<12):(upTo X k).set k (zaq X k:Int)=upTo X (k+1):=by
 apply List.ext_getElem
 ·simp [upTo]
 ·intro i a b
  rw [List.getElem_set]
  simp only [upTo,List.getElem_map,List.getElem_range]
  by_cases h:k=i
  ·subst h
   simp
  ·rw [if_neg h]
   by_cases h2:i<k
   ·rw [if_pos h2,if_pos (by omega)]
   ·rw [if_neg h2,if_neg (by omega)]
theorem andU64 {a s:Nat} (ha:a<2^64) (hs:s<64):zgF .u64 (a:Int) ((2^s-1:Nat):Int)=((a%2^s:Nat):Int):=by
 have hp:2^s<2^64:=Nat.pow_lt_pow_right (by omega) hs
 have h0:0<2^s:=Nat.two_pow_pos s
 have hm:=Nat.mod_lt a h0
 unfold zgF
 have e:((BitVec.ofInt 64 (a:Int)&&& BitVec.ofInt 64 ((2^s-1:Nat):Int)).toNat:Nat)=a%2^s:=by
  rw [BitVec.toNat_and,BitVec.ofInt_natCast,BitVec.ofInt_natCast,BitVec.toNat_ofNat,BitVec.toNat_ofNat,Nat.mod_eq_of_lt ha,Nat.mod_eq_of_lt (by omega),Nat.and_two_pow_sub_one_eq_mod]
 show IntKind.wrap .u64 (((BitVec.ofInt 64 (a:Int)&&& BitVec.ofInt 64 ((2^s-1:Nat):Int)).toNat:Nat):Int)=_
 rw [e]
 exact zdK (by omega) (by omega)
theorem shr64 {c s:Nat} (hs:s<64):(aI .shr .u64 (c:Int) (s:Int)).bind (asI .u64)=some ((c/2^s:Nat):Int):=by
 have hb:¬ ((s:Int)<0):=by omega
 have e:min ((s:Int)).toNat (IntKind.bits .u64)=s:=by
  show min ((s:Int)).toNat 64=s
  rw [Int.toNat_natCast];omega
 have e2:zoM .u64 (c:Int) (s:Int)=((c/2^s:Nat):Int):=by
  unfold zoM
  rw [e,show (2:Int)^s=((2^s:Nat):Int) by simp]
  rw [Int.fdiv_eq_ediv_of_nonneg _ (Int.natCast_nonneg _)]
  rfl
 simp only [aI,zdf hb,zcf,zob,zaa,e2]
theorem zwM [Sym] (X:Nat) (hX:X<2^64) (b j t2:Nat) (base:SS) (hg:Gd base) (hjb:j≠b) (hb2:t2≠b) (hbb:base.next≤b):∀ (m k:Nat) (s:SS),12=m+k→Ext base s→s.mem.get j=some (.cells (plRow b) 1)→j<s.next→At s b (wRow (upTo X k))→At s t2 Z12→
  ∃ s',Ext base s'∧zdv 3 [.int .u64 ((X/2^zaZ k:Nat):Int),ptr t2 0,ptr b 0,.slice (some ⟨j,0,none⟩) 12 12,.int .i64 12,.int .i64 k] s=some (0,[ptr t2 0,ptr b 0],s')∧At s' b (wRow (zbd X))∧At s' t2 Z12:=by
 intro m
 induction m with
 | zero=>
   intro k s hk he p1 hj ab at2
   have e:k=12:=by omega
   subst e
   have h:¬ (((12:Nat):Int))<12:=by omega
   refine ⟨s,he,zha _ _ _ _ _ _ s ?_,ab,at2⟩
   simp only [zgk,zdf h,zcf]
 | succ m ih=>
   intro k s hk he p1 hj ab at2
   have gs:=hg.ext he
   have hk12:k<12:=by omega
   have h:(k:Int)<12:=by omega
   have l2:s.ld j (0+k*1)=some (ptr b k):=by rw [SS.ld_cells p1,show 0+k*1=k by omega,zlZ _ hk12]
   have l4:=zlY gs hk12
   have hbk:=zf0 k
   have hp11:2^zax k≤2^11:=Nat.pow_le_pow_right (by omega) hbk
   have h0:0<2^zax k:=Nat.two_pow_pos _
   have s5:(aI .shl .u64 1 (zax k:Int)).bind (asI .u64)=some ((2^zax k:Nat):Int):=by
    have:=shl64 (c:=1) (s:=zax k) (by omega) (by omega)
    simpa using this
   have w6:IntKind.wrap .u64 (((2^zax k:Nat):Int)-1)=((2^zax k-1:Nat):Int):=by
    rw [show ((2^zax k:Nat):Int)-1=((2^zax k-1:Nat):Int) by omega]
    exact zdK (by omega) (by omega)
   have hXk:X/2^zaZ k<2^64:=Nat.lt_of_le_of_lt (Nat.div_le_self _ _) hX
   have w7:=andU64 (a:=X/2^zaZ k) (s:=zax k) hXk (by omega)
   have hup:X/2^zaZ k%2^zax k=zaq X k:=rfl
   rw [hup] at w7
   have hul:zaq X k<2^11:=zll (Nat.mod_lt _ h0) hp11
   have w8:IntKind.wrap .i64 ((zaq X k:Nat):Int)=((zaq X k:Nat):Int):=wrap64 (by omega) (by omega)
   have s12:=shr64 (c:=X/2^zaZ k) (s:=zax k) (by omega)
   have hdiv:X/2^zaZ k/2^zax k=X/2^zaZ (k+1):=by rw [Nat.div_div_eq_div_mul,← Nat.pow_add,← zi3 hk12]
   rw [hdiv] at s12
   obtain ⟨s11,e11,a11,m11,n11⟩:=ab.sto (k:=k) (vs:=[.int .i64 ((zaq X k:Nat):Int)]) (row':=wRow (upTo X (k+1))) rfl (by
    rw [zos (by rw [za3,ziA];exact hk12),← zq6,zwL X k hk12])
   have hnl:zaj (ptr b k)=some (ptr b k):=rfl
   have hw1:=zaS (i:=k) (by omega)
   obtain ⟨s',f1,f2,f3⟩:=ih (k+1) s11 (by omega) (zaH he m11 hbb) (m11.get hj (by simpa using hjb) p1) (by rw [n11];exact hj) a11 (at2.mod m11 (by simpa using hb2))
   refine ⟨s',f1,zha _ _ _ _ _ _ s ?_,f3⟩
   simp only [zgk,zdt h,zct,plS hk12,zob,l2,zoq hk12,l4,zaa,s5,w6,w7,w8,hnl,zab,e11,s12,hw1]
   exact f2
theorem zvq [Sym] (X:Nat) (hX:X<2^64) (st:SS) (hg:Gd st):∃ n,st.next≤n∧cc 24 [.int .u64 X] st=some (wV (zbd X),st.adv n):=by
 have x1:Ext (st.ro st.next) ((st.ro st.next).new (.cells Z12 0)):=(Ext.refl _).new _
 have x2:Ext ((st.ro st.next).new (.cells Z12 0)) (((st.ro st.next).new (.cells Z12 0)).new (.cells Z12 0)):=(Ext.refl _).new _
 have a1:At (((st.ro st.next).new (.cells Z12 0)).new (.cells Z12 0)) st.next Z12:=(At.new (st:=st.ro st.next) (zlr _) _).ext x2
 have a2:At (((st.ro st.next).new (.cells Z12 0)).new (.cells Z12 0)) (st.next+1) Z12:=At.new (st:=(st.ro st.next).new (.cells Z12 0)) (by simp) _
 have hn1:((st.ro st.next).new (.cells Z12 0)).next=st.next+1:=rfl
 have c3:=zi2 (st.next+1) (((st.ro st.next).new (.cells Z12 0)).new (.cells Z12 0))
 have x3:Ext (((st.ro st.next).new (.cells Z12 0)).new (.cells Z12 0)) ((((st.ro st.next).new (.cells Z12 0)).new (.cells Z12 0)).new (.cells (plRow (st.next+1)) 1)):=(Ext.refl _).new _
 have hpl:((((st.ro st.next).new (.cells Z12 0)).new (.cells Z12 0)).new (.cells (plRow (st.next+1)) 1)).mem.get (st.next+2)=some (.cells (plRow (st.next+1)) 1):=SS.new_get (st:=((st.ro st.next).new (.cells Z12 0)).new (.cells Z12 0))
 have hz:wRow (upTo X 0)=Z12:=by rw [zvp,zvc]
 obtain ⟨s',f1,f2,f3,f4⟩:=zwM X hX (st.next+1) (st.next+2) st.next (st.ro st.next) hg.ro (by omega) (by omega) (by simp) 12 0 _ rfl (x1.trans (x2.trans x3)) hpl (by simp) (by rw [hz];exact a2.ext x3) (a1.ext x3)
 have h0:X/2^zaZ 0=X:=by rw [show zaZ 0=0 from rfl,Nat.pow_zero,Nat.div_one]
 rw [h0] at f2
 have f2':zdv 3 [.int .u64 X,ptr st.next 0,ptr (st.next+1) 0,.slice (some ⟨(((st.ro st.next).new (.cells Z12 0)).new (.cells Z12 0)).next,0,none⟩) 12 12,.int .i64 12,.int .i64 0] ((((st.ro st.next).new (.cells Z12 0)).new (.cells Z12 0)).new (.cells (plRow (st.next+1)) 1))=_:=f2
 have hl:(zbd X).length=12:=ziA X 12
 have l9:s'.ldN (st.next+1) 0 12=some (wV (zbd X)):=f3.ldN (by rw [za3,hl])
 obtain ⟨s11,e11,a11,m11⟩:=At.setW f4 rfl (zbd X) hl
 have r13:s11.rdN st.next 0 12=some (wV (zbd X)):=a11.rdN (by rw [za3,hl])
 have hle:(lenV (.slice (some ⟨(((st.ro st.next).new (.cells Z12 0)).new (.cells Z12 0)).next,0,none⟩) 12 12)).bind (asI .i64)=some 12:=rfl
 refine ⟨s11.next,by have:=f1.next;have:=m11.next;simp at*;omega,zom _ st ?_⟩
 simp only [zlV,SS.ro_next,hn1,c3,zob,hle]
 rw [f2',zob]
 simp only [zgs,zgz,zob,zab,l9,e11,r13,zou,zct]
theorem zwN {w:Wd} (h:zjr w) {X:Nat} (hX:zgm w=X):zbd X=w∧X<2^64:=by
 have key:∀ (m k:Nat),12=m+k→∃ Y:Nat,zeA (zcr.drop (12-m)) (w.drop (12-m))=Y:=fun m k h'=>by
  obtain ⟨Y,h1,_⟩:=zmh h.1 h.2 m (12-m) (by omega)
  exact ⟨Y,h1⟩
 have hall:∀ k,k≤12→zeA (zcr.drop k) (w.drop k)=((X/2^zaZ k:Nat):Int):=by
  intro k
  induction k with
  | zero=>intro _;rw [show zaZ 0=0 from rfl,Nat.pow_zero,Nat.div_one];exact hX
  | succ k ih=>
    intro hk
    have h1:=ih (by omega)
    rw [zkZ h.1 (by omega)] at h1
    obtain ⟨Y,hY,_⟩:=zmh h.1 h.2 (12-(k+1)) (k+1) (by omega)
    obtain ⟨p,hp,hpl⟩:=zkS h.2 (k:=k) (by omega)
    rw [hY] at h1 ⊢
    rw [hp] at h1
    have h2:p+2^zax k*Y=X/2^zaZ k:=by
     have:((p+2^zax k*Y:Nat):Int)=((X/2^zaZ k:Nat):Int):=by rw [← h1];push_cast;rfl
     omega
    have h3:X/2^zaZ (k+1)=Y:=by
     rw [zi3 (by omega),Nat.pow_add,← Nat.div_div_eq_div_mul,← h2,Nat.add_comm,Nat.mul_add_div (Nat.two_pow_pos _),Nat.div_eq_of_lt hpl,Nat.add_zero]
    rw [h3]
 obtain ⟨Y,hY,hYl⟩:=zmh h.1 h.2 12 0 rfl
 have hXY:X=Y:=by
  have h1:zgm w=(Y:Int):=hY
  omega
 have ht:zhP 0≤64:=(zoC (k:=0) (by omega)).2
 refine ⟨?_,by rw [hXY];exact zll hYl (Nat.pow_le_pow_right (by omega) ht)⟩
 apply List.ext_getElem
 ·rw [zbd,ziA,h.1]
 ·intro k a b
  have hk:k<12:=by rw [h.1] at b;exact b
  simp only [zbd,upTo,List.getElem_map,List.getElem_range,if_pos hk]
  have h1:=hall k (by omega)
  rw [zkZ h.1 hk] at h1
  obtain ⟨Z,hZ,_⟩:=zmh h.1 h.2 (12-(k+1)) (k+1) (by omega)
  obtain ⟨p,hp,hpl⟩:=zkS h.2 hk
  rw [hZ,hp] at h1
  have h2:p+2^zax k*Z=X/2^zaZ k:=by
   have:((p+2^zax k*Z:Nat):Int)=((X/2^zaZ k:Nat):Int):=by rw [← h1];push_cast;rfl
   omega
  have h3:zaq X k=p:=by
   unfold zaq
   rw [← h2,Nat.add_mul_mod_self_left,Nat.mod_eq_of_lt hpl]
  have h4:w[k]=w.getD k 0:=by rw [List.getD_eq_getElem?_getD,zge b];rfl
  rw [h3,h4,hp]
theorem zpR {w:Wd} (h:zjr w):∃ X:Nat,zgm w=X:=by
 obtain ⟨Y,hY,_⟩:=zmh h.1 h.2 12 0 rfl
 exact ⟨Y,hY⟩
end Go.Proofs.YtcplfckncandkaaGreatDoorE
namespace Go.Proofs.YtcplfckncandkaaGreatDoorE.Uw
abbrev W:=List UInt8
end Go.Proofs.YtcplfckncandkaaGreatDoorE.Uw
namespace Go.Proofs.YtcplfckncandkaaGreatDoorE
open Uw
end Go.Proofs.YtcplfckncandkaaGreatDoorE
namespace Go.Proofs.YtcplfckncandkaaGreatDoorE
open Go Go.E Go.Proofs
def strRow (l:List UInt8):List Value:=[.string (mkS l)]
theorem zsy {st:SS} {row:List Value} {n:Nat} (h:row.length=n) (h0:0<n):Own st.next (st.new (.cells row 1)) (.slice (some ⟨st.next,0,none⟩) n n) row 1 n:=
 ⟨by omega,.inr ⟨st.next,rfl,h0,SS.new_get,zlr _,by simp⟩⟩
end Go.Proofs.YtcplfckncandkaaGreatDoorE
namespace Go.Proofs.YtcplfckncandkaaGreatDoorE
open Go Go.E Go.Proofs
noncomputable def zeR:List (Nat×AObj):=[(5,.table [.chan (some 5)]),(6,.table [.chan (some 6)]),(0,.table fieldsC),(2,.table asciiC)]
noncomputable def st0:SS:=⟨zeq zeR,12,12⟩
theorem gd0:Gd st0:=⟨by simp [st0,zeq,zeR,PT.get_upd],by simp [st0,zeq,zeR,PT.get_upd],by simp [st0,zeq,zeR,PT.get_upd],by simp [st0,zeq,zeR,PT.get_upd],zlr _⟩
theorem zvr:∀ g,Lk0.glob g=true→g∈zeR.map (·.1):=fun g h=>by
 have h':(Nat.beq g 5||Nat.beq g 6||Nat.beq g 0||Nat.beq g 2)=true:=h
 simp only [Bool.or_eq_true,zat,decide_eq_true_eq] at h'
 rcases h' with ((rfl | rfl) | rfl) | rfl<;>simp [zeR]
theorem ztO:∀ x∈zeR,x.1<12:=fun x hx=>by
 simp only [zeR,List.mem_cons,List.not_mem_nil,or_false] at hx
 rcases hx with rfl | rfl | rfl | rfl<;>decide
abbrev symE (a4:TypeId) (u4:Value) (a5:TypeId) (u5:Value):Sym where
 v i:=if i=5 then .iface a4 u4 else .iface a5 u5
 ok i:=by
  refine .inr (.inr ?_)
  split<;>exact ⟨_,_,rfl⟩
abbrev laidF:DataW Unit:=.agg ((zb1.map fun m=>(m.1,(m.2:Int))).map fun m=>.agg [.lit (.string m.1),.lit (.int .i64 m.2)])
abbrev laidS:DataW Unit:=.agg (Lib.asciiSpaceTab.map fun m=>.lit (.int .u8 m))
end Go.Proofs.YtcplfckncandkaaGreatDoorE
namespace Go.Proofs.YtcplfckncandkaaGreatDoorE
open Go Go.E Go.Proofs
theorem remU {a n:Nat} (hn:0<n):(aI .rem .u64 (a:Int) (n:Int)).bind (asI .u64)=some ((a%n:Nat):Int):=by
 have hz:¬ ((n:Int)=0):=by omega
 have:(a:Int).tmod (n:Int)=((a%n:Nat):Int):=by rw [Int.tmod_eq_emod_of_nonneg (by omega),← Int.natCast_emod]
 simp only [aI,zdf hz,zcf,zob,this]
 rfl
end Go.Proofs.YtcplfckncandkaaGreatDoorE
namespace Go.Proofs.YtcplfckncandkaaGreatDoorE
set_option maxRecDepth 20000
open Go Go.E Go.Proofs
def zeS:LoopI:=⟨[(0,.int .u64),(2,.any),(3,.any),(6,.any),(7,.int .i64),(8,.int .i64)],[(.exit 0,[(2,.any),(3,.any)])]⟩
def ze9 (n:Nat):Option LoopI:=cond (Nat.beq n 3) (some zeS) (none)
noncomputable def zgq (cf:zak) (lf:zac) (x':Int) (st:SS):Option (Value×SS):=
 let a:SS:=(st.ro st.next).new (.cells [.int .i64 0,.int .i64 0,.int .i64 0,.int .i64 0,.int .i64 0,.int .i64 0,.int .i64 0,.int .i64 0,.int .i64 0,.int .i64 0,.int .i64 0,.int .i64 0] 0)
 (cf 60 [] a).bind fun b=>
 ((lenV b.1).bind (asI .i64)).bind fun c=>
 (lf 3 [.int .u64 x',ptr ((st.ro st.next).next) 0,.slice none 0 0,b.1,.int .i64 c,.int .i64 0] b.2).bind fun d=>
 (d.2.1[0]?).bind fun e=>
 (d.2.1[1]?).bind fun f=>
 (cf 61 [f] d.2.2).bind fun g=>
 (addr? e).bind fun h=>
 (g.2.stV h.1 h.2 12 g.1).bind fun i=>
 (addr? e).bind fun j=>
 (i.rdN j.1 j.2 12).bind fun k=>
 cond (flat3 k) (some (k,st.adv i.next)) none
noncomputable abbrev zbQ:zac:=lS Tryz.prog Lk0 Tryz.f38 ze9
theorem ziJ:Lk0.func 38=some (38,Tryz.f38):=by kernel_rfl
theorem ziK [Sym] (x':Int) (st:SS) {r:Value×SS} (h:zgq cc zbQ x' st=some r):cc 38 [.int .u64 x'] st=some r:=
 zah (li:=ze9) zai zal ziJ rfl (fun _=>rfl) (.trans (by kernel_rfl) h)
noncomputable def zdm (cf:zak) (lf:zac) (x':Int) (t2':Value) (p':Value) (t6':Value) (t7':Int) (t8':Int) (st:SS):Option (Nat×List Value×SS):=
 cond (decide (t8'<t7')) (
 (zam t6' t8' 1).bind fun a=>
 ((st.ld a.1 a.2).bind (asI .i64)).bind fun b=>
 let c:Int:=IntKind.wrap .u64 b
 ((aI .rem .u64 x' c).bind (asI .u64)).bind fun d=>
 let e:Int:=IntKind.wrap .i64 d
 let f:SS:=st.new (.cells ([.int .i64 e]) 1)
 (f.app 1 8 p' (.slice (some ⟨st.next,0,none⟩) 1 1)).bind fun g=>
 let h:Int:=IntKind.wrap .u64 b
 ((aI .quo .u64 x' h).bind (asI .u64)).bind fun i=>
 let j:Int:=IntKind.wrap .i64 (t8'+1)
 lf 3 [.int .u64 i,t2',g.1,t6',.int .i64 t7',.int .i64 j] g.2) (
 some (0,[t2',p'],st))
theorem zee [Sym] (x':Int) (t2':Value) (p':Value) (t6':Value) (t7':Int) (t8':Int) (st:SS) {r:Nat×List Value×SS} (h:zdm cc zbQ x' t2' p' t6' t7' t8' st=some r):zbQ 3 [.int .u64 x',t2',p',t6',.int .i64 t7',.int .i64 t8'] st=some r:=
 zay zai zal (key:=3) (I:=zeS) rfl (by kernel_rfl) (by kernel_rfl) rfl rfl (.trans (by kernel_rfl) h)
end Go.Proofs.YtcplfckncandkaaGreatDoorE
namespace Go.Proofs.YtcplfckncandkaaGreatDoorE
open Go Go.E Go.Proofs
def wkT (X k:Nat):Wd:=(List.range k).map fun i=>((zaq X i:Nat):Int)
theorem zwO (X k:Nat):wRow (wkT X k)++[.int .i64 ((zaq X k:Nat):Int)]=wRow (wkT X (k+1)):=by
 unfold wkT wRow
 rw [List.range_succ,List.map_append,List.map_append]
 rfl
theorem zxK (X:Nat):wkT X 12=zbd X:=by
 unfold wkT zbd upTo
 refine List.map_congr_left fun i hi=>?_
 rw [if_pos (List.mem_range.1 hi)]
theorem quoU {a n:Nat} (hn:0<n) (ha:a<2^64):(aI .quo .u64 (a:Int) (n:Int)).bind (asI .u64)=some ((a/n:Nat):Int):=by
 have hz:¬ ((n:Int)=0):=by omega
 have h1:(a:Int).tdiv (n:Int)=((a/n:Nat):Int):=by rw [Int.tdiv_eq_ediv_of_nonneg (by omega),← Int.natCast_ediv]
 have h2:a/n≤a:=Nat.div_le_self _ _
 have h4:=Nat.lt_of_le_of_lt h2 ha
 have h3:IntKind.wrap .u64 ((a/n:Nat):Int)=((a/n:Nat):Int):=by
  generalize a/n=q at h4
  exact zdK (by omega) (by omega)
 simp only [aI,zdf hz,zcf,zob,h1,h3]
 rfl
theorem zvs [Sym] (X:Nat) (hX:X<2^64) (j:Nat) (base:SS) (hll:base.lim≤base.next) (hj:base.mem.get j=some (.cells (wRow zgn) 1)) (hlt:j<base.next) (t2:Value):∀ (m k:Nat) (s:SS) (v:Value),12=m+k→Ext base s→Own base.next s v (wRow (wkT X k)) 1 k→
  ∃ s' v',Ext base s'∧zbQ 3 [.int .u64 ((X/2^zaZ k:Nat):Int),t2,v,.slice (some ⟨j,0,none⟩) 12 12,.int .i64 12,.int .i64 k] s=some (0,[t2,v'],s')∧Own base.next s' v' (wRow (wkT X 12)) 1 12:=by
 intro m
 induction m with
 | zero=>
   intro k s v hk he o
   have e:k=12:=by omega
   subst e
   have h:¬ (((12:Nat):Int))<12:=by omega
   refine ⟨s,v,he,zee _ _ _ _ _ _ s ?_,o⟩
   simp only [zdm,zdf h,zcf]
 | succ m ih=>
   intro k s v hk he o
   have hk12:k<12:=by omega
   have h:(k:Int)<12:=by omega
   obtain ⟨hs1,hs2⟩:=zsq hk12
   have l2:s.ld j (0+k*1)=some (.int .i64 ((2^zax k:Nat):Int)):=by
    rw [SS.ld_cells (he.get hlt hj),Nat.zero_add,Nat.mul_one]
    exact zwn hk12
   have hpow:2^zax k≤2^11:=Nat.pow_le_pow_right (by omega) (zf0 k)
   have hp0:0<2^zax k:=Nat.two_pow_pos _
   have w3:IntKind.wrap .u64 ((2^zax k:Nat):Int)=((2^zax k:Nat):Int):=zdK (by omega) (by omega)
   have hY:X/2^zaZ k<2^64:=Nat.lt_of_le_of_lt (Nat.div_le_self _ _) hX
   have hr:=remU (a:=X/2^zaZ k) hp0
   have hq:=quoU (a:=X/2^zaZ k) hp0 hY
   rw [Nat.div_div_eq_div_mul,← Nat.pow_add,← zi3 hk12] at hq
   have hm:X/2^zaZ k%2^zax k<2^zax k:=Nat.mod_lt _ hp0
   have w5:IntKind.wrap .i64 ((X/2^zaZ k%2^zax k:Nat):Int)=((zaq X k:Nat):Int):=wrap64 (by omega) (by omega)
   obtain ⟨v',s',g1,g2,g3,g4,_⟩:=o.push (row:=[.int .i64 ((zaq X k:Nat):Int)]) (bt:=8) he.next (by rw [he.lim];exact hll) rfl (by omega) rfl (by omega) (by omega)
   rw [zwO] at g2
   have hw1:=zaS (i:=k) (by omega)
   obtain ⟨s2,v2,f1,f2,f3⟩:=ih (k+1) s' v' (by omega) (g3 base (zlr _) he) g2
   refine ⟨s2,v2,f1,zee _ _ _ _ _ _ s ?_,f3⟩
   simp only [zdm,zdt h,zct,plS hk12,zob,l2,zaa,w3]
   rw [hr]
   simp only [zob,w5,g1,hq,hw1]
   exact f2
theorem ztP [Sym] (X:Nat) (hX:X<2^64) (st:SS):∃ n,st.next≤n∧cc 38 [.int .u64 X] st=some (wV (zbd X),st.adv n):=by
 have x1:Ext (st.ro st.next) ((st.ro st.next).new (.cells Z12 0)):=(Ext.refl _).new _
 have a1:At ((st.ro st.next).new (.cells Z12 0)) st.next Z12:=At.new (st:=st.ro st.next) (zlr _) _
 have c2:=zxv ((st.ro st.next).new (.cells Z12 0))
 have x2:Ext ((st.ro st.next).new (.cells Z12 0)) (((st.ro st.next).new (.cells Z12 0)).new (.cells (wRow zgn) 1)):=(Ext.refl _).new _
 have hn1:((st.ro st.next).new (.cells Z12 0)).next=st.next+1:=rfl
 have hn2:(((st.ro st.next).new (.cells Z12 0)).new (.cells (wRow zgn) 1)).next=st.next+2:=rfl
 have hl2:(((st.ro st.next).new (.cells Z12 0)).new (.cells (wRow zgn) 1)).lim=st.next:=rfl
 have hj:(((st.ro st.next).new (.cells Z12 0)).new (.cells (wRow zgn) 1)).mem.get (st.next+1)=some (.cells (wRow zgn) 1):=SS.new_get (st:=(st.ro st.next).new (.cells Z12 0))
 obtain ⟨s',v',f1,f2,f3⟩:=zvs X hX (st.next+1) _ (by omega) hj (by omega) (ptr st.next 0) 12 0 _ (.slice none 0 0) rfl (Ext.refl _) (Own.nil _ _ _)
 have h0:X/2^zaZ 0=X:=by rw [show zaZ 0=0 from rfl,Nat.pow_zero,Nat.div_one]
 rw [h0] at f2
 have f2':zbQ 3 [.int .u64 X,ptr st.next 0,.slice none 0 0,.slice (some ⟨st.next+1,0,none⟩) 12 12,.int .i64 12,.int .i64 0] (((st.ro st.next).new (.cells Z12 0)).new (.cells (wRow zgn) 1))=_:=f2
 rw [zxK] at f3
 have hl:(zbd X).length=12:=ziA X 12
 obtain ⟨_,⟨_,h12⟩ | ⟨i,rfl,_,hm,hb,hi⟩⟩:=f3
 ·omega
 have c7:=zxw (zbd X) hl i 1 s' hm hi
 have a7:At (s'.adv (s'.next+1)) st.next Z12:=(a1.ext (x2.trans f1)).adv (by omega)
 obtain ⟨s11,e11,a11,m11⟩:=At.setW a7 rfl (zbd X) hl
 have r13:s11.rdN st.next 0 12=some (wV (zbd X)):=a11.rdN (by rw [za3,hl])
 have hle:∀ i,(lenV (.slice (some ⟨i,0,none⟩) 12 12)).bind (asI .i64)=some 12:=fun _=>rfl
 refine ⟨s11.next,by have:=f1.next;have:=m11.next;simp at*;omega,ziK _ st ?_⟩
 simp only [zgq,SS.ro_next,hn1,c2,zob,hle]
 rw [f2',zob]
 simp only [zgs,zgz,zob,zab,c7,e11,r13,zou,zct]
end Go.Proofs.YtcplfckncandkaaGreatDoorE
namespace Go.Proofs.YtcplfckncandkaaGreatDoorE
open Go Go.E Go.Proofs
def uRow (X:Nat):List Value:=[.int .u64 (X:Int)]
theorem zrj (X:Nat):(uRow X).length=1:=rfl
def zbA (X:Nat):List Value:=wRow (zbd X)
theorem zsz (X:Nat):(zbd X).length=12:=ziA X 12
theorem zaY (X:Nat):(zbA X).length=12:=by unfold zbA;rw [za3,zsz]
theorem zpf (X:Nat) {k:Nat} (hk:k<12):(zbd X)[k]?=some ((zaq X k:Nat):Int):=by
 unfold zbd upTo
 rw [List.getElem?_map,List.getElem?_range hk,Option.map_some,if_pos hk]
theorem znE (X k:Nat):zaq X k<2048:=by
 unfold zaq
 have h1:X/2^zaZ k%2^zax k<2^zax k:=Nat.mod_lt _ (Nat.two_pow_pos _)
 have h2:2^zax k≤2^11:=Nat.pow_le_pow_right (by omega) (zf0 k)
 omega
def zdP (X i:Nat):List (Int×Int):=zbX ((zaq X 8:Nat):Int) ((zaq X 10:Nat):Int) (i:Int)
def okW (N X i:Nat):Bool:=(zdP X i).all fun p=>!decide ((N:Int)<p.1+p.2)
def zdQ (ws:List Nat):Bool:=(List.range ws.length).all fun i=>match ws[i]? with
 | none=>true
 | some X=>okW ws.length X i
def zbz:List (List UInt8):=[[102,101,116,99,104],[111,112,101,114,97,110,100],[98,114,97,110,99,104],[102,97,117,108,116],[105,110,116,101,114,114,117,112,116]]
def zfe (es:List En):List (List UInt8)→Option (List Int)
 | []=>some []
 | n::r=>match zeC es n with
   | none=>none
   | some x=>match zfe es r with
     | none=>none
     | some xs=>some (x::xs)
def newT (ws:List Nat) (es:List En):Option (List Int):=cond (zdO ws.length es&&zdQ ws) (zfe es zbz) none
theorem zpS {X i:Nat} (hi:i≤1099511627776):∀ p∈zdP X i,0≤p.1∧p.1≤1099511627777∧0≤p.2∧p.2≤64:=by
 intro p hp
 have h10:=znE X 10
 unfold zdP zbX at hp
 repeat' split at hp
 all_goals
  simp only [List.mem_cons,List.not_mem_nil,or_false] at hp
  try (rcases hp with rfl | rfl<;>simp only<;>omega)
  try (subst hp;simp only;omega)
theorem zsA (X i:Nat):(zdP X i).length≤2:=by
 unfold zdP zbX
 repeat' split
 all_goals simp
theorem zpT (p:Int×Int):(zbl p).length=2:=rfl
theorem zpU (X:Nat):za0 (wV (zbd X)) 12=some (zbA X):=zky (zaY X)
def RchR (base:SS) (N:Nat) (ps:List (Int×Int)) (ok bad:List Value) (res:Option (Nat×List Value×SS)):Prop:=
 ∃ s',Ext base s'∧res=some (cond (ps.all fun p=>!decide ((N:Int)<p.1+p.2)) (0,ok,s') (1,bad,s'))
section
variable {r b q : Nat} {wv ev v7 : Value} {t21 i : Int} {N : Nat} {base : SS}
theorem unew9 [Sym] (ps:List (Int×Int)) (hsz:ps.length≤100) (hb:∀ p∈ps,0≤p.1∧p.1≤1099511627777∧0≤p.2∧p.2≤64) (hll:base.lim≤base.next) (hr:base.ld r 0=some wv) (hlt:r<base.next) (hN:(lenV wv).bind (asI .i64)=some (N:Int)) (hv:Rg base v7 (rowsF zbl ps) 2 ps.length) (t20:Value):∀ (k j:Nat) (s:SS),ps.length=k+j→Ext base s→
  RchR base N (ps.drop j) [ptr r 0,ptr b 0,ptr q 0,t20,.int .i64 t21,.int .i64 i] [.pointer none,.int .i64 4] (zaT 9 [ptr r 0,ptr b 0,ptr q 0,t20,.int .i64 t21,.int .i64 i,v7,.int .i64 ps.length,.int .i64 j] s):=by
 intro k
 induction k with
 | zero=>
   intro j s hk he
   have h:¬ (j:Int)<(ps.length:Int):=by omega
   rw [List.drop_of_length_le (by omega)]
   refine ⟨s,he,zgL _ _ _ _ _ _ _ _ _ s ?_⟩
   simp only [zgZ,zdf h,zcf]
   rfl
 | succ k ih=>
   intro j s hk he
   have h:(j:Int)<(ps.length:Int):=by omega
   obtain ⟨p,hg⟩:∃ p,ps[j]?=some p:=⟨_,zge (by omega)⟩
   obtain ⟨h1,h2,h3,h4⟩:=hb p (zmg hg)
   obtain ⟨p1,b1,b2,_⟩:=(hv.ext he).load (j:=(j:Int)) (by omega) h (zaM zpT ps j p hg) rfl
   have b2':s.ldN p1.1 p1.2 2=some (.agg (zbl p).toArray):=b2
   obtain ⟨s4,e4,a4,x4,n4⟩:=zaQ (n:=2) (st:=s) (he.ll hll) (r:=zbl (0,0)) (row:=zbl p) (v:=.agg (zbl p).toArray) (zaC _) rfl rfl rfl
   have e4':(s.new (.cells [.int .i64 0,.int .i64 0] 0)).stV s.next 0 2 (.agg (zbl p).toArray)=some s4:=e4
   have he4:=he.trans x4
   have y5:zaP (ptr s.next 0) 2 0 1=some (s.next,0):=rfl
   have y7:zaP (ptr s.next 0) 2 1 1=some (s.next,1):=rfl
   have l6:s4.ld s.next 0=some (.int .i64 p.1):=a4.ld
   have l8:s4.ld s.next 1=some (.int .i64 p.2):=a4.ld
   have w9:IntKind.wrap .i64 (p.1+p.2)=p.1+p.2:=wrap64 (by omega) (by omega)
   have l11:s4.ld r 0=some wv:=(zcR he4 hlt).trans hr
   have hw1:=zaS (i:=j) (by omega)
   rw [drop_cons hg]
   by_cases hq:(N:Int)<p.1+p.2
   ·refine ⟨s4,he4,zgL _ _ _ _ _ _ _ _ _ s ?_⟩
    simp only [zgZ,zdt h,zct,b1,b2',e4',zob,y5,y7,l6,l8,zaa,w9,zab,l11,hN,zdt hq,List.all_cons,znt,Bool.false_and,zcf]
   ·obtain ⟨s',f1,f2⟩:=ih (j+1) s4 (by omega) he4
    refine ⟨s',f1,zgL _ _ _ _ _ _ _ _ _ s ?_⟩
    simp only [zgZ,zdt h,zct,b1,b2',e4',zob,y5,y7,l6,l8,zaa,w9,zab,l11,hN,zdf hq,zcf,List.all_cons,znf,Bool.true_and,hw1]
    exact f2
theorem rnew9 [Sym] (ps:List (Int×Int)) (hsz:ps.length≤100) (hb:∀ p∈ps,0≤p.1∧p.1≤1099511627777∧0≤p.2∧p.2≤64) (hll:base.lim≤base.next) (hr:base.ld r 0=some wv) (hlt:r<base.next) (hN:(lenV wv).bind (asI .i64)=some (N:Int)) (hv:Rg base v7 (rowsF zbl ps) 2 ps.length) (t20:Value):∀ (k j:Nat) (s:SS),ps.length=k+j→Ext base s→
  RchR base N (ps.drop j) [ptr r 0,ptr b 0,ptr q 0,t20,.int .i64 t21,.int .i64 i] [.pointer none,.bool false] (zas 9 [ptr r 0,ptr b 0,ptr q 0,t20,.int .i64 t21,.int .i64 i,v7,.int .i64 ps.length,.int .i64 j] s):=by
 intro k
 induction k with
 | zero=>
   intro j s hk he
   have h:¬ (j:Int)<(ps.length:Int):=by omega
   rw [List.drop_of_length_le (by omega)]
   refine ⟨s,he,zdj _ _ _ _ _ _ _ _ _ s ?_⟩
   simp only [zcX,zdf h,zcf]
   rfl
 | succ k ih=>
   intro j s hk he
   have h:(j:Int)<(ps.length:Int):=by omega
   obtain ⟨p,hg⟩:∃ p,ps[j]?=some p:=⟨_,zge (by omega)⟩
   obtain ⟨h1,h2,h3,h4⟩:=hb p (zmg hg)
   obtain ⟨p1,b1,b2,_⟩:=(hv.ext he).load (j:=(j:Int)) (by omega) h (zaM zpT ps j p hg) rfl
   have b2':s.ldN p1.1 p1.2 2=some (.agg (zbl p).toArray):=b2
   obtain ⟨s4,e4,a4,x4,n4⟩:=zaQ (n:=2) (st:=s) (he.ll hll) (r:=zbl (0,0)) (row:=zbl p) (v:=.agg (zbl p).toArray) (zaC _) rfl rfl rfl
   have e4':(s.new (.cells [.int .i64 0,.int .i64 0] 0)).stV s.next 0 2 (.agg (zbl p).toArray)=some s4:=e4
   have he4:=he.trans x4
   have y5:zaP (ptr s.next 0) 2 0 1=some (s.next,0):=rfl
   have y7:zaP (ptr s.next 0) 2 1 1=some (s.next,1):=rfl
   have l6:s4.ld s.next 0=some (.int .i64 p.1):=a4.ld
   have l8:s4.ld s.next 1=some (.int .i64 p.2):=a4.ld
   have w9:IntKind.wrap .i64 (p.1+p.2)=p.1+p.2:=wrap64 (by omega) (by omega)
   have l11:s4.ld r 0=some wv:=(zcR he4 hlt).trans hr
   have hw1:=zaS (i:=j) (by omega)
   rw [drop_cons hg]
   by_cases hq:(N:Int)<p.1+p.2
   ·refine ⟨s4,he4,zdj _ _ _ _ _ _ _ _ _ s ?_⟩
    simp only [zcX,zdt h,zct,b1,b2',e4',zob,y5,y7,l6,l8,zaa,w9,zab,l11,hN,zdt hq,List.all_cons,znt,Bool.false_and,zcf]
   ·obtain ⟨s',f1,f2⟩:=ih (j+1) s4 (by omega) he4
    refine ⟨s',f1,zdj _ _ _ _ _ _ _ _ _ s ?_⟩
    simp only [zcX,zdt h,zct,b1,b2',e4',zob,y5,y7,l6,l8,zaa,w9,zab,l11,hN,zdf hq,zcf,List.all_cons,znf,Bool.true_and,hw1]
    exact f2
end
def zqm (base:SS) (b:Nat) (tl:List Value) (ws:List Nat) (all:Bool) (ok bad:List Value) (res:Option (Nat×List Value×SS)):Prop:=
 match all with
 | false=>∃ s',Ext base s'∧res=some (1,bad,s')
 | true=>∃ s' v',Ext base s'∧res=some (0,ok,s')∧At s' b (v'::tl)∧Own (b+1) s' v' (rowsF zbA ws) 12 ws.length
def zcA (ws:List Nat) (i:Nat):Bool:=(List.range ws.length).all fun j=>Nat.blt j i||match ws[j]? with
 | none=>true
 | some X=>okW ws.length X j
theorem zj4 (ws:List Nat):zcA ws 0=zdQ ws:=by
 unfold zcA zdQ
 have:∀ j,Nat.blt j 0=false:=fun j=>by rw [Bool.eq_false_iff];intro h;rw [Nat.blt_eq] at h;omega
 simp only [this,Bool.false_or]
theorem zk9 {ws:List Nat} {i:Nat} (h:ws.length≤i):zcA ws i=true:=by
 unfold zcA
 rw [List.all_eq_true]
 intro j hj
 have:Nat.blt j i=true:=by rw [Nat.blt_eq];have:=List.mem_range.1 hj;omega
 rw [this,Bool.true_or]
theorem zj5 {ws:List Nat} {i X:Nat} (h:ws[i]?=some X):zcA ws i=(okW ws.length X i&&zcA ws (i+1)):=by
 have hi:i<ws.length:=(List.getElem?_eq_some_iff.1 h).1
 rw [Bool.eq_iff_iff,zae]
 unfold zcA
 rw [List.all_eq_true,List.all_eq_true]
 constructor
 ·intro g
  refine ⟨?_,fun j hj=>?_⟩
  ·have:=g i (List.mem_range.2 hi)
   have hb:Nat.blt i i=false:=by rw [Bool.eq_false_iff];intro h;rw [Nat.blt_eq] at h;omega
   rw [hb,Bool.false_or,h] at this
   exact this
  ·have:=g j hj
   rw [Bool.or_eq_true] at this ⊢
   rcases this with h1 | h1
   ·left;rw [Nat.blt_eq] at h1 ⊢;omega
   ·exact .inr h1
 ·rintro ⟨g0,g⟩ j hj
  have:=g j hj
  rw [Bool.or_eq_true] at this ⊢
  rcases this with h1 | h1
  ·rw [Nat.blt_eq] at h1
   by_cases e:j=i
   ·subst e;right;rw [h];exact g0
   ·left;rw [Nat.blt_eq];omega
  ·exact .inr h1
theorem zoD (X:Nat):(zbd X)[8]?=some ((zaq X 8:Nat):Int):=zpf X (by omega)
theorem zmZ (X:Nat):(zbd X)[10]?=some ((zaq X 10:Nat):Int):=zpf X (by omega)
theorem unew5 [Sym] {r b:Nat} {wv ev:Value} {tl:List Value} {ws:List Nat} {base:SS} (hg:Gd base) (hb:base.next=b) (hll:base.lim≤base.next) (hsz:ws.length≤2048) (hX:∀ X∈ws,X<2^64) (hr:base.ld r 0=some wv) (hlt:r<base.next) (hv:Rg base wv (rowsF uRow ws) 1 ws.length):∀ (k i:Nat) (s:SS) (v:Value),ws.length=k+i→Ext base s→At s b (v::tl)→Own (b+1) s v (rowsF zbA (ws.take i)) 12 i→
  zqm base b tl ws (zcA ws i) [ptr r 0,ptr b 0] [.pointer none,.int .i64 4] (zaT 5 [ptr r 0,ptr b 0,wv,.int .i64 ws.length,.int .i64 i] s):=by
 intro k
 induction k with
 | zero=>
   intro i s v hk he ha ho
   have h:¬ (i:Int)<(ws.length:Int):=by omega
   have hi:i=ws.length:=by omega
   rw [List.take_of_length_le (by omega),hi] at ho
   rw [zk9 (by omega)]
   refine ⟨s,v,he,zgK _ _ _ _ _ s ?_,ha,ho⟩
   simp only [zgY,zdf h,zcf]
 | succ k ih=>
   intro i s v hk he ha ho
   have h:(i:Int)<(ws.length:Int):=by omega
   obtain ⟨X,hgx⟩:∃ X,ws[i]?=some X:=⟨_,zge (by omega)⟩
   obtain ⟨p1,b1,_,b3⟩:=(hv.ext he).load (j:=(i:Int)) (by omega) h (zaM zrj ws i X hgx) rfl
   have b3':s.ld p1.1 p1.2=some (.int .u64 (X:Int)):=b3 0 _ rfl
   obtain ⟨n3,hn3,c3⟩:=zvq X (hX X (zmg hgx)) s (hg.ext he)
   have x3:=Ext.advR s hn3
   have he3:=he.trans x3
   obtain ⟨s5,e5,a5,x5,n5⟩:=zaQ (n:=12) (st:=s.adv n3) (he3.ll hll) (r:=Z12) (row:=zbA X) (v:=wV (zbd X)) (zaC _) (zaY X) (zcc _) rfl
   have he5:=he3.trans x5
   have l6:s5.ldN n3 0 12=some (wV (zbd X)):=a5.ldN (zaY X)
   obtain ⟨v7,s7,c7,x7,o7⟩:=zq2 (zbd X) (i:Int) _ _ (zoD X) (zmZ X) (by omega) (by omega) s5 (he5.ll hll)
   have he7:=he5.trans x7
   have o7':Rg s7 v7 (rowsF zbl (zdP X i)) 2 (zdP X i).length:=o7.rg
   have q8:=o7'.lenI
   obtain ⟨s9,x9,f9⟩:=unew9 (r:=r) (b:=b) (q:=n3) (wv:=wv) (v7:=v7) (t21:=ws.length) (i:=i) (N:=ws.length) (zdP X i) (by have:=zsA X i;omega) (zpS (by omega)) (he7.ll hll) ((zcR he7 hlt).trans hr) (zll hlt he7.next) hv.lenI o7' wv (zdP X i).length 0 s7 rfl (Ext.refl _)
   rw [List.drop_zero] at f9
   have f9':zaT 9 [ptr r 0,ptr b 0,ptr n3 0,wv,.int .i64 ws.length,.int .i64 i,v7,.int .i64 (zdP X i).length,.int .i64 0] s7=_:=f9
   have he9:=he7.trans x9
   have hs9:Ext s s9:=((x3.trans x5).trans x7).trans x9
   rw [zj5 hgx]
   cases hok:okW ws.length X i with
   | false=>
     have hok':((zdP X i).all fun p=>!decide ((ws.length:Int)<p.1+p.2))=false:=hok
     rw [hok',zcf] at f9'
     have b0:Nat.beq 1 0=false:=rfl
     refine ⟨s9,he9,zgK _ _ _ _ _ s ?_⟩
     unfold zgY
     simp only [zdt h,zct]
     refine zbi.2 ⟨_,b1,?_⟩
     simp only [b3',zob]
     refine zbi.2 ⟨_,rfl,?_⟩
     refine zbi.2 ⟨_,c3,?_⟩
     refine zbi.2 ⟨_,e5,?_⟩
     refine zbi.2 ⟨_,l6,?_⟩
     refine zbi.2 ⟨_,c7,?_⟩
     refine zbi.2 ⟨_,q8,?_⟩
     refine zbi.2 ⟨_,f9',?_⟩
     simp only [b0,zcf,zgz,zgs,zob,zaa]
   | true=>
     have hok':((zdP X i).all fun p=>!decide ((ws.length:Int)<p.1+p.2))=true:=hok
     rw [hok',zct] at f9'
     have b0:Nat.beq 0 0=true:=rfl
     have a9:=ha.ext hs9
     have o9:=ho.ext hs9
     have l18:s9.ld b 0=some v:=a9.ld
     have l20:s9.ldN n3 0 12=some (wV (zbd X)):=(a5.ext (x7.trans x9)).ldN (zaY X)
     have hbn:b+1≤s9.next:=a9.lt
     obtain ⟨v',s',g1,g2,g3,g4,g5⟩:=o9.pushM (row:=zbA X) (bt:=96) hbn (by rw [he9.lim];omega) (zaY X) (by omega) (zcc _) (by omega) (by omega)
     have ha':At s' b (v::tl):=⟨(g5 b (by omega)).trans a9.1,by omega,by rw [g3];exact a9.2.2⟩
     have hcv:=g2.cell
     obtain ⟨s2,e2,a2,m2,n2⟩:=ha'.set1V (k:=0) (x:=v') hcv.1 (by simp) hcv.2
     have xs':Ext base s':=⟨zlt he9.next g4,g3.trans he9.lim,fun j hj=>(g5 j (by omega)).trans (he9.keep j hj)⟩
     have xs2:Ext base s2:=((Mod.ofExt (S:=[]) xs').thenI m2 (.inl (by omega))).toExt
     have o2:Own (b+1) s2 v' (rowsF zbA (ws.take (i+1))) 12 (i+1):=by
      have:ws.take (i+1)=ws.take i++[X]:=by rw [List.take_add_one,hgx];rfl
      rw [this,zbW,zc2]
      exact g2.modLt m2 (by simp)
     have hres:=ih (i+1) s2 v' (by omega) xs2 a2 o2
     have hw1:=zaS (i:=i) (by omega)
     have step:∀ rr,zaT 5 [ptr r 0,ptr b 0,wv,.int .i64 ws.length,.int .i64 (i+1:Nat)] s2=some rr→zaT 5 [ptr r 0,ptr b 0,wv,.int .i64 ws.length,.int .i64 i] s=some rr:=by
      intro rr hrr
      refine zgK _ _ _ _ _ s ?_
      unfold zgY
      simp only [zdt h,zct]
      refine zbi.2 ⟨_,b1,?_⟩
      simp only [b3',zob]
      refine zbi.2 ⟨_,rfl,?_⟩
      refine zbi.2 ⟨_,c3,?_⟩
      refine zbi.2 ⟨_,e5,?_⟩
      refine zbi.2 ⟨_,l6,?_⟩
      refine zbi.2 ⟨_,c7,?_⟩
      refine zbi.2 ⟨_,q8,?_⟩
      refine zbi.2 ⟨_,f9',?_⟩
      have hnl:zaj (ptr b 0)=some (ptr b 0):=rfl
      simp only [b0,zct,zgz,zgs,zob,zaa,hnl,zab,l18,l20,zpU,List.append_nil,g1,e2,hw1]
      exact hrr
     rw [Bool.true_and]
     unfold zqm at hres ⊢
     cases hwf:zcA ws (i+1) with
     | false=>
       rw [hwf] at hres
       obtain ⟨s',y1,y2⟩:=hres
       exact ⟨s',y1,step _ y2⟩
     | true=>
       rw [hwf] at hres
       obtain ⟨s',v',y1,y2,y3⟩:=hres
       exact ⟨s',v',y1,step _ y2,y3⟩
theorem rnew5 [Sym] {r b:Nat} {wv ev:Value} {tl:List Value} {ws:List Nat} {base:SS} (hb:base.next=b) (hll:base.lim≤base.next) (hsz:ws.length≤2048) (hX:∀ X∈ws,X<2^64) (hr:base.ld r 0=some wv) (hlt:r<base.next) (hv:Rg base wv (rowsF uRow ws) 1 ws.length):∀ (k i:Nat) (s:SS) (v:Value),ws.length=k+i→Ext base s→At s b (v::tl)→Own (b+1) s v (rowsF zbA (ws.take i)) 12 i→
  zqm base b tl ws (zcA ws i) [ptr r 0,ptr b 0] [.pointer none,.bool false] (zas 5 [ptr r 0,ptr b 0,wv,.int .i64 ws.length,.int .i64 i] s):=by
 intro k
 induction k with
 | zero=>
   intro i s v hk he ha ho
   have h:¬ (i:Int)<(ws.length:Int):=by omega
   have hi:i=ws.length:=by omega
   rw [List.take_of_length_le (by omega),hi] at ho
   rw [zk9 (by omega)]
   refine ⟨s,v,he,zdi _ _ _ _ _ s ?_,ha,ho⟩
   simp only [zcW,zdf h,zcf]
 | succ k ih=>
   intro i s v hk he ha ho
   have h:(i:Int)<(ws.length:Int):=by omega
   obtain ⟨X,hgx⟩:∃ X,ws[i]?=some X:=⟨_,zge (by omega)⟩
   obtain ⟨p1,b1,_,b3⟩:=(hv.ext he).load (j:=(i:Int)) (by omega) h (zaM zrj ws i X hgx) rfl
   have b3':s.ld p1.1 p1.2=some (.int .u64 (X:Int)):=b3 0 _ rfl
   obtain ⟨n3,hn3,c3⟩:=ztP X (hX X (zmg hgx)) s
   have x3:=Ext.advR s hn3
   have he3:=he.trans x3
   obtain ⟨s5,e5,a5,x5,n5⟩:=zaQ (n:=12) (st:=s.adv n3) (he3.ll hll) (r:=Z12) (row:=zbA X) (v:=wV (zbd X)) (zaC _) (zaY X) (zcc _) rfl
   have he5:=he3.trans x5
   have l6:s5.ldN n3 0 12=some (wV (zbd X)):=a5.ldN (zaY X)
   obtain ⟨v7,s7,c7,x7,o7⟩:=zuP (zbd X) (i:Int) _ _ (zoD X) (zmZ X) (by omega) (by omega) s5 (he5.ll hll)
   have he7:=he5.trans x7
   have o7':Rg s7 v7 (rowsF zbl (zdP X i)) 2 (zdP X i).length:=o7.rg
   have q8:=o7'.lenI
   obtain ⟨s9,x9,f9⟩:=rnew9 (r:=r) (b:=b) (q:=n3) (wv:=wv) (v7:=v7) (t21:=ws.length) (i:=i) (N:=ws.length) (zdP X i) (by have:=zsA X i;omega) (zpS (by omega)) (he7.ll hll) ((zcR he7 hlt).trans hr) (zll hlt he7.next) hv.lenI o7' wv (zdP X i).length 0 s7 rfl (Ext.refl _)
   rw [List.drop_zero] at f9
   have f9':zas 9 [ptr r 0,ptr b 0,ptr n3 0,wv,.int .i64 ws.length,.int .i64 i,v7,.int .i64 (zdP X i).length,.int .i64 0] s7=_:=f9
   have he9:=he7.trans x9
   have hs9:Ext s s9:=((x3.trans x5).trans x7).trans x9
   rw [zj5 hgx]
   cases hok:okW ws.length X i with
   | false=>
     have hok':((zdP X i).all fun p=>!decide ((ws.length:Int)<p.1+p.2))=false:=hok
     rw [hok',zcf] at f9'
     have b0:Nat.beq 1 0=false:=rfl
     refine ⟨s9,he9,zdi _ _ _ _ _ s ?_⟩
     unfold zcW
     simp only [zdt h,zct]
     refine zbi.2 ⟨_,b1,?_⟩
     simp only [b3',zob]
     refine zbi.2 ⟨_,rfl,?_⟩
     refine zbi.2 ⟨_,c3,?_⟩
     refine zbi.2 ⟨_,e5,?_⟩
     refine zbi.2 ⟨_,l6,?_⟩
     refine zbi.2 ⟨_,c7,?_⟩
     refine zbi.2 ⟨_,q8,?_⟩
     refine zbi.2 ⟨_,f9',?_⟩
     simp only [b0,zcf,zgz,zgs,zob,zaf]
   | true=>
     have hok':((zdP X i).all fun p=>!decide ((ws.length:Int)<p.1+p.2))=true:=hok
     rw [hok',zct] at f9'
     have b0:Nat.beq 0 0=true:=rfl
     have a9:=ha.ext hs9
     have o9:=ho.ext hs9
     have l18:s9.ld b 0=some v:=a9.ld
     have l20:s9.ldN n3 0 12=some (wV (zbd X)):=(a5.ext (x7.trans x9)).ldN (zaY X)
     have hbn:b+1≤s9.next:=a9.lt
     obtain ⟨v',s',g1,g2,g3,g4,g5⟩:=o9.pushM (row:=zbA X) (bt:=96) hbn (by rw [he9.lim];omega) (zaY X) (by omega) (zcc _) (by omega) (by omega)
     have ha':At s' b (v::tl):=⟨(g5 b (by omega)).trans a9.1,by omega,by rw [g3];exact a9.2.2⟩
     have hcv:=g2.cell
     obtain ⟨s2,e2,a2,m2,n2⟩:=ha'.set1V (k:=0) (x:=v') hcv.1 (by simp) hcv.2
     have xs':Ext base s':=⟨zlt he9.next g4,g3.trans he9.lim,fun j hj=>(g5 j (by omega)).trans (he9.keep j hj)⟩
     have xs2:Ext base s2:=((Mod.ofExt (S:=[]) xs').thenI m2 (.inl (by omega))).toExt
     have o2:Own (b+1) s2 v' (rowsF zbA (ws.take (i+1))) 12 (i+1):=by
      have:ws.take (i+1)=ws.take i++[X]:=by rw [List.take_add_one,hgx];rfl
      rw [this,zbW,zc2]
      exact g2.modLt m2 (by simp)
     have hres:=ih (i+1) s2 v' (by omega) xs2 a2 o2
     have hw1:=zaS (i:=i) (by omega)
     have step:∀ rr,zas 5 [ptr r 0,ptr b 0,wv,.int .i64 ws.length,.int .i64 (i+1:Nat)] s2=some rr→zas 5 [ptr r 0,ptr b 0,wv,.int .i64 ws.length,.int .i64 i] s=some rr:=by
      intro rr hrr
      refine zdi _ _ _ _ _ s ?_
      unfold zcW
      simp only [zdt h,zct]
      refine zbi.2 ⟨_,b1,?_⟩
      simp only [b3',zob]
      refine zbi.2 ⟨_,rfl,?_⟩
      refine zbi.2 ⟨_,c3,?_⟩
      refine zbi.2 ⟨_,e5,?_⟩
      refine zbi.2 ⟨_,l6,?_⟩
      refine zbi.2 ⟨_,c7,?_⟩
      refine zbi.2 ⟨_,q8,?_⟩
      refine zbi.2 ⟨_,f9',?_⟩
      have hnl:zaj (ptr b 0)=some (ptr b 0):=rfl
      simp only [b0,zct,zgz,zgs,zob,zaa,hnl,zab,l18,l20,zpU,List.append_nil,g1,e2,hw1]
      exact hrr
     rw [Bool.true_and]
     unfold zqm at hres ⊢
     cases hwf:zcA ws (i+1) with
     | false=>
       rw [hwf] at hres
       obtain ⟨s',y1,y2⟩:=hres
       exact ⟨s',y1,step _ y2⟩
     | true=>
       rw [hwf] at hres
       obtain ⟨s',v',y1,y2,y3⟩:=hres
       exact ⟨s',v',y1,step _ y2,y3⟩
end Go.Proofs.YtcplfckncandkaaGreatDoorE
namespace Go.Proofs.YtcplfckncandkaaGreatDoorE
open Go Go.E Go.Proofs
abbrev zaF:Value:=.slice none 0 0
def znF (x:Int):List Value:=[.int .i64 x]
theorem znG (x:Int):(znF x).length=1:=rfl
theorem ztQ (x:List UInt8):(strRow x).length=1:=rfl
def zcd (v:Value) (E:List Int) (pc:Int) (k:Value):List Value:=v::(E.map (Value.int .i64)++[.int .i64 pc,k])
def ziB (v w:Value) (pc:Int) (k:Value):List Value:=[v,w,.int .i64 pc,k]
theorem sq_set {v:Value} {E:List Int} {pc:Int} {k:Value} (hE:E.length=5) {i:Nat} (hi:i<5) (x:Int):(zcd v E pc k).set (0+1+i*1) (.int .i64 x)=zcd v (E.set i x) pc k:=by
 match E,hE with
 | [a,b,c,d,e],_=>match i,hi with
   | 0,_=>rfl
   | 1,_=>rfl
   | 2,_=>rfl
   | 3,_=>rfl
   | 4,_=>rfl
theorem zvt {v:Value} {E:List Int} {pc:Int} {k:Value} (hE:E.length=5) {i:Nat} (hi:i<5):(zcd v E pc k)[0+1+i*1]?=some (.int .i64 (E.getD i 0)):=by
 match E,hE with
 | [a,b,c,d,e],_=>match i,hi with
   | 0,_=>rfl
   | 1,_=>rfl
   | 2,_=>rfl
   | 3,_=>rfl
   | 4,_=>rfl
theorem zgr {v:Value} {E:List Int} {pc:Int} {k:Value} (hE:E.length=5):(zcd v E pc k)[0+6]?=some (.int .i64 pc)∧(zcd v E pc k)[0+7]?=some k∧(zcd v E pc k).length=8∧(∀ x,(zcd v E pc k).set (0+6) (.int .i64 x)=zcd v E x k)∧∀ x,(zcd v E pc k).set (0+7) x=zcd v E pc x:=by
 match E,hE with
 | [a,b,c,d,e],_=>exact ⟨rfl,rfl,rfl,fun _=>rfl,fun _=>rfl⟩
theorem zoE {b i:Nat} (hi:i<5):zaP (ptr b (0+1)) 5 (i:Int) 1=some (b,0+1+i*1):=by
 match i,hi with
 | 0,_=>rfl
 | 1,_=>rfl
 | 2,_=>rfl
 | 3,_=>rfl
 | 4,_=>rfl
theorem tup0 (a b:Value):zao (.tuple #[a,b]) 0=some a:=rfl
theorem tup1 (a b:Value):zao (.tuple #[a,b]) 1=some b:=rfl
theorem zpV {v:Value} {st:SS} (h:Rg st v (rowsF strRow zbz) 1 5) {i:Nat} {n:List UInt8} (hn:zbz[i]?=some n):∃ p,zam v (i:Int) 1=some p∧st.ld p.1 p.2=some (.string (mkS n)):=by
 have hi:i<5:=(List.getElem?_eq_some_iff.1 hn).1
 obtain ⟨p,h1,_,h3⟩:=h.load (j:=(i:Int)) (by omega) (by omega) (zaM ztQ zbz i n hn) rfl
 exact ⟨p,h1,h3 0 _ rfl⟩
theorem zrk:zbz.length=5:=rfl
theorem unew17 [Sym] {r b:Nat} {wv ev v v58:Value} {ws:List Nat} {es:List En} {base:SS} (hb:base.next=b) (hll:base.lim≤base.next) (hsz:es.length≤255) (hr:base.ldN r 0 2=some (zbL wv ev)) (hlt:r<base.next) (hev:Rg base ev (rowsF zaJ es) 2 es.length) {base2:SS} (h58:Rg base2 v58 (rowsF strRow zbz) 1 5) (h2b:Ext base base2) (hv58:∀ i l c,v58=.slice (some ⟨i,0,none⟩) l c→i≠b) (ho:Own (b+1) base2 v (rowsF zbA ws) 12 ws.length):∀ (k i:Nat) (pre:List Int) (s:SS),5=k+i→pre.length=i→Mod [b] base2 s→Ext base s→At s b (zcd v (pre++List.replicate k 0) 0 zaF)→
  (match zfe es (zbz.drop i) with
  | none=>∃ s',Ext base s'∧zaT 17 [ptr r 0,ptr b 0,v58,.int .i64 5,.int .i64 i] s=some (1,[.pointer none,.int .i64 4],s')
  | some xs=>∃ s',Ext base s'∧zaT 17 [ptr r 0,ptr b 0,v58,.int .i64 5,.int .i64 i] s=some (0,[ptr b 0],s')∧At s' b (zcd v (pre++xs) 0 zaF)∧Own (b+1) s' v (rowsF zbA ws) 12 ws.length):=by
 intro k
 induction k with
 | zero=>
   intro i pre s hk hp hm he ha
   have h:¬ (i:Int)<5:=by omega
   have hi:i=5:=by omega
   subst hi
   refine ⟨s,he,zgh _ _ _ _ _ s ?_,ha,ho.modLt hm (by simp)⟩
   simp only [zgg,zdf h,zcf]
 | succ k ih=>
   intro i pre s hk hp hm he ha
   have h:(i:Int)<5:=by omega
   obtain ⟨n,hn⟩:∃ n,zbz[i]?=some n:=⟨_,zge (by rw [zrk];omega)⟩
   obtain ⟨p1,b1,b2⟩:=zpV (h58.mod hm (fun i l c e hi=>hv58 i l c e (by simpa using hi))) hn
   have l4:s.ldN r 0 2=some (zbL wv ev):=by
    have:s.ldN r 0 2=base.ldN r 0 2:=by unfold SS.ldN;rw [he.keep r hlt]
    rw [this,hr]
   obtain ⟨m,hm5,c5⟩:=find_ok (wv:=wv) (es:=es) (by omega) n (hev.ext he)
   have x5:=Ext.advR s hm5
   have he5:=he.trans x5
   have a5:=ha.ext x5
   rw [drop_cons hn]
   unfold zfe
   cases hq:zeC es n with
   | none=>
     rw [hq] at c5
     refine ⟨s.adv m,he5,zgh _ _ _ _ _ s ?_⟩
     simp only [zgg,zdt h,zct,b1,zob,b2,zad,zab,l4,c5,tup0,tup1,zaa,zaf,Option.isSome_none,znf]
   | some x=>
     rw [hq] at c5
     have hEl:(pre++List.replicate (k+1) (0:Int)).length=5:=by rw [List.length_append,List.length_replicate];omega
     obtain ⟨s2,e2,a2,m2,n2⟩:=a5.set1 (k:=0+1+i*1) (x:=.int .i64 x) (by rw [(zgr hEl).2.2.1];omega) rfl
     rw [sq_set hEl (by omega)] at a2
     have hset:(pre++List.replicate (k+1) (0:Int)).set i x=(pre++[x])++List.replicate k 0:=by
      rw [List.set_append_right _ _ (by omega),hp,Nat.sub_self,List.replicate_succ,List.set_cons_zero,List.append_assoc];rfl
     rw [hset] at a2
     have hm2:Mod [b] base2 s2:=((hm.thenX x5).then m2)
     have hx2:Ext base s2:=((Mod.ofExt (S:=[]) he5).thenI m2 (.inl (by omega))).toExt
     have hres:=ih (i+1) (pre++[x]) s2 (by omega) (by simp [hp]) hm2 hx2 a2
     have hw1:=zaS (i:=i) (by omega)
     have step:∀ rr,zaT 17 [ptr r 0,ptr b 0,v58,.int .i64 5,.int .i64 (i+1:Nat)] s2=some rr→zaT 17 [ptr r 0,ptr b 0,v58,.int .i64 5,.int .i64 i] s=some rr:=fun rr hrr=>by
      refine zgh _ _ _ _ _ s ?_
      simp only [zgg,zdt h,zct,b1,zob,b2,zad,zab,l4,c5,tup0,tup1,zaa,zaf,Option.isSome_some,znt,zcf,Option.getD_some,zaw,zoE (show i<5 by omega),e2,hw1]
      exact hrr
     cases hq2:zfe es (zbz.drop (i+1)) with
     | none=>
       rw [hq2] at hres
       obtain ⟨s',y1,y2⟩:=hres
       exact ⟨s',y1,step _ y2⟩
     | some xs=>
       rw [hq2] at hres
       obtain ⟨s',y1,y2,y3,y4⟩:=hres
       rw [List.append_assoc] at y3
       exact ⟨s',y1,step _ y2,y3,y4⟩
theorem zk0 (es:List En):∀ (ns:List (List UInt8)) (xs:List Int),zfe es ns=some xs→xs.length=ns.length
 | [],xs,h=>by simp only [zfe,zsj] at h;subst h;rfl
 | n::r,xs,h=>by
   unfold zfe at h
   split at h
   ·cases h
   ·split at h
    ·cases h
    ·rename_i x _ ys hys
     cases h
     simp [zk0 es r ys hys]
theorem go_ok [Sym] {s:SS} {b:Nat} {v k:Value} {E:List Int} {pc:Int} (hE:E.length=5) (ha:At s b (zcd v E pc k)) {i:Nat} (hi:i<5):
  ∃ s',cc 13 [ptr b 0,.int .i64 i] s=some (.tuple #[],s')∧At s' b (zcd v E (E.getD i 0) zaF)∧Mod [b] s s'∧s'.next=s.next:=by
 have h0:(0:Int)≤(i:Int):=by omega
 have h5:(i:Int)<5:=by omega
 have l3:s.ld b (0+1+i*1)=some (.int .i64 (E.getD i 0)):=by rw [ha.ld,zvt hE hi]
 obtain ⟨s1,e1,a1,m1,n1⟩:=ha.set1 (k:=0+6) (x:=.int .i64 (E.getD i 0)) (by rw [(zgr hE).2.2.1];omega) rfl
 rw [(zgr hE).2.2.2.1] at a1
 obtain ⟨s2,e2,a2,m2,n2⟩:=a1.set1 (k:=0+7) (x:=zaF) (by rw [(zgr hE).2.2.1];omega) rfl
 rw [(zgr hE).2.2.2.2] at a2
 refine ⟨s2,zjO _ _ s ?_,a2,m1.then m2,by omega⟩
 simp only [zg0,zdt h0,zdt h5,zct,zaw,zob,zab,zoE hi,l3,zaa,e1,e2]
theorem zsB [Sym] {ws:List Nat} {es:List En} {wv ev:Value} {st:SS} (hg:Gd st) (hl:st.lim≤st.next) (hX:∀ X∈ws,X<2^64) (o1:Rg st wv (rowsF uRow ws) 1 ws.length) (o2:Rg st ev (rowsF zaJ es) 2 es.length):
  match newT ws es with
  | none=>∃ s',Ext st s'∧cc 10 [zbL wv ev] st=some (.tuple #[.pointer none,.int .i64 4],s')
  | some E=>E.length=5∧∃ s' b v,Ext st s'∧cc 10 [zbL wv ev] st=some (.tuple #[ptr b 0,.int .i64 0],s')∧st.next≤b∧At s' b (zcd v E (E.getD 0 0) zaF)∧Own (b+1) s' v (rowsF zbA ws) 12 ws.length:=by
 have hc:(zbL wv ev).cells.toList=[wv,ev]:=by show (Value.agg [wv,ev].toArray).cells.toList=_;exact zaC _
 have x1:Ext st (st.new (.cells [wv,ev] 0)):=(Ext.refl _).new _
 have a1:At (st.new (.cells [wv,ev] 0)) st.next [wv,ev]:=At.new hl _
 have hn1:(st.new (.cells [wv,ev] 0)).next=st.next+1:=rfl
 obtain ⟨s1,hs1⟩:∃ s1,st.new (.cells [wv,ev] 0)=s1:=⟨_,rfl⟩
 rw [hs1] at x1 a1 hn1
 have l2:s1.ldN st.next 0 2=some (zbL wv ev):=a1.ldN rfl
 obtain ⟨n3,hn3,c3⟩:=ztM (o1.ext x1) (o2.ext x1)
 have x3:=Ext.advR s1 hn3
 have hx3:=x1.trans x3
 unfold newT
 cases hG:zdO ws.length es with
 | false=>
   rw [hG] at c3
   refine ⟨s1.adv n3,hx3,zgX _ st ?_⟩
   simp only [zih,hc,hs1,l2,zob,c3,zaf,znf,zct]
 | true=>
   rw [hG] at c3
   have hG':=hG
   unfold zdO at hG'
   simp only [zae,Nat.ble_eq] at hG'
   obtain ⟨hw,hes,_⟩:=hG'
   have hlm:(s1.adv n3).lim≤(s1.adv n3).next:=hx3.ll hl
   have a5:At ((s1.adv n3).new (.cells (zcd zaF [0,0,0,0,0] 0 zaF) 0)) n3 (zcd zaF [0,0,0,0,0] 0 zaF):=At.new hlm _
   have x5:Ext (s1.adv n3) ((s1.adv n3).new (.cells (zcd zaF [0,0,0,0,0] 0 zaF) 0)):=(Ext.refl _).new _
   have l0:(s1.adv n3).ld st.next 0=some wv:=(a1.ext x3).ld
   have l6:((s1.adv n3).new (.cells (zcd zaF [0,0,0,0,0] 0 zaF) 0)).ld st.next 0=some wv:=((a1.ext x3).ext x5).ld
   have q7:=o1.lenI
   have hlt:st.next<(s1.adv n3).next:=by show st.next<n3;omega
   have f5:=unew5 (r:=st.next) (b:=n3) (wv:=wv) (ev:=ev) (tl:=[0,0,0,0,0].map (Value.int .i64)++[.int .i64 0,zaF]) (ws:=ws) (hg.ext hx3) rfl hlm hw hX l0 hlt (o1.ext hx3) ws.length 0 _ zaF rfl x5 a5 (Own.nil _ _ _)
   rw [zj4] at f5
   cases hW:zdQ ws with
   | false=>
     rw [hW] at f5
     obtain ⟨s8,x8,f8⟩:=f5
     have f8':zaT 5 [ptr st.next 0,ptr n3 0,wv,.int .i64 ws.length,.int .i64 0] ((s1.adv n3).new (.cells (zcd zaF [0,0,0,0,0] 0 zaF) 0))=_:=f8
     have b0:Nat.beq 1 0=false:=rfl
     refine ⟨s8,hx3.trans x8,zgX _ st ?_⟩
     simp only [zih,hc,hs1,l2,zob,c3,zaf,znt,zcf]
     refine zbi.2 ⟨_,l6,?_⟩
     refine zbi.2 ⟨_,q7,?_⟩
     refine zbi.2 ⟨_,f8',?_⟩
     simp only [b0,zcf,zgz,zgs,zob,zaa]
   | true=>
     rw [hW] at f5
     obtain ⟨s8,v,x8,f8,a8,o8⟩:=f5
     have f8':zaT 5 [ptr st.next 0,ptr n3 0,wv,.int .i64 ws.length,.int .i64 0] ((s1.adv n3).new (.cells (zcd zaF [0,0,0,0,0] 0 zaF) 0))=_:=f8
     have b0:Nat.beq 0 0=true:=rfl
     have c11:cc 26 [] s8=some (.slice (some ⟨s8.next,0,none⟩) 5 5,s8.new (.cells (rowsF strRow zbz) 1)):=zp6 s8 rfl
     have x11:Ext s8 (s8.new (.cells (rowsF strRow zbz) 1)):=(Ext.refl _).new _
     have g58:Rg (s8.new (.cells (rowsF strRow zbz) 1)) (.slice (some ⟨s8.next,0,none⟩) 5 5) (rowsF strRow zbz) 1 5:=(zsy (st:=s8) (row:=rowsF strRow zbz) (n:=5) rfl (by omega)).rg
     have q12:(lenV (.slice (some ⟨s8.next,0,none⟩) 5 5)).bind (asI .i64)=some 5:=rfl
     have hb8:n3<s8.next:=a8.lt
     have f13:=unew17 (r:=st.next) (b:=n3) (wv:=wv) (ev:=ev) (v:=v) (v58:=.slice (some ⟨s8.next,0,none⟩) 5 5) (ws:=ws) (es:=es) (base:=s1.adv n3) rfl hlm hes ((a1.ext x3).ldN rfl) hlt (o2.ext hx3) (base2:=s8.new (.cells (rowsF strRow zbz) 1)) g58 (x8.trans x11) (fun i l c e=>by cases e;omega) (o8.ext x11) 5 0 [] _ rfl rfl (Mod.refl _) (x8.trans x11) (a8.ext x11)
     rw [List.drop_zero] at f13
     have hnl:=zaw n3
     simp only [Bool.and_self,zct]
     cases hT:zfe es zbz with
     | none=>
       rw [hT] at f13
       obtain ⟨s13,x13,f13⟩:=f13
       have f13':zaT 17 [ptr st.next 0,ptr n3 0,.slice (some ⟨s8.next,0,none⟩) 5 5,.int .i64 5,.int .i64 0] (s8.new (.cells (rowsF strRow zbz) 1))=_:=f13
       have b1:Nat.beq 1 0=false:=rfl
       refine ⟨s13,hx3.trans x13,zgX _ st ?_⟩
       simp only [zih,hc,hs1,l2,zob,c3,zaf,znt,zcf]
       refine zbi.2 ⟨_,l6,?_⟩
       refine zbi.2 ⟨_,q7,?_⟩
       refine zbi.2 ⟨_,f8',?_⟩
       simp only [b0,zct,zgz,zgs,zob,c11,q12]
       refine zbi.2 ⟨_,f13',?_⟩
       simp only [b1,zcf,zgz,zgs,zob,zaa]
     | some E=>
       rw [hT] at f13
       obtain ⟨s13,x13,f13,a13,o13⟩:=f13
       have f13':zaT 17 [ptr st.next 0,ptr n3 0,.slice (some ⟨s8.next,0,none⟩) 5 5,.int .i64 5,.int .i64 0] (s8.new (.cells (rowsF strRow zbz) 1))=_:=f13
       have hE:E.length=5:=zk0 es zbz E hT
       rw [List.nil_append] at a13
       obtain ⟨s15,c15,a15,m15,n15⟩:=go_ok hE a13 (i:=0) (by omega)
       have c15':cc 13 [ptr n3 0,.int .i64 0] s13=some (.tuple #[],s15):=c15
       refine ⟨hE,s15,n3,v,hx3.trans ((Mod.ofExt (S:=[]) x13).thenI m15 (.inl (zlr n3))).toExt,zgX _ st ?_,by omega,a15,o13.modLt m15 (by simp)⟩
       simp only [zih,hc,hs1,l2,zob,c3,zaf,znt,zcf]
       refine zbi.2 ⟨_,l6,?_⟩
       refine zbi.2 ⟨_,q7,?_⟩
       refine zbi.2 ⟨_,f8',?_⟩
       simp only [b0,zct,zgz,zgs,zob,c11,q12]
       refine zbi.2 ⟨_,f13',?_⟩
       simp only [b0,zct,zgz,zob,c15']
end Go.Proofs.YtcplfckncandkaaGreatDoorE
namespace Go.Proofs.YtcplfckncandkaaGreatDoorE
open Go Go.E Go.Proofs
def Stk (B:Nat) (s:SS) (k:Value) (ca:List Int):Prop:=
 (k=zaF∧ca=[])∨∃ j o cap C,k=.slice (some ⟨j,o,none⟩) ca.length cap∧ca.length≤cap∧s.mem.get j=some (.cells C 1)∧o+cap≤C.length∧(C.drop o).take ca.length=ca.map (Value.int .i64)∧B≤j∧j<s.next
section
variable {B b : Nat} {s s' : SS} {k k' : Value} {ca : List Int}
theorem Stk.cell (h:Stk B s k ca):k.cells.toList=[k]∧one k=true:=by
 obtain ⟨rfl,_⟩ | ⟨j,o,cap,C,rfl,_⟩:=h<;>exact ⟨rfl,rfl⟩
theorem Stk.len (h:Stk B s k ca):(lenV k).bind (asI .i64)=some (ca.length:Int):=by
 obtain ⟨rfl,rfl⟩ | ⟨j,o,cap,C,rfl,_⟩:=h<;>rfl
theorem Stk.keep (h:Stk B s k ca) (hn:s.next≤s'.next) (hk:∀ i o l c,k=.slice (some ⟨i,o,none⟩) l c→B≤i→i<s.next→s'.mem.get i=s.mem.get i):Stk B s' k ca:=by
 refine h.imp (fun h=>h) ?_
 rintro ⟨j,o,cap,C,e,h1,h2,h3,h4,h5,h6⟩
 exact ⟨j,o,cap,C,e,h1,(hk j o _ _ e h5 h6).trans h2,h3,h4,h5,by omega⟩
theorem Stk.nil:Stk B s zaF []:=.inl ⟨rfl,rfl⟩
theorem Stk.push (h:Stk B s k ca) (hb:B≤s.next) (hl:s.lim≤B) (hn:ca.length≤1000) (a:Int):
  ∃ s',(s.new (.cells [.int .i64 a] 1)).app 1 8 k (.slice (some ⟨s.next,0,none⟩) 1 1)=some (.slice (some ⟨s.next+1,0,none⟩) (ca.length+1) (ca.length+1),s')∧s'.next=s.next+2∧s'.lim=s.lim∧s'.mem.get (s.next+1)=some (.cells ((ca++[a]).map (Value.int .i64)) 1)∧
   ∀ i,i<s.next→(∀ o l c,k≠.slice (some ⟨i,o,none⟩) l c)→s'.mem.get i=s.mem.get i:=by
 have hx:(s.new (.cells [.int .i64 a] 1)).first 1 1 (.slice (some ⟨s.next,0,none⟩) 1 1)=some [.int .i64 a]:=by
  unfold SS.first
  simp only [SS.new_get,zob]
  rfl
 have e1:zeE (.slice (some ⟨s.next,0,none⟩) 1 1)=some 1:=rfl
 have m0:Nat.beq 1 0=false:=rfl
 obtain ⟨rfl,rfl⟩ | ⟨j,o,cap,C,rfl,h1,h2,h3,h4,h5,h6⟩:=h
 ·refine ⟨(s.new (.cells [.int .i64 a] 1)).new (.cells [.int .i64 a] 1),?_,rfl,rfl,?_,fun i hi _=>?_⟩
  ·unfold SS.app
   rw [e1]
   simp only [zob,m0,zcf]
   have q:(Nat.ble ((1+1)*8) (2^44)&&Nat.ble 1 (2^44))=true:=rfl
   rw [q,hx]
   rfl
  ·exact SS.new_get (st:=s.new (.cells [.int .i64 a] 1))
  ·rw [SS.new_old (by simp;omega),SS.new_old (by omega)]
 ·have hj:(s.new (.cells [.int .i64 a] 1)).mem.get j=some (.cells C 1):=by rw [SS.new_old (by omega)];exact h2
  have hcut:cut C o (ca.length*1)=some (ca.map (Value.int .i64)):=by
   rw [Nat.mul_one]
   exact zlA h4 (by simp)
  refine ⟨((s.new (.cells [.int .i64 a] 1)).set j none).new (.cells (ca.map (Value.int .i64)++[.int .i64 a]) 1),?_,rfl,rfl,?_,fun i hi hne=>?_⟩
  ·unfold SS.app
   rw [e1]
   simp only [zob,m0,zcf]
   have q:(Nat.ble ((ca.length+1+1)*8) (2^44)&&Nat.ble (ca.length+1) (2^44)&&Nat.ble (s.new (.cells [.int .i64 a] 1)).lim j)=true:=by
    simp only [zae,Nat.ble_eq]
    exact ⟨⟨by omega,by omega⟩,by show s.lim≤j;omega⟩
   have q2:(Nat.beq 1 1&&(Nat.blt cap (ca.length+1)||Nat.ble (o+cap*1) C.length))=true:=by
    have:Nat.ble (o+cap*1) C.length=true:=by rw [Nat.ble_eq];omega
    rw [this,Bool.or_true];rfl
   have q3:([.int .i64 a]:List Value).all one=true:=rfl
   rw [q]
   simp only [zct,hj,zob,q2,hcut,hx,q3]
   rfl
  ·have:(((s.new (.cells [.int .i64 a] 1)).set j none).new (.cells (ca.map (Value.int .i64)++[.int .i64 a]) 1)).mem.get ((s.new (.cells [.int .i64 a] 1)).set j none).next=_:=SS.new_get
   rw [List.map_append]
   exact this
  ·rw [SS.new_old (by simp;omega),SS.set_old (fun e=>hne o _ _ (by rw [e])),SS.new_old (by omega)]
theorem Stk.tail {a:Int} {r:List Int} (h:Stk B s k (a::r)) (hr:0<r.length):∃ k',s.resl k 1 1 ((r.length+1:Nat):Int)=some k'∧Stk B s k' r∧∃ j o l c o' l' c',k=.slice (some ⟨j,o,none⟩) l c∧k'=.slice (some ⟨j,o',none⟩) l' c':=by
 obtain ⟨_,h0⟩ | ⟨j,o,cap,C,rfl,h1,h2,h3,h4,h5,h6⟩:=h
 ·cases h0
 simp only [List.length_cons] at h1 h4
 have e1:decide ((1:Int)≤((r.length+1:Nat):Int))=true:=zdt (by omega)
 have e2:decide (((r.length+1:Nat):Int)≤(cap:Int))=true:=zdt (by omega)
 have e3:Nat.beq cap 1=false:=by rw [zat];exact zdf (by omega)
 refine ⟨.slice (some ⟨j,o+1,none⟩) r.length (cap-1),?_,.inr ⟨j,o+1,cap-1,C,rfl,by omega,h2,by omega,?_,h5,h6⟩,j,o,_,_,o+1,_,_,rfl,rfl⟩
 ·unfold SS.resl
  have e0:decide ((0:Int)≤1)=true:=rfl
  have q:(Nat.beq 1 1||Nat.beq 1 0)=true:=rfl
  simp only [List.length_cons,e0,e1,e2,Bool.and_self,zct,h2,zob,q,show (1:Int).toNat=1 from rfl,e3,zcf,Int.toNat_natCast,Nat.mul_one,Nat.add_sub_cancel]
 ·have h7:(C.drop o).take (r.length+1)=(Value.int .i64 a)::r.map (Value.int .i64):=h4
  have h8:C.drop (o+1)=(C.drop o).drop 1:=by rw [List.drop_drop]
  rw [h8,List.take_drop,Nat.add_comm 1 r.length,h7]
  rfl
theorem Stk.init {r:List Int} {a:Int} (h:Stk B s k (r++[a])):∃ p k',zam k (r.length:Int) 1=some p∧s.ld p.1 p.2=some (.int .i64 a)∧s.resl k 1 0 (r.length:Int)=some k'∧Stk B s k' r∧∃ j o l c o' l' c',k=.slice (some ⟨j,o,none⟩) l c∧k'=.slice (some ⟨j,o',none⟩) l' c':=by
 obtain ⟨_,h0⟩ | ⟨j,o,cap,C,rfl,h1,h2,h3,h4,h5,h6⟩:=h
 ·simp at h0
 simp only [List.length_append,List.length_singleton] at h1 h4
 have e0:zam (.slice (some ⟨j,o,none⟩) (r++[a]).length cap) (r.length:Int) 1=some (j,o+r.length*1):=by
  unfold zam
  have g1:(0:Int)≤(r.length:Int):=by omega
  have g2:(r.length:Int)<((r++[a]).length:Int):=by rw [List.length_append,List.length_singleton];omega
  simp only [zdt g1,zdt g2,Bool.and_self,zct,Int.toNat_natCast]
 have hget:C[o+r.length*1]?=some (.int .i64 a):=by
  have h7:((C.drop o).take (r.length+1))[r.length]?=some (.int .i64 a):=by rw [h4];simp
  rw [List.getElem?_take,if_pos (by omega),List.getElem?_drop] at h7
  rw [Nat.mul_one];exact h7
 refine ⟨_,.slice (some ⟨j,o,none⟩) r.length cap,e0,?_,?_,.inr ⟨j,o,cap,C,rfl,by omega,h2,h3,?_,h5,h6⟩,j,o,_,_,o,_,_,rfl,rfl⟩
 ·rw [SS.ld_cells h2];exact hget
 ·unfold SS.resl
  have e1:decide ((0:Int)≤(r.length:Int))=true:=zdt (by omega)
  have e2:decide ((r.length:Int)≤(cap:Int))=true:=zdt (by omega)
  have q:(Nat.beq 1 1||Nat.beq 1 0)=true:=rfl
  have e3:cond (Nat.beq cap 0) o (o+0*1)=o:=by cases Nat.beq cap 0<;>simp
  simp only [e1,e2,Int.le_refl,decide_true,Bool.and_self,zct,h2,zob,q,Int.toNat_zero,e3,Int.toNat_natCast,Nat.sub_zero]
 ·have:(C.drop o).take r.length=((C.drop o).take (r.length+1)).take r.length:=by rw [List.take_take,Nat.min_eq_left (by omega)]
  rw [this,h4]
  simp
end
structure Fr (b:Nat) (k:Value) (s s':SS):Prop where
 next:s.next≤s'.next
 lim:s'.lim=s.lim
 keep:∀ i,i<s.next→i≠b→(∀ o l c,k≠.slice (some ⟨i,o,none⟩) l c)→s'.mem.get i=s.mem.get i
def Nw (k k':Value) (s:SS):Prop:=∀ i o l c,k'=.slice (some ⟨i,o,none⟩) l c→s.next≤i∨∃ o' l' c',k=.slice (some ⟨i,o',none⟩) l' c'
theorem Fr.ofExt {b:Nat} {k:Value} {s s':SS} (h:Ext s s'):Fr b k s s':=⟨h.next,h.lim,fun i hi _ _=>h.keep i hi⟩
theorem Fr.ofMod {b:Nat} {k:Value} {s s':SS} (h:Mod [b] s s'):Fr b k s s':=⟨h.next,h.lim,fun i hi hb _=>h.keep i hi (by simpa using hb)⟩
theorem Fr.then {b:Nat} {k k':Value} {s s' s2:SS} (h:Fr b k s s') (h2:Fr b k' s' s2) (hn:Nw k k' s):Fr b k s s2:=
 ⟨zlt h.next h2.next,h2.lim.trans h.lim,fun i hi hb hk=>(h2.keep i (zll hi h.next) hb (fun o l c e=>by
  rcases hn i o l c e with h3 | ⟨o',l',c',h3⟩
  ·omega
  ·exact hk _ _ _ h3)).trans (h.keep i hi hb hk)⟩
theorem Nw.same (k:Value) (s:SS):Nw k k s:=fun i o l c e=>.inr ⟨o,l,c,e⟩
theorem Nw.nil (k:Value) (s:SS):Nw k zaF s:=fun i o l c e=>by cases e
theorem Nw.then {k k' k2:Value} {s s':SS} (h:Nw k k' s) (h2:Nw k' k2 s') (hn:s.next≤s'.next):Nw k k2 s:=fun i o l c e=>by
 rcases h2 i o l c e with h3 | ⟨o',l',c',h3⟩
 ·exact .inl (by omega)
 ·exact h i o' l' c' h3
def SqI (B:Nat) (s:SS) (b:Nat) (ws:List Nat) (E:List Int) (pc:Int) (k:Value):Prop:=
 ∃ v,At s b (zcd v E pc k)∧b<B∧Rg s v (rowsF zbA ws) 12 ws.length∧∀ i l c,v=.slice (some ⟨i,0,none⟩) l c→b<i∧i<B
theorem Stk.sep {B:Nat} {s:SS} {k:Value} {ca:List Int} (h:Stk B s k ca) {i:Nat} (hi:i<B):∀ o l c,k≠.slice (some ⟨i,o,none⟩) l c:=fun o l c e=>by
 obtain ⟨rfl,_⟩ | ⟨j,o',cap,C,rfl,_,_,_,_,h5,_⟩:=h
 ·cases e
 ·cases e;omega
section
variable {B b : Nat} {s s' : SS} {ws : List Nat} {E : List Int} {pc : Int} {k : Value} {ca : List Int}
theorem SqI.ext (h:SqI B s b ws E pc k) (he:Ext s s'):SqI B s' b ws E pc k:=by
 obtain ⟨v,h1,h2,h3,h4⟩:=h
 exact ⟨v,h1.ext he,h2,h3.ext he,h4⟩
theorem Stk.ext (h:Stk B s k ca) (he:Ext s s'):Stk B s' k ca:=h.keep he.next fun i o l c e hB hi=>he.keep i hi
theorem SqI.set (h:SqI B s b ws E pc k) (hE:E.length=5) (x:Int):∃ s',s.st b (0+6) [.int .i64 x]=some s'∧SqI B s' b ws E x k∧Mod [b] s s'∧s'.next=s.next:=by
 obtain ⟨v,h1,h2,h3,h4⟩:=h
 obtain ⟨s2,e1,a1,m1,n1⟩:=h1.set1 (k:=0+6) (x:=.int .i64 x) (by rw [(zgr hE).2.2.1];omega) rfl
 rw [(zgr hE).2.2.2.1] at a1
 exact ⟨s2,e1,⟨v,a1,h2,h3.mod m1 (fun i l c e=>by have:=(h4 i l c e).1;simp;omega),h4⟩,m1,n1⟩
theorem SqI.setK (h:SqI B s b ws E pc k) (hE:E.length=5) {x:Value} (hc:x.cells.toList=[x]) (ho:one x=true):∃ s',s.stV b (0+7) 1 x=some s'∧SqI B s' b ws E pc x∧Mod [b] s s'∧s'.next=s.next:=by
 obtain ⟨v,h1,h2,h3,h4⟩:=h
 obtain ⟨s2,e1,a1,m1,n1⟩:=h1.set1V (k:=0+7) (x:=x) hc (by rw [(zgr hE).2.2.1];omega) ho
 rw [(zgr hE).2.2.2.2] at a1
 exact ⟨s2,e1,⟨v,a1,h2,h3.mod m1 (fun i l c e=>by have:=(h4 i l c e).1;simp;omega),h4⟩,m1,n1⟩
theorem SqI.pcs (h:SqI B s b ws E pc k) (hE:E.length=5):s.ld b (0+6)=some (.int .i64 pc)∧s.ld b (0+7)=some k∧∀ i,i<5→s.ld b (0+1+i*1)=some (.int .i64 (E.getD i 0)):=by
 obtain ⟨v,h1,_⟩:=h
 exact ⟨by rw [h1.ld,(zgr hE).1],by rw [h1.ld,(zgr hE).2.1],fun i hi=>by rw [h1.ld,zvt hE hi]⟩
theorem SqI.lt (h:SqI B s b ws E pc k):b<s.next∧b<B∧s.lim≤b:=by
 obtain ⟨v,h1,h2,_⟩:=h
 exact ⟨h1.2.1,h2,h1.2.2⟩
theorem zsC [Sym] (h:SqI B s b ws E pc k) (hE:E.length=5):cc 14 [ptr b 0] s=some (.int .i64 pc,s):=by
 refine zjN _ s ?_
 have l:(s.ro s.next).ld b (0+6)=some (.int .i64 pc):=(h.pcs hE).1
 simp only [zje,zaw,zob,zab,l,zaa]
 rfl
theorem ztR [Sym] (h:SqI B s b ws E pc k) (hE:E.length=5) (hs:Stk B s k ca):cc 11 [ptr b 0] s=some (.int .i64 ca.length,s):=by
 refine zhq _ s ?_
 have l:(s.ro s.next).ld b (0+7)=some k:=(h.pcs hE).2.1
 simp only [zgM,zaw,zob,zab,l,hs.len]
 rfl
theorem zvu [Sym] (h:SqI B s b ws E pc k) (hE:E.length=5) {X:Nat} (h0:0≤pc) (hX:ws[pc.toNat]?=some X):∃ n,s.next≤n∧cc 21 [ptr b 0] s=some (wV (zbd X),s.adv n):=by
 have hp:=h.pcs hE
 obtain ⟨v,h1,h2,h3,h4⟩:=h
 have hi:pc.toNat<ws.length:=(List.getElem?_eq_some_iff.1 hX).1
 have x1:Ext (s.ro s.next) ((s.ro s.next).new (.cells Z12 0)):=(Ext.refl _).new _
 have l4:((s.ro s.next).new (.cells Z12 0)).ld b 0=some v:=(zcR x1 (show b<(s.ro s.next).next from h1.2.1)).trans (by show s.ld b 0=_;rw [h1.ld];rfl)
 have l7:((s.ro s.next).new (.cells Z12 0)).ld b (0+6)=some (.int .i64 pc):=(zcR x1 (show b<(s.ro s.next).next from h1.2.1)).trans hp.1
 obtain ⟨p8,b1,b2,_⟩:=(Rg.ext (st:=s.ro s.next) h3 x1).load (j:=pc) h0 (by omega) (zaM zaY ws pc.toNat X hX) (zaY X)
 have b2':((s.ro s.next).new (.cells Z12 0)).ldN p8.1 p8.2 12=some (wV (zbd X)):=b2
 obtain ⟨s10,e10,a10,x10,n10⟩:=zaQ (n:=12) (st:=s.ro s.next) (zlr _) (r:=Z12) (row:=zbA X) (v:=wV (zbd X)) (zaC _) (zaY X) (zcc _) rfl
 have r11:s10.rdN s.next 0 12=some (wV (zbd X)):=a10.rdN (zaY X)
 refine ⟨s10.next,by have:=x10.next;exact this,zii _ s ?_⟩
 unfold zhf
 simp only [zaw,zob,zab]
 refine zbi.2 ⟨_,l4,?_⟩
 simp only [l7,zob,zaa]
 refine zbi.2 ⟨_,b1,?_⟩
 refine zbi.2 ⟨_,b2',?_⟩
 refine zbi.2 ⟨_,e10,?_⟩
 refine zbi.2 ⟨_,r11,?_⟩
 rw [zou];rfl
end
end Go.Proofs.YtcplfckncandkaaGreatDoorE
namespace Go.Proofs.YtcplfckncandkaaGreatDoorE
open Go Go.E Go.Proofs
theorem zsD (x:Int) {n:Nat} (hn:n≤8):zgF .i64 x ((2^n-1:Nat):Int)=x%((2^n:Nat):Int):=by
 have hp:2^n≤2^8:=Nat.pow_le_pow_right (by omega) hn
 have hp0:0<2^n:=Nat.two_pow_pos _
 have hd:(2:Nat)^64=2^n*2^(64-n):=by rw [← Nat.pow_add];congr 1;omega
 unfold zgF
 have e1:(BitVec.ofInt 64 x&&& BitVec.ofInt 64 ((2^n-1:Nat):Int)).toNat=(x%2^64).toNat%2^n:=by
  rw [BitVec.toNat_and,BitVec.toNat_ofInt,BitVec.toNat_ofInt]
  have h2:(((2^n-1:Nat):Int)%((2^64:Nat):Int)).toNat=2^n-1:=by
   generalize 2^n=q at hp hp0
   omega
  rw [h2,Nat.and_two_pow_sub_one_eq_mod]
  rfl
 show IntKind.wrap .i64 ((BitVec.ofInt 64 x&&& BitVec.ofInt 64 ((2^n-1:Nat):Int)).toNat:Int)=_
 rw [e1]
 have h3:(((x%2^64).toNat%2^n:Nat):Int)=x%((2^n:Nat):Int):=by
  rw [Int.natCast_emod,Int.toNat_of_nonneg (Int.emod_nonneg _ (by omega))]
  have:(2:Int)^64=((2^n:Nat):Int)*((2^(64-n):Nat):Int):=by rw [← Int.natCast_mul,← hd];rfl
  rw [this]
  exact Int.emod_emod_of_dvd x (Int.dvd_mul_right _ _)
 rw [h3]
 have h4:0≤x%((2^n:Nat):Int):=Int.emod_nonneg _ (by omega)
 have h5:x%((2^n:Nat):Int)<((2^n:Nat):Int):=Int.emod_lt_of_pos _ (by omega)
 exact wrap64 (by omega) (by omega)
def ziC (ca:List Int) (a:Int):List Int:=if 8<ca.length+1 then (ca++[a]).drop 1 else ca++[a]
def zmj (E:List Int):List Int→Int
 | []=>E.getD 0 0
 | a::r=>(a::r).getLast (by simp)
def wordAt (ws:List Nat) (pc:Int):Nat:=ws.getD pc.toNat 0
def zbM (ws:List Nat) (E:List Int) (pc:Int) (ca:List Int) (is:Bool) (tb op:Int):Int×List Int×Bool:=
 let u:=zaq (wordAt ws pc) 8
 let tw:Int:=(zaq (wordAt ws pc) 10:Nat)
 if u=0 then (pc+1,ca,false) else if u=1 then (tw,ca,false) else if u=2 then (cond is tw (pc+1),ca,false)
 else if u=3 then (tw,ziC ca (pc+1),false) else if u=4 then (zmj E ca,ca.dropLast,false)
 else if u=5 then (if op=1 then E.getD 1 0 else if op=2 then E.getD 2 0 else tw+tb%64,ca,false)
 else if u=6 then (tw+tb%16,ca,false) else (E.getD 0 0,[],true)
section
variable {B b : Nat} {s s' : SS} {ws : List Nat} {E : List Int} {pc : Int} {k : Value} {ca : List Int}
theorem Stk.mod (h:Stk B s k ca) (m:Mod [b] s s') (hb:b<B):Stk B s' k ca:=h.keep m.next fun i o l c e hB hi=>m.keep i hi (by simp;omega)
theorem SqI.keep (h:SqI B s b ws E pc k) (hn:s.next≤s'.next) (hl:s'.lim=s.lim) (hk:∀ i,i<B→i<s.next→s'.mem.get i=s.mem.get i):SqI B s' b ws E pc k:=by
 obtain ⟨v,h1,h2,h3,h4⟩:=h
 exact ⟨v,⟨(hk b h2 h1.2.1).trans h1.1,by have:=h1.2.1;omega,by rw [hl];exact h1.2.2⟩,h2,h3.keep hn fun i l c e hi=>hk i (h4 i l c e).2 hi,h4⟩
theorem zvv [Sym] (h:SqI B s b ws E pc k) (hE:E.length=5) (hs:Stk B s k ca) (hB:B≤s.next) (hl:s.lim≤B) (hca:ca.length≤8) (h0:0≤pc) (h1:pc≤100000):
  ∃ s' k',cc 28 [ptr b 0] s=some (.tuple #[],s')∧SqI B s' b ws E pc k'∧Stk B s' k' (ziC ca (pc+1))∧Fr b k s s'∧Nw k k' s:=by
 have hp:=h.pcs hE
 have hw:IntKind.wrap .i64 (pc+1)=pc+1:=wrap64 (by omega) (by omega)
 have hbB:=h.lt.2.1
 have x8:Ext s (s.new (.cells [.int .i64 (pc+1)] 1)):=(Ext.refl _).new _
 obtain ⟨s9,e9,n9,l9,m9,f9⟩:=hs.push hB hl (by omega) (pc+1)
 have h9:SqI B s9 b ws E pc k:=h.keep (by omega) l9 fun i hi hi2=>f9 i hi2 (hs.sep hi)
 have st9:Stk B s9 (.slice (some ⟨s.next+1,0,none⟩) (ca.length+1) (ca.length+1)) (ca++[pc+1]):=
  .inr ⟨s.next+1,0,ca.length+1,_,by simp,by simp,m9,by simp,by rw [List.drop_zero];exact List.take_of_length_le (by simp),by omega,by omega⟩
 have hc:=st9.cell
 obtain ⟨s12,e12,h12,m12,n12⟩:=h9.setK hE hc.1 hc.2
 have st12:=st9.mod m12 hbB
 have l15:=(h12.pcs hE).2.1
 have q16:(lenV (.slice (some ⟨s.next+1,0,none⟩) (ca.length+1) (ca.length+1))).bind (asI .i64)=some ((ca.length+1:Nat):Int):=rfl
 have fr12:Fr b k s s12:=⟨by omega,m12.lim.trans l9,fun i hi hb hk=>(m12.keep i (by omega) (by simpa using hb)).trans (f9 i hi hk)⟩
 have nw12:Nw k (.slice (some ⟨s.next+1,0,none⟩) (ca.length+1) (ca.length+1)) s:=fun i o l c e=>by cases e;exact .inl (by omega)
 have hE8:s.ld b (0+7)=some k:=hp.2.1
 unfold ziC
 by_cases hq:8<ca.length+1
 ·rw [if_pos hq]
  have hq':(8:Int)<((ca.length+1:Nat):Int):=by omega
  obtain ⟨a0,r,hcr⟩:∃ a0 r,ca++[pc+1]=a0::r:=by
   cases ca with
   | nil=>simp at hq
   | cons a0 r=>exact ⟨a0,r++[pc+1],rfl⟩
  have hrl:r.length=ca.length:=by
   have:=congrArg List.length hcr
   simp at this;omega
  rw [hcr] at st12 ⊢
  obtain ⟨k2,c21,st21,j,o,l,c,o',l',c',hkk,hk2⟩:=st12.tail (by omega)
  rw [hrl] at c21
  have hc2:=st21.cell
  obtain ⟨s24,e24,h24,m24,n24⟩:=h12.setK hE hc2.1 hc2.2
  refine ⟨s24,k2,zij _ s ?_,h24,st21.mod m24 hbB,fr12.then (.ofMod m24:Fr b (.slice (some ⟨s.next+1,0,none⟩) (ca.length+1) (ca.length+1)) s12 s24) nw12,fun i o1 l1 c1 e=>?_⟩
  ·have q20:sliceLen (.slice (some ⟨s.next+1,0,none⟩) (ca.length+1) (ca.length+1))=some ((ca.length+1:Nat):Int):=rfl
   simp only [zhg,zaw,zob,zab,hE8,hp.1,zaa,hw,e9,e12,l15,q16,zdt hq',zct,q20,c21,e24]
  ·rw [hk2] at e;cases e;cases hkk
   exact .inl (by omega)
 ·rw [if_neg hq]
  have hq':¬ (8:Int)<((ca.length+1:Nat):Int):=by omega
  refine ⟨s12,_,zij _ s ?_,h12,st12,fr12,nw12⟩
  simp only [zhg,zaw,zob,zab,hE8,hp.1,zaa,hw,e9,e12,l15,q16,zdf hq',zcf]
theorem elem50 {b:Nat}:zaP (ptr b (0+1)) 5 0 1=some (b,0+1+0*1):=zoE (i:=0) (by omega)
theorem zvw [Sym] (h:SqI B s b ws E pc k) (hE:E.length=5) (hs:Stk B s k ca) (hca:ca.length≤8):
  ∃ s' k',cc 29 [ptr b 0] s=some (.int .i64 (zmj E ca),s')∧SqI B s' b ws E pc k'∧Stk B s' k' ca.dropLast∧Mod [b] s s'∧Nw k k' s:=by
 have hp:=h.pcs hE
 have hbB:=h.lt.2.1
 have q4:=hs.len
 rcases List.eq_nil_or_concat ca with rfl | ⟨r,a,rfl⟩
 ·have hz:((([]:List Int).length:Nat):Int)=0:=rfl
  have l7:=hp.2.2 0 (by omega)
  refine ⟨s,k,zik _ s ?_,h,hs,.refl _,.same _ _⟩
  simp only [zhh,zaw,zob,zab,hp.2.1,q4,zdt hz,zct,elem50,l7,zaa]
  rfl
 ·rw [List.concat_eq_append] at*
  have hlen:(r++[a]).length=r.length+1:=by simp
  have hz:¬ (((r++[a]).length:Nat):Int)=0:=by omega
  have hw:IntKind.wrap .i64 ((((r++[a]).length:Nat):Int)-1)=(r.length:Int):=by rw [hlen,wrap64 (by omega) (by omega)];omega
  obtain ⟨p,k2,b1,b2,b3,st2,j,o,l,c,o',l',c',hkk,hk2⟩:=hs.init
  have hc2:=st2.cell
  obtain ⟨s22,e22,h22,m22,n22⟩:=h.setK hE hc2.1 hc2.2
  have hbt:zmj E (r++[a])=a:=by
   cases r with
   | nil=>rfl
   | cons x r=>exact List.getLast_concat (l:=x::r) (a:=a)
  refine ⟨s22,k2,zik _ s ?_,h22,by rw [List.dropLast_concat];exact st2.mod m22 hbB,m22,fun i o1 l1 c1 e=>?_⟩
  ·simp only [zhh,zaw,zob,zab,hp.2.1,q4,zdf hz,zcf,hw,b1,b2,zaa,b3,e22,hbt]
  ·rw [hk2] at e;cases e
   exact .inr ⟨_,_,_,hkk⟩
theorem zsE [Sym] (h:SqI B s b ws E pc k) (hE:E.length=5) {i:Nat} (hi:i<5):∃ s',cc 13 [ptr b 0,.int .i64 i] s=some (.tuple #[],s')∧SqI B s' b ws E (E.getD i 0) zaF∧Mod [b] s s':=by
 obtain ⟨v,h1,h2,h3,h4⟩:=h
 obtain ⟨s',c,a,m,_⟩:=go_ok hE h1 hi
 exact ⟨s',c,⟨v,a,h2,h3.mod m (fun i l c e=>by have:=(h4 i l c e).1;simp;omega),h4⟩,m⟩
theorem zi6 (X:Nat) {k:Nat} (hk:k<12):(zbA X)[k]?=some (.int .i64 ((zaq X k:Nat):Int)):=by
 unfold zbA
 rw [zfH,zpf X hk];rfl
theorem zpW [Sym] (h:SqI B s b ws E pc k) (hE:E.length=5) (hs:Stk B s k ca) (hB:B≤s.next) (hl:s.lim≤B) (hca:ca.length≤8) (h0:0≤pc) (hN:ws.length≤2048) (h1:pc<ws.length) (is:Bool) (tb op:Int):
  ∃ s' k',cc 12 [ptr b 0,.agg #[.bool is,.int .i64 tb,.int .i64 op]] s=some (.bool (zbM ws E pc ca is tb op).2.2,s')∧SqI B s' b ws E (zbM ws E pc ca is tb op).1 k'∧Stk B s' k' (zbM ws E pc ca is tb op).2.1∧Fr b k s s'∧Nw k k' s:=by
 obtain ⟨X,hX⟩:∃ X,ws[pc.toNat]?=some X:=⟨_,zge (by omega)⟩
 have hwa:wordAt ws pc=X:=by unfold wordAt;rw [List.getD_eq_getElem?_getD,hX];rfl
 have hls:s.lim≤s.next:=by omega
 have hbB:=h.lt.2.1
 have hbn:=h.lt.1
 have a1:At (s.new (.cells [.bool is,.int .i64 tb,.int .i64 op] 0)) s.next [.bool is,.int .i64 tb,.int .i64 op]:=At.new hls _
 have x1:Ext s (s.new (.cells [.bool is,.int .i64 tb,.int .i64 op] 0)):=(Ext.refl _).new _
 have hc1:(Value.agg #[.bool is,.int .i64 tb,.int .i64 op]).cells.toList=[.bool is,.int .i64 tb,.int .i64 op]:=zaC _
 obtain ⟨s1,hs1⟩:∃ s1,s.new (.cells [.bool is,.int .i64 tb,.int .i64 op] 0)=s1:=⟨_,rfl⟩
 rw [hs1] at a1 x1
 obtain ⟨n2,hn2,c2⟩:=zvu (h.ext x1) hE h0 hX
 have x2:=Ext.advR s1 hn2
 have x12:=x1.trans x2
 obtain ⟨s4,e4,a4,x4,n4⟩:=zaQ (n:=12) (st:=s1.adv n2) (x12.ll hls) (r:=Z12) (row:=zbA X) (v:=wV (zbd X)) (zaC _) (zaY X) (zcc _) rfl
 have e4':((s1.adv n2).new (.cells [.int .i64 0,.int .i64 0,.int .i64 0,.int .i64 0,.int .i64 0,.int .i64 0,.int .i64 0,.int .i64 0,.int .i64 0,.int .i64 0,.int .i64 0,.int .i64 0] 0)).stV n2 0 12 (wV (zbd X))=some s4:=e4
 have a4:At s4 n2 (zbA X):=a4
 have he4:=x12.trans x4
 have h4:=h.ext he4
 have hs4:=hs.ext he4
 have hp4:=h4.pcs hE
 have l5:s4.ld n2 8=some (.int .i64 ((zaq X 8:Nat):Int)):=by rw [a4.ld];exact zi6 X (by omega)
 have l10:s4.ld n2 10=some (.int .i64 ((zaq X 10:Nat):Int)):=by rw [a4.ld];exact zi6 X (by omega)
 have ac:=(a1.ext x2).ext x4
 have k0:s4.ld s.next 0=some (.bool is):=ac.ld
 have k1:s4.ld s.next 1=some (.int .i64 tb):=ac.ld
 have k2:s4.ld s.next 2=some (.int .i64 op):=ac.ld
 have hn1:s.next<s1.next:=a1.2.1
 have hn24:n2<s4.next:=a4.2.1
 have u10:=znE X 10
 have hw1:IntKind.wrap .i64 (pc+1)=pc+1:=wrap64 (by omega) (by omega)
 have hadv:(s1.adv n2).next=n2:=rfl
 have fr4:Fr b k s s4:=.ofExt he4
 have hB4:B≤s4.next:=by have:=he4.next;omega
 have hl4:s4.lim≤B:=by rw [he4.lim];exact hl
 have ldN:∀ {q kk:Nat} {s2:SS},Mod [b] s4 s2→q<s4.next→q≠b→s2.ld q kk=s4.ld q kk:=fun m hq hb=>by unfold SS.ld;rw [m.keep _ hq (by simpa using hb)]
 have hnb:n2≠b:=by omega
 have hcb:s.next≠b:=by omega
 unfold zbM
 rw [hwa]
 simp only
 by_cases u0:zaq X 8=0
 ·have i0:((zaq X 8:Nat):Int)=0:=by omega
  rw [if_pos u0]
  obtain ⟨s12,e12,h12,m12,_⟩:=h4.set hE (pc+1)
  refine ⟨s12,k,zba _ _ s ?_,h12,hs4.mod m12 hbB,fr4.then (.ofMod m12:Fr b k s4 s12) (.same _ _),.same _ _⟩
  simp only [zbm,hc1,hs1,c2,zob,hadv,e4',l5,zaa,zdt i0,zct,zaw,zab,hp4.1,hw1,e12]
 have i0:¬ ((zaq X 8:Nat):Int)=0:=by omega
 rw [if_neg u0]
 by_cases u1:zaq X 8=1
 ·have i1:((zaq X 8:Nat):Int)=1:=by omega
  rw [if_pos u1]
  obtain ⟨s12,e12,h12,m12,_⟩:=h4.set hE ((zaq X 10:Nat):Int)
  refine ⟨s12,k,zba _ _ s ?_,h12,hs4.mod m12 hbB,fr4.then (.ofMod m12:Fr b k s4 s12) (.same _ _),.same _ _⟩
  simp only [zbm,hc1,hs1,c2,zob,hadv,e4',l5,zaa,zdf i0,zcf,zdt i1,zct,zaw,zab,l10,e12]
 have i1:¬ ((zaq X 8:Nat):Int)=1:=by omega
 rw [if_neg u1]
 by_cases u2:zaq X 8=2
 ·have i2:((zaq X 8:Nat):Int)=2:=by omega
  rw [if_pos u2]
  obtain ⟨s12,e12,h12,m12,n12⟩:=h4.set hE (pc+1)
  have k0':s12.ld s.next 0=some (.bool is):=(ldN m12 (by omega) hcb).trans k0
  cases is with
  | false=>
    refine ⟨s12,k,zba _ _ s ?_,h12,hs4.mod m12 hbB,fr4.then (.ofMod m12:Fr b k s4 s12) (.same _ _),.same _ _⟩
    simp only [zbm,hc1,hs1,c2,zob,hadv,e4',l5,zaa,zdf i0,zdf i1,zcf,zdt i2,zct,zaw,zab,hp4.1,hw1,e12,k0',zaf]
  | true=>
    have l10':s12.ld n2 10=some (.int .i64 ((zaq X 10:Nat):Int)):=(ldN m12 hn24 hnb).trans l10
    obtain ⟨s13,e13,h13,m13,_⟩:=h12.set hE ((zaq X 10:Nat):Int)
    refine ⟨s13,k,zba _ _ s ?_,h13,(hs4.mod m12 hbB).mod m13 hbB,fr4.then (.ofMod (m12.then m13):Fr b k s4 s13) (.same _ _),.same _ _⟩
    simp only [zbm,hc1,hs1,c2,zob,hadv,e4',l5,zaa,zdf i0,zdf i1,zcf,zdt i2,zct,zaw,zab,hp4.1,hw1,e12,k0',zaf,l10',e13]
 have i2:¬ ((zaq X 8:Nat):Int)=2:=by omega
 rw [if_neg u2]
 by_cases u3:zaq X 8=3
 ·have i3:((zaq X 8:Nat):Int)=3:=by omega
  rw [if_pos u3]
  obtain ⟨s29,k',c29,h29,st29,fr29,nw29⟩:=zvv h4 hE hs4 hB4 hl4 hca h0 (by omega)
  have l10':s29.ld n2 10=some (.int .i64 ((zaq X 10:Nat):Int)):=by
   have:s29.ld n2 10=s4.ld n2 10:=by
    unfold SS.ld
    rw [fr29.keep n2 hn24 hnb (fun o l c e=>by
     obtain ⟨rfl,_⟩ | ⟨j,o',cap,C,rfl,_,_,_,_,_,h6⟩:=hs
     ·cases e
     ·cases e;omega)]
   rw [this,l10]
  obtain ⟨s33,e33,h33,m33,_⟩:=h29.set hE ((zaq X 10:Nat):Int)
  refine ⟨s33,k',zba _ _ s ?_,h33,st29.mod m33 hbB,(fr4.then fr29 (.same _ _)).then (.ofMod m33:Fr b k' s29 s33) (Nw.then (.same _ s) nw29 he4.next),Nw.then (.same _ s) nw29 he4.next⟩
  simp only [zbm,hc1,hs1,c2,zob,hadv,e4',l5,zaa,zdf i0,zdf i1,zdf i2,zcf,zdt i3,zct,zaw,zab,c29,l10',e33]
 have i3:¬ ((zaq X 8:Nat):Int)=3:=by omega
 rw [if_neg u3]
 by_cases u4:zaq X 8=4
 ·have i4:((zaq X 8:Nat):Int)=4:=by omega
  rw [if_pos u4]
  obtain ⟨s34,k',c34,h34,st34,m34,nw34⟩:=zvw h4 hE hs4 hca
  obtain ⟨s38,e38,h38,m38,_⟩:=h34.set hE (zmj E ca)
  refine ⟨s38,k',zba _ _ s ?_,h38,st34.mod m38 hbB,fr4.then (.ofMod (m34.then m38):Fr b k s4 s38) (.same _ _),Nw.then (.same _ s) nw34 he4.next⟩
  simp only [zbm,hc1,hs1,c2,zob,hadv,e4',l5,zaa,zdf i0,zdf i1,zdf i2,zdf i3,zcf,zdt i4,zct,zaw,zab,c34,e38]
 have i4:¬ ((zaq X 8:Nat):Int)=4:=by omega
 rw [if_neg u4]
 by_cases u5:zaq X 8=5
 ·have i5:((zaq X 8:Nat):Int)=5:=by omega
  rw [if_pos u5]
  have w41:zgF .i64 tb 63=tb%64:=zsD tb (n:=6) (by omega)
  have g1:0≤tb%64:=Int.emod_nonneg _ (by omega)
  have g2:tb%64<64:=Int.emod_lt_of_pos _ (by omega)
  have w42:IntKind.wrap .i64 (((zaq X 10:Nat):Int)+tb%64)=((zaq X 10:Nat):Int)+tb%64:=wrap64 (by omega) (by omega)
  obtain ⟨s45,e45,h45,m45,n45⟩:=h4.set hE (((zaq X 10:Nat):Int)+tb%64)
  have hp45:=h45.pcs hE
  have k2':s45.ld s.next 2=some (.int .i64 op):=(ldN m45 (by omega) hcb).trans k2
  by_cases o1:op=1
  ·rw [if_pos o1]
   subst o1
   have l50:=hp45.2.2 1 (by omega)
   have y50:zaP (ptr b (0+1)) 5 1 1=some (b,0+1+1*1):=zoE (i:=1) (by omega)
   obtain ⟨s54,e54,h54,m54,_⟩:=h45.set hE (E.getD 1 0)
   refine ⟨s54,k,zba _ _ s ?_,h54,(hs4.mod m45 hbB).mod m54 hbB,fr4.then (.ofMod (m45.then m54):Fr b k s4 s54) (.same _ _),.same _ _⟩
   simp only [zbm,hc1,hs1,c2,zob,hadv,e4',l5,zaa,zdf i0,zdf i1,zdf i2,zdf i3,zdf i4,zcf,zdt i5,zct,l10,k1,w41,w42,zaw,zab,e45,k2',decide_true,y50,l50,e54]
  ·rw [if_neg o1]
   by_cases o2:op=2
   ·rw [if_pos o2]
    subst o2
    have l50:=hp45.2.2 2 (by omega)
    have y50:zaP (ptr b (0+1)) 5 2 1=some (b,0+1+2*1):=zoE (i:=2) (by omega)
    obtain ⟨s54,e54,h54,m54,_⟩:=h45.set hE (E.getD 2 0)
    refine ⟨s54,k,zba _ _ s ?_,h54,(hs4.mod m45 hbB).mod m54 hbB,fr4.then (.ofMod (m45.then m54):Fr b k s4 s54) (.same _ _),.same _ _⟩
    simp only [zbm,hc1,hs1,c2,zob,hadv,e4',l5,zaa,zdf i0,zdf i1,zdf i2,zdf i3,zdf i4,zcf,zdt i5,zct,l10,k1,w41,w42,zaw,zab,e45,k2',zdf o1,decide_true,y50,l50,e54]
   ·rw [if_neg o2]
    refine ⟨s45,k,zba _ _ s ?_,h45,hs4.mod m45 hbB,fr4.then (.ofMod m45:Fr b k s4 s45) (.same _ _),.same _ _⟩
    simp only [zbm,hc1,hs1,c2,zob,hadv,e4',l5,zaa,zdf i0,zdf i1,zdf i2,zdf i3,zdf i4,zcf,zdt i5,zct,l10,k1,w41,w42,zaw,zab,e45,k2',zdf o1,zdf o2]
 have i5:¬ ((zaq X 8:Nat):Int)=5:=by omega
 rw [if_neg u5]
 by_cases u6:zaq X 8=6
 ·have i6:((zaq X 8:Nat):Int)=6:=by omega
  rw [if_pos u6]
  have w41:zgF .i64 tb 15=tb%16:=zsD tb (n:=4) (by omega)
  have g1:0≤tb%16:=Int.emod_nonneg _ (by omega)
  have g2:tb%16<16:=Int.emod_lt_of_pos _ (by omega)
  have w42:IntKind.wrap .i64 (((zaq X 10:Nat):Int)+tb%16)=((zaq X 10:Nat):Int)+tb%16:=wrap64 (by omega) (by omega)
  obtain ⟨s45,e45,h45,m45,n45⟩:=h4.set hE (((zaq X 10:Nat):Int)+tb%16)
  refine ⟨s45,k,zba _ _ s ?_,h45,hs4.mod m45 hbB,fr4.then (.ofMod m45:Fr b k s4 s45) (.same _ _),.same _ _⟩
  simp only [zbm,hc1,hs1,c2,zob,hadv,e4',l5,zaa,zdf i0,zdf i1,zdf i2,zdf i3,zdf i4,zdf i5,zcf,zdt i6,zct,l10,k1,w41,w42,zaw,zab,e45]
 have i6:¬ ((zaq X 8:Nat):Int)=6:=by omega
 rw [if_neg u6]
 obtain ⟨s71,c71,h71,m71⟩:=zsE h4 hE (i:=0) (by omega)
 have c71':cc 13 [ptr b 0,.int .i64 0] s4=some (.tuple #[],s71):=c71
 refine ⟨s71,zaF,zba _ _ s ?_,h71,Stk.nil,fr4.then (.ofMod m71:Fr b k s4 s71) (.same _ _),.nil _ _⟩
 simp only [zbm,hc1,hs1,c2,zob,hadv,e4',l5,zaa,zdf i0,zdf i1,zdf i2,zdf i3,zdf i4,zdf i5,zdf i6,zcf,c71']
end
end Go.Proofs.YtcplfckncandkaaGreatDoorE
namespace Go.Proofs.YtcplfckncandkaaGreatDoorE
open Go Go.E Go.Proofs
theorem ztS (x:Int):IntKind.wrap .u64 x=x%18446744073709551616:=by
 rw [← zh3]
 show ((zdW x 18446744073709551616:Nat):Int)=_
 rw [zgE _ _ (by decide)]
 rfl
theorem u_mod (x:Int) {n:Nat} (hn:n=64∨n=16):Int.tmod (IntKind.wrap .u64 x) n=x%n:=by
 rw [ztS,Int.tmod_eq_emod_of_nonneg (Int.emod_nonneg _ (by omega))]
 rcases hn with rfl | rfl
 ·exact Int.emod_emod_of_dvd x ⟨288230376151711744,by decide⟩
 ·exact Int.emod_emod_of_dvd x ⟨1152921504606846976,by decide⟩
section
variable {B b : Nat} {s s' : SS} {ws : List Nat} {E : List Int} {pc : Int} {k : Value} {ca : List Int}
theorem Stk.copy (h:Stk B s k ca) (hb:B≤s.next) (hl:s.lim≤B) (hn:ca.length≤1000):
  ∃ v s',(s.new (.cells [] 1)).app 1 8 (.slice (some ⟨s.next,0,none⟩) 0 0) k=some (v,s')∧s.next<s'.next∧s'.lim=s.lim∧Stk B s' v ca∧(∀ i,i<s.next→s'.mem.get i=s.mem.get i)∧∀ i o l c,v=.slice (some ⟨i,o,none⟩) l c→s.next≤i:=by
 have hj0:(s.new (.cells [] 1)).mem.get s.next=some (.cells [] 1):=SS.new_get
 by_cases hz:ca=[]
 ·subst hz
  have e1:zeE k=some 0:=by obtain ⟨rfl,_⟩ | ⟨j,o,cap,C,rfl,_⟩:=h<;>rfl
  refine ⟨_,s.new (.cells [] 1),?_,by simp,rfl,.inr ⟨s.next,0,0,[],rfl,by simp,hj0,by simp,by simp,by omega,by simp⟩,fun i hi=>SS.new_old (by omega),fun i o l c e=>by cases e;omega⟩
  unfold SS.app
  rw [e1]
  rfl
 ·obtain ⟨_,h0⟩ | ⟨j,o,cap,C,rfl,h1,h2,h3,h4,h5,h6⟩:=h
  ·exact absurd h0 hz
  have hpos:0<ca.length:=List.length_pos_iff.2 hz
  have hj:(s.new (.cells [] 1)).mem.get j=some (.cells C 1):=by rw [SS.new_old (by omega)];exact h2
  have hcut:cut C o (ca.length*1)=some (ca.map (Value.int .i64)):=by
   rw [Nat.mul_one]
   exact zlA h4 (by simp)
  have hx:(s.new (.cells [] 1)).first 1 ca.length (.slice (some ⟨j,o,none⟩) ca.length cap)=some (ca.map (Value.int .i64)):=by
   unfold SS.first
   simp only [hj,zob]
   exact hcut
  have hone:(ca.map (Value.int .i64)).all one=true:=by simp [one]
  refine ⟨.slice (some ⟨s.next+1,0,none⟩) ca.length ca.length,((s.new (.cells [] 1)).set s.next none).new (.cells (ca.map (Value.int .i64)) 1),?_,by simp;omega,rfl,?_,fun i hi=>?_,fun i o l c e=>by cases e;omega⟩
  ·unfold SS.app
   have e1:zeE (.slice (some ⟨j,o,none⟩) ca.length cap)=some ca.length:=rfl
   have m0:Nat.beq ca.length 0=false:=by rw [zat];exact zdf (by omega)
   rw [e1]
   simp only [zob,m0,zcf]
   have q:(Nat.ble ((0+ca.length+1)*8) (2^44)&&Nat.ble (0+ca.length) (2^44)&&Nat.ble (s.new (.cells [] 1)).lim s.next)=true:=by
    simp only [zae,Nat.ble_eq]
    exact ⟨⟨by omega,by omega⟩,by show s.lim≤s.next;omega⟩
   have q2':(Nat.beq 1 1&&(Nat.blt 0 ca.length||Nat.ble (0*1) 0))=true:=by
    have:Nat.ble (0*1) 0=true:=rfl
    rw [this,Bool.or_true];rfl
   have q4:cut ([]:List Value) 0 (0*1)=some []:=rfl
   rw [q]
   simp only [zct,hj0,zob,List.length_nil,q4,hx,hone,List.nil_append,Nat.zero_add,q2']
   rfl
  ·refine .inr ⟨s.next+1,0,ca.length,ca.map (Value.int .i64),rfl,zlr _,?_,by simp,by rw [List.drop_zero];exact List.take_of_length_le (by simp),by omega,by simp⟩
   exact SS.new_get (st:=(s.new (.cells [] 1)).set s.next none)
  ·rw [SS.new_old (by simp;omega),SS.set_old (by omega),SS.new_old (by omega)]
def MqI (B:Nat) (s:SS) (b:Nat) (ws:List Nat) (E:List Int) (pc:Int) (k:Value):Prop:=
 ∃ v w,At s b (ziB v w pc k)∧b<B∧Rg s v (rowsF zbA ws) 12 ws.length∧Rg s w (rowsF znF E) 1 5∧(∀ i l c,v=.slice (some ⟨i,0,none⟩) l c→b<i∧i<B)∧∀ i l c,w=.slice (some ⟨i,0,none⟩) l c→b<i∧i<B
theorem MqI.keep (h:MqI B s b ws E pc k) (hn:s.next≤s'.next) (hl:s'.lim=s.lim) (hk:∀ i,i<B→i<s.next→s'.mem.get i=s.mem.get i):MqI B s' b ws E pc k:=by
 obtain ⟨v,w,h1,h2,h3,h4,h5,h6⟩:=h
 exact ⟨v,w,⟨(hk b h2 h1.2.1).trans h1.1,by have:=h1.2.1;omega,by rw [hl];exact h1.2.2⟩,h2,h3.keep hn fun i l c e hi=>hk i (h5 i l c e).2 hi,h4.keep hn fun i l c e hi=>hk i (h6 i l c e).2 hi,h5,h6⟩
theorem MqI.keepHi (h:MqI B s b ws E pc k) (hn:s.next≤s'.next) (hl:s'.lim=s.lim) (hk:∀ i,b≤i→i<B→i<s.next→s'.mem.get i=s.mem.get i):MqI B s' b ws E pc k:=by
 obtain ⟨v,w,h1,h2,h3,h4,h5,h6⟩:=h
 exact ⟨v,w,⟨(hk b (zlr _) h2 h1.2.1).trans h1.1,by have:=h1.2.1;omega,by rw [hl];exact h1.2.2⟩,h2,h3.keep hn fun i l c e hi=>hk i (Nat.le_of_lt (h5 i l c e).1) (h5 i l c e).2 hi,h4.keep hn fun i l c e hi=>hk i (Nat.le_of_lt (h6 i l c e).1) (h6 i l c e).2 hi,h5,h6⟩
theorem MqI.ext (h:MqI B s b ws E pc k) (he:Ext s s'):MqI B s' b ws E pc k:=h.keep he.next he.lim fun i _ hi=>he.keep i hi
theorem MqI.lt (h:MqI B s b ws E pc k):b<s.next∧b<B∧s.lim≤b:=by
 obtain ⟨v,w,h1,h2,_⟩:=h
 exact ⟨h1.2.1,h2,h1.2.2⟩
theorem MqI.set (h:MqI B s b ws E pc k) (x:Int):∃ s',s.st b (0+2) [.int .i64 x]=some s'∧MqI B s' b ws E x k∧Mod [b] s s'∧s'.next=s.next:=by
 obtain ⟨v,w,h1,h2,h3,h4,h5,h6⟩:=h
 obtain ⟨s2,e1,a1,m1,n1⟩:=h1.set1 (k:=0+2) (x:=.int .i64 x) (by show 0+2<4;omega) rfl
 exact ⟨s2,e1,⟨v,w,a1,h2,h3.mod m1 (fun i l c e=>by have:=(h5 i l c e).1;simp;omega),h4.mod m1 (fun i l c e=>by have:=(h6 i l c e).1;simp;omega),h5,h6⟩,m1,n1⟩
theorem MqI.setK (h:MqI B s b ws E pc k) {x:Value} (hc:x.cells.toList=[x]) (ho:one x=true):∃ s',s.stV b (0+3) 1 x=some s'∧MqI B s' b ws E pc x∧Mod [b] s s'∧s'.next=s.next:=by
 obtain ⟨v,w,h1,h2,h3,h4,h5,h6⟩:=h
 obtain ⟨s2,e1,a1,m1,n1⟩:=h1.set1V (k:=0+3) (x:=x) hc (by show 0+3<4;omega) ho
 exact ⟨s2,e1,⟨v,w,a1,h2,h3.mod m1 (fun i l c e=>by have:=(h5 i l c e).1;simp;omega),h4.mod m1 (fun i l c e=>by have:=(h6 i l c e).1;simp;omega),h5,h6⟩,m1,n1⟩
theorem MqI.ld (h:MqI B s b ws E pc k) (hE:E.length=5):s.ld b (0+2)=some (.int .i64 pc)∧s.ld b (0+3)=some k∧∃ w,s.ld b (0+1)=some w∧∀ i:Nat,i<5→∃ p,zam w (i:Int) 1=some p∧s.ld p.1 p.2=some (.int .i64 (E.getD i 0)):=by
 obtain ⟨v,w,h1,h2,h3,h4,h5,h6⟩:=h
 refine ⟨by rw [h1.ld];rfl,by rw [h1.ld];rfl,w,by rw [h1.ld];rfl,fun i hi=>?_⟩
 have hx:E[i]?=some (E.getD i 0):=by
  rw [List.getD_eq_getElem?_getD,zge (by omega)];rfl
 obtain ⟨p,a1,_,a3⟩:=h4.load (j:=(i:Int)) (by omega) (by omega) (zaM znG E i _ hx) (znG _)
 exact ⟨p,a1,a3 0 _ rfl⟩
theorem zvx [Sym] (h:MqI B s b ws E pc k) (hE:E.length=5) {i:Nat} (hi:i<5):∃ s',cc 19 [ptr b 0,.int .i64 i] s=some (.tuple #[],s')∧MqI B s' b ws E (E.getD i 0) zaF∧Mod [b] s s':=by
 obtain ⟨_,_,w,l1,hp⟩:=h.ld hE
 obtain ⟨p,e1,l2⟩:=hp i hi
 obtain ⟨s8,e8,h8,m8,_⟩:=h.set (E.getD i 0)
 obtain ⟨v',w',q1,q2,q3,q4,q5,q6⟩:=h8
 obtain ⟨s11,e11,a11,m11,_⟩:=q1.set1 (k:=0+3) (x:=.slice none 0 0) (by show 0+3<4;omega) rfl
 have h1:(0:Int)≤(i:Int):=by omega
 have h2:(i:Int)≤4:=by omega
 refine ⟨s11,ze6 _ _ s ?_,⟨v',w',a11,q2,q3.mod m11 (fun i l c e=>by have:=(q5 i l c e).1;simp;omega),q4.mod m11 (fun i l c e=>by have:=(q6 i l c e).1;simp;omega),q5,q6⟩,m8.then m11⟩
 simp only [zcY,zdt h1,zdt h2,zct,zaw,zob,zab,l1,e1,l2,zaa,e8,e11]
theorem zwP [Sym] (h:MqI B s b ws E pc k) (hE:E.length=5) (hs:Stk B s k ca) (hB:B≤s.next) (hl:s.lim≤B) (hca:ca.length≤8) (h0:0≤pc) (hN:ws.length≤2048) (h1:pc<ws.length) (is:Bool) (tb op:Int):
  ∃ s' k',cc 20 [ptr b 0,.bool is,.int .i64 tb,.int .i64 op] s=some (.bool (zbM ws E pc ca is tb op).2.2,s')∧MqI B s' b ws E (zbM ws E pc ca is tb op).1 k'∧Stk B s' k' (zbM ws E pc ca is tb op).2.1∧Fr b k s s'∧Nw k k' s:=by
 obtain ⟨X,hX⟩:∃ X,ws[pc.toNat]?=some X:=⟨_,zge (by omega)⟩
 have hwa:wordAt ws pc=X:=by unfold wordAt;rw [List.getD_eq_getElem?_getD,hX];rfl
 have hls:s.lim≤s.next:=by omega
 have hbB:=h.lt.2.1
 have hbn:=h.lt.1
 have hd:=h.ld hE
 have hv:∃ v p,s.ld b 0=some v∧zam v pc 12=some p∧s.ldN p.1 p.2 12=some (wV (zbd X)):=by
  obtain ⟨v,w,q1,q2,q3,q4,q5,q6⟩:=h
  obtain ⟨p,b1,b2,_⟩:=q3.load (j:=pc) h0 (by omega) (zaM zaY ws pc.toNat X hX) (zaY X)
  exact ⟨v,p,by rw [q1.ld];rfl,b1,b2⟩
 obtain ⟨v,p7,l3,e7,l8⟩:=hv
 obtain ⟨s10,e10,a10,x10,n10⟩:=zaQ (n:=12) (st:=s) hls (r:=Z12) (row:=zbA X) (v:=wV (zbd X)) (zaC _) (zaY X) (zcc _) rfl
 have h10:=h.ext x10
 have hs10:=hs.ext x10
 obtain ⟨d1,d2,w,d3,d4⟩:=h10.ld hE
 have l8':s10.ld s.next 8=some (.int .i64 ((zaq X 8:Nat):Int)):=by rw [a10.ld];exact zi6 X (by omega)
 have l10:s10.ld s.next 10=some (.int .i64 ((zaq X 10:Nat):Int)):=by rw [a10.ld];exact zi6 X (by omega)
 have u10:=znE X 10
 have hw1:IntKind.wrap .i64 (pc+1)=pc+1:=wrap64 (by omega) (by omega)
 have fr10:Fr b k s s10:=.ofExt x10
 have hB10:B≤s10.next:=by omega
 have hl10:s10.lim≤B:=by rw [x10.lim];exact hl
 have hcb:s.next≠b:=by omega
 have base:∀ r,zaE cc zew (ptr b 0) is tb op s=some r→cc 20 [ptr b 0,.bool is,.int .i64 tb,.int .i64 op] s=some r:=fun r hr=>zhH _ _ _ _ s hr
 unfold zbM
 rw [hwa]
 simp only
 have hd1:s.ld b (0+2)=some (.int .i64 pc):=hd.1
 by_cases u1:zaq X 8=1
 ·have i1:((zaq X 8:Nat):Int)=1:=by omega
  rw [if_neg (by omega),if_pos u1]
  obtain ⟨s19,e19,h19,m19,_⟩:=h10.set ((zaq X 10:Nat):Int)
  refine ⟨s19,k,base _ ?_,h19,hs10.mod m19 hbB,fr10.then (.ofMod m19:Fr b k s10 s19) (.same _ _),.same _ _⟩
  simp only [zaE,zaw,zob,zab,l3,hd1,zaa,e7,l8,e10,d1,hw1,l8',zdt i1,zct,l10,e19]
 have i1:¬ ((zaq X 8:Nat):Int)=1:=by omega
 by_cases u2:zaq X 8=2
 ·have i2:((zaq X 8:Nat):Int)=2:=by omega
  rw [if_neg (by omega),if_neg u1,if_pos u2]
  cases is with
  | true=>
    obtain ⟨s19,e19,h19,m19,_⟩:=h10.set ((zaq X 10:Nat):Int)
    refine ⟨s19,k,base _ ?_,h19,hs10.mod m19 hbB,fr10.then (.ofMod m19:Fr b k s10 s19) (.same _ _),.same _ _⟩
    simp only [zaE,zaw,zob,zab,l3,hd1,zaa,e7,l8,e10,d1,hw1,l8',zdf i1,zcf,zdt i2,zct,l10,e19]
  | false=>
    obtain ⟨s19,e19,h19,m19,_⟩:=h10.set (pc+1)
    refine ⟨s19,k,base _ ?_,h19,hs10.mod m19 hbB,fr10.then (.ofMod m19:Fr b k s10 s19) (.same _ _),.same _ _⟩
    simp only [zaE,zaw,zob,zab,l3,hd1,zaa,e7,l8,e10,d1,hw1,l8',zdf i1,zcf,zdt i2,zct,e19]
 have i2:¬ ((zaq X 8:Nat):Int)=2:=by omega
 by_cases u3:zaq X 8=3
 ·have i3:((zaq X 8:Nat):Int)=3:=by omega
  rw [if_neg (by omega),if_neg u1,if_neg u2,if_pos u3]
  obtain ⟨v31,s31,e31,n31,lm31,st31,k31,fz31⟩:=hs10.copy hB10 hl10 (by omega)
  have l30:(s10.new (.cells [] 1)).ld b (0+3)=some k:=by
   unfold SS.ld
   rw [SS.new_old (by omega)]
   exact d2
  have hl31:s31.lim≤B:=by rw [lm31];exact hl10
  obtain ⟨s33,e33,n33,lm33,m33,f33⟩:=st31.push (by omega) hl31 (by omega) (pc+1)
  have keep33:∀ i,i<s10.next→s33.mem.get i=s10.mem.get i:=fun i hi=>(f33 i (by omega) (fun o l c e=>by have:=fz31 i o l c e;omega)).trans (k31 i hi)
  have h33:MqI B s33 b ws E pc k:=h10.keep (by omega) (by rw [lm33,lm31]) fun i _ hi=>keep33 i hi
  have st33:Stk B s33 (.slice (some ⟨s31.next+1,0,none⟩) (ca.length+1) (ca.length+1)) (ca++[pc+1]):=
   .inr ⟨s31.next+1,0,ca.length+1,_,by simp,by simp,m33,by simp,by rw [List.drop_zero];exact List.take_of_length_le (by simp),by omega,by omega⟩
  have hc:=st33.cell
  obtain ⟨s36,e36,h36,m36,n36⟩:=h33.setK hc.1 hc.2
  have st36:=st33.mod m36 hbB
  have l39:=(h36.ld hE).2.1
  have q40:(lenV (.slice (some ⟨s31.next+1,0,none⟩) (ca.length+1) (ca.length+1))).bind (asI .i64)=some ((ca.length+1:Nat):Int):=rfl
  have fr36:Fr b k s s36:=⟨by omega,by rw [m36.lim,lm33,lm31,x10.lim],fun i hi hb _=>(m36.keep i (by omega) (by simpa using hb)).trans ((keep33 i (by omega)).trans (x10.keep i hi))⟩
  have t36:s36.ld s.next 10=some (.int .i64 ((zaq X 10:Nat):Int)):=by
   unfold SS.ld
   rw [m36.keep _ (by omega) (by simpa using hcb),keep33 _ (by omega)]
   exact l10
  unfold ziC
  by_cases hq:8<ca.length+1
  ·rw [if_pos hq]
   have hq':((ca.length+1:Nat):Int)=9:=by omega
   obtain ⟨a0,r,hcr⟩:∃ a0 r,ca++[pc+1]=a0::r:=by
    cases ca with
    | nil=>simp at hq
    | cons a0 r=>exact ⟨a0,r++[pc+1],rfl⟩
   have hrl:r.length=ca.length:=by
    have:=congrArg List.length hcr
    simp at this;omega
   rw [hcr] at st36 ⊢
   obtain ⟨k2,c45,st45,j,o,l,c,o',l',c',hkk,hk2⟩:=st36.tail (by omega)
   rw [hrl] at c45
   have hc2:=st45.cell
   obtain ⟨s48,e48,h48,m48,n48⟩:=h36.setK hc2.1 hc2.2
   obtain ⟨s52,e52,h52,m52,n52⟩:=h48.set ((zaq X 10:Nat):Int)
   have t48:s48.ld s.next 10=some (.int .i64 ((zaq X 10:Nat):Int)):=by
    unfold SS.ld
    rw [m48.keep _ (by omega) (by simpa using hcb)]
    exact t36
   have q44:sliceLen (.slice (some ⟨s31.next+1,0,none⟩) (ca.length+1) (ca.length+1))=some ((ca.length+1:Nat):Int):=rfl
   refine ⟨s52,k2,base _ ?_,h52,(st45.mod m48 hbB).mod m52 hbB,⟨by have:=fr36.next;omega,by rw [m52.lim,m48.lim,fr36.lim],fun i hi hb hk=>((m48.then m52).keep i (by have:=fr36.next;omega) (by simpa using hb)).trans (fr36.keep i hi hb hk)⟩,fun i o1 l1 c1 e=>?_⟩
   ·simp only [zaE,zaw,zob,zab,l3,hd1,zaa,e7,l8,e10,d1,hw1,l8',zdf i1,zdf i2,zcf,zdt i3,zct]
    rw [l30,zob,e31,zob,e33,zob,e36,zob]
    simp only [l39,zob,q40,zdt hq',zct,q44,c45,e48,t48,zaa,e52]
   ·rw [hk2] at e;cases e;cases hkk
    exact .inl (by omega)
  ·rw [if_neg hq]
   have hq':¬ ((ca.length+1:Nat):Int)=9:=by omega
   obtain ⟨s52,e52,h52,m52,n52⟩:=h36.set ((zaq X 10:Nat):Int)
   refine ⟨s52,_,base _ ?_,h52,st36.mod m52 hbB,⟨by have:=fr36.next;omega,by rw [m52.lim,fr36.lim],fun i hi hb hk=>(m52.keep i (by have:=fr36.next;omega) (by simpa using hb)).trans (fr36.keep i hi hb hk)⟩,fun i o1 l1 c1 e=>by cases e;exact .inl (by omega)⟩
   simp only [zaE,zaw,zob,zab,l3,hd1,zaa,e7,l8,e10,d1,hw1,l8',zdf i1,zdf i2,zcf,zdt i3,zct]
   rw [l30,zob,e31,zob,e33,zob,e36,zob]
   simp only [l39,zob,q40,zdf hq',zcf,t36,zaa,e52]
 have i3:¬ ((zaq X 8:Nat):Int)=3:=by omega
 by_cases u4:zaq X 8=4
 ·have i4:((zaq X 8:Nat):Int)=4:=by omega
  rw [if_neg (by omega),if_neg u1,if_neg u2,if_neg u3,if_pos u4]
  obtain ⟨p60,e60,l61⟩:=d4 0 (by omega)
  have e60':zam w 0 1=some p60:=e60
  have q65:=hs10.len
  rcases List.eq_nil_or_concat ca with rfl | ⟨r,a,rfl⟩
  ·have hz:¬ (0:Int)<((([]:List Int).length:Nat):Int):=by simp
   obtain ⟨s87,e87,h87,m87,_⟩:=h10.set (E.getD 0 0)
   refine ⟨s87,k,base _ ?_,h87,hs10.mod m87 hbB,fr10.then (.ofMod m87:Fr b k s10 s87) (.same _ _),.same _ _⟩
   simp only [zaE,zaw,zob,zab,l3,hd1,zaa,e7,l8,e10,d1,hw1,l8',zdf i1,zdf i2,zdf i3,zcf,zdt i4,zct,d3,e60',l61,d2,q65,zdf hz,e87]
  ·rw [List.concat_eq_append] at*
   have hlen:(r++[a]).length=r.length+1:=by simp
   have hz:(0:Int)<(((r++[a]).length:Nat):Int):=by omega
   have hw:IntKind.wrap .i64 ((((r++[a]).length:Nat):Int)-1)=(r.length:Int):=by rw [hlen,wrap64 (by omega) (by omega)];omega
   obtain ⟨p,k2,b1,b2,b3,st2,j,o,l,c,o',l',c',hkk,hk2⟩:=hs10.init
   have hbt:zmj E (r++[a])=a:=by
    cases r with
    | nil=>rfl
    | cons x r=>exact List.getLast_concat (l:=x::r) (a:=a)
   obtain ⟨v78,s78,e78,n78,lm78,st78,k78,fz78⟩:=st2.copy hB10 hl10 (by omega)
   have l75:(s10.new (.cells [] 1)).ld b (0+3)=some k:=by
    unfold SS.ld
    rw [SS.new_old (by omega)]
    exact d2
   have b3':(s10.new (.cells [] 1)).resl k 1 0 (r.length:Int)=some k2:=by
    have hj:j<s10.next:=by
     obtain ⟨e0,_⟩ | ⟨j',o2,cap,C,e0,_,_,_,_,_,h6⟩:=hs10
     ·rw [hkk] at e0;cases e0
     ·rw [hkk] at e0;cases e0;exact h6
    have hm:(s10.new (.cells [] 1)).mem.get j=s10.mem.get j:=SS.new_old (by omega)
    rw [hkk] at b3 ⊢
    simp only [SS.resl,hm] at b3 ⊢
    exact b3
   have h78:MqI B s78 b ws E pc k:=h10.keep (by omega) lm78 fun i _ hi=>k78 i hi
   have hc2:=st78.cell
   obtain ⟨s81,e81,h81,m81,n81⟩:=h78.setK hc2.1 hc2.2
   obtain ⟨s84,e84,h84,m84,n84⟩:=h81.set a
   refine ⟨s84,v78,base _ ?_,by rw [hbt];exact h84,by rw [List.dropLast_concat];exact (st78.mod m81 hbB).mod m84 hbB,⟨by omega,by rw [m84.lim,m81.lim,lm78,x10.lim],fun i hi hb hk=>((m81.then m84).keep i (by omega) (by simpa using hb)).trans ((k78 i (by omega)).trans (x10.keep i hi))⟩,fun i o1 l1 c1 e=>.inl (by have:=fz78 i o1 l1 c1 e;omega)⟩
   simp only [zaE,zaw,zob,zab,l3,hd1,zaa,e7,l8,e10,d1,hw1,l8',zdf i1,zdf i2,zdf i3,zcf,zdt i4,zct,d3,e60',l61,d2,q65,zdt hz,hw,b1,b2]
   rw [l75,zob,b3',zob,e78,zob,e81,zob,e84]
   rfl
 have i4:¬ ((zaq X 8:Nat):Int)=4:=by omega
 by_cases u5:zaq X 8=5
 ·have i5:((zaq X 8:Nat):Int)=5:=by omega
  rw [if_neg (by omega),if_neg u1,if_neg u2,if_neg u3,if_neg u4,if_pos u5]
  have w90:Int.tmod (IntKind.wrap .u64 tb) 64=tb%64:=u_mod tb (n:=64) (.inl rfl)
  have g1:0≤tb%64:=Int.emod_nonneg _ (by omega)
  have g2:tb%64<64:=Int.emod_lt_of_pos _ (by omega)
  have w91:IntKind.wrap .i64 (tb%64)=tb%64:=wrap64 (by omega) (by omega)
  have w92:IntKind.wrap .i64 (((zaq X 10:Nat):Int)+tb%64)=((zaq X 10:Nat):Int)+tb%64:=wrap64 (by omega) (by omega)
  by_cases o1:op=1
  ·rw [if_pos o1]
   subst o1
   obtain ⟨p,e,l⟩:=d4 1 (by omega)
   have e':zam w 1 1=some p:=e
   obtain ⟨s19,e19,h19,m19,_⟩:=h10.set (E.getD 1 0)
   refine ⟨s19,k,base _ ?_,h19,hs10.mod m19 hbB,fr10.then (.ofMod m19:Fr b k s10 s19) (.same _ _),.same _ _⟩
   simp only [zaE,zaw,zob,zab,l3,hd1,zaa,e7,l8,e10,d1,hw1,l8',zdf i1,zdf i2,zdf i3,zdf i4,zcf,zdt i5,zct,l10,w90,w91,w92,decide_true,d3,e',l,e19]
  ·rw [if_neg o1]
   by_cases o2:op=2
   ·rw [if_pos o2]
    subst o2
    obtain ⟨p,e,l⟩:=d4 2 (by omega)
    have e':zam w 2 1=some p:=e
    obtain ⟨s19,e19,h19,m19,_⟩:=h10.set (E.getD 2 0)
    refine ⟨s19,k,base _ ?_,h19,hs10.mod m19 hbB,fr10.then (.ofMod m19:Fr b k s10 s19) (.same _ _),.same _ _⟩
    simp only [zaE,zaw,zob,zab,l3,hd1,zaa,e7,l8,e10,d1,hw1,l8',zdf i1,zdf i2,zdf i3,zdf i4,zcf,zdt i5,zct,l10,w90,w91,w92,zdf o1,decide_true,d3,e',l,e19]
   ·rw [if_neg o2]
    obtain ⟨s19,e19,h19,m19,_⟩:=h10.set (((zaq X 10:Nat):Int)+tb%64)
    refine ⟨s19,k,base _ ?_,h19,hs10.mod m19 hbB,fr10.then (.ofMod m19:Fr b k s10 s19) (.same _ _),.same _ _⟩
    simp only [zaE,zaw,zob,zab,l3,hd1,zaa,e7,l8,e10,d1,hw1,l8',zdf i1,zdf i2,zdf i3,zdf i4,zcf,zdt i5,zct,l10,w90,w91,w92,zdf o1,zdf o2,e19]
 have i5:¬ ((zaq X 8:Nat):Int)=5:=by omega
 by_cases u6:zaq X 8=6
 ·have i6:((zaq X 8:Nat):Int)=6:=by omega
  rw [if_neg (by omega),if_neg u1,if_neg u2,if_neg u3,if_neg u4,if_neg u5,if_pos u6]
  have w90:Int.tmod (IntKind.wrap .u64 tb) 16=tb%16:=u_mod tb (n:=16) (.inr rfl)
  have g1:0≤tb%16:=Int.emod_nonneg _ (by omega)
  have g2:tb%16<16:=Int.emod_lt_of_pos _ (by omega)
  have w91:IntKind.wrap .i64 (tb%16)=tb%16:=wrap64 (by omega) (by omega)
  have w92:IntKind.wrap .i64 (((zaq X 10:Nat):Int)+tb%16)=((zaq X 10:Nat):Int)+tb%16:=wrap64 (by omega) (by omega)
  obtain ⟨s19,e19,h19,m19,_⟩:=h10.set (((zaq X 10:Nat):Int)+tb%16)
  refine ⟨s19,k,base _ ?_,h19,hs10.mod m19 hbB,fr10.then (.ofMod m19:Fr b k s10 s19) (.same _ _),.same _ _⟩
  simp only [zaE,zaw,zob,zab,l3,hd1,zaa,e7,l8,e10,d1,hw1,l8',zdf i1,zdf i2,zdf i3,zdf i4,zdf i5,zcf,zdt i6,zct,l10,w90,w91,w92,e19]
 have i6:¬ ((zaq X 8:Nat):Int)=6:=by omega
 by_cases u0:zaq X 8=0
 ·have i7:¬ ((zaq X 8:Nat):Int)=7:=by omega
  rw [if_pos u0]
  obtain ⟨s19,e19,h19,m19,_⟩:=h10.set (pc+1)
  refine ⟨s19,k,base _ ?_,h19,hs10.mod m19 hbB,fr10.then (.ofMod m19:Fr b k s10 s19) (.same _ _),.same _ _⟩
  simp only [zaE,zaw,zob,zab,l3,hd1,zaa,e7,l8,e10,d1,hw1,l8',zdf i1,zdf i2,zdf i3,zdf i4,zdf i5,zdf i6,zdf i7,zcf,e19]
 ·have u8:zaq X 8<8:=by
   have h2:zaq X 8<2^zax 8:=Nat.mod_lt _ (Nat.two_pow_pos _)
   have h3:2^zax 8=8:=by decide+kernel
   omega
  have i7:((zaq X 8:Nat):Int)=7:=by omega
  rw [if_neg u0,if_neg u1,if_neg u2,if_neg u3,if_neg u4,if_neg u5,if_neg u6]
  obtain ⟨s71,c71,h71,m71⟩:=zvx h10 hE (i:=0) (by omega)
  have c71':cc 19 [ptr b 0,.int .i64 0] s10=some (.tuple #[],s71):=c71
  refine ⟨s71,zaF,base _ ?_,h71,Stk.nil,fr10.then (.ofMod m71:Fr b k s10 s71) (.same _ _),.nil _ _⟩
  simp only [zaE,zaw,zob,zab,l3,hd1,zaa,e7,l8,e10,d1,hw1,l8',zdf i1,zdf i2,zdf i3,zdf i4,zdf i5,zdf i6,zcf,zdt i7,zct,c71']
end
end Go.Proofs.YtcplfckncandkaaGreatDoorE
namespace Go.Proofs.YtcplfckncandkaaGreatDoorE
set_option maxRecDepth 20000
open Go Go.E Go.Proofs
def zfa:LoopI:=⟨[(4,.any),(6,.int .i64)],[(.exit 0,[(4,.any)]),(.ret,[(0,.bool)])]⟩
def zfy (n:Nat):Option LoopI:=cond (Nat.beq n 6) (some zfa) (none)
noncomputable def zgA (cf:zak) (lf:zac) (st:SS):Option (Value×SS):=
 (cf 7 [.string ⟨#[46,101,110,116,114,121,32,102,101,116,99,104,10,46,101,110,116,114,121,32,111,112,101,114,97,110,100,10,46,101,110,116,114,121,32,98,114,97,110,99,104,10,46,101,110,116,114,121,32,102,97,117,108,116,10,46,101,110,116,114,121,32,105,110,116,101,114,114,117,112,116,10,102,101,116,99,104,58,32,115,101,113,61,110,101,120,116,10,111,112,101,114,97,110,100,58,32,115,101,113,61,106,109,112,32,116,111,61,102,97,117,108,116,10,98,114,97,110,99,104,58,32,115,101,113,61,101,110,100,10,102,97,117,108,116,58,32,115,101,113,61,106,109,112,32,116,111,61,98,114,97,110,99,104,10,105,110,116,101,114,114,117,112,116,58,32,115,101,113,61,101,110,100]⟩] (st.ro st.next)).bind fun a=>
 (zao a.1 0).bind fun b=>
 (zao a.1 1).bind fun c=>
 ((zao a.1 2).bind (asI .i64)).bind fun d=>
 let e:SS:=a.2.new (.cells [.slice none 0 0,.slice none 0 0] 0)
 let f:SS:=e.new (.cells [.int .i64 0,.int .i64 0] 0)
 (f.stV a.2.next 0 2 b).bind fun g=>
 (g.stV e.next 0 2 c).bind fun h=>
 (h.ldN a.2.next 0 2).bind fun i=>
 (cf 10 [i] h).bind fun j=>
 (zao j.1 0).bind fun k=>
 ((zao j.1 1).bind (asI .i64)).bind fun l=>
 cond (!(decide (d=0))) (
 some (.bool false,st.adv j.2.next)) (
 cond (!(decide (l=0))) (
 some (.bool false,st.adv j.2.next)) (
 (lf 6 [k,.int .i64 0] j.2).bind fun m=>
 cond (Nat.beq m.1 0) (
 (m.2.1[0]?).bind fun n=>
 (cf 14 [n] m.2.2).bind fun o=>
 ((some o.1).bind (asI .i64)).bind fun p=>
 cond (decide (p=2)) (
 (cf 12 [n,.agg #[.bool false,.int .i64 0,.int .i64 0]] o.2).bind fun q=>
 ((some q.1).bind asB).bind fun r=>
 cond r (
 (cf 14 [n] q.2).bind fun s=>
 ((some s.1).bind (asI .i64)).bind fun t=>
 cond (decide (t=0)) (
 some (.bool true,st.adv s.2.next)) (
 some (.bool false,st.adv s.2.next))) (
 some (.bool false,st.adv q.2.next))) (
 some (.bool false,st.adv o.2.next))) (
 ((m.2.1[0]?).bind asB).bind fun u=>
 some (.bool u,st.adv m.2.2.next))))
noncomputable abbrev zbh:zac:=lS Tryz.prog Lk0 Tryz.f6 zfy
theorem zjs:Lk0.func 6=some (6,Tryz.f6):=by kernel_rfl
theorem zjt [Sym] (st:SS) {r:Value×SS} (h:zgA cc zbh st=some r):cc 6 [] st=some r:=
 zah (li:=zfy) zai zal zjs rfl (fun _=>rfl) (.trans (by kernel_rfl) h)
noncomputable def zfz (cf:zak) (lf:zac) (s':Value) (i':Int) (st:SS):Option (Nat×List Value×SS):=
 cond (decide (i'<3)) (
 (cf 12 [s',.agg #[.bool false,.int .i64 0,.int .i64 0]] st).bind fun a=>
 ((some a.1).bind asB).bind fun b=>
 cond b (
 some (1,[.bool false],a.2)) (
 let c:Int:=IntKind.wrap .i64 (i'+1)
 lf 6 [s',.int .i64 c] a.2)) (
 some (0,[s'],st))
theorem zeD [Sym] (s':Value) (i':Int) (st:SS) {r:Nat×List Value×SS} (h:zfz cc zbh s' i' st=some r):zbh 6 [s',.int .i64 i'] st=some r:=
 zay zai zal (key:=6) (I:=zfa) rfl (by kernel_rfl) (by kernel_rfl) rfl rfl (.trans (by kernel_rfl) h)
end Go.Proofs.YtcplfckncandkaaGreatDoorE
namespace Go.Proofs.YtcplfckncandkaaGreatDoorE
set_option maxRecDepth 1000000
open Go Go.E Go.Proofs
def toU (ws:List Wd):List Nat:=ws.map fun w=>(zgm w).toNat
theorem zsF (ws:List Wd):(toU ws).length=ws.length:=by simp [toU]
theorem pk_u:∀ {ws:List Wd},(∀ w∈ws,zjr w)→rowsF zd7 ws=rowsF uRow (toU ws)
 | [],_=>rfl
 | w::r,h=>by
   obtain ⟨X,hX⟩:=zpR (h w (by simp))
   have e:toU (w::r)=X::toU r:=by unfold toU;rw [List.map_cons,hX];rfl
   rw [e,zb8,zb8,pk_u fun w hw=>h w (by simp [hw])]
   unfold zd7 uRow
   rw [hX]
theorem zvy {ws:List Wd} (h:∀ w∈ws,zjr w):∀ X∈toU ws,X<2^64:=by
 intro X hX
 obtain ⟨w,hw,rfl⟩:=List.mem_map.1 hX
 obtain ⟨Y,hY⟩:=zpR (h w hw)
 rw [hY,Int.toNat_natCast]
 exact (zwN (h w hw) hY).2
theorem zpg {s1:SS} (hl:s1.lim≤s1.next) {wv ev:Value} (h1:one wv=true) (h2:one ev=true) (e:Nat×Nat):
  ∃ s7 s8,((s1.new (.cells [zaF,zaF] 0)).new (.cells [.int .i64 0,.int .i64 0] 0)).stV s1.next 0 2 (zbL wv ev)=some s7∧s7.stV (s1.new (.cells [zaF,zaF] 0)).next 0 2 (zbT e)=some s8∧At s8 s1.next [wv,ev]∧Ext s1 s8∧s1.next<s8.next:=by
 have x1:Ext s1 (s1.new (.cells [zaF,zaF] 0)):=(Ext.refl _).new _
 have x2:Ext (s1.new (.cells [zaF,zaF] 0)) ((s1.new (.cells [zaF,zaF] 0)).new (.cells [.int .i64 0,.int .i64 0] 0)):=(Ext.refl _).new _
 have a1:At ((s1.new (.cells [zaF,zaF] 0)).new (.cells [.int .i64 0,.int .i64 0] 0)) s1.next [zaF,zaF]:=(At.new hl _).ext x2
 have a2:At ((s1.new (.cells [zaF,zaF] 0)).new (.cells [.int .i64 0,.int .i64 0] 0)) (s1.next+1) [.int .i64 0,.int .i64 0]:=At.new (st:=s1.new (.cells [zaF,zaF] 0)) (x1.ll hl) _
 have hc:(zbL wv ev).cells.toList=[wv,ev]:=by show (Value.agg [wv,ev].toArray).cells.toList=_;exact zaC _
 have hc2:(zbT e).cells.toList=[.int .i64 e.1,.int .i64 e.2]:=zaC _
 obtain ⟨s7,e7,b7,m7,n7⟩:=a1.stV (k:=0) hc rfl (by simp [h1,h2]) (row':=[wv,ev]) rfl
 obtain ⟨s8,e8,b8,m8,n8⟩:=(a2.mod m7 (by simp)).stV (k:=0) hc2 rfl rfl (row':=[.int .i64 e.1,.int .i64 e.2]) rfl
 refine ⟨s7,s8,e7,e8,b7.mod m8 (by simp),(((Mod.ofExt (S:=[]) (x1.trans x2)).thenI m7 (.inl (zlr _))).thenI m8 (.inl (by omega))).toExt,?_⟩
 have h3:((s1.new (.cells [zaF,zaF] 0)).new (.cells [.int .i64 0,.int .i64 0] 0)).next=s1.next+2:=rfl
 omega
structure Sq (base:SS) (B b:Nat) (ws:List Nat) (E:List Int) (pc:Int) (ca:List Int) (s:SS):Prop where
 sq:∃ k,SqI B s b ws E pc k∧Stk B s k ca
 len:E.length=5
 hB:B≤s.next
 hl:s.lim≤B
 ext:Ext base s
 bb:base.next≤b
 hN:ws.length≤2048
theorem Sq.ofNew {base s':SS} {b:Nat} {v:Value} {ws:List Nat} {E:List Int} {pc:Int} (hE:E.length=5) (hN:ws.length≤2048) (x:Ext base s') (hb:base.next≤b) (a:At s' b (zcd v E pc zaF)) (o:Own (b+1) s' v (rowsF zbA ws) 12 ws.length):Sq base s'.next b ws E pc [] s':=
 ⟨⟨zaF,⟨v,a,a.2.1,o.rg,fun i l c e=>by
   obtain ⟨_,⟨rfl,_⟩ | ⟨i',rfl,_,_,h1,h2⟩⟩:=o
   ·cases e
   ·cases e;exact ⟨by omega,h2⟩⟩,Stk.nil⟩,hE,zlr _,by have:=a.2.1;have:=a.2.2;omega,x,hb,hN⟩
def inW (ws:List Nat) (pc:Int) (ca:List Int):Bool:=decide (0≤pc)&&(decide (pc<ws.length)&&decide (ca.length≤8))
section
variable {base s : SS} {B b : Nat} {ws : List Nat} {E : List Int} {pc : Int} {ca : List Int}
theorem Sq.next [Sym] (h:Sq base B b ws E pc ca s) (hi:inW ws pc ca=true) (is:Bool) (tb op:Int):
  ∃ s',cc 12 [ptr b 0,.agg #[.bool is,.int .i64 tb,.int .i64 op]] s=some (.bool (zbM ws E pc ca is tb op).2.2,s')∧Sq base B b ws E (zbM ws E pc ca is tb op).1 (zbM ws E pc ca is tb op).2.1 s':=by
 unfold inW at hi
 simp only [zae,decide_eq_true_eq] at hi
 obtain ⟨k,h1,h2⟩:=h.sq
 obtain ⟨s',k',c,q1,q2,fr,nw⟩:=zpW h1 h.len h2 h.hB h.hl hi.2.2 hi.1 h.hN hi.2.1 is tb op
 have hbB:=h1.lt.2.1
 refine ⟨s',c,⟨k',q1,q2⟩,h.len,zlt h.hB fr.next,by rw [fr.lim];exact h.hl,⟨zlt h.ext.next fr.next,fr.lim.trans h.ext.lim,fun j hj=>?_⟩,h.bb,h.hN⟩
 have hb:=h.bb
 exact (fr.keep j (zll hj h.ext.next) (by omega) (h2.sep (by omega))).trans (h.ext.keep j hj)
theorem Sq.at [Sym] (h:Sq base B b ws E pc ca s):cc 14 [ptr b 0] s=some (.int .i64 pc,s):=by
 obtain ⟨k,h1,h2⟩:=h.sq
 exact zsC h1 h.len
theorem Sq.depth [Sym] (h:Sq base B b ws E pc ca s):cc 11 [ptr b 0] s=some (.int .i64 ca.length,s):=by
 obtain ⟨k,h1,h2⟩:=h.sq
 exact ztR h1 h.len h2
end
theorem zrl {ws:List Nat} {es:List En} {E:List Int} (h:newT ws es=some E):ws.length≤2048∧E.length=5:=by
 unfold newT at h
 cases hg:zdO ws.length es&&zdQ ws with
 | false=>rw [hg] at h;cases h
 | true=>
   rw [hg] at h
   rw [zae] at hg
   have h1:=hg.1
   unfold zdO at h1
   simp only [zae,Nat.ble_eq] at h1
   exact ⟨h1.1,zk0 es zbz E h⟩
def zrm (t:List UInt8) (p:List Nat→List Int→Bool):Bool:=match zkW t with
 | .error _=>false
 | .ok (ws,es)=>match newT (toU ws) es with
   | none=>false
   | some E=>p (toU ws) E
theorem zxL [Sym] {st:SS} (hg:Gd st) (hl:st.lim≤st.next) {t:List UInt8} (ht:t.length≤65536) {p:List Nat→List Int→Bool} (h:zrm t p=true):
  ∃ s1 wv ev s7 s8 s10 b ws E,cc 7 [.string (mkS t)] st=some (.tuple #[zbL wv ev,zbT (0,0),.int .i64 0],s1)∧((s1.new (.cells [zaF,zaF] 0)).new (.cells [.int .i64 0,.int .i64 0] 0)).stV s1.next 0 2 (zbL wv ev)=some s7∧
   s7.stV (s1.new (.cells [zaF,zaF] 0)).next 0 2 (zbT (0,0))=some s8∧s8.ldN s1.next 0 2=some (zbL wv ev)∧cc 10 [zbL wv ev] s8=some (.tuple #[ptr b 0,.int .i64 0],s10)∧Sq st s10.next b ws E (E.getD 0 0) [] s10∧p ws E=true:=by
 unfold zrm at h
 have ha:=zvn hg hl (mkS t) ht
 rw [zbN] at ha
 cases hr:zkW t with
 | error e=>rw [hr] at h;cases h
 | ok r=>
   obtain ⟨ws,es⟩:=r
   rw [hr] at h ha
   simp only at h
   obtain ⟨hwd,hwl⟩:=zsx hr
   obtain ⟨s1,wv,ev,c1,x1,o1,o2⟩:=ha
   obtain ⟨s7,s8,e7,e8,a8,x8,n8⟩:=zpg (x1.ll hl) o1.cell.2 o2.cell.2 (0,0)
   have hx8:=x1.trans x8
   have o1':Rg s8 wv (rowsF uRow (toU ws)) 1 (toU ws).length:=by rw [← pk_u hwd,zsF];exact (o1.ext x8).rg
   have o2':Rg s8 ev (rowsF zaJ es) 2 es.length:=(o2.ext x8).rg
   have hn:=zsB (hg.ext hx8) (hx8.ll hl) (zvy hwd) o1' o2'
   cases hq:newT (toU ws) es with
   | none=>rw [hq] at h;cases h
   | some E=>
     rw [hq] at h hn
     obtain ⟨hE,s10,b,v,x10,c10,hb,a10,o10⟩:=hn
     refine ⟨s1,wv,ev,s7,s8,s10,b,toU ws,E,c1,e7,e8,a8.ldN rfl,c10,Sq.ofNew hE (zrl hq).1 (hx8.trans x10) (by have:=hx8.next;omega) a10 o10,h⟩
def zrn:List UInt8:=[46,101,110,116,114,121,32,102,101,116,99,104,10,46,101,110,116,114,121,32,111,112,101,114,97,110,100,10,46,101,110,116,114,121,32,98,114,97,110,99,104,10,46,101,110,116,114,121,32,102,97,117,108,116,10,46,101,110,116,114,121,32,105,110,116,101,114,114,117,112,116,10,102,101,116,99,104,58,32,115,101,113,61,110,101,120,116,10,111,112,101,114,97,110,100,58,32,115,101,113,61,106,109,112,32,116,111,61,102,97,117,108,116,10,98,114,97,110,99,104,58,32,115,101,113,61,101,110,100,10,102,97,117,108,116,58,32,115,101,113,61,106,109,112,32,116,111,61,98,114,97,110,99,104,10,105,110,116,101,114,114,117,112,116,58,32,115,101,113,61,101,110,100]
def nx0 (ws:List Nat) (E:List Int) (q:Int×List Int×Bool):Int×List Int×Bool:=zbM ws E q.1 q.2.1 false 0 0
def zvz (ws:List Nat) (E:List Int):Bool:=
 let q0:Int×List Int×Bool:=(E.getD 0 0,[],false)
 let q1:=nx0 ws E q0
 let q2:=nx0 ws E q1
 let q3:=nx0 ws E q2
 let q4:=nx0 ws E q3
 inW ws q0.1 q0.2.1&&(inW ws q1.1 q1.2.1&&(inW ws q2.1 q2.2.1&&(inW ws q3.1 q3.2.1&&(!q1.2.2&&(!q2.2.2&&(!q3.2.2&&(decide (q3.1=2)&&(q4.2.2&&decide (q4.1=0)))))))))
theorem aliveQ:zrm zrn zvz=true:=by kernel_rfl
end Go.Proofs.YtcplfckncandkaaGreatDoorE
namespace Go.Proofs.YtcplfckncandkaaGreatDoorE
open Go Go.E Go.Proofs
def InN (N:Nat) (x:Int):Prop:=0≤x∧x<N
theorem ztT {ws:List Nat} (h:zdQ ws=true) {i X:Nat} (hX:ws[i]?=some X):∀ t∈zbX ((zaq X 8:Nat):Int) ((zaq X 10:Nat):Int) i,t.1+t.2≤ws.length:=by
 have h1:=List.all_eq_true.1 h i (List.mem_range.2 (List.getElem?_eq_some_iff.1 hX).1)
 rw [hX] at h1
 simp only at h1
 unfold okW zdP at h1
 intro t ht
 have:=List.all_eq_true.1 h1 t ht
 simpa using this
theorem zwQ {ws:List Nat} {E:List Int} {pc:Int} {ca:List Int} (hw:zdQ ws=true) (hE:E.length=5) (hEn:∀ i,i<5→InN ws.length (E.getD i 0)) (hp:InN ws.length pc) (hc:∀ a∈ca,InN ws.length a) (hl:ca.length≤8) (is:Bool) (tb op:Int):
  InN ws.length (zbM ws E pc ca is tb op).1∧(∀ a∈(zbM ws E pc ca is tb op).2.1,InN ws.length a)∧(zbM ws E pc ca is tb op).2.1.length≤8:=by
 obtain ⟨X,hX⟩:∃ X,ws[pc.toNat]?=some X:=⟨_,zge (by have:=hp.1;have:=hp.2;omega)⟩
 have hwa:wordAt ws pc=X:=by unfold wordAt;rw [List.getD_eq_getElem?_getD,hX];rfl
 have hr:=ztT hw hX
 have hpt:((pc.toNat:Nat):Int)=pc:=Int.toNat_of_nonneg hp.1
 rw [hpt] at hr
 have h10:(0:Int)≤((zaq X 10:Nat):Int):=by omega
 have g1:0≤tb%64:=Int.emod_nonneg _ (by omega)
 have g2:tb%64<64:=Int.emod_lt_of_pos _ (by omega)
 have g3:0≤tb%16:=Int.emod_nonneg _ (by omega)
 have g4:tb%16<16:=Int.emod_lt_of_pos _ (by omega)
 have hp0:=hp.1
 unfold zbM
 rw [hwa]
 simp only
 unfold zbX at hr
 by_cases u0:zaq X 8=0
 ·rw [if_pos (by omega)] at hr
  rw [if_pos u0]
  have:=hr _ (List.mem_singleton.2 rfl)
  simp only at this
  exact ⟨⟨by omega,by omega⟩,hc,hl⟩
 rw [if_neg (by omega)] at hr
 rw [if_neg u0]
 by_cases u1:zaq X 8=1
 ·rw [if_pos (by omega)] at hr
  rw [if_pos u1]
  have:=hr _ (List.mem_singleton.2 rfl)
  simp only at this
  exact ⟨⟨by omega,by omega⟩,hc,hl⟩
 rw [if_neg (by omega)] at hr
 rw [if_neg u1]
 by_cases u2:zaq X 8=2
 ·rw [if_pos (by omega)] at hr
  rw [if_pos u2]
  have r1:=hr (pc+1,1) (by simp)
  have r2:=hr (((zaq X 10:Nat):Int),1) (by simp)
  simp only at r1 r2
  cases is with
  | true=>exact ⟨⟨by simp only [zct];omega,by simp only [zct];omega⟩,hc,hl⟩
  | false=>exact ⟨⟨by simp only [zcf];omega,by simp only [zcf];omega⟩,hc,hl⟩
 rw [if_neg u2]
 by_cases u3:zaq X 8=3
 ·rw [if_pos (by omega)] at hr
  rw [if_pos u3]
  have r1:=hr (pc+1,1) (by simp)
  have r2:=hr (((zaq X 10:Nat):Int),1) (by simp)
  simp only at r1 r2
  refine ⟨⟨by omega,by omega⟩,fun a ha=>?_,?_⟩
  ·have hm:a∈ca++[pc+1]:=by
    unfold ziC at ha
    split at ha
    ·exact List.mem_of_mem_drop ha
    ·exact ha
   rcases List.mem_append.1 hm with hm | hm
   ·exact hc a hm
   ·have:a=pc+1:=by simpa using hm
    rw [this];exact ⟨by omega,by omega⟩
  ·show (ziC ca (pc+1)).length≤8
   unfold ziC
   split
   ·rw [List.length_drop,List.length_append];simp;omega
   ·rw [List.length_append];simp;omega
 rw [if_neg (by omega)] at hr
 rw [if_neg u3]
 by_cases u4:zaq X 8=4
 ·rw [if_pos u4]
  refine ⟨?_,fun a ha=>hc a ((List.dropLast_sublist _).subset ha),by rw [List.length_dropLast];omega⟩
  show InN ws.length (zmj E ca)
  cases ca with
  | nil=>exact hEn 0 (by omega)
  | cons a r=>exact hc _ (List.getLast_mem _)
 rw [if_neg u4]
 by_cases u5:zaq X 8=5
 ·rw [if_pos (by omega)] at hr
  rw [if_pos u5]
  have r1:=hr _ (List.mem_singleton.2 rfl)
  simp only at r1
  refine ⟨?_,hc,hl⟩
  show InN ws.length (if op=1 then E.getD 1 0 else if op=2 then E.getD 2 0 else ((zaq X 10:Nat):Int)+tb%64)
  by_cases o1:op=1
  ·rw [if_pos o1];exact hEn 1 (by omega)
  ·rw [if_neg o1]
   by_cases o2:op=2
   ·rw [if_pos o2];exact hEn 2 (by omega)
   ·rw [if_neg o2];exact ⟨by omega,by omega⟩
 rw [if_neg (by omega)] at hr
 rw [if_neg u5]
 by_cases u6:zaq X 8=6
 ·rw [if_pos (by omega)] at hr
  rw [if_pos u6]
  have r1:=hr _ (List.mem_singleton.2 rfl)
  simp only at r1
  exact ⟨⟨by omega,by omega⟩,hc,hl⟩
 rw [if_neg u6]
 exact ⟨hEn 0 (by omega),(fun a ha=>by cases ha),by simp⟩
theorem zpX:∀ (es:List En) (n:List UInt8) (x:Int),zeC es n=some x→∃ e∈es,e.2=x
 | [],n,x,h=>by cases h
 | e::r,n,x,h=>by
   unfold zeC at h
   split at h
   ·cases h;exact ⟨e,by simp,rfl⟩
   ·obtain ⟨e',h1,h2⟩:=zpX r n x h
    exact ⟨e',by simp [h1],h2⟩
theorem zro (es:List En):∀ (ns:List (List UInt8)) (xs:List Int),zfe es ns=some xs→∀ x∈xs,∃ e∈es,e.2=x
 | [],xs,h=>by simp only [zfe,zsj] at h;subst h;intro x hx;cases hx
 | n::r,xs,h=>by
   unfold zfe at h
   split at h
   ·cases h
   ·rename_i y hy
    split at h
    ·cases h
    ·rename_i ys hys
     cases h
     intro x hx
     rcases List.mem_cons.1 hx with rfl | hx
     ·exact zpX es n _ hy
     ·exact zro es r ys hys x hx
theorem zxM {ws:List Nat} {es:List En} {E:List Int} (h:newT ws es=some E):zdQ ws=true∧E.length=5∧ws.length≤2048∧∀ i,i<5→InN ws.length (E.getD i 0):=by
 have hl:=zrl h
 unfold newT at h
 cases hg:zdO ws.length es&&zdQ ws with
 | false=>rw [hg] at h;cases h
 | true=>
   rw [hg] at h
   simp only [zct] at h
   rw [zae] at hg
   refine ⟨hg.2,hl.2,hl.1,fun i hi=>?_⟩
   have hx:E.getD i 0∈E:=by
    rw [List.getD_eq_getElem?_getD,zge (by rw [hl.2];exact hi)]
    exact List.getElem_mem _
   obtain ⟨e,he,h2⟩:=zro es zbz E h _ hx
   obtain ⟨j,hj,hje⟩:=List.mem_iff_getElem.1 he
   have hr:=hg.1
   unfold zdO at hr
   simp only [zae] at hr
   have h3:=List.all_eq_true.1 hr.2.2 j (List.mem_range.2 hj)
   rw [zg1 (show es[j]?=some e by rw [zge hj,hje])] at h3
   simp only [zae,Bool.not_eq_true',decide_eq_false_iff_not] at h3
   rw [← h2]
   exact ⟨by omega,by omega⟩
end Go.Proofs.YtcplfckncandkaaGreatDoorE
namespace Go.Proofs.YtcplfckncandkaaGreatDoorE
open Go Go.E Go.Proofs
theorem Stk.blk {B:Nat} {s:SS} {k:Value} {ca:List Int} (h:Stk B s k ca):∀ i o l c,k=.slice (some ⟨i,o,none⟩) l c→B≤i∧i<s.next:=fun i o l c e=>by
 obtain ⟨rfl,_⟩ | ⟨j,o',cap,C,rfl,_,_,_,_,h5,h6⟩:=h
 ·cases e
 ·cases e;exact ⟨h5,h6⟩
theorem Stk.up {A B:Nat} {s:SS} {k:Value} {ca:List Int} (h:Stk A s k ca) (hb:∀ i o l c,k=.slice (some ⟨i,o,none⟩) l c→B≤i):Stk B s k ca:=by
 refine h.imp (fun h=>h) ?_
 rintro ⟨j,o,cap,C,e,h1,h2,h3,h4,h5,h6⟩
 exact ⟨j,o,cap,C,e,h1,h2,h3,h4,hb j o _ _ e,h6⟩
structure Two (base:SS) (B b b2:Nat) (ws:List Nat) (E:List Int) (pc:Int) (ca:List Int) (s:SS):Prop where
 ex:∃ k k2,SqI b2 s b ws E pc k∧MqI B s b2 ws E pc k2∧Stk B s k ca∧Stk B s k2 ca∧∀ i o l c,k=.slice (some ⟨i,o,none⟩) l c→∀ o' l' c',k2≠.slice (some ⟨i,o',none⟩) l' c'
 hE:E.length=5
 hB:B≤s.next
 hl:s.lim≤b
 ext:Ext base s
 bb:base.next≤b
 hN:ws.length≤2048
section
variable {base s : SS} {B b b2 : Nat} {ws : List Nat} {E : List Int} {pc : Int} {ca : List Int}
theorem Two.lt (h:Two base B b b2 ws E pc ca s):b<b2∧b2<B∧b2<s.next:=by
 obtain ⟨k,k2,h1,h2,_⟩:=h.ex
 exact ⟨h1.lt.2.1,h2.lt.2.1,h2.lt.1⟩
theorem Two.extend (h:Two base B b b2 ws E pc ca s) {s':SS} (x:Ext s s'):Two base B b b2 ws E pc ca s':=by
 obtain ⟨k,k2,h1,h2,h3,h4,h5⟩:=h.ex
 exact ⟨⟨k,k2,h1.ext x,h2.ext x,h3.ext x,h4.ext x,h5⟩,h.hE,zlt h.hB x.next,by rw [x.lim];exact h.hl,h.ext.trans x,h.bb,h.hN⟩
theorem Two.step [Sym] (h:Two base B b b2 ws E pc ca s) (hp:InN ws.length pc) (hc:ca.length≤8) {sf:SS} (hx:Ext s sf) (is:Bool) (tb op:Int):
  ∃ s1,cc 12 [ptr b 0,.agg #[.bool is,.int .i64 tb,.int .i64 op]] sf=some (.bool (zbM ws E pc ca is tb op).2.2,s1)∧(∀ i,s.next≤i→i<sf.next→s1.mem.get i=sf.mem.get i)∧sf.next≤s1.next∧s1.lim=sf.lim∧
   ∀ s1':SS,s1'.next=s1.next→s1'.lim=s1.lim→(∀ i,i<s.next∨sf.next≤i→s1'.mem.get i=s1.mem.get i)→
    ∃ s2,cc 20 [ptr b2 0,.bool is,.int .i64 tb,.int .i64 op] s1'=some (.bool (zbM ws E pc ca is tb op).2.2,s2)∧Two base B b b2 ws E (zbM ws E pc ca is tb op).1 (zbM ws E pc ca is tb op).2.1 s2:=by
 obtain ⟨k,k2,h1,h2,h3,h4,h5⟩:=h.ex
 obtain ⟨lb,lb2,lbn⟩:=h.lt
 have hfn:=hx.next
 have kb:=h3.blk
 have kb2:=h4.blk
 have hB:=h.hB
 have hl:=h.hl
 have hbb:=h.bb
 obtain ⟨s1,k',c1,q1,q2,fr,nw⟩:=zpW (h1.ext hx) h.hE ((h3.ext hx).up fun i o l c e=>by have:=(kb i o l c e).1;omega) (by omega) (by rw [hx.lim];omega) hc hp.1 h.hN hp.2 is tb op
 have fn:=fr.next
 have k'lt:=q2.blk
 refine ⟨s1,c1,fun i hi hi2=>fr.keep i hi2 (by omega) (fun o l c e=>by have:=(kb i o l c e).2;omega),fn,fr.lim,fun s1' en el em=>?_⟩
 have d1:SqI b2 s1' b ws E (zbM ws E pc ca is tb op).1 k':=q1.keep (by omega) el fun i hi hi2=>em i (.inl (by omega))
 have d2:Stk b2 s1' k' (zbM ws E pc ca is tb op).2.1:=q2.keep (by omega) fun i o l c e hb hi=>by
  rcases nw i o l c e with h6 | ⟨o',l',c',h6⟩
  ·exact em i (.inr h6)
  ·exact em i (.inl (kb i _ _ _ h6).2)
 have d3:MqI B s1' b2 ws E pc k2:=h2.keepHi (by omega) (by rw [el,fr.lim,hx.lim]) fun i hi hi2 hi3=>
  (em i (.inl hi3)).trans ((fr.keep i (by omega) (by omega) (fun o l c e=>by have:=(kb i o l c e).1;omega)).trans (hx.keep i hi3))
 have d4:Stk B s1' k2 ca:=h4.keep (by omega) fun i o l c e hb hi=>
  (em i (.inl hi)).trans ((fr.keep i (by omega) (by omega) (fun o' l' c' e'=>h5 i o' l' c' e' _ _ _ e)).trans (hx.keep i hi))
 obtain ⟨s2,k2',c2,r1,r2,fr2,nw2⟩:=zwP d3 h.hE d4 (by omega) (by rw [el,fr.lim,hx.lim];omega) hc hp.1 h.hN hp.2 is tb op
 have f2n:=fr2.next
 refine ⟨s2,c2,⟨k',k2',d1.keep f2n fr2.lim fun i hi hi2=>fr2.keep i hi2 (by omega) (fun o l c e=>by have:=(kb2 i o l c e).1;omega),r1,?_,r2,?_⟩,h.hE,by omega,by rw [fr2.lim,el,fr.lim,hx.lim];exact hl,⟨by have:=h.ext.next;omega,by rw [fr2.lim,el,fr.lim,hx.lim,h.ext.lim],fun i hi=>?_⟩,hbb,h.hN⟩
 ·refine Stk.up (d2.keep f2n fun i o l c e hb hi=>?_) fun i o l c e=>?_
  ·refine fr2.keep i hi ?_ fun o' l' c' e'=>?_
   ·rcases nw i o l c e with h6 | ⟨o',l',c',h6⟩
    ·omega
    ·have:=(kb i _ _ _ h6).1;omega
   ·rcases nw i o l c e with h6 | ⟨o2,l2,c2',h6⟩
    ·have:=(kb2 i _ _ _ e').2;omega
    ·exact h5 i _ _ _ h6 _ _ _ e'
  ·rcases nw i o l c e with h6 | ⟨o',l',c',h6⟩
   ·omega
   ·exact (kb i _ _ _ h6).1
 ·intro i o l c e o' l' c' e'
  have hi:=(k'lt i o l c e).2
  rcases nw2 i o' l' c' e' with h6 | ⟨o2,l2,c2',h6⟩
  ·omega
  ·rcases nw i o l c e with h7 | ⟨o3,l3,c3,h7⟩
   ·have:=(kb2 i _ _ _ h6).2;omega
   ·exact h5 i _ _ _ h7 _ _ _ h6
 ·have hb0:=h.ext.next
  exact (fr2.keep i (by omega) (by omega) (fun o l c e=>by have:=(kb2 i o l c e).1;omega)).trans ((em i (.inl (by omega))).trans ((fr.keep i (by omega) (by omega) (fun o l c e=>by have:=(kb i o l c e).1;omega)).trans ((hx.keep i (by omega)).trans (h.ext.keep i hi))))
theorem Two.go [Sym] (h:Two base B b b2 ws E pc ca s) {i:Nat} (hi:i<5):∃ s1,cc 13 [ptr b 0,.int .i64 i] s=some (.tuple #[],s1)∧(∀ j,j<s.next→j≠b→s1.mem.get j=s.mem.get j)∧
  ∃ s2,cc 19 [ptr b2 0,.int .i64 i] s1=some (.tuple #[],s2)∧Two base B b b2 ws E (E.getD i 0) [] s2:=by
 obtain ⟨k,k2,h1,h2,h3,h4,h5⟩:=h.ex
 obtain ⟨lb,lb2,lbn⟩:=h.lt
 have hB:=h.hB
 have hbb:=h.bb
 obtain ⟨s1,c1,q1,m1⟩:=zsE h1 h.hE hi
 have n1:=m1.next
 have d3:MqI B s1 b2 ws E pc k2:=h2.keepHi n1 m1.lim fun j hj hj2 hj3=>m1.keep j hj3 (by simp;omega)
 obtain ⟨s2,c2,r1,m2⟩:=zvx d3 h.hE hi
 have n2:=m2.next
 refine ⟨s1,c1,fun j hj hjb=>m1.keep j hj (by simpa using hjb),s2,c2,⟨zaF,zaF,q1.keep n2 m2.lim fun j hj hj2=>m2.keep j hj2 (by simp;omega),r1,Stk.nil,Stk.nil,fun i o l c e=>by cases e⟩,h.hE,by omega,by rw [m2.lim,m1.lim];exact h.hl,⟨by have:=h.ext.next;omega,by rw [m2.lim,m1.lim,h.ext.lim],fun j hj=>?_⟩,hbb,h.hN⟩
 have hb0:=h.ext.next
 exact (m2.keep j (by omega) (by simp;omega)).trans ((m1.keep j (by omega) (by simp;omega)).trans (h.ext.keep j hj))
end
end Go.Proofs.YtcplfckncandkaaGreatDoorE
namespace Go.Proofs.YtcplfckncandkaaGreatDoorE
open Go Go.E Go.Proofs
theorem zxN (a0 a1 a2 a3 a4 a5 a6 a7 a8 a9 a10 a11 b0 b1 b2 b3 b4 b5 b6 b7 b8 b9 b10 b11:Int):eqA Tryz.prog Lk0 74 (.agg #[.int .i64 a0,.int .i64 a1,.int .i64 a2,.int .i64 a3,.int .i64 a4,.int .i64 a5,.int .i64 a6,.int .i64 a7,.int .i64 a8,.int .i64 a9,.int .i64 a10,.int .i64 a11]) (.agg #[.int .i64 b0,.int .i64 b1,.int .i64 b2,.int .i64 b3,.int .i64 b4,.int .i64 b5,.int .i64 b6,.int .i64 b7,.int .i64 b8,.int .i64 b9,.int .i64 b10,.int .i64 b11])=
  some (decide (a0=b0)&&(decide (a1=b1)&&(decide (a2=b2)&&(decide (a3=b3)&&(decide (a4=b4)&&(decide (a5=b5)&&(decide (a6=b6)&&(decide (a7=b7)&&(decide (a8=b8)&&(decide (a9=b9)&&(decide (a10=b10)&&(decide (a11=b11)&&true)))))))))))):=by kernel_rfl
theorem zwR {w:Wd} (hw:w.length=12):eqA Tryz.prog Lk0 74 (wV w) (wV w)=some true:=by
 obtain ⟨a,b,c,d,e,f,g,i,j,k,l,m,rfl⟩:=len12 hw
 refine (zxN a b c d e f g i j k l m a b c d e f g i j k l m).trans ?_
 simp
section
variable {B b : Nat} {s : SS} {ws : List Nat} {E : List Int} {pc : Int} {k : Value} {ca : List Int}
theorem zxO [Sym] (h:SqI B s b ws E pc k) (hE:E.length=5) (m:Nat):cc 14 [ptr b 0] (s.ro m)=some (.int .i64 pc,s.ro m):=by
 refine zjN _ (s.ro m) ?_
 have l:((s.ro m).ro (s.ro m).next).ld b (0+6)=some (.int .i64 pc):=(h.pcs hE).1
 simp only [zje,zaw,zob,zab,l,zaa]
 rfl
theorem ztU [Sym] (h:SqI B s b ws E pc k) (hE:E.length=5) {B':Nat} (hs:Stk B' s k ca) (m:Nat):cc 11 [ptr b 0] (s.ro m)=some (.int .i64 ca.length,s.ro m):=by
 refine zhq _ (s.ro m) ?_
 have l:((s.ro m).ro (s.ro m).next).ld b (0+7)=some k:=(h.pcs hE).2.1
 simp only [zgM,zaw,zob,zab,l,hs.len]
 rfl
theorem zvA [Sym] (h:SqI B s b ws E pc k) (hE:E.length=5) {X:Nat} (h0:0≤pc) (hX:ws[pc.toNat]?=some X) (m:Nat):∃ n,s.next≤n∧cc 21 [ptr b 0] (s.ro m)=some (wV (zbd X),(s.ro m).adv n):=by
 have hp:=h.pcs hE
 obtain ⟨v,h1,h2,h3,h4⟩:=h
 have hi:pc.toNat<ws.length:=(List.getElem?_eq_some_iff.1 hX).1
 have x1:Ext (s.ro s.next) ((s.ro s.next).new (.cells Z12 0)):=(Ext.refl _).new _
 have l4:((s.ro s.next).new (.cells Z12 0)).ld b 0=some v:=(zcR x1 (show b<(s.ro s.next).next from h1.2.1)).trans (by show s.ld b 0=_;rw [h1.ld];rfl)
 have l7:((s.ro s.next).new (.cells Z12 0)).ld b (0+6)=some (.int .i64 pc):=(zcR x1 (show b<(s.ro s.next).next from h1.2.1)).trans hp.1
 obtain ⟨p8,b1,b2,_⟩:=(Rg.ext (st:=s.ro s.next) h3 x1).load (j:=pc) h0 (by omega) (zaM zaY ws pc.toNat X hX) (zaY X)
 have b2':((s.ro s.next).new (.cells Z12 0)).ldN p8.1 p8.2 12=some (wV (zbd X)):=b2
 obtain ⟨s10,e10,a10,x10,n10⟩:=zaQ (n:=12) (st:=s.ro s.next) (zlr _) (r:=Z12) (row:=zbA X) (v:=wV (zbd X)) (zaC _) (zaY X) (zcc _) rfl
 have r11:s10.rdN s.next 0 12=some (wV (zbd X)):=a10.rdN (zaY X)
 refine ⟨s10.next,by have:=x10.next;exact this,zii _ (s.ro m) ?_⟩
 unfold zhf
 simp only [zaw,zob,zab]
 have l7':(((s.ro s.next).new (.cells Z12 0)).ld b (0+6)).bind (asI .i64)=some pc:=by rw [l7];rfl
 refine zbi.2 ⟨_,l4,?_⟩
 refine zbi.2 ⟨_,l7',?_⟩
 refine zbi.2 ⟨_,b1,?_⟩
 refine zbi.2 ⟨_,b2',?_⟩
 refine zbi.2 ⟨_,e10,?_⟩
 refine zbi.2 ⟨_,r11,?_⟩
 rw [zou];rfl
end
noncomputable def chkK {α:Type} (r' s' m':Value) (s:SS) (F:SS→Option α) (G:SS→Option α):Option α:=
 (cc 14 [s'] (s.ro s.next)).bind fun a=>
 ((some a.1).bind (asI .i64)).bind fun b=>
 (zaj m').bind fun c=>
 (addr? c).bind fun d=>
 (((a.2.ro s.lim).ld d.1 (d.2+2)).bind (asI .i64)).bind fun e=>
 cond (!(decide (b=e))) (F (a.2.ro s.lim)) (
 (cc 11 [s'] ((a.2.ro s.lim).ro (a.2.ro s.lim).next)).bind fun f=>
 ((some f.1).bind (asI .i64)).bind fun g=>
 (zaj m').bind fun h=>
 (addr? h).bind fun i=>
 ((f.2.ro (a.2.ro s.lim).lim).ld i.1 (i.2+3)).bind fun j=>
 ((lenV j).bind (asI .i64)).bind fun k=>
 cond (!(decide (g=k))) (F (f.2.ro (a.2.ro s.lim).lim)) (
 (cc 14 [s'] (f.2.ro (a.2.ro s.lim).lim)).bind fun l=>
 ((some l.1).bind (asI .i64)).bind fun m=>
 cond (decide (m<0)) (F l.2) (
 (cc 14 [s'] (l.2.ro l.2.next)).bind fun n=>
 ((some n.1).bind (asI .i64)).bind fun o=>
 (addr? r').bind fun p=>
 ((n.2.ro l.2.lim).ld p.1 p.2).bind fun q=>
 ((lenV q).bind (asI .i64)).bind fun t=>
 cond (decide (t≤o)) (F (n.2.ro l.2.lim)) (
 (cc 21 [s'] ((n.2.ro l.2.lim).ro (n.2.ro l.2.lim).next)).bind fun u=>
 (zaj m').bind fun v=>
 (addr? v).bind fun w=>
 ((u.2.ro (n.2.ro l.2.lim).lim).ld w.1 w.2).bind fun x=>
 (zaj m').bind fun y=>
 (addr? y).bind fun z=>
 (((u.2.ro (n.2.ro l.2.lim).lim).ld z.1 (z.2+2)).bind (asI .i64)).bind fun A=>
 (zam x A 12).bind fun B=>
 ((u.2.ro (n.2.ro l.2.lim).lim).ldN B.1 B.2 12).bind fun C=>
 (((eqA Tryz.prog Lk0 74 u.1 C).bind fun r=>some (.bool !r)).bind asB).bind fun D=>
 cond D (F (u.2.ro (n.2.ro l.2.lim).lim)) (G (u.2.ro (n.2.ro l.2.lim).lim))))))
theorem Two.chk [Sym] {α:Type} {base s:SS} {B b b2:Nat} {ws:List Nat} {E:List Int} {pc:Int} {ca:List Int} (h:Two base B b b2 ws E pc ca s) (hp:InN ws.length pc) {rb:Nat} {wv ev:Value} (ha:At base rb [wv,ev]) (hw:lenV wv=some (.int .i64 (ws.length:Int))) (F G:SS→Option α):
  ∃ s',Ext s s'∧chkK (ptr rb 0) (ptr b 0) (ptr b2 0) s F G=G s':=by
 obtain ⟨k,k2,h1,h2,h3,h4,h5⟩:=h.ex
 obtain ⟨X,hX⟩:∃ X,ws[pc.toNat]?=some X:=⟨_,zge (by have:=hp.1;have:=hp.2;omega)⟩
 have c1:=zxO h1 h.hE s.next
 have c2:=ztU h1 h.hE h3 s.next
 have c3:=zsC h1 h.hE
 obtain ⟨n,hn,c4⟩:=zvA h1 h.hE hp.1 hX s.next
 obtain ⟨d1,d2,_⟩:=h2.ld h.hE
 have e1:(s.ro s.next).ro s.lim=s:=rfl
 have e2:((s.ro s.next).adv n).ro s.lim=s.adv n:=rfl
 have hv:∃ v p,s.ld b2 0=some v∧zam v pc 12=some p∧s.ldN p.1 p.2 12=some (wV (zbd X)):=by
  obtain ⟨v,w,q1,q2,q3,q4,q5,q6⟩:=h2
  obtain ⟨p,b1,b2,_⟩:=q3.load (j:=pc) hp.1 hp.2 (zaM zaY ws pc.toNat X hX) (zaY X)
  exact ⟨v,p,by rw [q1.ld];rfl,b1,b2⟩
 obtain ⟨v,p,l1,l2,l3⟩:=hv
 have l1':(s.adv n).ld b2 0=some v:=l1
 have d1':(s.adv n).ld b2 (0+2)=some (.int .i64 pc):=d1
 have l3':(s.adv n).ldN p.1 p.2 12=some (wV (zbd X)):=l3
 have lr:s.ld rb 0=some wv:=(ha.ext h.ext).ld
 have lw:(lenV wv).bind (asI .i64)=some (ws.length:Int):=by rw [hw];rfl
 have q1:¬ pc<0:=by have:=hp.1;omega
 have q2:¬ (ws.length:Int)≤pc:=by have:=hp.2;omega
 have q3:=h4.len
 refine ⟨s.adv n,(Ext.refl _).adv hn,?_⟩
 unfold chkK
 rw [c1,zob]
 simp only [zob,zaa,zaw,zab,e1,d1,decide_true,znt,zcf]
 rw [c2,zob]
 simp only [zob,zaa,e1,d2,q3,decide_true,znt,zcf]
 rw [c3,zob]
 simp only [zob,zaa,zdf q1,zcf]
 rw [c1,zob]
 simp only [zob,zaa,e1,lr,lw,zdf q2,zcf]
 rw [c4,zob]
 simp only [e2,l1',zob,d1',zaa,l2,l3',zwR (zsz X),znt,zaf,zcf]
end Go.Proofs.YtcplfckncandkaaGreatDoorE
namespace Go.Proofs.YtcplfckncandkaaGreatDoorE
open Go Go.E Go.Proofs
structure Step5 where
 go:Bool
 en:Int
 is:Bool
 tb:Int
 op:Int
def stepRow (x:Step5):List Value:=[.bool x.go,.int .i64 x.en,.bool x.is,.int .i64 x.tb,.int .i64 x.op]
theorem stepRow_len (x:Step5):(stepRow x).length=5:=rfl
theorem zvB {g:Nat} (h:12≤g):Lk0.glob g=false:=by
 cases hg:Lk0.glob g with
 | false=>rfl
 | true=>
   obtain ⟨x,hx,rfl⟩:=List.mem_map.1 (zvr g hg)
   have:=ztO x hx
   omega
theorem bar_ok {s:SS} {i k:Nat} {row:List Value} (h:At s i row) (hi:12≤i):zm6 Lk0 s (ptr i k)=some (i,row):=by
 unfold zm6
 have hb:(Nat.blt i s.next&&!Lk0.glob i)=true:=by rw [zvB hi,zae,Nat.blt_eq];exact ⟨h.2.1,rfl⟩
 simp only [zab,zob,h.1,hb,zct]
section
variable {base s : SS} {B b b2 : Nat} {ws : List Nat} {E : List Int} {pc : Int} {ca : List Int}
theorem Two.goOut [Sym] (h:Two base B b b2 ws E pc ca s) {n:Int} (hn:¬ (0≤n∧n≤4)):cc 13 [ptr b 0,.int .i64 n] s=some (.tuple #[],s)∧cc 19 [ptr b2 0,.int .i64 n] s=some (.tuple #[],s):=by
 refine ⟨zjO _ _ s ?_,ze6 _ _ s ?_⟩
 ·by_cases h0:0≤n
  ·have h1:¬ n≤4:=fun h1=>hn ⟨h0,h1⟩
   have h2:¬ n<5:=by omega
   simp only [zg0,zdt h0,zct,zdf h1,zdf h2,zcf]
  ·simp only [zg0,zdf h0,zcf]
 ·by_cases h0:0≤n
  ·have h1:¬ n≤4:=fun h1=>hn ⟨h0,h1⟩
   simp only [zcY,zdt h0,zct,zdf h1,zcf]
  ·simp only [zcY,zdf h0,zcf]
theorem Two.goAny [Sym] (h:Two base B b b2 ws E pc ca s) (hp:InN ws.length pc) (hc:∀ a∈ca,InN ws.length a) (hl:ca.length≤8) (hEn:∀ i,i<5→InN ws.length (E.getD i 0)) (n:Int):
  ∃ s1 s2 pc' ca',cc 13 [ptr b 0,.int .i64 n] s=some (.tuple #[],s1)∧(∀ j,j<s.next→j≠b→s1.mem.get j=s.mem.get j)∧cc 19 [ptr b2 0,.int .i64 n] s1=some (.tuple #[],s2)∧Two base B b b2 ws E pc' ca' s2∧InN ws.length pc'∧(∀ a∈ca',InN ws.length a)∧ca'.length≤8:=by
 by_cases hn:0≤n∧n≤4
 ·obtain ⟨i,rfl⟩:∃ i:Nat,n=(i:Int):=⟨n.toNat,by omega⟩
  obtain ⟨s1,c1,k1,s2,c2,h2⟩:=h.go (i:=i) (by omega)
  exact ⟨s1,s2,_,[],c1,k1,c2,h2,hEn i (by omega),(fun a ha=>by cases ha),by simp⟩
 ·obtain ⟨c1,c2⟩:=h.goOut hn
  exact ⟨s,s,pc,ca,c1,fun _ _ _=>rfl,c2,h,hp,hc,hl⟩
theorem zpY [Sym] (hX:12≤base.next) (hw:zdQ ws=true) (hEn:∀ i,i<5→InN ws.length (E.getD i 0)) {rb:Nat} {wv ev:Value} (ha:At base rb [wv,ev]) (hwv:lenV wv=some (.int .i64 (ws.length:Int))) (steps:List Step5) (hn:steps.length≤1000) (tv:Value) (hT:Rg base tv (rowsF stepRow steps) 5 steps.length):
  ∀ (k j:Nat) (pc:Int) (ca:List Int) (s:SS),steps.length=k+j→Two base B b b2 ws E pc ca s→InN ws.length pc→(∀ a∈ca,InN ws.length a)→ca.length≤8→
   ∃ s',zbn 8 [ptr rb 0,ptr b 0,ptr b2 0,tv,.int .i64 steps.length,.int .i64 j] s=some (0,[],s')
 | 0,j,pc,ca,s,hk,h,hp,hc,hl=>by
   have hlt:¬ (j:Int)<(steps.length:Int):=by omega
   refine ⟨s,zc9 _ _ _ _ _ _ s ?_⟩
   simp only [zcE,zdf hlt,zcf]
 | k+1,j,pc,ca,s,hk,h,hp,hc,hl=>by
   have hlt:(j:Int)<(steps.length:Int):=by omega
   obtain ⟨x,hx⟩:∃ x,steps[j]?=some x:=⟨_,zge (by omega)⟩
   obtain ⟨lb,lb2,lbn⟩:=h.lt
   have hbb:=h.bb
   have hls:s.lim≤s.next:=by have:=h.hl;omega
   obtain ⟨p1,e1,l1,_⟩:=(hT.ext h.ext).load (j:=(j:Int)) (by omega) hlt (zaM stepRow_len steps j x hx) (stepRow_len x)
   obtain ⟨s4,e4,a4,x4,n4⟩:=zaQ (st:=s) hls (r:=[.bool false,.int .i64 0,.bool false,.int .i64 0,.int .i64 0]) (zaC (stepRow x)) (n:=5) (stepRow_len x) rfl rfl
   have hw1:IntKind.wrap .i64 ((j:Int)+1)=((j+1:Nat):Int):=zaS (by omega)
   have t0:s4.ld s.next 0=some (.bool x.go):=a4.ld
   have t1:s4.ld s.next 1=some (.int .i64 x.en):=a4.ld
   have t2:s4.ld s.next 2=some (.bool x.is):=a4.ld
   have t3:s4.ld s.next 3=some (.int .i64 x.tb):=a4.ld
   have t4:s4.ld s.next 4=some (.int .i64 x.op):=a4.ld
   have fin:∀ (pc':Int) (ca':List Int) (s2:SS),Two base B b b2 ws E pc' ca' s2→InN ws.length pc'→(∀ a∈ca',InN ws.length a)→ca'.length≤8→
     ∃ s',chkK (ptr rb 0) (ptr b 0) (ptr b2 0) s2 (fun st=>some (1,[.bool false],st)) (fun st=>zbn 8 [ptr rb 0,ptr b 0,ptr b2 0,tv,.int .i64 steps.length,.int .i64 (IntKind.wrap .i64 ((j:Int)+1))] st)=some (0,[],s'):=fun pc' ca' s2 h2 hp2 hc2 hl2=>by
    obtain ⟨s3,x3,h3⟩:=h2.chk hp2 ha hwv (fun st=>some (1,[.bool false],st)) (fun st=>zbn 8 [ptr rb 0,ptr b 0,ptr b2 0,tv,.int .i64 steps.length,.int .i64 (IntKind.wrap .i64 ((j:Int)+1))] st)
    obtain ⟨s',ih⟩:=zpY hX hw hEn ha hwv steps hn tv hT k (j+1) pc' ca' s3 (by omega) (h2.extend x3) hp2 hc2 hl2
    exact ⟨s',by rw [h3,hw1];exact ih⟩
   cases hgo:x.go with
   | true=>
     rw [hgo] at t0
     obtain ⟨s7,s9,pc',ca',c7,k7,c9,h9,hp9,hc9,hl9⟩:=(h.extend x4).goAny hp hc hl hEn x.en
     have t1':s7.ld s.next 1=some (.int .i64 x.en):=by
      unfold SS.ld
      rw [k7 s.next (by omega) (by omega)]
      exact t1
     obtain ⟨s',hf⟩:=fin pc' ca' s9 h9 hp9 hc9 hl9
     refine ⟨s',zc9 _ _ _ _ _ _ s ?_⟩
     simp only [zcE,zdt hlt,zct,e1,zob,l1]
     rw [e4,zob]
     simp only [t0,zob,zaf,zct,t1,zaa]
     rw [c7,zob]
     simp only [t1',zob,zaa]
     rw [c9,zob]
     exact hf
   | false=>
     rw [hgo] at t0
     have hw42:=bar_ok (k:=0) a4 (by have:=h.ext.next;omega)
     have hxf:Ext s (s4.frz (s.next,stepRow x)):=⟨by show s.next≤s4.next;omega,x4.lim,fun i hi=>by
      show (s4.mem.upd s.next _).get i=_
      rw [PT.get_upd,if_neg (by omega)]
      exact x4.keep i hi⟩
     obtain ⟨s43,c43,k43,n43,l43,hrest⟩:=h.step hp hl hxf x.is x.tb x.op
     have hfn:(s4.frz (s.next,stepRow x)).next=s4.next:=rfl
     obtain ⟨s48,c48,h48⟩:=hrest (s43.unfrz (s.next,stepRow x)) rfl rfl (fun i hi=>by
      show (s43.mem.upd s.next _).get i=_
      rw [PT.get_upd,if_neg (by omega)])
     have hget:(s43.unfrz (s.next,stepRow x)).mem.get s.next=some (.cells (stepRow x) 0):=by
      show (s43.mem.upd s.next _).get s.next=_
      rw [PT.get_upd,if_pos rfl]
     have u2:(s43.unfrz (s.next,stepRow x)).ld s.next 2=some (.bool x.is):=by rw [SS.ld_cells hget];rfl
     have u3:(s43.unfrz (s.next,stepRow x)).ld s.next 3=some (.int .i64 x.tb):=by rw [SS.ld_cells hget];rfl
     have u4:(s43.unfrz (s.next,stepRow x)).ld s.next 4=some (.int .i64 x.op):=by rw [SS.ld_cells hget];rfl
     obtain ⟨r1,r2,r3⟩:=zwQ hw h.hE hEn hp hc hl x.is x.tb x.op
     obtain ⟨s',hf⟩:=fin _ _ s48 h48 r1 r2 r3
     have hbe:(!((zbM ws E pc ca x.is x.tb x.op).2.2==(zbM ws E pc ca x.is x.tb x.op).2.2))=false:=by simp
     refine ⟨s',zc9 _ _ _ _ _ _ s ?_⟩
     simp only [zcE,zdt hlt,zct,e1,zob,l1]
     rw [e4,zob]
     simp only [t0,zob,zaf,zcf,t2,t3,t4,zaa]
     rw [hw42,zob,c43,zob]
     simp only [zob,zaf,u2,u3,u4,zaa]
     rw [c48,zob]
     simp only [zob,zaf,hbe,zcf]
     exact hf
end
end Go.Proofs.YtcplfckncandkaaGreatDoorE
namespace Go.Proofs.YtcplfckncandkaaGreatDoorE
open Go Go.E Go.Proofs
def zgt (d:Int):List En→List UInt8→Int
 | [],_=>d
 | e::r,n=>if e.1=n then zgt e.2 r n else zgt d r n
theorem zrp:∀ (es:List En) (d:Int) (n:List UInt8),n∉es.map (·.1)→zgt d es n=d
 | [],d,n,_=>rfl
 | e::r,d,n,h=>by
   simp only [List.map_cons,List.mem_cons,not_or] at h
   unfold zgt
   rw [if_neg (fun x=>h.1 x.symm)]
   exact zrp r d n h.2
theorem zoF:∀ (es:List En),(es.map (·.1)).Nodup→(∀ e∈es,0≤e.2)→∀ n,match zeC es n with
  | none=>zgt (-1) es n= -1
  | some x=>zgt (-1) es n=x∧0≤x
 | [],_,_,n=>rfl
 | e::r,hd,h0,n=>by
   simp only [List.map_cons,List.nodup_cons] at hd
   unfold zeC zgt
   by_cases h:e.1=n
   ·rw [if_pos h,if_pos h]
    subst h
    exact ⟨zrp r _ _ hd.1,h0 e (by simp)⟩
   ·rw [if_neg h,if_neg h]
    exact zoF r hd.2 (fun e he=>h0 e (by simp [he])) n
theorem zxP {N:Nat} {es:List En} (h:zdO N es=true):N≤2048∧es.length≤255∧(es.map (·.1)).Nodup∧∀ e∈es,0≤e.2∧e.2<(N:Int):=by
 unfold zdO at h
 simp only [zae,Nat.ble_eq] at h
 obtain ⟨h1,h2,h3⟩:=h
 rw [List.all_eq_true] at h3
 have key:∀ i e,es[i]?=some e→e.1∉(es.take i).map (·.1)∧0≤e.2∧e.2<(N:Int):=fun i e he=>by
  have hi:i<es.length:=(List.getElem?_eq_some_iff.1 he).1
  have:=h3 i (List.mem_range.2 hi)
  rw [zg1 he] at this
  simp only [zae,Bool.not_eq_true',decide_eq_false_iff_not] at this
  exact ⟨this.2.2.2,by omega,by omega⟩
 refine ⟨h1,h2,?_,fun e he=>?_⟩
 ·rw [List.Nodup,List.pairwise_iff_getElem]
  intro i j hi hj hij e
  simp only [List.length_map] at hi hj
  have hk:=(key j es[j] (zge hj)).1
  refine hk ?_
  simp only [List.getElem_map] at e
  rw [← e]
  refine List.mem_map_of_mem ?_
  rw [List.mem_take_iff_getElem]
  exact ⟨i,by omega,rfl⟩
 ·obtain ⟨i,hi,rfl⟩:=List.mem_iff_getElem.1 he
  exact (key i _ (zge hi)).2
theorem rnew21 [Sym] {r b:Nat} {v59 ev:Value} {t60 t61:Int} {n:List UInt8} (es:List En) (hsz:es.length≤1099511627776) (base:SS) (hll:base.lim≤base.next) (hv:Rg base ev (rowsF zaJ es) 2 es.length):∀ (k j:Nat) (d:Int) (s:SS),es.length=k+j→Ext base s→
  ∃ s',Ext base s'∧zas 21 [ptr r 0,ptr b 0,.string (mkS n),.int .i64 d,v59,.int .i64 t60,.int .i64 t61,ev,.int .i64 es.length,.int .i64 j] s=some (0,[ptr r 0,ptr b 0,.int .i64 (zgt d (es.drop j) n),v59,.int .i64 t60,.int .i64 t61],s'):=by
 intro k
 induction k with
 | zero=>
   intro j d s hk he
   have h:¬ (j:Int)<(es.length:Int):=by omega
   rw [List.drop_of_length_le (by omega)]
   refine ⟨s,he,zc8 _ _ _ _ _ _ _ _ _ _ s ?_⟩
   simp only [zcD,zdf h,zcf]
   rfl
 | succ k ih=>
   intro j d s hk he
   have h:(j:Int)<(es.length:Int):=by omega
   obtain ⟨e,hg⟩:∃ e,es[j]?=some e:=⟨_,zge (by omega)⟩
   obtain ⟨p1,b1,b2,_⟩:=(hv.ext he).load (j:=(j:Int)) (by omega) h (zaM zdT es j e hg) rfl
   have b2':s.ldN p1.1 p1.2 2=some (.agg (zaJ e).toArray):=b2
   obtain ⟨s4,e4,a4,x4,n4⟩:=zaQ (n:=2) (st:=s) (he.ll hll) (r:=zaJ ([],0)) (row:=zaJ e) (v:=.agg (zaJ e).toArray) (zaC _) rfl rfl rfl
   have e4':(s.new (.cells [.string ⟨#[]⟩,.int .i64 0] 0)).stV s.next 0 2 (.agg (zaJ e).toArray)=some s4:=e4
   have he4:=he.trans x4
   have l5:s4.ld s.next 0=some (.string (mkS e.1)):=a4.ld
   have l6:s4.ld s.next 1=some (.int .i64 e.2):=a4.ld
   have hw1:=zaS (i:=j) (by omega)
   rw [drop_cons hg]
   unfold zgt
   by_cases hf:e.1=n
   ·rw [if_pos hf]
    obtain ⟨s',f1,f2⟩:=ih (j+1) e.2 s4 (by omega) he4
    refine ⟨s',f1,zc8 _ _ _ _ _ _ _ _ _ _ s ?_⟩
    simp only [zcD,zdt h,zct,b1,b2',e4',zob,l5,zad,zce,zdt hf,l6,zaa,hw1]
    exact f2
   ·rw [if_neg hf]
    obtain ⟨s',f1,f2⟩:=ih (j+1) d s4 (by omega) he4
    refine ⟨s',f1,zc8 _ _ _ _ _ _ _ _ _ _ s ?_⟩
    simp only [zcD,zdt h,zct,b1,b2',e4',zob,l5,zad,zce,zdf hf,zcf,hw1]
    exact f2
theorem rnew17 [Sym] {r b:Nat} {wv ev v v59:Value} {ws:List Nat} {es:List En} {base:SS} (hb:base.next=b) (hll:base.lim≤base.next) (hsz:es.length≤255) (hnd:(es.map (·.1)).Nodup) (h0:∀ e∈es,0≤e.2) (hr:base.ld r (0+1)=some ev) (hlt:r<base.next) (hev:Rg base ev (rowsF zaJ es) 2 es.length) {base2:SS} (h2b:Ext base base2) (h59:Rg base2 v59 (rowsF strRow zbz) 1 5) (hv59:∀ i l c,v59=.slice (some ⟨i,0,none⟩) l c→i≠b) (ho:Own (b+1) base2 v (rowsF zbA ws) 12 ws.length) (hb2:b<base2.next):∀ (k i:Nat) (pre:List Int) (w:Value) (s:SS),5=k+i→pre.length=i→Mod [b] base2 s→Ext base s→At s b (ziB v w 0 zaF)→Own base2.next s w (rowsF znF pre) 1 pre.length→
  (match zfe es (zbz.drop i) with
  | none=>∃ s',Ext base s'∧zas 17 [ptr r 0,ptr b 0,v59,.int .i64 5,.int .i64 i] s=some (1,[.pointer none,.bool false],s')
  | some xs=>∃ s' w',Ext base s'∧zas 17 [ptr r 0,ptr b 0,v59,.int .i64 5,.int .i64 i] s=some (0,[ptr b 0],s')∧At s' b (ziB v w' 0 zaF)∧Own (b+1) s' v (rowsF zbA ws) 12 ws.length∧Own base2.next s' w' (rowsF znF (pre++xs)) 1 5):=by
 intro k
 induction k with
 | zero=>
   intro i pre w s hk hp hm he ha how
   have h:¬ (i:Int)<5:=by omega
   have hi:i=5:=by omega
   subst hi
   rw [hp] at how
   refine ⟨s,w,he,zc7 _ _ _ _ _ s ?_,ha,ho.modLt hm (by simp),by rw [List.append_nil];exact how⟩
   simp only [zcC,zdf h,zcf]
 | succ k ih=>
   intro i pre w s hk hp hm he ha how
   have h:(i:Int)<5:=by omega
   obtain ⟨n,hn⟩:∃ n,zbz[i]?=some n:=⟨_,zge (by rw [zrk];omega)⟩
   obtain ⟨p1,b1,b2⟩:=zpV (h59.mod hm (fun i l c e hi=>hv59 i l c e (by simpa using hi))) hn
   have l4:s.ld r (0+1)=some ev:=(zcR he hlt).trans hr
   have q5:=hev.lenI
   obtain ⟨s6,x6,f6⟩:=rnew21 (r:=r) (b:=b) (v59:=v59) (t60:=5) (t61:=i) (n:=n) es (by omega) s (he.ll hll) (hev.ext he) es.length 0 (-1) s rfl (Ext.refl _)
   rw [List.drop_zero] at f6
   have f6':zas 21 [ptr r 0,ptr b 0,.string (mkS n),.int .i64 (-1),v59,.int .i64 5,.int .i64 i,ev,.int .i64 es.length,.int .i64 0] s=_:=f6
   have he6:=he.trans x6
   have a6:=ha.ext x6
   have hfind:=zoF es hnd h0 n
   rw [drop_cons hn]
   unfold zfe
   cases hq:zeC es n with
   | none=>
     rw [hq] at hfind
     simp only at hfind
     have hneg:zgt (-1) es n<0:=by rw [hfind];omega
     refine ⟨s6,he6,zc7 _ _ _ _ _ s ?_⟩
     simp only [zcC,zdt h,zct,b1,zob,b2,zad,zab,l4,q5]
     refine zbi.2 ⟨_,f6',?_⟩
     simp only [zgs,zgz,zob,zaa,zdt hneg,zct]
   | some x=>
     rw [hq] at hfind
     simp only at hfind
     obtain ⟨hx,hx0⟩:=hfind
     have hneg:¬ zgt (-1) es n<0:=by omega
     have l15:s6.ld b (0+1)=some w:=a6.ld
     have h26:base2.next≤s6.next:=zlt hm.next x6.next
     obtain ⟨w',s',g1,g2,g3,g4,g5⟩:=(how.ext x6).pushM (row:=znF x) (bt:=8) h26 (by rw [he6.lim];have:=h2b.next;omega) rfl (by omega) rfl (by omega) (by omega)
     have hcv:=g2.cell
     have ha':At s' b (ziB v w 0 zaF):=⟨(g5 b hb2).trans a6.1,by have:=a6.2.1;omega,by rw [g3];exact a6.2.2⟩
     obtain ⟨s2,e2,a2,m2,n2⟩:=ha'.set1V (k:=0+1) (x:=w') hcv.1 (by decide:1<4) hcv.2
     have m6:Mod [b] base2 s6:=hm.thenX x6
     have ms':Mod [b] base2 s':=⟨zlt m6.next g4,g3.trans m6.lim,fun j hj hS=>(g5 j hj).trans (m6.keep j hj hS)⟩
     have xs':Ext base s':=⟨zlt he6.next g4,g3.trans he6.lim,fun j hj=>(g5 j (by have:=h2b.next;omega)).trans (he6.keep j hj)⟩
     have xs2:Ext base s2:=((Mod.ofExt (S:=[]) xs').thenI m2 (.inl (by omega))).toExt
     have ms2:Mod [b] base2 s2:=ms'.then m2
     have o2:Own base2.next s2 w' (rowsF znF (pre++[x])) 1 (pre++[x]).length:=by
      rw [zbW,zc2,List.length_append,List.length_singleton]
      exact g2.modLt m2 (by simpa using hb2)
     have hres:=ih (i+1) (pre++[x]) w' s2 (by omega) (by simp [hp]) ms2 xs2 a2 o2
     have hw1:=zaS (i:=i) (by omega)
     have step:∀ rr,zas 17 [ptr r 0,ptr b 0,v59,.int .i64 5,.int .i64 (i+1:Nat)] s2=some rr→zas 17 [ptr r 0,ptr b 0,v59,.int .i64 5,.int .i64 i] s=some rr:=fun rr hrr=>by
      refine zc7 _ _ _ _ _ s ?_
      simp only [zcC,zdt h,zct,b1,zob,b2,zad,zab,l4,q5]
      refine zbi.2 ⟨_,f6',?_⟩
      simp only [zgs,zgz,zob,zaa,zdf hneg,zcf,zaw,zab,l15]
      rw [hx]
      refine zbi.2 ⟨_,g1,?_⟩
      simp only [e2,zob,hw1]
      exact hrr
     cases hq2:zfe es (zbz.drop (i+1)) with
     | none=>
       rw [hq2] at hres
       obtain ⟨s',y1,y2⟩:=hres
       exact ⟨s',y1,step _ y2⟩
     | some xs=>
       rw [hq2] at hres
       obtain ⟨s',w'',y1,y2,y3,y4,y5⟩:=hres
       rw [List.append_assoc] at y5
       exact ⟨s',w'',y1,step _ y2,y3,y4,y5⟩
theorem zsG [Sym] {ws:List Nat} {es:List En} (hnl:∀ e∈es,e.1.length≤1000000) {wv ev:Value} {st:SS} (hl:st.lim≤st.next) (hX:∀ X∈ws,X<2^64) (o1:Rg st wv (rowsF uRow ws) 1 ws.length) (o2:Rg st ev (rowsF zaJ es) 2 es.length):
  match newT ws es with
  | none=>∃ s',Ext st s'∧cc 18 [zbL wv ev] st=some (.tuple #[.pointer none,.bool false],s')
  | some E=>∃ s' b v w,Ext st s'∧cc 18 [zbL wv ev] st=some (.tuple #[ptr b 0,.bool true],s')∧st.next≤b∧At s' b (ziB v w (E.getD 0 0) zaF)∧Own (b+1) s' v (rowsF zbA ws) 12 ws.length∧Own (b+1) s' w (rowsF znF E) 1 5:=by
 have hc:(zbL wv ev).cells.toList=[wv,ev]:=by show (Value.agg [wv,ev].toArray).cells.toList=_;exact zaC _
 have x1:Ext st (st.new (.cells [wv,ev] 0)):=(Ext.refl _).new _
 have a1:At (st.new (.cells [wv,ev] 0)) st.next [wv,ev]:=At.new hl _
 have hn1:(st.new (.cells [wv,ev] 0)).next=st.next+1:=rfl
 obtain ⟨s1,hs1⟩:∃ s1,st.new (.cells [wv,ev] 0)=s1:=⟨_,rfl⟩
 rw [hs1] at x1 a1 hn1
 have l2:s1.ldN st.next 0 2=some (zbL wv ev):=a1.ldN rfl
 obtain ⟨s3,c3,x3⟩:=zrZ hnl (x1.ll hl) (o1.ext x1) (o2.ext x1)
 have hx3:=x1.trans x3
 unfold newT
 cases hG:zdO ws.length es with
 | false=>
   rw [hG] at c3
   refine ⟨s3,hx3,zcV _ st ?_⟩
   simp only [zcP,hc,hs1,l2,zob,c3,zaf,znf,zct]
 | true=>
   rw [hG] at c3
   obtain ⟨hw,hes,hnd,h0⟩:=zxP hG
   have hlm:s3.lim≤s3.next:=hx3.ll hl
   have a5:At (s3.new (.cells (ziB zaF zaF 0 zaF) 0)) s3.next (ziB zaF zaF 0 zaF):=At.new hlm _
   have x5:Ext s3 (s3.new (.cells (ziB zaF zaF 0 zaF) 0)):=(Ext.refl _).new _
   have l0:s3.ld st.next 0=some wv:=(a1.ext x3).ld
   have l6:(s3.new (.cells (ziB zaF zaF 0 zaF) 0)).ld st.next 0=some wv:=((a1.ext x3).ext x5).ld
   have q7:=o1.lenI
   have hlt:st.next<s3.next:=by have:=x3.next;omega
   have f5:=rnew5 (r:=st.next) (b:=s3.next) (wv:=wv) (ev:=ev) (tl:=[zaF,.int .i64 0,zaF]) (ws:=ws) rfl hlm hw hX l0 hlt (o1.ext hx3) ws.length 0 _ zaF rfl x5 a5 (Own.nil _ _ _)
   rw [zj4] at f5
   cases hW:zdQ ws with
   | false=>
     rw [hW] at f5
     obtain ⟨s8,x8,f8⟩:=f5
     have f8':zas 5 [ptr st.next 0,ptr s3.next 0,wv,.int .i64 ws.length,.int .i64 0] (s3.new (.cells (ziB zaF zaF 0 zaF) 0))=_:=f8
     have b0:Nat.beq 1 0=false:=rfl
     refine ⟨s8,hx3.trans x8,zcV _ st ?_⟩
     simp only [zcP,hc,hs1,l2,zob,c3,zaf,znt,zcf]
     refine zbi.2 ⟨_,l6,?_⟩
     refine zbi.2 ⟨_,q7,?_⟩
     refine zbi.2 ⟨_,f8',?_⟩
     simp only [b0,zcf,zgz,zgs,zob,zaf]
   | true=>
     rw [hW] at f5
     obtain ⟨s8,v,x8,f8,a8,o8⟩:=f5
     have f8':zas 5 [ptr st.next 0,ptr s3.next 0,wv,.int .i64 ws.length,.int .i64 0] (s3.new (.cells (ziB zaF zaF 0 zaF) 0))=_:=f8
     have b0:Nat.beq 0 0=true:=rfl
     have c11:cc 40 [] s8=some (.slice (some ⟨s8.next,0,none⟩) 5 5,s8.new (.cells (rowsF strRow zbz) 1)):=zis s8 rfl
     have x11:Ext s8 (s8.new (.cells (rowsF strRow zbz) 1)):=(Ext.refl _).new _
     have g58:Rg (s8.new (.cells (rowsF strRow zbz) 1)) (.slice (some ⟨s8.next,0,none⟩) 5 5) (rowsF strRow zbz) 1 5:=(zsy (st:=s8) (row:=rowsF strRow zbz) (n:=5) rfl (by omega)).rg
     have q12:(lenV (.slice (some ⟨s8.next,0,none⟩) 5 5)).bind (asI .i64)=some 5:=rfl
     have hb8:s3.next<s8.next:=a8.lt
     have f13:=rnew17 (r:=st.next) (b:=s3.next) (wv:=wv) (ev:=ev) (v:=v) (v59:=.slice (some ⟨s8.next,0,none⟩) 5 5) (ws:=ws) (es:=es) (base:=s3) rfl hlm hes hnd (fun e he=>(h0 e he).1) (a1.ext x3).ld hlt (o2.ext hx3) (base2:=s8.new (.cells (rowsF strRow zbz) 1)) (x8.trans x11) g58 (fun i l c e=>by cases e;omega) (o8.ext x11) (by show s3.next<s8.next+1;omega) 5 0 [] zaF _ rfl rfl (Mod.refl _) (x8.trans x11) (a8.ext x11) (Own.nil _ _ _)
     rw [List.drop_zero] at f13
     simp only [Bool.and_self,zct]
     cases hT:zfe es zbz with
     | none=>
       rw [hT] at f13
       obtain ⟨s13,x13,f13⟩:=f13
       have f13':zas 17 [ptr st.next 0,ptr s3.next 0,.slice (some ⟨s8.next,0,none⟩) 5 5,.int .i64 5,.int .i64 0] (s8.new (.cells (rowsF strRow zbz) 1))=_:=f13
       have b1:Nat.beq 1 0=false:=rfl
       refine ⟨s13,hx3.trans x13,zcV _ st ?_⟩
       simp only [zcP,hc,hs1,l2,zob,c3,zaf,znt,zcf]
       refine zbi.2 ⟨_,l6,?_⟩
       refine zbi.2 ⟨_,q7,?_⟩
       refine zbi.2 ⟨_,f8',?_⟩
       simp only [b0,zct,zgz,zgs,zob,c11,q12]
       refine zbi.2 ⟨_,f13',?_⟩
       simp only [b1,zcf,zgz,zgs,zob,zaf]
     | some E=>
       rw [hT] at f13
       obtain ⟨s13,w,x13,f13,a13,o13,ow⟩:=f13
       have f13':zas 17 [ptr st.next 0,ptr s3.next 0,.slice (some ⟨s8.next,0,none⟩) 5 5,.int .i64 5,.int .i64 0] (s8.new (.cells (rowsF strRow zbz) 1))=_:=f13
       have hE:E.length=5:=zk0 es zbz E hT
       rw [List.nil_append] at ow
       obtain ⟨x,hx⟩:∃ x,E[0]?=some x:=⟨_,zge (by omega)⟩
       have hx':E.getD 0 0=x:=by rw [List.getD_eq_getElem?_getD,hx];rfl
       have l17:s13.ld s3.next (0+1)=some w:=a13.ld
       have gw:=ow.rg
       rw [← hE] at gw
       obtain ⟨p18,d1,_,d3⟩:=gw.load (j:=((0:Nat):Int)) (by omega) (by omega) (zaM znG E 0 x hx) rfl
       have d1':zam w 0 1=some p18:=d1
       have d3':s13.ld p18.1 p18.2=some (.int .i64 x):=d3 0 _ rfl
       obtain ⟨s15,e15,a15,m15,n15⟩:=a13.set1 (k:=0+2) (x:=.int .i64 x) (by decide:2<4) rfl
       have hb2n:s3.next+1≤(s8.new (.cells (rowsF strRow zbz) 1)).next:=by show s3.next+1≤s8.next+1;omega
       refine ⟨s15,s3.next,v,w,hx3.trans ((Mod.ofExt (S:=[]) x13).thenI m15 (.inl (zlr _))).toExt,zcV _ st ?_,by omega,by rw [hx'];exact a15,o13.modLt m15 (by simp),(ow.low hb2n).modLt m15 (by simp)⟩
       simp only [zcP,hc,hs1,l2,zob,c3,zaf,znt,zcf]
       refine zbi.2 ⟨_,l6,?_⟩
       refine zbi.2 ⟨_,q7,?_⟩
       refine zbi.2 ⟨_,f8',?_⟩
       simp only [b0,zct,zgz,zgs,zob,c11,q12]
       refine zbi.2 ⟨_,f13',?_⟩
       simp only [b0,zct,zgz,zob,zaw,zab,l17,d1',d3',zaa,e15]
end Go.Proofs.YtcplfckncandkaaGreatDoorE
namespace Go.Proofs.YtcplfckncandkaaGreatDoorE
set_option maxRecDepth 1000000
open Go Go.E Go.Proofs
theorem zk1 [Sym] {base:SS} {B b:Nat} {ws:List Nat} {E:List Int} {q:Int×List Int×Bool} {s:SS} {i:Nat} (h:Sq base B b ws E q.1 q.2.1 s) (hi:i<3) (hq:inW ws q.1 q.2.1=true) (hn:(nx0 ws E q).2.2=false):
  ∃ s',Sq base B b ws E (nx0 ws E q).1 (nx0 ws E q).2.1 s'∧∀ r,zbh 6 [ptr b 0,.int .i64 (i+1:Nat)] s'=some r→zbh 6 [ptr b 0,.int .i64 i] s=some r:=by
 obtain ⟨s',c,h'⟩:=h.next hq false 0 0
 have hn':(zbM ws E q.1 q.2.1 false 0 0).2.2=false:=hn
 rw [hn'] at c
 have h3:(i:Int)<3:=by omega
 have hw:=zaS (i:=i) (by omega)
 refine ⟨s',h',fun r hr=>zeD _ _ s ?_⟩
 simp only [zfz,zdt h3,zct,c,zob,zaf,zcf,hw]
 exact hr
theorem zxQ [Sym] (st:SS) (hg:Gd st):∃ n,st.next≤n∧cc 6 [] st=some (.bool true,st.adv n):=by
 obtain ⟨s1,wv,ev,s7,s8,s10,b,ws,E,c1,e7,e8,l9,c10,q0,hp⟩:=zxL (st:=st.ro st.next) hg.ro (zlr _) (t:=zrn) (by decide) aliveQ
 unfold zvz at hp
 simp only [zae,Bool.not_eq_true',decide_eq_true_eq] at hp
 obtain ⟨i0,i1,i2,i3,f1,f2,f3,p3,f4,p4⟩:=hp
 obtain ⟨t1,q1,r1⟩:=zk1 (i:=0) (q:=(E.getD 0 0,[],false)) q0 (by omega) i0 f1
 obtain ⟨t2,q2,r2⟩:=zk1 (i:=1) q1 (by omega) i1 f2
 obtain ⟨t3,q3,r3⟩:=zk1 (i:=2) q2 (by omega) i2 f3
 have r4:zbh 6 [ptr b 0,.int .i64 (3:Nat)] t3=some (0,[ptr b 0],t3):=by
  refine zeD _ _ t3 ?_
  rfl
 have f13:zbh 6 [ptr b 0,.int .i64 0] s10=some (0,[ptr b 0],t3):=r1 _ (r2 _ (r3 _ r4))
 have c15:=q3.at
 obtain ⟨t4,c17,q4⟩:=q3.next i3 false 0 0
 have f4':(zbM ws E (nx0 ws E (nx0 ws E (nx0 ws E (E.getD 0 0,[],false)))).1 (nx0 ws E (nx0 ws E (nx0 ws E (E.getD 0 0,[],false)))).2.1 false 0 0).2.2=true:=f4
 rw [f4'] at c17
 have c19:=q4.at
 have p4':(zbM ws E (nx0 ws E (nx0 ws E (nx0 ws E (E.getD 0 0,[],false)))).1 (nx0 ws E (nx0 ws E (nx0 ws E (E.getD 0 0,[],false)))).2.1 false 0 0).1=0:=p4
 have b0:Nat.beq 0 0=true:=rfl
 have c1':cc 7 [.string (mkS zrn)] (st.ro st.next)=_:=c1
 refine ⟨t4.next,q4.ext.next,zjt st ?_⟩
 unfold zgA
 refine zbi.2 ⟨_,c1',?_⟩
 refine zbi.2 ⟨_,rfl,?_⟩
 refine zbi.2 ⟨_,rfl,?_⟩
 refine zbi.2 ⟨_,rfl,?_⟩
 refine zbi.2 ⟨_,e7,?_⟩
 refine zbi.2 ⟨_,e8,?_⟩
 refine zbi.2 ⟨_,l9,?_⟩
 refine zbi.2 ⟨_,c10,?_⟩
 refine zbi.2 ⟨_,rfl,?_⟩
 refine zbi.2 ⟨_,rfl,?_⟩
 simp only [decide_true,znt,zcf]
 refine zbi.2 ⟨_,f13,?_⟩
 simp only [b0,zct,zgz,zob,c15,zaa,zdt p3,c17,zaf,c19,zdt p4']
abbrev Q:=Int×List Int×Bool
section
variable {base : SS} {B b : Nat} {ws : List Nat} {E : List Int}
end
end Go.Proofs.YtcplfckncandkaaGreatDoorE
namespace Go.Proofs.YtcplfckncandkaaGreatDoorE
open Go Go.E Go.Proofs
theorem zxR [Sym] {ws:List Nat} {es:List En} (hnl:∀ e∈es,e.1.length≤1000000) {wv ev tv:Value} {st:SS} (hg:Gd st) (hl:st.lim≤st.next) (hX:∀ X∈ws,X<2^64) (o1:Rg st wv (rowsF uRow ws) 1 ws.length) (o2:Rg st ev (rowsF zaJ es) 2 es.length) (steps:List Step5) (hn:steps.length≤1000) (hT:Rg st tv (rowsF stepRow steps) 5 steps.length):
  ∃ s',cc 8 [zbL wv ev,tv] st=some (.bool true,s'):=by
 have hc:(zbL wv ev).cells.toList=[wv,ev]:=by show (Value.agg [wv,ev].toArray).cells.toList=_;exact zaC _
 have x1:Ext st (st.new (.cells [wv,ev] 0)):=(Ext.refl _).new _
 have a1:At (st.new (.cells [wv,ev] 0)) st.next [wv,ev]:=At.new hl _
 have hn1:(st.new (.cells [wv,ev] 0)).next=st.next+1:=rfl
 obtain ⟨s1,hs1⟩:∃ s1,st.new (.cells [wv,ev] 0)=s1:=⟨_,rfl⟩
 rw [hs1] at x1 a1 hn1
 have l2:s1.ldN st.next 0 2=some (zbL wv ev):=a1.ldN rfl
 have hu:=zsB (hg.ext x1) (x1.ll hl) hX (o1.ext x1) (o2.ext x1)
 cases hq:newT ws es with
 | none=>
   rw [hq] at hu
   obtain ⟨s3,x3,c3⟩:=hu
   have l6:s3.ldN st.next 0 2=some (zbL wv ev):=(a1.ext x3).ldN rfl
   have hr:=zsG hnl (x3.ll (x1.ll hl)) hX ((o1.ext x1).ext x3) ((o2.ext x1).ext x3)
   rw [hq] at hr
   obtain ⟨s7,x7,c7⟩:=hr
   have t0:∀ a b:Value,zao (.tuple #[a,b]) 0=some a:=fun _ _=>rfl
   have t1:∀ a b:Value,zao (.tuple #[a,b]) 1=some b:=fun _ _=>rfl
   have hnil:zjw (.pointer none)=some true:=rfl
   refine ⟨s7,zfW _ _ st ?_⟩
   simp only [zeK,hc,hs1]
   rw [l2,zob,c3,zob]
   simp only [t0,t1,zob,zaa]
   rw [l6,zob,c7,zob]
   simp only [t0,t1,zob,zaf,znf,zct,decide_true,hnil]
 | some E=>
   rw [hq] at hu
   obtain ⟨hE,s3,b,v,x3,c3,hb,a3,o3⟩:=hu
   have l6:s3.ldN st.next 0 2=some (zbL wv ev):=(a1.ext x3).ldN rfl
   have hr:=zsG hnl (x3.ll (x1.ll hl)) hX ((o1.ext x1).ext x3) ((o2.ext x1).ext x3)
   rw [hq] at hr
   obtain ⟨s7,b2,v2,w2,x7,c7,hb2,a7,p7,q7⟩:=hr
   obtain ⟨hw,_,hN,hEn⟩:=zxM hq
   have hb3:=a3.2.1
   have hb7:=a7.2.1
   have a37:=a3.ext x7
   have sq:SqI b2 s7 b ws E (E.getD 0 0) zaF:=⟨v,a37,by omega,(o3.rg).ext x7,fun i l c e=>by
    obtain ⟨_,⟨rfl,_⟩ | ⟨i',rfl,_,_,h1,h2⟩⟩:=o3
    ·cases e
    ·cases e;exact ⟨by omega,by omega⟩⟩
   have mq:MqI s7.next s7 b2 ws E (E.getD 0 0) zaF:=⟨v2,w2,a7,hb7,p7.rg,q7.rg,fun i l c e=>by
    obtain ⟨_,⟨rfl,_⟩ | ⟨i',rfl,_,_,h1,h2⟩⟩:=p7
    ·cases e
    ·cases e;exact ⟨by omega,h2⟩,fun i l c e=>by
    obtain ⟨_,⟨rfl,_⟩ | ⟨i',rfl,_,_,h1,h2⟩⟩:=q7
    ·cases e
    ·cases e;exact ⟨by omega,h2⟩⟩
   have x17:Ext s1 s7:=x3.trans x7
   have two:Two s1 s7.next b b2 ws E (E.getD 0 0) [] s7:=⟨⟨zaF,zaF,sq,mq,Stk.nil,Stk.nil,fun i o l c e=>by cases e⟩,hE,zlr _,a37.2.2,x17,hb,hN⟩
   have hXb:12≤s1.next:=by have:=hg.nx;omega
   have hwl:=(o1.ext x1).len
   obtain ⟨s12,hlp⟩:=zpY hXb hw hEn a1 hwl steps hn tv (hT.ext x1) steps.length 0 _ _ s7 (by omega) two (hEn 0 (by omega)) (fun a ha=>by cases ha) (by simp)
   have hlp':zbn 8 [ptr st.next 0,ptr b 0,ptr b2 0,tv,.int .i64 steps.length,.int .i64 0] s7=some (0,[],s12):=hlp
   have htl:=hT.lenI
   have t0:∀ a b:Value,zao (.tuple #[a,b]) 0=some a:=fun _ _=>rfl
   have t1:∀ a b:Value,zao (.tuple #[a,b]) 1=some b:=fun _ _=>rfl
   have b0:Nat.beq 0 0=true:=rfl
   refine ⟨s12,zfW _ _ st ?_⟩
   simp only [zeK,hc,hs1]
   rw [l2,zob,c3,zob]
   simp only [t0,t1,zob,zaa]
   rw [l6,zob,c7,zob]
   simp only [t0,t1,zob,zaf,znt,zcf,decide_true,htl]
   rw [hlp',zob]
   simp only [b0,zct]
end Go.Proofs.YtcplfckncandkaaGreatDoorE
namespace Go.Proofs.YtcplfckncandkaaGreatDoorE
open Go Go.E Go.Proofs
def TkS (t:Tok):Prop:=t.tx.length≤1000000
def VlS (v:Val):Prop:=v.nm.length≤1000000
theorem zrq:∀ (k col:Nat) (l:List UInt8) (ts:List Tok),l.length≤1000000→zdz k col l=.ok ts→∀ t∈ts,TkS t
 | 0,col,l,ts,hl,h=>by cases h;intro t ht;cases ht
 | k+1,col,l,ts,hl,h=>by
   have hd:∀ n,(l.drop n).length≤1000000:=fun n=>by rw [List.length_drop];omega
   unfold zdz at h
   split at h
   ·cases h;intro t ht;cases ht
   ·exact zrq k _ _ _ (hd 1) h
   ·rename_i kd n x hs
    cases hx:zdz k (col+n) (l.drop n) with
    | error e=>rw [hx] at h;cases h
    | ok us=>
      rw [hx] at h;cases h
      intro t ht
      rcases List.mem_cons.1 ht with rfl | ht
      ·show (l.take n).length≤_
       rw [List.length_take];omega
      ·exact zrq k _ _ _ (hd n) hx t ht
   ·cases h
theorem zxS {p:List UInt8} {ts:List Tok} (hp:p.length≤1000000) (h:zcB p=.ok ts):∀ t∈ts,TkS t:=by
 unfold zcB at h
 split at h
 ·rename_i us hu
  cases h
  intro t ht
  rcases List.mem_append.1 ht with ht | ht
  ·exact zrq _ _ _ _ hp hu t ht
  ·have:t=zga p:=by simpa using ht
   subst this
   show ([]:List UInt8).length≤_
   simp
 ·cases h
theorem zxT {l:List Tok} {v:Val} {n:Nat} (hl:∀ t∈l,TkS t) (h:zev l=.ok (v,n)):VlS v:=by
 cases l with
 | nil=>cases h
 | cons t r=>
   have ht:=hl t (by simp)
   rw [zgc] at h
   repeat' (split at h)
   all_goals first
    | (cases h;done)
    | (cases h;exact ht)
    | (cases h;show ([]:List UInt8).length≤1000000;simp)
theorem zsH:∀ (k:Nat) (l:List Tok) (vs:List Val),(∀ t∈l,TkS t)→zdo k l=.ok vs→∀ v∈vs,VlS v
 | 0,l,vs,hl,h=>by cases h;intro v hv;cases hv
 | k+1,[],vs,hl,h=>by cases h;intro v hv;cases hv
 | k+1,t::r,vs,hl,h=>by
   unfold zdo at h
   split at h
   ·cases h;intro v hv;cases hv
   ·split at h
    ·cases h
    ·rename_i v n hv
     split at h
     ·cases h
     ·rename_i us hus
      cases h
      intro w hw
      rcases List.mem_cons.1 hw with rfl | hw
      ·exact zxT hl hv
      ·exact zsH k _ us (fun t ht=>hl t (List.mem_of_mem_drop ht)) hus w hw
theorem zmk {lab:List UInt8} {l:List Tok} {x:PLine} (hl:∀ t∈l,TkS t) (h:zdp lab l=.ok x):∀ v∈x.args,VlS v:=by
 cases l with
 | nil=>cases h
 | cons t r=>
   rw [zd3] at h
   split at h
   ·cases r with
    | nil=>cases h
    | cons d u=>
      simp only at h
      split at h
      ·split at h
       ·cases h
       ·rename_i vs hvs
        cases h
        exact zsH _ _ _ (fun t ht=>hl t (by simp [ht])) hvs
      ·cases h
   ·split at h
    ·cases h
    ·cases h;intro v hv;cases hv
theorem zxU {l:List Tok} {x:PLine} (hl:∀ t∈l,TkS t) (h:readT l=.ok x):∀ v∈x.args,VlS v:=by
 cases l with
 | nil=>exact zmk (lab:=[]) hl h
 | cons t r=>
   cases r with
   | nil=>exact zmk (lab:=[]) hl h
   | cons s r=>
     rw [zg7] at h
     split at h
     ·split at h
      ·cases h
      ·rename_i y hy
       cases h
       exact zmk (fun t ht=>hl t (by simp [ht])) hy
     ·exact zmk (lab:=[]) hl h
theorem zsI:∀ (ps:List (List UInt8)) (i:Nat) (tss:List (List Tok)),(∀ p∈ps,p.length≤1000000)→zco i ps=.ok tss→∀ ts∈tss,∀ t∈ts,TkS t
 | [],i,tss,hp,h=>by cases h;intro ts hts;cases hts
 | p::r,i,tss,hp,h=>by
   unfold zco at h
   cases hx:zcB p with
   | error c=>rw [hx] at h;cases h
   | ok ts=>
     rw [hx] at h
     cases hy:zco (i+1) r with
     | error e=>rw [hy] at h;cases h
     | ok us=>
       rw [hy] at h;cases h
       intro ts' ht
       rcases List.mem_cons.1 ht with rfl | ht
       ·exact zxS (hp p (by simp)) hx
       ·exact zsI r _ us (fun q hq=>hp q (by simp [hq])) hy ts' ht
theorem zpZ:∀ (tss:List (List Tok)) (i:Nat) (xs:List PLine),(∀ ts∈tss,∀ t∈ts,TkS t)→zc4 i tss=.ok xs→∀ x∈xs,∀ v∈x.args,VlS v
 | [],i,xs,hp,h=>by cases h;intro x hx;cases hx
 | ts::r,i,xs,hp,h=>by
   unfold zc4 at h
   split at h
   ·cases h
   ·rename_i y hy
    split at h
    ·cases h
    ·rename_i ys hys
     cases h
     have hr:=zpZ r _ ys (fun q hq=>hp q (by simp [hq])) hys
     have h1:=zxU (hp ts (by simp)) hy
     intro x hx
     split at hx
     ·rcases List.mem_cons.1 hx with rfl | hx
      ·exact h1
      ·exact hr x hx
     ·exact hr x hx
theorem zrr (c:UInt8):∀ (l:List UInt8),∀ p∈pieces c l,p.length≤l.length
 | [],p,hp=>by
   have:p=[]:=by simpa [pieces] using hp
   subst this;exact zlr _
 | b::r,p,hp=>by
   have ih:=zrr c r
   unfold pieces at hp
   split at hp
   ·rcases List.mem_cons.1 hp with rfl | hp
    ·simp
    ·have:=ih p hp;simp;omega
   ·split at hp
    ·have:p=[b]:=by simpa using hp
     subst this;simp
    ·rename_i x y hxy
     rcases List.mem_cons.1 hp with rfl | hp
     ·have:=ih x (by rw [hxy];simp)
      simp;omega
     ·have:=ih p (by rw [hxy];simp [hp])
      simp;omega
theorem zxV {l:List UInt8} {xs:List PLine} (hl:l.length≤1000000) (h:zgW l=.ok xs):∀ x∈xs,∀ v∈x.args,VlS v:=by
 unfold zgW at h
 cases hy:zco 0 (pieces 10 l) with
 | error e=>rw [hy] at h;cases h
 | ok tss=>
   rw [hy] at h
   exact zpZ tss 0 xs (zsI _ _ _ (fun p hp=>zlt (zrr 10 l p hp) hl) hy) h
def EnS (l:Lay):Prop:=∀ e∈l.ents,VlS e.1
theorem zrt {l l':Lay} {n:List UInt8} {x:Int} (hl:EnS l) (h:l.define n x=some l'):EnS l':=by
 unfold EnS
 rw [(zmY h).2]
 exact hl
theorem dirT_s {l l':Lay} {x:PLine} (hl:EnS l) (hx:∀ v∈x.args,VlS v) (h:zcL l x=some l'):EnS l':=by
 unfold zcL at h
 split at h
 ·cases h
 ·rename_i v r hargs
  have hv:VlS v:=hx v (by rw [hargs];simp)
  split at h
  ·split at h
   ·cases h;exact hl
   ·cases h
  ·split at h
   ·split at h
    ·cases h;exact hl
    ·cases h
   ·split at h
    ·split at h
     ·split at h
      ·exact zrt hl h
      ·cases h
     ·cases h
    ·split at h
     ·split at h
      ·cases h
       intro e he
       rcases List.mem_append.1 he with he | he
       ·exact hl e he
       ·have:e=(v,x.ln,v.col):=by simpa using he
        rw [this];exact hv
      ·cases h
     ·cases h
theorem zxW {l l':Lay} {x:PLine} (hl:EnS l) (hx:∀ v∈x.args,VlS v) (h:zhN l x=some l'):EnS l':=by
 unfold zhN at h
 simp only [zbi] at h
 obtain ⟨l1,h1,h2⟩:=h
 have hl1:EnS l1:=by
  split at h1
  ·cases h1;exact hl
  ·exact zrt hl h1
 split at h2
 ·exact dirT_s hl1 hx h2
 ·split at h2
  ·cases h2;exact hl1
  ·split at h2
   ·cases h2;exact hl1
   ·cases h2
theorem zvC:∀ (xs:List PLine) (l l':Lay),EnS l→(∀ x∈xs,∀ v∈x.args,VlS v)→zgS l xs=.ok l'→EnS l'
 | [],l,l',hl,hx,h=>by cases h;exact hl
 | x::r,l,l',hl,hx,h=>by
   unfold zgS at h
   split at h
   ·cases h
   ·rename_i l1 h1
    exact zvC r l1 l' (zxW hl (hx x (by simp)) h1) (fun y hy=>hx y (by simp [hy])) h
theorem zsJ (nms:Nms) (N:Nat):∀ (es:List (Val×Nat×Nat)) (r:List (List UInt8×Int)),(∀ e∈es,VlS e.1)→zfC nms N es=.ok r→∀ e∈r,e.1.length≤1000000
 | [],r,he,h=>by cases h;intro e he;cases he
 | e::es,r,he,h=>by
   unfold zfC at h
   split at h
   ·cases h
   ·split at h
    ·cases h
    ·split at h
     ·cases h
     ·rename_i q hq
      cases h
      intro w hw
      rcases List.mem_cons.1 hw with rfl | hw
      ·exact he e (by simp)
      ·exact zsJ nms N es q (fun y hy=>he y (by simp [hy])) hq w hw
theorem ztV {t:List UInt8} {ws:List Wd} {es:List (List UInt8×Int)} (ht:t.length≤1000000) (h:zkW t=.ok (ws,es)):∀ e∈es,e.1.length≤1000000:=by
 unfold zkW at h
 cases hp:zgW t with
 | error z=>rw [hp] at h;cases h
 | ok xs=>
   rw [hp] at h
   simp only at h
   cases hl:zgS zho xs with
   | error z=>rw [hl] at h;cases h
   | ok l=>
     rw [hl] at h
     have hL:=zvC xs zho l (fun e he=>by cases he) (zxV ht hp) hl
     simp only [ziy] at h
     split at h
     ·cases h
     ·split at h
      ·cases h
      ·rename_i q hq
       cases h
       exact zsJ _ _ _ _ hL hq
end Go.Proofs.YtcplfckncandkaaGreatDoorE
