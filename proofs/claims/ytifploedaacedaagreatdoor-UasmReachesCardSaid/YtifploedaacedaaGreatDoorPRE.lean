/- Parts of the proof of UasmReaches, packed by a program: an evaluator over the given code, functions as plain texts, their laws. -/
import Derived.Test.YtifploedaacedaaGreatDoorPRD
set_option linter.unusedVariables false
set_option linter.unusedSimpArgs false
namespace Go.Proofs.YtifploedaacedaaGreatDoorE
open Go Go.E Go.Proofs
theorem ztu {p n:Nat} (hp:p≤4096) (h1:1≤n) (h2:n≤2048):((IntKind.wrap .i64 (IntKind.wrap .i64 ((p:Int)+(n:Int))-1)).tdiv (n:Int))=(((p+n-1)/n:Nat):Int):=by
 rw [wrap64 (n:=(p:Int)+(n:Int)) (by omega) (by omega),wrap64 (by omega) (by omega)]
 have e:(p:Int)+(n:Int)-1=((p+n-1:Nat):Int):=by omega
 rw [e]
 exact (Int.ofNat_tdiv _ _).symm
theorem zpg {p n:Nat} (hp:p≤4096) (h1:1≤n) (h2:n≤2048):(p+n-1)/n*n≤8192:=by
 have:=Nat.div_mul_le_self (p+n-1) n
 omega
def zsw (l:Lay) (v:Val) (r:List Val):Option Lay:=match r with
 | [y]=>if v.nm≠[]∧v.x=0∧y.nm=[] then l.define v.nm y.x else none
 | _=>none
theorem ztv {l:Lay} {x:PLine} {v:Val} {r:List Val} (h:x.args=v::r) (d1:¬ x.dir=[111,114,103]) (d2:¬ x.dir=[97,108,105,103,110]) (d3:x.dir=[115,101,116]):zcH l x=zsw l v r:=by
 unfold zcH
 rw [h]
 simp only
 rw [if_neg d1,if_neg d2,if_pos d3]
 rfl
theorem zph [Sym] {st0 st:SS} {B b i:Nat} {vw ve vv:Value} {l:Lay} {its:List WItem} (h:Bld st0 st B b i vw ve vv l its) (x:Item) (hx:Rd st0 x.2.1 (rowsF valRow x.1.args) 3 x.1.args.length) (hpl:l.pl≤4096) (hn:l.ents.length≤100000)
  (hsz:x.1.args.length≤100000):
  match zcH l x.1 with
  | none=>∃ st',cc 71 [ptr b 0,.agg (lnRow x).toArray] st=some (.bool false,st')∧Frm b i vw st st'
  | some l'=>∃ st' ve' vv',cc 71 [ptr b 0,.agg (lnRow x).toArray] st=some (.bool true,st')∧Bld st0 st' B b i vw ve' vv' l' its:=by
 have hlm:st.lim≤st.next:=by rw [h.ext.lim];have:=h.ll;have:=h.ext.next;omega
 have x1:Ext st (st.new (.cells (lnRow x) 0)):=(Ext.refl st).new _
 have a1:At (st.new (.cells (lnRow x) 0)) st.next (lnRow x):=At.new hlm _
 have l3:(st.new (.cells (lnRow x) 0)).ld st.next 3=some x.2.1:=a1.ld
 have hr1:Rd (st.new (.cells (lnRow x) 0)) x.2.1 (rowsF valRow x.1.args) 3 x.1.args.length:=(hx.ext h.ext).ext x1
 have hlen:(lenV x.2.1).bind (asI .i64)=some (x.1.args.length:Int):=by rw [hx.len];rfl
 have hnl:zav (ptr b 0)=some (ptr b 0):=rfl
 cases hargs:x.1.args with
 | nil=>
   have hd:zcH l x.1=none:=by unfold zcH;rw [hargs]
   rw [hd]
   rw [hargs] at hlen
   refine ⟨_,zaY _ _ st (r:=(.bool false,st.new (.cells (lnRow x) 0))) ?_,.ext x1⟩
   have h0:((([]:List Val).length:Nat):Int)=0:=rfl
   simp only [zaj,zaJ,l3,hlen,zob,zdt h0,zct]
 | cons v r=>
   rw [hargs] at hlen hr1 hsz
   obtain ⟨q5,b1,b2,_⟩:=hr1.load (j:=(0:Int)) (by omega) (by first | (simp;done) | (simp;omega)) (row:=valRow v) rfl rfl
   have b2':(st.new (.cells (lnRow x) 0)).ldN q5.1 q5.2 3=some (.agg (valRow v).toArray):=b2
   obtain ⟨s8,e8,a8,x8,n8⟩:=zaQ (st:=st.new (.cells (lnRow x) 0)) (by first | (simp;done) | (simp;omega)) (r:=valRow ⟨[],0,0⟩) (row:=valRow v) (v:=.agg (valRow v).toArray) (zaJ _) rfl rfl rfl
   have e8':((st.new (.cells (lnRow x) 0)).new (.cells [.string ⟨#[]⟩,.int .i64 0,.int .i64 0] 0)).stV (st.new (.cells (lnRow x) 0)).next 0 3 (.agg (valRow v).toArray)=some s8:=e8
   have a18:=a1.ext x8
   have h8:=h.then (x1.trans x8)
   have m8:Frm b i vw st s8:=.ext (x1.trans x8)
   have hn1:¬ (((v::r).length:Nat):Int)=0:=by first | (simp;done) | (simp;omega)
   have l9:s8.ld (st.new (.cells (lnRow x) 0)).next 0=some (.string (mkS v.nm)):=a8.ld
   have l91:s8.ld (st.new (.cells (lnRow x) 0)).next 1=some (.int .i64 v.x):=a8.ld
   have l92:s8.ld (st.new (.cells (lnRow x) 0)).next 2=some (.int .i64 v.col):=a8.ld
   have l10:s8.ld st.next 2=some (.string (mkS x.1.dir)):=a18.ld
   have l11:s8.ld st.next 3=some x.2.1:=a18.ld
   have lpl:s8.ld b 0=some (.int .i64 l.pl):=h8.row.ld
   have hnm:eqT (mkS v.nm) ⟨#[]⟩=decide (v.nm=[]):=zea _
   have hlr:decide (1<(((v::r).length:Nat):Int))=decide (r≠[]):=by
    cases r with
    | nil=>rfl
    | cons a t=>rw [zdt (by simp;omega),zdt (by simp)]
   have fl:∀ st',zaj cc zek (ptr b 0) (.agg (lnRow x).toArray) st=some (.bool false,st')→Frm b i vw st st'→zcH l x.1=none→
     match zcH l x.1 with
     | none=>∃ st',cc 71 [ptr b 0,.agg (lnRow x).toArray] st=some (.bool false,st')∧Frm b i vw st st'
     | some l'=>∃ st' ve' vv',cc 71 [ptr b 0,.agg (lnRow x).toArray] st=some (.bool true,st')∧Bld st0 st' B b i vw ve' vv' l' its:=fun st' hc hfr hdn=>by
    rw [hdn];exact ⟨st',zaY _ _ st hc,hfr⟩
   by_cases d1:x.1.dir=[111,114,103]
   ·have q1:eqT (mkS x.1.dir) ⟨#[111,114,103]⟩=true:=zdt d1
    have hd:zcH l x.1=if v.nm=[]∧r=[]∧(l.pl:Int)≤v.x∧v.x≤2048 then some { l with pl:=v.x.toNat } else none:=by unfold zcH;rw [hargs];simp only;rw [if_pos d1]
    by_cases c1:v.nm=[]
    ·by_cases c2:r=[]
     ·by_cases c3:v.x<(l.pl:Int)
      ·refine fl s8 ?_ m8 (by rw [hd,if_neg (fun hh=>by omega)])
       simp only [zaj,zaJ,l3,hlen,zob,zdf hn1,zcf,b1,b2',e8',l9,l10,l11,zab,q1,zct,hnm,zdt c1,znt,hlr,zdf (show ¬ r≠[] from fun hh=>hh c2),l91,zaa,hnl,zad,lpl,zdt c3]
      ·by_cases c4:2048<v.x
       ·refine fl s8 ?_ m8 (by rw [hd,if_neg (fun hh=>by omega)])
        simp only [zaj,zaJ,l3,hlen,zob,zdf hn1,zcf,b1,b2',e8',l9,l10,l11,zab,q1,zct,hnm,zdt c1,znt,hlr,zdf (show ¬ r≠[] from fun hh=>hh c2),l91,zaa,hnl,zad,lpl,zdf c3,zdt c4]
       ·rw [hd,if_pos ⟨c1,c2,by omega,by omega⟩]
        obtain ⟨s21,e21,h21⟩:=h8.place v.x.toNat
        have ez:((v.x.toNat:Nat):Int)=v.x:=by omega
        rw [ez] at e21
        refine ⟨s21,ve,vv,zaY _ _ st ?_,h21⟩
        simp only [zaj,zaJ,l3,hlen,zob,zdf hn1,zcf,b1,b2',e8',l9,l10,l11,zab,q1,zct,hnm,zdt c1,znt,hlr,zdf (show ¬ r≠[] from fun hh=>hh c2),l91,zaa,hnl,zad,lpl,zdf c3,zdf c4,e21]
     ·refine fl s8 ?_ m8 (by rw [hd,if_neg (fun hh=>c2 hh.2.1)])
      simp only [zaj,zaJ,l3,hlen,zob,zdf hn1,zcf,b1,b2',e8',l9,l10,l11,zab,zaa,q1,zct,hnm,zdt c1,znt,hlr,zdt (show r≠[] from c2)]
    ·refine fl s8 ?_ m8 (by rw [hd,if_neg (fun hh=>c1 hh.1)])
     simp only [zaj,zaJ,l3,hlen,zob,zdf hn1,zcf,b1,b2',e8',l9,l10,l11,zab,zaa,q1,zct,hnm,zdf c1,znf]
   have n1:eqT (mkS x.1.dir) ⟨#[111,114,103]⟩=false:=zdf d1
   by_cases d2:x.1.dir=[97,108,105,103,110]
   ·have q1:eqT (mkS x.1.dir) ⟨#[97,108,105,103,110]⟩=true:=zdt d2
    have hd:zcH l x.1=if v.nm=[]∧r=[]∧1≤v.x∧v.x≤2048∧(l.pl+v.x.toNat-1)/v.x.toNat*v.x.toNat≤2048 then some { l with pl:=(l.pl+v.x.toNat-1)/v.x.toNat*v.x.toNat } else none:=by unfold zcH;rw [hargs];simp only;rw [if_neg d1,if_pos d2]
    by_cases c1:v.nm=[]
    ·by_cases c2:r=[]
     ·have c2':=zdf (show ¬ r≠[] from fun hh=>hh c2)
      by_cases c3:v.x<1
      ·refine fl s8 ?_ m8 (by rw [hd,if_neg (fun hh=>by omega)])
       simp only [zaj,zaJ,l3,hlen,zob,zdf hn1,zcf,b1,b2',e8',l9,l10,l11,zab,zaa,n1,q1,zct,hnm,zdt c1,znt,hlr,c2',l91,zdt c3]
      ·by_cases c4:2048<v.x
       ·refine fl s8 ?_ m8 (by rw [hd,if_neg (fun hh=>by omega)])
        simp only [zaj,zaJ,l3,hlen,zob,zdf hn1,zcf,b1,b2',e8',l9,l10,l11,zab,zaa,n1,q1,zct,hnm,zdt c1,znt,hlr,c2',l91,zdf c3,zdt c4]
       ·have ez:((v.x.toNat:Nat):Int)=v.x:=by omega
        have hz:¬ (v.x=0):=by omega
        have e33:(aI .quo .i64 (IntKind.wrap .i64 (IntKind.wrap .i64 ((l.pl:Int)+v.x)-1)) v.x).bind (asI .i64)=some (((l.pl+v.x.toNat-1)/v.x.toNat:Nat):Int):=by
         have:=ztu (p:=l.pl) (n:=v.x.toNat) hpl (by omega) (by omega)
         rw [ez] at this
         simp only [aI,zdf hz,zcf,zob,zaa,this]
         have hle:=zpg (p:=l.pl) (n:=v.x.toNat) hpl (by omega) (by omega)
         have h1:(l.pl+v.x.toNat-1)/v.x.toNat≤(l.pl+v.x.toNat-1)/v.x.toNat*v.x.toNat:=Nat.le_mul_of_pos_right _ (by omega)
         have h0':=Int.natCast_nonneg ((l.pl+v.x.toNat-1)/v.x.toNat)
         have h1':(((l.pl+v.x.toNat-1)/v.x.toNat:Nat):Int)≤8192:=Int.ofNat_le.2 (zlt h1 hle)
         rw [wrap64 (Int.le_trans (by decide) h0') (Int.le_trans h1' (by decide))]
        have hle:=zpg (p:=l.pl) (n:=v.x.toNat) hpl (by omega) (by omega)
        have e35:IntKind.wrap .i64 ((((l.pl+v.x.toNat-1)/v.x.toNat:Nat):Int)*v.x)=(((l.pl+v.x.toNat-1)/v.x.toNat*v.x.toNat:Nat):Int):=by
         rw [← ez]
         simp only [Int.toNat_natCast]
         rw [← Int.natCast_mul]
         exact wrap64 (by omega) (by omega)
        obtain ⟨s38,e38,h38,m38⟩:=h8.placeM ((l.pl+v.x.toNat-1)/v.x.toNat*v.x.toNat)
        have l41:s38.ld b 0=some (.int .i64 (((l.pl+v.x.toNat-1)/v.x.toNat*v.x.toNat:Nat):Int)):=h38.row.ld
        by_cases c5:(l.pl+v.x.toNat-1)/v.x.toNat*v.x.toNat≤2048
        ·rw [hd,if_pos ⟨c1,c2,by omega,by omega,c5⟩]
         have c5':(((l.pl+v.x.toNat-1)/v.x.toNat*v.x.toNat:Nat):Int)≤2048:=by omega
         refine ⟨s38,ve,vv,zaY _ _ st ?_,h38⟩
         simp only [zaj,zaJ,l3,hlen,zob,zdf hn1,zcf,b1,b2',e8',l9,l10,l11,zab,zaa,n1,q1,zct,hnm,zdt c1,znt,hlr,c2',l91,zdf c3,zdf c4,hnl,zad,lpl,e33,e35,e38,l41,zdt c5']
        ·have c5':¬ (((l.pl+v.x.toNat-1)/v.x.toNat*v.x.toNat:Nat):Int)≤2048:=by omega
         refine fl s38 ?_ (m8.trans (.mod m38 (by simp))) (by rw [hd,if_neg (fun hh=>c5 hh.2.2.2.2)])
         simp only [zaj,zaJ,l3,hlen,zob,zdf hn1,zcf,b1,b2',e8',l9,l10,l11,zab,zaa,n1,q1,zct,hnm,zdt c1,znt,hlr,c2',l91,zdf c3,zdf c4,hnl,zad,lpl,e33,e35,e38,l41,zdf c5']
     ·refine fl s8 ?_ m8 (by rw [hd,if_neg (fun hh=>c2 hh.2.1)])
      simp only [zaj,zaJ,l3,hlen,zob,zdf hn1,zcf,b1,b2',e8',l9,l10,l11,zab,zaa,n1,q1,zct,hnm,zdt c1,znt,hlr,zdt (show r≠[] from c2)]
    ·refine fl s8 ?_ m8 (by rw [hd,if_neg (fun hh=>c1 hh.1)])
     simp only [zaj,zaJ,l3,hlen,zob,zdf hn1,zcf,b1,b2',e8',l9,l10,l11,zab,zaa,n1,q1,zct,hnm,zdf c1,znf]
   have n2:eqT (mkS x.1.dir) ⟨#[97,108,105,103,110]⟩=false:=zdf d2
   have hr8:Rd s8 x.2.1 (rowsF valRow (v::r)) 3 (v::r).length:=hr1.ext x8
   by_cases d3:x.1.dir=[115,101,116]
   ·have q1:eqT (mkS x.1.dir) ⟨#[115,101,116]⟩=true:=zdt d3
    have hd:zcH l x.1=zsw l v r:=ztv hargs d1 d2 d3
    have no:(∀ y,r≠[y])→¬ ((((v::r).length:Nat):Int)=2)∧zcH l x.1=none:=fun hr=>by
     rw [hd]
     match r,hr with
     | [],_=>exact ⟨by simp,rfl⟩
     | [y],hr=>exact absurd rfl (hr y)
     | _::_::_,_=>exact ⟨by simp;omega,rfl⟩
    by_cases hy:∃ y,r=[y]
    ·obtain ⟨y,rfl⟩:=hy
     have hd:zcH l x.1=if v.nm≠[]∧v.x=0∧y.nm=[] then l.define v.nm y.x else none:=hd
     have h2:(((([v,y]:List Val).length:Nat)):Int)=2:=rfl
     by_cases c1:v.nm=[]
     ·refine fl s8 ?_ m8 (by rw [hd,if_neg (fun hh=>hh.1 c1)])
      simp only [zaj,zaJ,l3,hlen,zob,zdf hn1,zcf,b1,b2',e8',l9,l10,l11,zab,zaa,n1,n2,q1,zct,hnm,zdt h2,zdt c1,znt]
     ·by_cases c2:v.x=0
      ·obtain ⟨p46,t1,_,t3⟩:=hr8.load (j:=(1:Int)) (by omega) (by rw [h2];omega) (row:=valRow y) rfl rfl
       have t30:s8.ld p46.1 p46.2=some (.string (mkS y.nm)):=t3 0 (by omega)
       have t31:s8.ld p46.1 (p46.2+1)=some (.int .i64 y.x):=t3 1 (by omega)
       have hy0:eqT (mkS y.nm) ⟨#[]⟩=decide (y.nm=[]):=zea _
       by_cases c3:y.nm=[]
       ·have hd':zcH l x.1=l.define v.nm y.x:=by rw [hd,if_pos ⟨c1,c2,c3⟩]
        have hdef:=h8.define v.nm y.x
        rw [hd']
        cases hdf:l.define v.nm y.x with
        | none=>
          rw [hdf] at hdef
          simp only at hdef
          refine ⟨s8,zaY _ _ st ?_,m8⟩
          simp only [zaj,zaJ,l3,hlen,zob,zdf hn1,zcf,b1,b2',e8',l9,l10,l11,zab,zaa,n1,n2,q1,zct,hnm,zdt h2,zdf c1,znf,l91,zdt c2,t1,t30,t31,hy0,zdt c3,hdef,zaf]
        | some l'=>
          rw [hdf] at hdef
          obtain ⟨s9,c9,_,h9⟩:=hdef
          refine ⟨s9,ve,vv,zaY _ _ st ?_,h9⟩
          simp only [zaj,zaJ,l3,hlen,zob,zdf hn1,zcf,b1,b2',e8',l9,l10,l11,zab,zaa,n1,n2,q1,zct,hnm,zdt h2,zdf c1,znf,l91,zdt c2,t1,t30,t31,hy0,zdt c3,c9,zaf]
       ·refine fl s8 ?_ m8 (by rw [hd,if_neg (fun hh=>c3 hh.2.2)])
        simp only [zaj,zaJ,l3,hlen,zob,zdf hn1,zcf,b1,b2',e8',l9,l10,l11,zab,zaa,n1,n2,q1,zct,hnm,zdt h2,zdf c1,znf,l91,zdt c2,t1,t30,hy0,zdf c3]
      ·refine fl s8 ?_ m8 (by rw [hd,if_neg (fun hh=>c2 hh.2.1)])
       simp only [zaj,zaJ,l3,hlen,zob,zdf hn1,zcf,b1,b2',e8',l9,l10,l11,zab,zaa,n1,n2,q1,zct,hnm,zdt h2,zdf c1,znf,l91,zdf c2]
    ·obtain ⟨h2,hdn⟩:=no fun y e=>hy ⟨y,e⟩
     refine fl s8 ?_ m8 hdn
     simp only [zaj,zaJ,l3,hlen,zob,zdf hn1,zcf,b1,b2',e8',l9,l10,l11,zab,zaa,n1,n2,q1,zct,hnm,zdf h2]
   ·have n3:eqT (mkS x.1.dir) ⟨#[115,101,116]⟩=false:=zdf d3
    by_cases d4:x.1.dir=[101,110,116,114,121]
    ·have q1:eqT (mkS x.1.dir) ⟨#[101,110,116,114,121]⟩=true:=zdt d4
     have hd:zcH l x.1=if v.nm≠[]∧r=[]∧v.x=0∧(l.ents.any fun e=>decide (e.1.nm=v.nm))=false then some { l with ents:=l.ents++[(v,x.1.ln,v.col)] } else none:=by unfold zcH;rw [hargs];simp only;rw [if_neg d1,if_neg d2,if_neg d3,if_pos d4]
     by_cases c1:v.nm=[]
     ·refine fl s8 ?_ m8 (by rw [hd,if_neg (fun hh=>hh.1 c1)])
      simp only [zaj,zaJ,l3,hlen,zob,zdf hn1,zcf,b1,b2',e8',l9,l10,l11,zab,zaa,n1,n2,n3,q1,zct,hnm,zdt c1]
     by_cases c2:r=[]
     ·have c2':=zdf (show ¬ r≠[] from fun hh=>hh c2)
      by_cases c3:v.x=0
      ·have l59:s8.ld b (0+4)=some vv:=h8.row.ld
       obtain ⟨n60,hn60,c60⟩:=ztt (l.ents.map (·.1)) (by simp;omega) v (st.new (.cells (lnRow x) 0)).next vv s8 (by have:=h8.ov.rd;simpa using this) a8.mem a8.lt
       have hany:((l.ents.map (·.1)).any fun x=>decide (x.nm=v.nm))=l.ents.any fun e=>decide (e.1.nm=v.nm):=by rw [List.any_map];rfl
       rw [hany] at c60
       cases ha:l.ents.any fun e=>decide (e.1.nm=v.nm) with
       | true=>
         rw [ha] at c60
         refine fl (s8.adv n60) ?_ (m8.trans (.ext ((Ext.refl _).adv hn60))) (by rw [hd,if_neg (fun hh=>by rw [ha] at hh;cases hh.2.2.2)])
         simp only [zaj,zaJ,l3,hlen,zob,zdf hn1,zcf,b1,b2',e8',l9,l10,l11,zab,zaa,n1,n2,n3,q1,zct,hnm,zdf c1,hlr,c2',l91,zdt c3,znt,hnl,zad,l59,c60,zaf]
       | false=>
         rw [ha] at c60
         rw [hd,if_pos ⟨c1,c2,c3,ha⟩]
         have x60:Ext s8 (s8.adv n60):=(Ext.refl _).adv hn60
         obtain ⟨vv',s1,s2,ve',s3,s4,g1,g2,g3,g4,g5,g6,g7,g8⟩:=(h8.then x60).entry v x.1.ln v.col hn
         have l64:(s8.adv n60).ld b (0+4)=some vv:=(h8.then x60).row.ld
         have l65:(s8.adv n60).ldN (st.new (.cells (lnRow x) 0)).next 0 3=some (.agg (valRow v).toArray):=(a8.ext x60).ldN rfl
         have e66:zaE (.agg (valRow v).toArray) 3=some (valRow v):=rfl
         have g2':s1.stV b (0+4) 1 vv'=some s2:=g2
         have g3':s2.ld b (0+3)=some ve:=g3
         have g6':(s2.new (.cells ([.int .i64 x.1.ln,.int .i64 v.col]) 2)).app 2 16 ve (.slice (some ⟨s2.next,0,none⟩) 1 1)=some (ve',s3):=g6
         have g7':s3.stV b (0+3) 1 ve'=some s4:=g7
         have hv0:∀ j,blkOf vv=some j→j<st.next:=fun j e=>(zcK h.ov e).2
         have hbn:=h.row.lt
         have m75:=(g5 st.next (a18.ext x60).lt (fun e=>by have:=hv0 _ e;omega) (by omega)).trans (a18.ext x60).mem
         have m76:=(g5 (st.new (.cells (lnRow x) 0)).next (a8.ext x60).lt (fun e=>by have:=hv0 _ e;simp at this;omega) (by simp;omega)).trans (a8.ext x60).mem
         have l75:s2.ld st.next 0=some (.int .i64 x.1.ln):=by rw [SS.ld_cells m75];rfl
         have l76:s2.ld (st.new (.cells (lnRow x) 0)).next 2=some (.int .i64 v.col):=by rw [SS.ld_cells m76];rfl
         refine ⟨s4,ve',vv',zaY _ _ st ?_,g8⟩
         simp only [zaj,zaJ,l3,hlen,zob,zdf hn1,zcf,b1,b2',e8',l9,l10,l11,zab,zaa,n1,n2,n3,q1,zct,hnm,zdf c1,hlr,c2',l91,zdt c3,znt,hnl,zad,l59,c60,zaf,l64,l65,e66,List.append_nil,g1,g2',g3',l75,l76,g6',g7']
      ·refine fl s8 ?_ m8 (by rw [hd,if_neg (fun hh=>c3 hh.2.2.1)])
       simp only [zaj,zaJ,l3,hlen,zob,zdf hn1,zcf,b1,b2',e8',l9,l10,l11,zab,zaa,n1,n2,n3,q1,zct,hnm,zdf c1,hlr,c2',l91,zdf c3,znf]
     ·refine fl s8 ?_ m8 (by rw [hd,if_neg (fun hh=>c2 hh.2.1)])
      simp only [zaj,zaJ,l3,hlen,zob,zdf hn1,zcf,b1,b2',e8',l9,l10,l11,zab,zaa,n1,n2,n3,q1,zct,hnm,zdf c1,hlr,zdt (show r≠[] from c2)]
    ·have n4:eqT (mkS x.1.dir) ⟨#[101,110,116,114,121]⟩=false:=zdf d4
     refine fl s8 ?_ m8 (by unfold zcH;rw [hargs];simp only;rw [if_neg d1,if_neg d2,if_neg d3,if_neg d4])
     simp only [zaj,zaJ,l3,hlen,zob,zdf hn1,zcf,b1,b2',e8',l9,l10,zab,n1,n2,n3,n4]
end Go.Proofs.YtifploedaacedaaGreatDoorE
namespace Go.Proofs.YtifploedaacedaaGreatDoorE
open Go Go.E Go.Proofs
theorem ztw (n:Nat) (x:Item):zaE (.agg ⟨spl [.int .i64 n,.int .i64 0,.string ⟨#[]⟩,.string ⟨#[]⟩,.slice none 0 0,.slice none 0 0] 1 (lnRow x)⟩) 6=some (wdRow (n,x)):=rfl
theorem Bld.rest [Sym] {st0 st:SS} {B b i:Nat} {vw ve vv:Value} {l:Lay} {its:List WItem} (h:Bld st0 st B b i vw ve vv l its) (x:Item) (hx:Rd st0 x.2.1 (rowsF valRow x.1.args) 3 x.1.args.length∧Rd st0 x.2.2 (rowsF prRow x.1.prs) 5 x.1.prs.length)
  (ho:one x.2.1=true∧one x.2.2=true) (hpl:l.pl≤2048) (hni:its.length≤100000):
  ∃ vw' s1 s2 s3,(st.new (.cells (wdRow (l.pl,x)) 6)).app 6 96 vw (.slice (some ⟨st.next,0,none⟩) 1 1)=some (vw',s1)∧s1.stV b 2 1 vw'=some s2∧s2.ld b 0=some (.int .i64 l.pl)∧s2.st b 0 [.int .i64 ((l.pl+1:Nat):Int)]=some s3∧s3.ld b 0=some (.int .i64 ((l.pl+1:Nat):Int))∧
   Bld st0 s3 B b i vw' ve vv { l with pl:=l.pl+1,wds:=l.wds++[(l.pl,x.1)] } (its++[(l.pl,x)])∧Frm b i vw st s3:=by
 obtain ⟨vw',s1,s2,g1,g2,g3,g6⟩:=h.word x hx ho hni
 obtain ⟨s3,g4,g5,g7⟩:=g3.placeM (l.pl+1)
 exact ⟨vw',s1,s2,s3,g1,g2,g3.row.ld,g4,g5.row.ld,g5,g6.trans (.mod g7 (by simp))⟩
noncomputable def zhc [Sym] (b':Value) (a:Nat) (s:SS):Option (Value×SS):=
 ((s.ld a 2).bind asS).bind fun b=>
  cond (!(eqT b ⟨#[]⟩)) (
   (s.ldN a 0 5).bind fun c=>
   (cc 71 [b',c] s).bind fun d=>
   ((some d.1).bind asB).bind fun e=>
   some (.bool e,d.2)) (
   (s.ld a 4).bind fun f=>
   ((lenV f).bind (asI .i64)).bind fun g=>
   cond (decide (g=0)) (
    some (.bool true,s)) (
    (zav b').bind fun h=>
    (addr? h).bind fun i=>
    (s.ld i.1 (i.2+2)).bind fun j=>
    (zav b').bind fun k=>
    (addr? k).bind fun l=>
    ((s.ld l.1 l.2).bind (asI .i64)).bind fun m=>
    (s.ldN a 0 5).bind fun n=>
    (zaE n 5).bind fun o=>
    (zaE (.agg ⟨spl [.int .i64 m,.int .i64 0,.string ⟨#[]⟩,.string ⟨#[]⟩,.slice none 0 0,.slice none 0 0] 1 o⟩) 6).bind fun p=>
    let q:SS:=s.new (.cells (p++([])) 6)
    (q.app 6 96 j (.slice (some ⟨s.next,0,none⟩) 1 1)).bind fun r=>
    (zav b').bind fun t=>
    (addr? t).bind fun u=>
    (r.2.stV u.1 (u.2+2) 1 r.1).bind fun v=>
    (zav b').bind fun w=>
    (addr? w).bind fun x=>
    ((v.ld x.1 x.2).bind (asI .i64)).bind fun y=>
    let z:Int:=IntKind.wrap .i64 (y+1)
    (zav b').bind fun A=>
    (addr? A).bind fun B=>
    (v.st B.1 B.2 [.int .i64 z]).bind fun C=>
    (zav b').bind fun D=>
    (addr? D).bind fun E=>
    ((C.ld E.1 E.2).bind (asI .i64)).bind fun F=>
    some (.bool (decide (F≤2048)),C)))
def zhd (l:Lay) (x:PLine):Option Lay:=if x.dir≠[] then zcH l x else if x.prs=[] then some l else if l.pl+1≤2048 then some { l with pl:=l.pl+1,wds:=l.wds++[(l.pl,x)] } else none
theorem zqg [Sym] {st0 s:SS} {B b i a:Nat} {vw ve vv:Value} {l:Lay} {its:List WItem} (h:Bld st0 s B b i vw ve vv l its) (x:Item) (ha:At s a (lnRow x)) (hx:Rd st0 x.2.1 (rowsF valRow x.1.args) 3 x.1.args.length∧Rd st0 x.2.2 (rowsF prRow x.1.prs) 5 x.1.prs.length)
  (ho:one x.2.1=true∧one x.2.2=true) (hpl:l.pl≤2048) (hn:l.ents.length≤100000) (hni:its.length≤100000) (hsz:x.1.args.length≤100000):
  match zhd l x.1 with
  | none=>∃ st',zhc (ptr b 0) a s=some (.bool false,st')∧Frm b i vw s st'
  | some l'=>∃ st' vw' ve' vv' its',zhc (ptr b 0) a s=some (.bool true,st')∧Bld st0 st' B b i vw' ve' vv' l' its'∧its'.length≤its.length+1:=by
 have l2:s.ld a 2=some (.string (mkS x.1.dir)):=ha.ld
 have l4:s.ld a 4=some x.2.2:=ha.ld
 have l5:s.ldN a 0 5=some (.agg (lnRow x).toArray):=ha.ldN rfl
 have hd0:eqT (mkS x.1.dir) ⟨#[]⟩=decide (x.1.dir=[]):=zea _
 unfold zhd
 by_cases c1:x.1.dir=[]
 ·rw [if_neg (fun hh=>hh c1)]
  have hlen:(lenV x.2.2).bind (asI .i64)=some (x.1.prs.length:Int):=by rw [hx.2.len];rfl
  by_cases c2:x.1.prs=[]
  ·rw [if_pos c2]
   have h0:(x.1.prs.length:Int)=0:=by rw [c2];rfl
   refine ⟨s,vw,ve,vv,its,?_,h,by omega⟩
   simp only [zhc,l2,l4,zob,zab,hd0,zdt c1,znt,zcf,hlen,zdt h0,zct]
  ·rw [if_neg c2]
   have h0:¬ (x.1.prs.length:Int)=0:=fun e=>c2 (List.length_eq_zero_iff.1 (by omega))
   obtain ⟨vw',s1,s2,s3,g1,g2,g3,g4,g5,g6,g7⟩:=h.rest x hx ho hpl hni
   have hnl:zav (ptr b 0)=some (ptr b 0):=rfl
   have lw:s.ld b (0+2)=some vw:=h.row.ld
   have lp:s.ld b 0=some (.int .i64 l.pl):=h.row.ld
   have e5:zaE (.agg (lnRow x).toArray) 5=some (lnRow x):=rfl
   have e6:=ztw l.pl x
   have g2':s1.stV b (0+2) 1 vw'=some s2:=g2
   have hw1:=za6 (i:=l.pl) (by omega)
   have run:zhc (ptr b 0) a s=some (.bool (decide (((l.pl+1:Nat):Int)≤2048)),s3):=by
    simp only [zhc,l2,l4,l5,zob,zab,zaa,hd0,zdt c1,znt,zcf,hlen,zdf h0,hnl,zad,lw,lp,e5,e6,List.append_nil,g1,g2',g3,hw1,g4,g5]
   by_cases c3:l.pl+1≤2048
   ·rw [if_pos c3]
    have c3':((l.pl+1:Nat):Int)≤2048:=by omega
    exact ⟨s3,vw',ve,vv,_,by rw [run,zdt c3'],g6,by simp⟩
   ·rw [if_neg c3]
    have c3':¬ ((l.pl+1:Nat):Int)≤2048:=by omega
    exact ⟨s3,by rw [run,zdf c3'],g7⟩
 ·rw [if_pos c1]
  have hdir:=zph h x hx.1 (by omega) hn hsz
  cases hd:zcH l x.1 with
  | none=>
    rw [hd] at hdir
    obtain ⟨st',c,hfr⟩:=hdir
    refine ⟨st',?_,hfr⟩
    simp only [zhc,l2,l5,zob,zab,hd0,zdf c1,znf,zct,c,zaf]
  | some l'=>
    rw [hd] at hdir
    obtain ⟨st',ve',vv',c,hb⟩:=hdir
    refine ⟨st',vw,ve',vv',its,?_,hb,by omega⟩
    simp only [zhc,l2,l5,zob,zab,hd0,zdf c1,znf,zct,c,zaf]
theorem zl7 (l:Lay) (x:PLine):zh9 l x=(if x.lab=[] then some l else l.define x.lab l.pl).bind fun l=>zhd l x:=rfl
theorem zpP {l l':Lay} {n:List UInt8} {x:Int} (h:l.define n x=some l'):l'.pl=l.pl∧l'.ents=l.ents:=by
 unfold Lay.define at h
 split at h
 ·cases h
 ·cases h;exact ⟨rfl,rfl⟩
theorem ztx [Sym] {st0 st:SS} {B b i:Nat} {vw ve vv:Value} {l:Lay} {its:List WItem} (h:Bld st0 st B b i vw ve vv l its) (x:Item) (hx:Rd st0 x.2.1 (rowsF valRow x.1.args) 3 x.1.args.length∧Rd st0 x.2.2 (rowsF prRow x.1.prs) 5 x.1.prs.length)
  (ho:one x.2.1=true∧one x.2.2=true) (hpl:l.pl≤2048) (hn:l.ents.length≤100000) (hni:its.length≤100000) (hsz:x.1.args.length≤100000):
  match zh9 l x.1 with
  | none=>∃ st',cc 43 [ptr b 0,.agg (lnRow x).toArray] st=some (.bool false,st')∧Frm b i vw st st'
  | some l'=>∃ st' vw' ve' vv' its',cc 43 [ptr b 0,.agg (lnRow x).toArray] st=some (.bool true,st')∧Bld st0 st' B b i vw' ve' vv' l' its'∧its'.length≤its.length+1:=by
 have hlm:st.lim≤st.next:=by rw [h.ext.lim];have:=h.ll;have:=h.ext.next;omega
 have x1:Ext st (st.new (.cells (lnRow x) 0)):=(Ext.refl st).new _
 have a1:At (st.new (.cells (lnRow x) 0)) st.next (lnRow x):=At.new hlm _
 have l1:(st.new (.cells (lnRow x) 0)).ld st.next 1=some (.string (mkS x.1.lab)):=a1.ld
 have hlb:eqT (mkS x.1.lab) ⟨#[]⟩=decide (x.1.lab=[]):=zea _
 have h1:=h.then x1
 rw [zl7]
 by_cases c1:x.1.lab=[]
 ·rw [if_pos c1,zob]
  have e:zb0 cc zdH (ptr b 0) (.agg (lnRow x).toArray) st=zhc (ptr b 0) st.next (st.new (.cells (lnRow x) 0)):=by
   simp only [zb0,zaJ,l1,zob,zab,hlb,zdt c1,znt,zcf]
   rfl
  have hr:=zqg h1 x a1 hx ho hpl hn hni hsz
  cases hl:zhd l x.1 with
  | none=>
    rw [hl] at hr
    obtain ⟨st',c,hfr⟩:=hr
    exact ⟨st',zb1 _ _ st (e.trans c),(Frm.ext x1).trans hfr⟩
  | some l'=>
    rw [hl] at hr
    obtain ⟨st',vw',ve',vv',its',c,r⟩:=hr
    exact ⟨st',vw',ve',vv',its',zb1 _ _ st (e.trans c),r⟩
 ·rw [if_neg c1]
  have lp:(st.new (.cells (lnRow x) 0)).ld b 0=some (.int .i64 l.pl):=h1.row.ld
  have hnl:zav (ptr b 0)=some (ptr b 0):=rfl
  have hdef:=h1.define x.1.lab l.pl
  cases hd:l.define x.1.lab l.pl with
  | none=>
    rw [hd] at hdef
    simp only at hdef
    refine ⟨_,zb1 _ _ st (r:=(.bool false,st.new (.cells (lnRow x) 0))) ?_,.ext x1⟩
    simp only [zb0,zaJ,l1,zob,zab,zaa,hlb,zdf c1,znf,zct,hnl,zad,lp,hdef,zaf]
  | some l1'=>
    rw [hd] at hdef
    obtain ⟨s2,c2,m2,h2⟩:=hdef
    rw [zob]
    obtain ⟨e1,e2⟩:=zpP hd
    have a2:At s2 st.next (lnRow x):=a1.mod m2 (by have:=h.iB;have:=h.BN;simp;omega)
    have e:zb0 cc zdH (ptr b 0) (.agg (lnRow x).toArray) st=zhc (ptr b 0) st.next s2:=by
     simp only [zb0,zaJ,l1,zob,zab,zaa,hlb,zdf c1,znf,zct,hnl,zad,lp,c2,zaf,znt,zcf]
     rfl
    have hr:=zqg h2 x a2 hx ho (by omega) (by rw [e2];exact hn) hni hsz
    cases hl:zhd l1' x.1 with
    | none=>
      rw [hl] at hr
      obtain ⟨st',c,hfr⟩:=hr
      exact ⟨st',zb1 _ _ st (e.trans c),((Frm.ext x1).trans (.mod m2 (by simp))).trans hfr⟩
    | some l'=>
      rw [hl] at hr
      obtain ⟨st',vw',ve',vv',its',c,r⟩:=hr
      exact ⟨st',vw',ve',vv',its',zb1 _ _ st (e.trans c),r⟩
end Go.Proofs.YtifploedaacedaaGreatDoorE
namespace Go.Proofs.YtifploedaacedaaGreatDoorE
open Go Go.E Go.Proofs
def VOk (v:Val):Prop:=0<v.col∧ -2147483648≤v.x∧v.x≤2147483647
def POk (p:Pr):Prop:=0<p.col∧VOk p.v
structure LineOk (M:Nat) (x:PLine):Prop where
 args:∀ v∈x.args,VOk v
 prs:∀ p∈x.prs,POk p
 sa:x.args.length≤M
 sp:x.prs.length≤M
def zjO (t:Tok):Prop:=TokOk t∧0<t.col
theorem zsx (k col:Nat) (l:List UInt8) (ts:List Tok) (h:zcM k col l=.ok ts):∀ t∈ts,0<t.col:=by
 induction k generalizing col l ts with
 | zero=>cases h;intro t ht;cases ht
 | succ k ih=>
   unfold zcM at h
   split at h
   ·cases h;intro t ht;cases ht
   ·exact ih _ _ _ h
   ·rename_i kd n x hs
    cases hx:zcM k (col+n) (l.drop n) with
    | error e=>rw [hx] at h;cases h
    | ok us=>
      rw [hx] at h;cases h
      intro t ht
      rcases List.mem_cons.1 ht with rfl | ht
      ·exact Nat.succ_pos _
      ·exact ih _ _ _ hx t ht
   ·cases h
theorem zty {p:List UInt8} {ts:List Tok} (h:zbV p=.ok ts):∀ t∈ts,zjO t:=fun t ht=>by
 refine ⟨(zl3 h).2 t ht,?_⟩
 unfold zbV at h
 split at h
 ·rename_i us hu
  cases h
  rcases List.mem_append.1 ht with ht | ht
  ·exact zsx _ _ _ _ hu t ht
  ·have:t=zgo p:=by simpa using ht
   subst this
   exact Nat.succ_pos _
 ·cases h
theorem zn5 {α:Type} {n:Nat} {l:List α} {x:α} (h:x∈l.drop n):x∈l:=List.mem_of_mem_drop h
theorem zqh {l:List Tok} (hl:∀ t∈l,zjO t) {v:Val} {n:Nat} (h:zdB l=.ok (v,n)):VOk v:=by
 cases l with
 | nil=>cases h
 | cons t r=>
   rw [zfX] at h
   have ht:=hl t (by simp)
   have n0:=ht.1.nm0
   have n1:=ht.1.nm1
   split at h
   ·cases h;exact ⟨ht.2,by show -2147483648≤t.nm;omega,by show t.nm≤2147483647;omega⟩
   ·split at h
    ·cases r with
     | nil=>cases h
     | cons s u=>
       simp only at h
       split at h
       ·cases u with
        | nil=>cases h
        | cons m w=>
          simp only at h
          have hm:=(hl m (by simp)).1
          have m0:=hm.nm0
          have m1:=hm.nm1
          split at h
          ·cases h;exact ⟨ht.2,by show -2147483648≤m.nm;omega,by show m.nm≤2147483647;omega⟩
          ·cases h
       ·split at h
        ·cases u with
         | nil=>cases h
         | cons m w=>
           simp only at h
           have hm:=(hl m (by simp)).1
           have m0:=hm.nm0
           have m1:=hm.nm1
           split at h
           ·cases h;exact ⟨ht.2,by show -2147483648≤ -m.nm;omega,by show -m.nm≤2147483647;omega⟩
           ·cases h
        ·cases h;exact ⟨ht.2,by show (-2147483648:Int)≤0;omega,by show (0:Int)≤2147483647;omega⟩
    ·cases h
theorem zuz (k:Nat) (l:List Tok) (hl:∀ t∈l,zjO t) (vs:List Val) (h:zcO k l=.ok vs):(∀ v∈vs,VOk v)∧vs.length≤k:=by
 induction k generalizing l vs with
 | zero=>cases h;exact ⟨fun v hv=>(by cases hv),zlr _⟩
 | succ k ih=>
   cases l with
   | nil=>cases h;exact ⟨fun v hv=>(by cases hv),by simp⟩
   | cons t r=>
     unfold zcO at h
     split at h
     ·cases h;exact ⟨fun v hv=>(by cases hv),by simp⟩
     ·cases hx:zdB (t::r) with
      | error o=>rw [hx] at h;cases h
      | ok y=>
        obtain ⟨v,n⟩:=y
        rw [hx] at h
        simp only at h
        cases hy:zcO k ((t::r).drop n) with
        | error o=>rw [hy] at h;cases h
        | ok us=>
          rw [hy] at h;cases h
          obtain ⟨h1,h2⟩:=ih _ (fun q hq=>hl q (zn5 hq)) us hy
          refine ⟨fun w hw=>?_,by simp;omega⟩
          rcases List.mem_cons.1 hw with rfl | hw
          ·exact zqh hl hx
          ·exact h1 w hw
theorem zuA {seen:List (List UInt8)} {l:List Tok} (hl:∀ t∈l,zjO t) {p:Pr} {n:Nat} (h:pairT seen l=.ok (p,n)):POk p:=by
 cases l with
 | nil=>cases h
 | cons t r=>
   rw [zg9] at h
   split at h
   ·cases r with
    | nil=>cases h
    | cons e u=>
      simp only at h
      split at h
      ·cases hx:zdB u with
       | error o=>rw [hx] at h;cases h
       | ok y=>
         obtain ⟨v,m⟩:=y
         rw [hx] at h;cases h
         exact ⟨(hl t (by simp)).2,zqh (fun q hq=>hl q (by simp [hq])) hx⟩
      ·cases h
   ·cases h
theorem ztz (k:Nat) (seen:List (List UInt8)) (l:List Tok) (hl:∀ t∈l,zjO t) (ps:List Pr) (h:zba k seen l=.ok ps):(∀ p∈ps,POk p)∧ps.length≤k:=by
 induction k generalizing seen l ps with
 | zero=>cases h;exact ⟨fun v hv=>(by cases hv),zlr _⟩
 | succ k ih=>
   cases l with
   | nil=>cases h;exact ⟨fun v hv=>(by cases hv),by simp⟩
   | cons t r=>
     unfold zba at h
     split at h
     ·cases h;exact ⟨fun v hv=>(by cases hv),by simp⟩
     ·cases hx:pairT seen (t::r) with
      | error o=>rw [hx] at h;cases h
      | ok y=>
        obtain ⟨p,n⟩:=y
        rw [hx] at h
        simp only at h
        cases hy:zba k (seen++[p.fd]) ((t::r).drop n) with
        | error o=>rw [hy] at h;cases h
        | ok us=>
          rw [hy] at h;cases h
          obtain ⟨h1,h2⟩:=ih _ _ (fun q hq=>hl q (zn5 hq)) us hy
          refine ⟨fun w hw=>?_,by simp;omega⟩
          rcases List.mem_cons.1 hw with rfl | hw
          ·exact zuA hl hx
          ·exact h1 w hw
theorem znC {M:Nat} (lab:List UInt8) (l:List Tok) (hl:∀ t∈l,zjO t) (hM:l.length≤M) (x:PLine) (h:zcD lab l=.ok x):LineOk M x:=by
 cases l with
 | nil=>cases h
 | cons t r=>
   rw [zdX] at h
   split at h
   ·cases r with
    | nil=>cases h
    | cons d u=>
      simp only at h
      split at h
      ·cases hx:zcO u.length u with
       | error o=>rw [hx] at h;cases h
       | ok vs=>
         rw [hx] at h;cases h
         obtain ⟨h1,h2⟩:=zuz _ _ (fun q hq=>hl q (by simp [hq])) vs hx
         simp only [List.length_cons] at hM
         exact ⟨h1,fun p hp=>(by cases hp),by show vs.length≤M;omega,by simp⟩
      ·cases h
   ·cases hx:zba (t::r).length [] (t::r) with
    | error o=>rw [hx] at h;cases h
    | ok ps=>
      rw [hx] at h;cases h
      obtain ⟨h1,h2⟩:=ztz _ _ _ hl ps hx
      exact ⟨fun p hp=>(by cases hp),h1,by simp,by show ps.length≤M;omega⟩
theorem zuB {M:Nat} (l:List Tok) (hl:∀ t∈l,zjO t) (hM:l.length≤M) (x:PLine) (h:readT l=.ok x):LineOk M x:=by
 unfold readT at h
 split at h
 ·rename_i t s r
  split at h
  ·split at h
   ·cases h
   ·rename_i y hy
    cases h
    simp only [List.length_cons] at hM
    exact znC _ _ (fun q hq=>hl q (by simp [hq])) (by omega) _ hy
  ·exact znC _ _ hl hM _ h
 ·exact znC _ _ hl hM _ h
theorem zsy {M:Nat} (tss:List (List Tok)) (i:Nat) (hl:∀ ts∈tss,(∀ t∈ts,zjO t)∧ts.length≤M) (xs:List PLine) (h:zbQ i tss=.ok xs):(∀ x∈xs,LineOk M x∧0<x.ln)∧xs.length≤tss.length:=by
 induction tss generalizing i xs with
 | nil=>cases h;exact ⟨fun v hv=>(by cases hv),zlr _⟩
 | cons ts r ih=>
   unfold zbQ at h
   cases hx:readT ts with
   | error o=>rw [hx] at h;cases h
   | ok x=>
     rw [hx] at h
     simp only at h
     cases hy:zbQ (i+1) r with
     | error e=>rw [hy] at h;cases h
     | ok ys=>
       rw [hy] at h;cases h
       obtain ⟨h1,h2⟩:=ih (i+1) (fun q hq=>hl q (by simp [hq])) ys hy
       obtain ⟨g1,g2⟩:=hl ts (by simp)
       have hv:=zuB ts g1 g2 x hx
       split
       ·refine ⟨fun w hw=>?_,by simp;omega⟩
        rcases List.mem_cons.1 hw with rfl | hw
        ·exact ⟨⟨hv.args,hv.prs,hv.sa,hv.sp⟩,Nat.succ_pos _⟩
        ·exact h1 w hw
       ·exact ⟨h1,by simp;omega⟩
theorem zuC (ps:List (List UInt8)) (M i:Nat) (hM:∀ p∈ps,p.length+1≤M) (tss:List (List Tok)) (h:zci i ps=.ok tss):∀ ts∈tss,(∀ t∈ts,zjO t)∧ts.length≤M:=by
 induction ps generalizing i tss with
 | nil=>cases h;intro ts hts;cases hts
 | cons p r ih=>
   unfold zci at h
   cases hx:zbV p with
   | error c=>rw [hx] at h;cases h
   | ok ts=>
     rw [hx] at h
     cases hy:zci (i+1) r with
     | error e=>rw [hy] at h;cases h
     | ok us=>
       rw [hy] at h;cases h
       intro ts' ht
       rcases List.mem_cons.1 ht with rfl | ht
       ·exact ⟨zty hx,zlt (zkB p _ hx) (hM p (by simp))⟩
       ·exact ih _ (fun q hq=>hM q (by simp [hq])) _ hy ts' ht
theorem zk6 {l:List UInt8} {xs:List PLine} (h:zfc l=.ok xs):(∀ x∈xs,LineOk (l.length+1) x∧0<x.ln)∧xs.length≤l.length+1:=by
 unfold zfc at h
 cases hy:zci 0 (pieces 10 l) with
 | error e=>rw [hy] at h;cases h
 | ok tss=>
   rw [hy] at h
   obtain ⟨h1,h2⟩:=zsy tss 0 (zuC _ (l.length+1) _ (fun p hp=>by have:=zfR 10 l p hp;omega) tss hy) xs h
   exact ⟨h1,zlt h2 (by rw [zsl _ _ _ hy];exact pieces_len 10 l)⟩
def zf2 (l:Lay):List PLine→Except (Nat×Nat) Lay
 | []=>.ok l
 | x::r=>match zh9 l x with
   | none=>.error (x.ln,1)
   | some l'=>zf2 l' r
def zez:Lay:=⟨0,[],[],[]⟩
structure LayOk (M:Nat) (l:Lay):Prop where
 pl:l.pl≤2048
 nms:NmsOk l.nms
 ris:l.wds.Pairwise fun a b=>a.1<b.1
 lt:∀ x∈l.wds,x.1<l.pl
 prs:∀ x∈l.wds,LineOk M x.2∧x.2.prs≠[]∧0<x.2.ln
 ent:∀ e∈l.ents,e.1.nm≠[]∧0<e.2.1∧0<e.2.2
theorem zi2 (M:Nat):LayOk M zez:=⟨by decide,fun x hx=>(by cases hx),List.Pairwise.nil,fun x hx=>(by cases hx),fun x hx=>(by cases hx),fun x hx=>(by cases hx)⟩
theorem Lay.define_ok {M:Nat} {l l':Lay} (h:LayOk M l) {n:List UInt8} {x:Int} (hx: -4294967296≤x∧x≤4294967296) (hd:l.define n x=some l'):LayOk M l'∧l'.pl=l.pl∧l'.ents=l.ents∧l'.wds=l.wds:=by
 unfold Lay.define at hd
 split at hd
 ·cases hd
 ·cases hd
  refine ⟨{ h with nms:=fun y hy=>?_ },rfl,rfl,rfl⟩
  rcases List.mem_append.1 hy with hy | hy
  ·exact h.nms y hy
  ·have:y=(n,x):=by simpa using hy
   subst this
   exact hx
theorem LayOk.place {M:Nat} {l:Lay} (h:LayOk M l) {p:Nat} (h1:l.pl≤p) (h2:p≤2048):LayOk M { l with pl:=p }:={ h with pl:=h2,lt:=fun x hx=>zll (h.lt x hx) h1 }
theorem ztA {p n:Nat} (hn:1≤n):p≤(p+n-1)/n*n:=by
 have h1:=Nat.div_add_mod (p+n-1) n
 have h2:=Nat.mod_lt (p+n-1) (show 0<n by omega)
 have h3:n*((p+n-1)/n)=(p+n-1)/n*n:=Nat.mul_comm _ _
 omega
theorem zuD {M:Nat} {l l':Lay} (h:LayOk M l) {x:PLine} (hx:LineOk M x) (h0:0<x.ln) (hd:zcH l x=some l'):LayOk M l'∧l'.ents.length≤l.ents.length+1:=by
 unfold zcH at hd
 cases ha:x.args with
 | nil=>rw [ha] at hd;cases hd
 | cons v r=>
   rw [ha] at hd
   simp only at hd
   have hv:=hx.args v (by rw [ha];simp)
   split at hd
   ·split at hd
    ·rename_i hc
     cases hd
     exact ⟨h.place (by omega) (by omega),by simp⟩
    ·cases hd
   ·split at hd
    ·split at hd
     ·rename_i hc
      cases hd
      exact ⟨h.place (ztA (by omega)) hc.2.2.2.2,by simp⟩
     ·cases hd
    ·split at hd
     ·split at hd
      ·rename_i y
       split at hd
       ·have hy:=hx.args y (by rw [ha];simp)
        obtain ⟨g1,g2,g3,g4⟩:=Lay.define_ok h (by have:=hy.2;omega) hd
        exact ⟨g1,by rw [g3];omega⟩
       ·cases hd
      ·cases hd
     ·split at hd
      ·split at hd
       ·rename_i hc
        cases hd
        refine ⟨{ h with ent:=fun e he=>?_ },by simp⟩
        rcases List.mem_append.1 he with he | he
        ·exact h.ent e he
        ·have:e=(v,x.ln,v.col):=by simpa using he
         subst this
         exact ⟨hc.1,h0,hv.1⟩
       ·cases hd
      ·cases hd
theorem zpi {M:Nat} {l l':Lay} (h:LayOk M l) {x:PLine} (hx:LineOk M x) (h0:0<x.ln) (hd:zh9 l x=some l'):LayOk M l'∧l'.ents.length≤l.ents.length+1:=by
 rw [zl7] at hd
 have hlab:∃ l1,(if x.lab=[] then some l else l.define x.lab l.pl)=some l1∧LayOk M l1∧l1.ents=l.ents∧zhd l1 x=some l':=by
  cases hc:(if x.lab=[] then some l else l.define x.lab l.pl) with
  | none=>rw [hc] at hd;cases hd
  | some l1=>
    rw [hc] at hd
    refine ⟨l1,rfl,?_⟩
    split at hc
    ·cases hc;exact ⟨h,rfl,hd⟩
    ·have:=h.pl
     obtain ⟨g1,g2,g3,g4⟩:=Lay.define_ok h (by omega) hc
     exact ⟨g1,g3,hd⟩
 obtain ⟨l1,_,h1,h2,h3⟩:=hlab
 rw [← h2]
 unfold zhd at h3
 split at h3
 ·exact zuD h1 hx h0 h3
 ·split at h3
  ·cases h3;exact ⟨h1,by omega⟩
  ·split at h3
   ·rename_i hp hpl
    cases h3
    refine ⟨⟨hpl,h1.nms,?_,fun y hy=>?_,fun y hy=>?_,h1.ent⟩,by simp⟩
    ·show List.Pairwise _ (l1.wds++[(l1.pl,x)])
     rw [List.pairwise_append]
     refine ⟨h1.ris,List.pairwise_singleton _ _,fun a ha b hb=>?_⟩
     have:b=(l1.pl,x):=by simpa using hb
     subst this
     exact h1.lt a ha
    ·show y.1<l1.pl+1
     rcases List.mem_append.1 hy with hy | hy
     ·have:=h1.lt y hy;omega
     ·have:y=(l1.pl,x):=by simpa using hy
      subst this
      exact Nat.lt_succ_self _
    ·rcases List.mem_append.1 hy with hy | hy
     ·exact h1.prs y hy
     ·have:y=(l1.pl,x):=by simpa using hy
      subst this
      exact ⟨hx,hp,h0⟩
   ·cases h3
theorem zk7 {M:Nat} (xs:List PLine) (l l':Lay) (h:LayOk M l) (hx:∀ x∈xs,LineOk M x∧0<x.ln) (hd:zf2 l xs=.ok l'):LayOk M l'∧l'.ents.length≤l.ents.length+xs.length:=by
 induction xs generalizing l with
 | nil=>cases hd;exact ⟨h,by simp⟩
 | cons x r ih=>
   unfold zf2 at hd
   cases hc:zh9 l x with
   | none=>rw [hc] at hd;cases hd
   | some l1=>
     rw [hc] at hd
     obtain ⟨g1,g2⟩:=zpi h (hx x (by simp)).1 (hx x (by simp)).2 hc
     obtain ⟨g3,g4⟩:=ih l1 g1 (fun y hy=>hx y (by simp [hy])) hd
     exact ⟨g3,by simp;omega⟩
theorem LayOk.wlen {M:Nat} {l:Lay} (h:LayOk M l):l.wds.length≤l.pl:=by
 have key:∀ (w:List (Nat×PLine)) (a p:Nat),a≤p→w.Pairwise (fun a b=>a.1<b.1)→(∀ x∈w,a≤x.1∧x.1<p)→w.length+a≤p:=by
  intro w
  induction w with
  | nil=>intro a p h _ _;simpa using h
  | cons x r ih=>
    intro a p h h1 h2
    rw [List.pairwise_cons] at h1
    have hx:=h2 x (by simp)
    have:=ih (x.1+1) p (by omega) h1.2 fun y hy=>⟨h1.1 y hy,(h2 y (by simp [hy])).2⟩
    simp only [List.length_cons]
    omega
 have:=key l.wds 0 l.pl (Nat.zero_le _) h.ris fun x hx=>⟨Nat.zero_le _,h.lt x hx⟩
 omega
def sizeT (l:Lay):Nat:=match l.wds.getLast? with | none=>0 | some x=>x.1+1
def zcn (nms:Nms) (N:Nat):List (Nat×PLine)→List Wd→Except (Nat×Nat) (List Wd)
 | [],ws=>.ok ws
 | x::r,ws=>if (zbq nms zaD x.2.prs).2≠0 then .error (x.2.ln,(zbq nms zaD x.2.prs).2)
   else if ((zbt ((zbq nms zaD x.2.prs).1.getD 8 0) ((zbq nms zaD x.2.prs).1.getD 10 0) x.1).any fun t=>decide ((N:Int)<t.1+t.2))=true then .error (x.2.ln,((x.2.prs.head?).map (·.col)).getD 0)
   else zcn nms N r (ws.set x.1 (zbq nms zaD x.2.prs).1)
def zel (nms:Nms) (N:Nat):List (Val×Nat×Nat)→Except (Nat×Nat) (List (List UInt8×Int))
 | []=>.ok []
 | e::r=>match zb9 nms e.1.nm with
   | none=>.error e.2
   | some x=>if x<0∨(N:Int)≤x then .error e.2 else match zel nms N r with
     | .error z=>.error z
     | .ok es=>.ok ((e.1.nm,x)::es)
def zgP (l:Lay):Except (Nat×Nat) (List Wd×List (List UInt8×Int)):=match zcn l.nms (sizeT l) l.wds (List.replicate (sizeT l) zaD) with
 | .error z=>.error z
 | .ok ws=>match zel l.nms (sizeT l) l.ents with
   | .error z=>.error z
   | .ok es=>.ok (ws,es)
def zjP (t:List UInt8):Except (Nat×Nat) (List Wd×List (List UInt8×Int)):=match zfc t with
 | .error z=>.error z
 | .ok xs=>match zf2 zez xs with
   | .error z=>.error z
   | .ok l=>zgP l
theorem zjQ {M:Nat} {l:Lay} (h:LayOk M l):(∀ x∈l.wds,x.1<sizeT l)∧sizeT l≤2048:=by
 unfold sizeT
 cases hg:l.wds.getLast? with
 | none=>
   have:l.wds=[]:=List.getLast?_eq_none_iff.1 hg
   rw [this]
   exact ⟨fun x hx=>(by cases hx),by simp⟩
 | some y=>
   obtain ⟨w,hw⟩:=List.getLast?_eq_some_iff.1 hg
   have hris:=h.ris
   rw [hw,List.pairwise_append] at hris
   have hy:=h.lt y (by rw [hw];simp)
   have hp:=h.pl
   refine ⟨fun x hx=>?_,by simp only;omega⟩
   rw [hw] at hx
   simp only
   rcases List.mem_append.1 hx with hx | hx
   ·have:=hris.2.2 x hx y (by simp);omega
   ·have:x=y:=by simpa using hx
    subst this
    omega
def zjR (w:Wd):Prop:=w.length=12∧zdl w=true
theorem zn6 {w:Wd}:zdl w=true↔∀ k,k<12→fitsT (w.getD k 0) (zaz k)=true:=by
 unfold zdl
 rw [List.all_eq_true]
 exact ⟨fun h k hk=>h k (List.mem_range.2 hk),fun h k hk=>h k (List.mem_range.1 hk)⟩
theorem zsz {w:Wd} (hw:w.length=12) (hg:zdl w=true) (f:List UInt8) (x:Int) (h:(zcc w f x).2=0):zdl (zcc w f x).1=true:=by
 rw [zn6] at hg ⊢
 intro k hk
 unfold zcc at h ⊢
 cases hf:zfW f with
 | none=>rw [hf] at h;cases h
 | some i=>
   rw [hf] at h
   simp only at h
   obtain ⟨_,_,_,hi⟩:=zl2 hf
   show fitsT ((if fitsT x (zaz i)=true then (w.set i x,(0:Int)) else (w,1)).1.getD k 0) _=true
   by_cases hfit:fitsT x (zaz i)=true
   ·rw [if_pos hfit]
    by_cases hki:k=i
    ·subst hki
     rw [List.getD_eq_getElem?_getD,List.getElem?_set_self (by omega)]
     exact hfit
    ·rw [List.getD_eq_getElem?_getD,List.getElem?_set_ne (fun e=>hki e.symm),← List.getD_eq_getElem?_getD]
     exact hg k hk
   ·rw [if_neg hfit] at h
    cases h
theorem zsA (nms:Nms) (prs:List Pr) (w:Wd) (hw:w.length=12) (hg:zdl w=true):zdl (zbq nms w prs).1=true:=by
 induction prs generalizing w with
 | nil=>exact hg
 | cons p r ih=>
   unfold zbq
   split
   ·exact hg
   ·split
    ·exact hg
    ·split
     ·rename_i h;exact ih _ (by rw [zdw,hw]) (zsz hw hg _ _ h)
     ·exact hg
theorem zpk:zjR zaD:=⟨rfl,by decide+kernel⟩
theorem zqi (nms:Nms) (prs:List Pr):zjR (zbq nms zaD prs).1:=⟨by rw [zl6];rfl,zsA nms prs zaD rfl zpk.2⟩
end Go.Proofs.YtifploedaacedaaGreatDoorE
namespace Go.Proofs.YtifploedaacedaaGreatDoorE
open Go Go.E Go.Proofs
structure OL where
 v:Value
 c:List Value
 z:Nat
 n:Nat
structure Owns (B:Nat) (st:SS) (L:List OL):Prop where
 own:∀ (k:Nat) o,L[k]?=some o→Own B st o.v o.c o.z o.n
 dis:∀ (k m:Nat) a b j,L[k]?=some a→L[m]?=some b→blkOf a.v=some j→blkOf b.v=some j→k=m
section
variable {B : Nat} {st st' : SS} {L : List OL}
theorem Owns.ext (h:Owns B st L) (x:Ext st st'):Owns B st' L:=⟨fun k o e=>(h.own k o e).ext x,h.dis⟩
theorem Owns.modLt {S:List Nat} (h:Owns B st L) (m:Mod S st st') (hS:∀ j,j∈S→j<B):Owns B st' L:=⟨fun k o e=>(h.own k o e).modLt m hS,h.dis⟩
theorem Owns.push (h:Owns B st L) {k:Nat} {v:Value} {c row:List Value} {z n bt:Nat} (hk:L[k]?=some ⟨v,c,z,n⟩) (hb:B≤st.next) (hl:st.lim≤B) (hr:row.length=z) (hz:0<z) (h1:row.all one=true) (hs:(n+2)*bt≤2^44) (hn:n+1≤2^44):
  ∃ j s',(st.new (.cells row z)).app z bt v (.slice (some ⟨st.next,0,none⟩) 1 1)=some (.slice (some ⟨j,0,none⟩) (n+1) (n+1),s')∧Owns B s' (L.set k ⟨.slice (some ⟨j,0,none⟩) (n+1) (n+1),c++row,z,n+1⟩)∧Keep B [] st s':=by
 obtain ⟨j,s',g1,g2,g3,g4,g5,g6⟩:=zhG (row:=row) (bt:=bt) (h.own k _ hk) hb hl hr hz h1 hs hn
 have hlt:k<L.length:=(List.getElem?_eq_some_iff.1 hk).1
 have hget:∀ m o,(L.set k ⟨.slice (some ⟨j,0,none⟩) (n+1) (n+1),c++row,z,n+1⟩)[m]?=some o→(m=k∧o=⟨.slice (some ⟨j,0,none⟩) (n+1) (n+1),c++row,z,n+1⟩)∨(m≠k∧L[m]?=some o):=fun m o ho=>by
  by_cases hm:m=k
  ·subst hm
   rw [List.getElem?_set_self hlt] at ho
   cases ho;exact .inl ⟨rfl,rfl⟩
  ·rw [List.getElem?_set_ne (fun e=>hm e.symm)] at ho
   exact .inr ⟨hm,ho⟩
 refine ⟨j,s',g1,⟨fun m o ho=>?_,fun m1 m2 a b q h1 h2 q1 q2=>?_⟩,⟨g5,g4,fun i hi _=>g6 i (by omega) fun e=>by have:=(zcK (h.own k _ hk) e).1;omega⟩⟩
 ·rcases hget m o ho with ⟨_,rfl⟩ | ⟨hm,ho⟩
  ·exact g3
  ·exact zfn (h.own m o ho) g5 fun i hi e=>g6 i hi fun e'=>hm (h.dis m k _ _ i ho hk e e')
 ·rcases hget m1 a h1 with ⟨e1,rfl⟩ | ⟨e1,h1⟩<;>rcases hget m2 b h2 with ⟨e2,rfl⟩ | ⟨e2,h2⟩
  ·rw [e1,e2]
  ·cases q1
   have:=(zcK (h.own m2 _ h2) q2).2
   omega
  ·cases q2
   have:=(zcK (h.own m1 _ h1) q1).2
   omega
  ·exact h.dis m1 m2 a b q h1 h2 q1 q2
end
end Go.Proofs.YtifploedaacedaaGreatDoorE
namespace Go.Proofs.YtifploedaacedaaGreatDoorE
set_option maxRecDepth 20000
open Go Go.E Go.Proofs
def zfC:LoopI:=⟨[(0,.any),(2,.any),(3,.any),(4,.any),(103,.any),(104,.int .i64),(105,.int .i64)],[(.exit 4,[(2,.any),(3,.any),(4,.any)]),(.ret,[(2,.any),(3,.any)])]⟩
def zfD:LoopI:=⟨[(0,.any),(2,.any),(3,.any),(4,.any),(7,.any),(8,.any),(38,.any),(39,.int .i64),(40,.int .i64),(62,.any),(63,.int .i64),(64,.int .i64)],[(.exit 2,[(0,.any),(2,.any),(3,.any),(4,.any),(7,.any),(8,.any),(38,.any),(39,.int .i64),(40,.int .i64)]),(.ret,[(2,.any),(3,.any)])]⟩
def zf3:LoopI:=⟨[(0,.any),(2,.any),(3,.any),(4,.any),(38,.any),(39,.int .i64),(40,.int .i64)],[(.exit 0,[(0,.any),(2,.any),(3,.any),(4,.any)]),(.ret,[(2,.any),(3,.any)])]⟩
def zga (n:Nat):Option LoopI:=cond (Nat.beq n 6) (some zf3) (cond (Nat.beq n 12) (some zfD) (cond (Nat.beq n 20) (some zfC) (none)))
noncomputable def zcY (cf:zak) (lf:zac) (b':Value) (st:SS):Option (Value×SS):=
 let a:SS:=st.new (.cells [.slice none 0 0,.slice none 0 0] 0)
 let b:SS:=a.new (.cells [.int .i64 0,.int .i64 0] 0)
 let c:SS:=b.new (.cells [.slice none 0 0,.slice none 0 0] 0)
 (zav b').bind fun d=>
 (addr? d).bind fun e=>
 (c.ld e.1 (e.2+2)).bind fun f=>
 ((lenV f).bind (asI .i64)).bind fun g=>
 cond (decide (0<g)) (
 (zav b').bind fun h=>
 (addr? h).bind fun i=>
 (c.ld i.1 (i.2+2)).bind fun j=>
 let k:Int:=IntKind.wrap .i64 (g-1)
 (zar j k 6).bind fun l=>
 ((c.ld l.1 l.2).bind (asI .i64)).bind fun m=>
 let n:Int:=IntKind.wrap .i64 (m+1)
 (zfb n n 8).bind fun _=>
 let o:SS:=c.new (.cells (zeX [.int .u64 0] n) 1)
 (o.st b.next 0 [.slice (some ⟨c.next,0,none⟩) ((n:Int).toNat) ((n:Int).toNat)]).bind fun p=>
 (zav b').bind fun q=>
 (addr? q).bind fun r=>
 (p.ld r.1 (r.2+2)).bind fun s=>
 ((lenV s).bind (asI .i64)).bind fun t=>
 (lf 6 [b',ptr st.next 0,ptr a.next 0,ptr b.next 0,s,.int .i64 t,.int .i64 0] p).bind fun u=>
 cond (Nat.beq u.1 0) (
 (u.2.1[0]?).bind fun v=>
 (u.2.1[1]?).bind fun w=>
 (u.2.1[2]?).bind fun x=>
 (u.2.1[3]?).bind fun y=>
 (zav v).bind fun z=>
 (addr? z).bind fun A=>
 (u.2.2.ld A.1 (A.2+4)).bind fun B=>
 ((lenV B).bind (asI .i64)).bind fun C=>
 (lf 20 [v,w,x,y,B,.int .i64 C,.int .i64 0] u.2.2).bind fun D=>
 cond (Nat.beq D.1 0) (
 (D.2.1[0]?).bind fun E=>
 (D.2.1[1]?).bind fun F=>
 (D.2.1[2]?).bind fun G=>
 (addr? G).bind fun H=>
 (D.2.2.ldN H.1 H.2 2).bind fun I=>
 (addr? E).bind fun J=>
 (D.2.2.stV J.1 J.2 2 I).bind fun K=>
 (addr? F).bind fun L=>
 (K.st L.1 L.2 [.int .i64 0,.int .i64 0]).bind fun M=>
 (addr? E).bind fun N=>
 (M.rdN N.1 N.2 2).bind fun O=>
 (addr? F).bind fun P=>
 (M.rdN P.1 P.2 2).bind fun Q=>
 some (.tuple #[O,Q],M)) (
 (D.2.1[0]?).bind fun R=>
 (D.2.1[1]?).bind fun S=>
 (addr? R).bind fun T=>
 (D.2.2.rdN T.1 T.2 2).bind fun U=>
 (addr? S).bind fun V=>
 (D.2.2.rdN V.1 V.2 2).bind fun W=>
 some (.tuple #[U,W],D.2.2))) (
 (u.2.1[0]?).bind fun X=>
 (u.2.1[1]?).bind fun Y=>
 (addr? X).bind fun Z=>
 (u.2.2.rdN Z.1 Z.2 2).bind fun aA=>
 (addr? Y).bind fun aB=>
 (u.2.2.rdN aB.1 aB.2 2).bind fun aC=>
 some (.tuple #[aA,aC],u.2.2))) (
 (zav b').bind fun aD=>
 (addr? aD).bind fun aE=>
 (c.ld aE.1 (aE.2+2)).bind fun aF=>
 ((lenV aF).bind (asI .i64)).bind fun aG=>
 (lf 6 [b',ptr st.next 0,ptr a.next 0,ptr b.next 0,aF,.int .i64 aG,.int .i64 0] c).bind fun aH=>
 cond (Nat.beq aH.1 0) (
 (aH.2.1[0]?).bind fun aI=>
 (aH.2.1[1]?).bind fun aJ=>
 (aH.2.1[2]?).bind fun aK=>
 (aH.2.1[3]?).bind fun aL=>
 (zav aI).bind fun aM=>
 (addr? aM).bind fun aN=>
 (aH.2.2.ld aN.1 (aN.2+4)).bind fun aO=>
 ((lenV aO).bind (asI .i64)).bind fun aP=>
 (lf 20 [aI,aJ,aK,aL,aO,.int .i64 aP,.int .i64 0] aH.2.2).bind fun aQ=>
 cond (Nat.beq aQ.1 0) (
 (aQ.2.1[0]?).bind fun aR=>
 (aQ.2.1[1]?).bind fun aS=>
 (aQ.2.1[2]?).bind fun aT=>
 (addr? aT).bind fun aU=>
 (aQ.2.2.ldN aU.1 aU.2 2).bind fun aV=>
 (addr? aR).bind fun aW=>
 (aQ.2.2.stV aW.1 aW.2 2 aV).bind fun aX=>
 (addr? aS).bind fun aY=>
 (aX.st aY.1 aY.2 [.int .i64 0,.int .i64 0]).bind fun aZ=>
 (addr? aR).bind fun bA=>
 (aZ.rdN bA.1 bA.2 2).bind fun bB=>
 (addr? aS).bind fun bC=>
 (aZ.rdN bC.1 bC.2 2).bind fun bD=>
 some (.tuple #[bB,bD],aZ)) (
 (aQ.2.1[0]?).bind fun bE=>
 (aQ.2.1[1]?).bind fun bF=>
 (addr? bE).bind fun bG=>
 (aQ.2.2.rdN bG.1 bG.2 2).bind fun bH=>
 (addr? bF).bind fun bI=>
 (aQ.2.2.rdN bI.1 bI.2 2).bind fun bJ=>
 some (.tuple #[bH,bJ],aQ.2.2))) (
 (aH.2.1[0]?).bind fun bK=>
 (aH.2.1[1]?).bind fun bL=>
 (addr? bK).bind fun bM=>
 (aH.2.2.rdN bM.1 bM.2 2).bind fun bN=>
 (addr? bL).bind fun bO=>
 (aH.2.2.rdN bO.1 bO.2 2).bind fun bP=>
 some (.tuple #[bN,bP],aH.2.2)))
noncomputable abbrev zao:zac:=lS Tryz.prog Lk0 Tryz.f44 zga
theorem zj6:Lk0.func 44=some (44,Tryz.f44):=by kernel_rfl
theorem zc6 [Sym] (b':Value) (st:SS) {r:Value×SS} (h:zcY cc zao b' st=some r):cc 44 [b'] st=some r:=
 zah (li:=zga) zai zaq zj6 rfl (fun _=>rfl) (.trans (by kernel_rfl) h)
noncomputable def zco (cf:zak) (lf:zac) (b':Value) (t2':Value) (t3':Value) (r':Value) (t38':Value) (t39':Int) (t40':Int) (st:SS):Option (Nat×List Value×SS):=
 cond (decide (t40'<t39')) (
 (zar t38' t40' 6).bind fun a=>
 (st.ldN a.1 a.2 6).bind fun b=>
 let c:SS:=st.new (.cells [.int .i64 0,.int .i64 0,.string ⟨#[]⟩,.string ⟨#[]⟩,.slice none 0 0,.slice none 0 0] 0)
 (c.stV st.next 0 6 b).bind fun d=>
 (d.ldN st.next 1 5).bind fun e=>
 (cf 72 [b',e] d).bind fun f=>
 (zal f.1 0).bind fun g=>
 ((zal f.1 1).bind (asI .i64)).bind fun h=>
 let i:SS:=f.2.new (.cells [.int .i64 0,.int .i64 0,.int .i64 0,.int .i64 0,.int .i64 0,.int .i64 0,.int .i64 0,.int .i64 0,.int .i64 0,.int .i64 0,.int .i64 0,.int .i64 0] 0)
 (i.stV f.2.next 0 12 g).bind fun j=>
 cond (decide (0<h)) (
 ((j.ld st.next 1).bind (asI .i64)).bind fun k=>
 cond (zbU (ptr st.next 1) t2') (
 (addr? t2').bind fun l=>
 (j.st l.1 l.2 [.slice none 0 0,.slice none 0 0]).bind fun m=>
 (addr? t3').bind fun n=>
 (m.st n.1 n.2 [.int .i64 k,.int .i64 h]).bind fun o=>
 some (1,[t2',t3'],o)) (
 none)) (
 (j.ldN f.2.next 0 12).bind fun p=>
 ((j.ld st.next 0).bind (asI .i64)).bind fun q=>
 (cf 62 [p,.int .i64 q] j).bind fun r=>
 ((lenV r.1).bind (asI .i64)).bind fun s=>
 (lf 12 [b',t2',t3',r',ptr st.next 0,ptr f.2.next 0,t38',.int .i64 t39',.int .i64 t40',r.1,.int .i64 s,.int .i64 0] r.2).bind fun t=>
 cond (Nat.beq t.1 0) (
 (t.2.1[0]?).bind fun u=>
 (t.2.1[1]?).bind fun v=>
 (t.2.1[2]?).bind fun w=>
 (t.2.1[3]?).bind fun x=>
 (t.2.1[4]?).bind fun y=>
 (t.2.1[5]?).bind fun z=>
 (t.2.1[6]?).bind fun A=>
 ((t.2.1[7]?).bind (asI .i64)).bind fun B=>
 ((t.2.1[8]?).bind (asI .i64)).bind fun C=>
 (addr? x).bind fun D=>
 (t.2.2.ld D.1 D.2).bind fun E=>
 (addr? y).bind fun F=>
 ((t.2.2.ld F.1 F.2).bind (asI .i64)).bind fun G=>
 (addr? z).bind fun H=>
 (t.2.2.ldN H.1 H.2 12).bind fun I=>
 (cf 73 [I] (t.2.2.ro t.2.2.next)).bind fun J=>
 ((zal J.1 0).bind (asI .u64)).bind fun K=>
 ((zal J.1 1).bind (asI .i64)).bind fun L=>
 (zar E G 1).bind fun M=>
 ((J.2.ro t.2.2.lim).st M.1 M.2 [.int .u64 K]).bind fun N=>
 let O:Int:=IntKind.wrap .i64 (C+1)
 lf 6 [u,v,w,x,A,.int .i64 B,.int .i64 O] N) (
 (t.2.1[0]?).bind fun P=>
 (t.2.1[1]?).bind fun Q=>
 some (1,[P,Q],t.2.2)))) (
 some (0,[b',t2',t3',r'],st))
theorem zcz [Sym] (b':Value) (t2':Value) (t3':Value) (r':Value) (t38':Value) (t39':Int) (t40':Int) (st:SS) {r:Nat×List Value×SS} (h:zco cc zao b' t2' t3' r' t38' t39' t40' st=some r):zao 6 [b',t2',t3',r',t38',.int .i64 t39',.int .i64 t40'] st=some r:=
 zax zai zaq (key:=6) (I:=zf3) rfl (by kernel_rfl) (by kernel_rfl) rfl rfl (.trans (by kernel_rfl) h)
noncomputable def zcT (cf:zak) (lf:zac) (b':Value) (t2':Value) (t3':Value) (r':Value) (x':Value) (w':Value) (t38':Value) (t39':Int) (t40':Int) (t62':Value) (t63':Int) (t64':Int) (st:SS):Option (Nat×List Value×SS):=
 cond (decide (t64'<t63')) (
 (zar t62' t64' 2).bind fun a=>
 (st.ldN a.1 a.2 2).bind fun b=>
 let c:SS:=st.new (.cells [.int .i64 0,.int .i64 0] 0)
 (c.stV st.next 0 2 b).bind fun d=>
 (zbe (ptr st.next 0) 2 0 1).bind fun e=>
 ((d.ld e.1 e.2).bind (asI .i64)).bind fun f=>
 (zbe (ptr st.next 0) 2 1 1).bind fun g=>
 ((d.ld g.1 g.2).bind (asI .i64)).bind fun h=>
 let i:Int:=IntKind.wrap .i64 (f+h)
 (addr? r').bind fun j=>
 (d.ld j.1 j.2).bind fun k=>
 ((lenV k).bind (asI .i64)).bind fun l=>
 cond (decide (l<i)) (
 (addr? x').bind fun m=>
 ((d.ld m.1 (m.2+1)).bind (asI .i64)).bind fun n=>
 (addr? x').bind fun o=>
 (d.ld o.1 (o.2+1+4)).bind fun p=>
 (zar p 0 5).bind fun q=>
 ((d.ld q.1 (q.2+1)).bind (asI .i64)).bind fun r=>
 cond (zbU (ptr m.1 (m.2+1)) t2') (
 cond (zbU (ptr o.1 (o.2+1+4)) t2') (
 cond (zbU (ptr q.1 (q.2+1)) t2') (
 (addr? t2').bind fun s=>
 (d.st s.1 s.2 [.slice none 0 0,.slice none 0 0]).bind fun t=>
 (addr? t3').bind fun u=>
 (t.st u.1 u.2 [.int .i64 n,.int .i64 r]).bind fun v=>
 some (1,[t2',t3'],v)) (
 none)) (
 none)) (
 none)) (
 let w:Int:=IntKind.wrap .i64 (t64'+1)
 lf 12 [b',t2',t3',r',x',w',t38',.int .i64 t39',.int .i64 t40',t62',.int .i64 t63',.int .i64 w] d)) (
 some (0,[b',t2',t3',r',x',w',t38',.int .i64 t39',.int .i64 t40'],st))
theorem zc8 [Sym] (b':Value) (t2':Value) (t3':Value) (r':Value) (x':Value) (w':Value) (t38':Value) (t39':Int) (t40':Int) (t62':Value) (t63':Int) (t64':Int) (st:SS) {r:Nat×List Value×SS} (h:zcT cc zao b' t2' t3' r' x' w' t38' t39' t40' t62' t63' t64' st=some r):zao 12 [b',t2',t3',r',x',w',t38',.int .i64 t39',.int .i64 t40',t62',.int .i64 t63',.int .i64 t64'] st=some r:=
 zax zai zaq (key:=12) (I:=zfD) rfl (by kernel_rfl) (by kernel_rfl) rfl rfl (.trans (by kernel_rfl) h)
noncomputable def zbI (cf:zak) (lf:zac) (b':Value) (t2':Value) (t3':Value) (r':Value) (t103':Value) (t104':Int) (t105':Int) (st:SS):Option (Nat×List Value×SS):=
 cond (decide (t105'<t104')) (
 (zar t103' t105' 3).bind fun a=>
 (st.ldN a.1 a.2 3).bind fun b=>
 let c:SS:=st.new (.cells [.string ⟨#[]⟩,.int .i64 0,.int .i64 0] 0)
 (c.stV st.next 0 3 b).bind fun d=>
 (zav b').bind fun e=>
 (addr? e).bind fun f=>
 (d.ld f.1 (f.2+1)).bind fun g=>
 ((d.ld st.next 0).bind asS).bind fun h=>
 (d.mapF g h).bind fun i=>
 zfI i (
 (zav b').bind fun j=>
 (addr? j).bind fun k=>
 (d.ld k.1 (k.2+3)).bind fun l=>
 (zar l t105' 2).bind fun m=>
 (d.ldN m.1 m.2 2).bind fun n=>
 cond (zbU (ptr k.1 (k.2+3)) t2') (
 cond (zbU (ptr m.1 m.2) t2') (
 (addr? t2').bind fun o=>
 (d.st o.1 o.2 [.slice none 0 0,.slice none 0 0]).bind fun p=>
 (addr? t3').bind fun q=>
 (p.stV q.1 q.2 2 n).bind fun r=>
 some (1,[t2',t3'],r)) (
 none)) (
 none)) (fun s=>
 ((zal (.tuple #[s,.bool true]) 0).bind (asI .i64)).bind fun t=>
 cond (decide (t<0)) (
 (zav b').bind fun u=>
 (addr? u).bind fun v=>
 (d.ld v.1 (v.2+3)).bind fun w=>
 (zar w t105' 2).bind fun x=>
 (d.ldN x.1 x.2 2).bind fun y=>
 cond (zbU (ptr v.1 (v.2+3)) t2') (
 cond (zbU (ptr x.1 x.2) t2') (
 (addr? t2').bind fun z=>
 (d.st z.1 z.2 [.slice none 0 0,.slice none 0 0]).bind fun A=>
 (addr? t3').bind fun B=>
 (A.stV B.1 B.2 2 y).bind fun C=>
 some (1,[t2',t3'],C)) (
 none)) (
 none)) (
 (addr? r').bind fun D=>
 (d.ld D.1 D.2).bind fun E=>
 ((lenV E).bind (asI .i64)).bind fun F=>
 cond (decide (F≤t)) (
 (zav b').bind fun G=>
 (addr? G).bind fun H=>
 (d.ld H.1 (H.2+3)).bind fun I=>
 (zar I t105' 2).bind fun J=>
 (d.ldN J.1 J.2 2).bind fun K=>
 cond (zbU (ptr H.1 (H.2+3)) t2') (
 cond (zbU (ptr J.1 J.2) t2') (
 (addr? t2').bind fun L=>
 (d.st L.1 L.2 [.slice none 0 0,.slice none 0 0]).bind fun M=>
 (addr? t3').bind fun N=>
 (M.stV N.1 N.2 2 K).bind fun O=>
 some (1,[t2',t3'],O)) (
 none)) (
 none)) (
 (addr? r').bind fun P=>
 (d.ld P.1 (P.2+1)).bind fun Q=>
 ((d.ld st.next 0).bind asS).bind fun R=>
 let S:SS:=d.new (.cells ([.string R,.int .i64 t]) 2)
 (S.app 2 24 Q (.slice (some ⟨d.next,0,none⟩) 1 1)).bind fun T=>
 (addr? r').bind fun U=>
 (T.2.stV U.1 (U.2+1) 1 T.1).bind fun V=>
 let W:Int:=IntKind.wrap .i64 (t105'+1)
 lf 20 [b',t2',t3',r',t103',.int .i64 t104',.int .i64 W] V)))) (
 some (0,[t2',t3',r'],st))
theorem zbK [Sym] (b':Value) (t2':Value) (t3':Value) (r':Value) (t103':Value) (t104':Int) (t105':Int) (st:SS) {r:Nat×List Value×SS} (h:zbI cc zao b' t2' t3' r' t103' t104' t105' st=some r):zao 20 [b',t2',t3',r',t103',.int .i64 t104',.int .i64 t105'] st=some r:=
 zax zai zaq (key:=20) (I:=zfC) rfl (by kernel_rfl) (by kernel_rfl) rfl rfl (.trans (by kernel_rfl) h)
def zgT:LoopI:=⟨[(2,.any),(3,.any),(8,.any),(27,.any),(28,.int .i64),(29,.int .i64)],[(.exit 0,[(2,.any),(3,.any),(8,.any)]),(.ret,[(2,.any),(3,.any),(4,.int .i64)])]⟩
def zhH (n:Nat):Option LoopI:=cond (Nat.beq n 6) (some zgT) (none)
noncomputable def zd5 (cf:zak) (lf:zac) (text':ByteArray) (st:SS):Option (Value×SS):=
 let a:SS:=st.new (.cells [.slice none 0 0,.slice none 0 0] 0)
 let b:SS:=a.new (.cells [.int .i64 0,.int .i64 0] 0)
 (cf 42 [.string text'] b).bind fun c=>
 (zal c.1 0).bind fun d=>
 (zal c.1 1).bind fun e=>
 ((zal c.1 2).bind (asI .i64)).bind fun f=>
 let g:SS:=c.2.new (.cells [.int .i64 0,.int .i64 0] 0)
 (g.stV c.2.next 0 2 e).bind fun h=>
 cond (!(decide (f=0))) (
 (h.ldN c.2.next 0 2).bind fun i=>
 cond (zbU (ptr c.2.next 0) (ptr st.next 0)) (
 (h.st st.next 0 [.slice none 0 0,.slice none 0 0]).bind fun j=>
 (j.stV a.next 0 2 i).bind fun k=>
 (k.rdN st.next 0 2).bind fun l=>
 (k.rdN a.next 0 2).bind fun m=>
 some (.tuple #[l,m,.int .i64 f],k)) (
 none)) (
 let n:SS:=h.new (.map [])
 let o:SS:=n.new (.cells [.int .i64 0,.map (some h.next),.slice none 0 0,.slice none 0 0,.slice none 0 0] 0)
 ((lenV d).bind (asI .i64)).bind fun p=>
 (lf 6 [ptr st.next 0,ptr a.next 0,ptr n.next 0,d,.int .i64 p,.int .i64 0] o).bind fun q=>
 cond (Nat.beq q.1 0) (
 (q.2.1[0]?).bind fun s=>
 (q.2.1[1]?).bind fun t=>
 (q.2.1[2]?).bind fun u=>
 (cf 44 [u] q.2.2).bind fun v=>
 (zal v.1 0).bind fun w=>
 (zal v.1 1).bind fun x=>
 let y:SS:=v.2.new (.cells [.slice none 0 0,.slice none 0 0] 0)
 let z:SS:=y.new (.cells [.int .i64 0,.int .i64 0] 0)
 (z.stV v.2.next 0 2 w).bind fun A=>
 (A.stV y.next 0 2 x).bind fun B=>
 (B.ldN y.next 0 2).bind fun C=>
 (((eqA Tryz.prog Lk0 97 C (.agg #[.int .i64 0,.int .i64 0])).bind fun r=>some (.bool !r)).bind asB).bind fun D=>
 cond D (
 (B.ldN y.next 0 2).bind fun E=>
 cond (zbU (ptr y.next 0) s) (
 (addr? s).bind fun F=>
 (B.st F.1 F.2 [.slice none 0 0,.slice none 0 0]).bind fun G=>
 (addr? t).bind fun H=>
 (G.stV H.1 H.2 2 E).bind fun I=>
 (addr? s).bind fun J=>
 (I.rdN J.1 J.2 2).bind fun K=>
 (addr? t).bind fun L=>
 (I.rdN L.1 L.2 2).bind fun M=>
 some (.tuple #[K,M,.int .i64 4],I)) (
 none)) (
 (B.ldN v.2.next 0 2).bind fun N=>
 (addr? s).bind fun O=>
 (B.stV O.1 O.2 2 N).bind fun P=>
 (addr? t).bind fun Q=>
 (P.st Q.1 Q.2 [.int .i64 0,.int .i64 0]).bind fun R=>
 (addr? s).bind fun S=>
 (R.rdN S.1 S.2 2).bind fun T=>
 (addr? t).bind fun U=>
 (R.rdN U.1 U.2 2).bind fun V=>
 some (.tuple #[T,V,.int .i64 0],R))) (
 (q.2.1[0]?).bind fun W=>
 (q.2.1[1]?).bind fun X=>
 ((q.2.1[2]?).bind (asI .i64)).bind fun Y=>
 (addr? W).bind fun Z=>
 (q.2.2.rdN Z.1 Z.2 2).bind fun aA=>
 (addr? X).bind fun aB=>
 (q.2.2.rdN aB.1 aB.2 2).bind fun aC=>
 some (.tuple #[aA,aC,.int .i64 Y],q.2.2)))
noncomputable abbrev zbE:zac:=lS Tryz.prog Lk0 Tryz.f16 zhH
theorem zl8:Lk0.func 16=some (16,Tryz.f16):=by kernel_rfl
theorem zdZ [Sym] (text':ByteArray) (st:SS) {r:Value×SS} (h:zd5 cc zbE text' st=some r):cc 16 [.string text'] st=some r:=
 zah (li:=zhH) zai zaq zl8 rfl (fun _=>rfl) (.trans (by kernel_rfl) h)
noncomputable def zd0 (cf:zak) (lf:zac) (t2':Value) (t3':Value) (b':Value) (t27':Value) (t28':Int) (t29':Int) (st:SS):Option (Nat×List Value×SS):=
 cond (decide (t29'<t28')) (
 (zar t27' t29' 5).bind fun a=>
 (st.ldN a.1 a.2 5).bind fun b=>
 let c:SS:=st.new (.cells [.int .i64 0,.string ⟨#[]⟩,.string ⟨#[]⟩,.slice none 0 0,.slice none 0 0] 0)
 (c.stV st.next 0 5 b).bind fun d=>
 (d.ldN st.next 0 5).bind fun e=>
 (cf 43 [b',e] d).bind fun f=>
 ((some f.1).bind asB).bind fun g=>
 cond (!g) (
 ((f.2.ld st.next 0).bind (asI .i64)).bind fun h=>
 cond (zbU (ptr st.next 0) t2') (
 (addr? t2').bind fun i=>
 (f.2.st i.1 i.2 [.slice none 0 0,.slice none 0 0]).bind fun j=>
 (addr? t3').bind fun k=>
 (j.st k.1 k.2 [.int .i64 h,.int .i64 1]).bind fun l=>
 some (1,[t2',t3',.int .i64 4],l)) (
 none)) (
 let m:Int:=IntKind.wrap .i64 (t29'+1)
 lf 6 [t2',t3',b',t27',.int .i64 t28',.int .i64 m] f.2)) (
 some (0,[t2',t3',b'],st))
theorem zef [Sym] (t2':Value) (t3':Value) (b':Value) (t27':Value) (t28':Int) (t29':Int) (st:SS) {r:Nat×List Value×SS} (h:zd0 cc zbE t2' t3' b' t27' t28' t29' st=some r):zbE 6 [t2',t3',b',t27',.int .i64 t28',.int .i64 t29'] st=some r:=
 zax zai zaq (key:=6) (I:=zgT) rfl (by kernel_rfl) (by kernel_rfl) rfl rfl (.trans (by kernel_rfl) h)
noncomputable def zb4 (cf:zak) (lf:zac) (l':Value) (name':ByteArray) (n':Int) (st:SS):Option (Value×SS):=
 (zav l').bind fun a=>
 (addr? a).bind fun b=>
 (st.ld b.1 b.2).bind fun c=>
 (cf 47 [c,.string name'] st).bind fun d=>
 ((some d.1).bind (asI .i64)).bind fun e=>
 cond (decide (0≤e)) (
 some (.bool false,d.2)) (
 cond (eqT name' ⟨#[]⟩) (
 some (.bool false,d.2)) (
 (zav l').bind fun f=>
 (addr? f).bind fun g=>
 (d.2.ld g.1 g.2).bind fun h=>
 let i:SS:=d.2.new (.cells ([.string name']) 1)
 (i.app 1 16 h (.slice (some ⟨d.2.next,0,none⟩) 1 1)).bind fun j=>
 (zav l').bind fun k=>
 (addr? k).bind fun l=>
 (j.2.stV l.1 l.2 1 j.1).bind fun m=>
 (zav l').bind fun n=>
 (addr? n).bind fun o=>
 (m.ld o.1 (o.2+1)).bind fun p=>
 let q:SS:=m.new (.cells ([.int .i64 n']) 1)
 (q.app 1 8 p (.slice (some ⟨m.next,0,none⟩) 1 1)).bind fun r=>
 (zav l').bind fun s=>
 (addr? s).bind fun t=>
 (r.2.stV t.1 (t.2+1) 1 r.1).bind fun u=>
 some (.bool true,u)))
noncomputable abbrev zgu:zac:=lS Tryz.prog Lk0 Tryz.f74 zaG
theorem zgv:Lk0.func 74=some (74,Tryz.f74):=by kernel_rfl
theorem zcq [Sym] (l':Value) (name':ByteArray) (n':Int) (st:SS) {r:Value×SS} (h:zb4 cc zgu l' name' n' st=some r):cc 74 [l',.string name',.int .i64 n'] st=some r:=
 zah (li:=zaG) zai zaq zgv rfl (fun _=>rfl) (.trans (by kernel_rfl) h)
end Go.Proofs.YtifploedaacedaaGreatDoorE
namespace Go.Proofs.YtifploedaacedaaGreatDoorE
open Go Go.E Go.Proofs
theorem zn7 {α:Type} {f:α→List Value} {z:Nat} (hz:∀ x,(f x).length=z) (x:α):∀ (l:List α) (k:Nat),k<l.length→(rowsF f l).take (k*z)++(f x++(rowsF f l).drop (k*z+z))=rowsF f (l.set k x)
 | [],k,h=>by simp at h
 | a::r,0,_=>by
   rw [zdh,List.set_cons_zero,zdh,Nat.zero_mul,List.take_zero,List.nil_append,Nat.zero_add,List.drop_append,hz,Nat.sub_self,List.drop_of_length_le (by rw [hz];exact zlr _)]
   simp
 | a::r,k+1,h=>by
   have ih:=zn7 hz x r k (by simpa using h)
   have e1:(k+1)*z-z=k*z:=by rw [Nat.add_mul];omega
   have e2:(k+1)*z+z-z=k*z+z:=by rw [Nat.add_mul];omega
   have e3:z≤(k+1)*z:=by rw [Nat.add_mul];omega
   rw [zdh,List.set_cons_succ,zdh,List.take_append,List.drop_append,hz,e1,e2,List.take_of_length_le (by rw [hz];exact e3),List.drop_of_length_le (by rw [hz];omega),List.nil_append,List.append_assoc,ih]
theorem zsB {α:Type} {f:α→List Value} {z:Nat} (hz:∀ x,(f x).length=z) (l:List α) (k:Nat) (x:α) (hk:k<l.length):zc9 (rowsF f l) (k*z) (f x)=some (rowsF f (l.set k x)):=by
 have h1:(k+1)*z≤l.length*z:=Nat.mul_le_mul_right _ hk
 rw [Nat.add_mul,Nat.one_mul] at h1
 rw [zbB (by rw [hz,zhY hz];exact h1),hz,zn7 hz x l k hk]
theorem Own.put {b:Nat} {st:SS} {v:Value} {α:Type} {f:α→List Value} {z:Nat} (hz:∀ x,(f x).length=z) {l:List α} {n:Nat} (h:Own b st v (rowsF f l) z n) (hn:l.length=n) (hl:st.lim≤b) {k:Nat} (hk:k<n) (x:α) (h1:(f x).all one=true):
  ∃ i st',zar v (k:Int) z=some (i,k*z)∧b≤i∧i<st.next∧st.st i (k*z) (f x)=some st'∧(∀ u:Value,u.cells.toList=f x→st.stV i (k*z) z u=some st')∧Own b st' v (rowsF f (l.set k x)) z n∧Mod [i] st st'∧st'.next=st.next:=by
 obtain ⟨h2,⟨rfl,h0⟩ | ⟨i,rfl,h0,hm,hb,hi⟩⟩:=h
 ·omega
 ·have hs:=SS.st_cells hm (by omega) h1 (zsB hz l k x (by omega))
  refine ⟨i,_,?_,hb,hi,hs,fun u hu=>?_,⟨?_,.inr ⟨i,rfl,h0,by simp,hb,by simpa using hi⟩⟩,⟨zlr _,rfl,fun j hj hS=>SS.set_old (by simpa using hS)⟩,rfl⟩
  ·unfold zar
   simp [hk]
  ·unfold SS.stV
   have:u.cells.size=z:=by rw [← hz x,← hu];simp
   rw [this,hu,hs]
   simp
  ·rw [zhY hz,List.length_set,hn]
def zd1 (w:Wd):List Value:=[.int .u64 (zdW w)]
def zem (e:List UInt8×Int):List Value:=[.string (mkS e.1),.int .i64 e.2]
abbrev NN:List Value:=[.slice none 0 0,.slice none 0 0]
abbrev Z2:List Value:=[.int .i64 0,.int .i64 0]
def inR (N:Nat) (T:List (Int×Int)):Bool:=T.any fun t=>decide ((N:Int)<t.1+t.2)
theorem zsC {x:Int} {n:Nat}:fitsT x n=true↔0≤x∧x<2^n:=by unfold fitsT;rw [decide_eq_true_eq]
theorem zkO {s tw a:Int} (ha:0≤a∧a≤4096) (ht:0≤tw∧tw<2048):∀ t∈zbt s tw a,0≤t.1∧t.1≤100000∧0≤t.2∧t.2≤100000:=by
 intro t h
 unfold zbt at h
 repeat' (split at h)
 all_goals first
  | (cases h;done)
  | (simp only [List.mem_cons,List.not_mem_nil,or_false] at h
     rcases h with rfl | rfl<;>simp only<;>omega)
  | (simp only [List.mem_cons,List.not_mem_nil,or_false] at h
     subst h
     simp only
     omega)
theorem zqj {w:Wd} (h:zjR w):0≤w.getD 10 0∧w.getD 10 0<2048:=by
 have h1:=zn6.1 h.2 10 (by omega)
 have e:zaz 10=11:=rfl
 rw [zsC,e] at h1
 exact ⟨h1.1,by have:=h1.2;simpa using this⟩
theorem getD_some {w:Wd} {k:Nat} (h:k<w.length):w[k]?=some (w.getD k 0):=by
 rw [List.getD_eq_getElem?_getD,zge h];rfl
theorem ztB [Sym] {base st0:SS} (hx0:Ext base st0) (hll:base.lim≤base.next) {T:List (Int×Int)} (hT:∀ t∈T,0≤t.1∧t.1≤100000∧0≤t.2∧t.2≤100000) (hTl:T.length≤10) {x:WItem} {b' w' t38 v wv ev:Value} {n j:Int} {t2 t3 r xb N:Nat}
  (hN:(lenV wv).bind (asI .i64)=some (N:Int)) (hr:At st0 r [wv,ev]) (a2:At st0 t2 NN) (a3:At st0 t3 Z2) (ax:At st0 xb (wdRow x)) (hne:t2≠t3) (h2:base.next≤t2) (h3:base.next≤t3) (hxb:xb≠t2) (p0:Pr) (ps:List Pr) (hps:x.2.1.prs=p0::ps) (hp:Rd base x.2.2.2 (rowsF prRow x.2.1.prs) 5 x.2.1.prs.length)
  (hv:Rd st0 v (rowsF zb2 T) 2 T.length):∀ (k i:Nat) (s:SS),T.length=k+i→Ext st0 s→
  ∃ s',if inR N (T.drop i)=true then zao 12 [b',ptr t2 0,ptr t3 0,ptr r 0,ptr xb 0,w',t38,.int .i64 n,.int .i64 j,v,.int .i64 T.length,.int .i64 i] s=some (1,[ptr t2 0,ptr t3 0],s')∧Ext base s'∧At s' t2 NN∧At s' t3 [.int .i64 x.2.1.ln,.int .i64 p0.col]
   else zao 12 [b',ptr t2 0,ptr t3 0,ptr r 0,ptr xb 0,w',t38,.int .i64 n,.int .i64 j,v,.int .i64 T.length,.int .i64 i] s=some (0,[b',ptr t2 0,ptr t3 0,ptr r 0,ptr xb 0,w',t38,.int .i64 n,.int .i64 j],s')∧Ext st0 s':=by
 intro k
 induction k with
 | zero=>
   intro i s hk he
   have h:¬ (i:Int)<(T.length:Int):=by omega
   rw [List.drop_of_length_le (by omega)]
   refine ⟨s,?_⟩
   rw [if_neg (by simp [inR])]
   refine ⟨zc8 _ _ _ _ _ _ _ _ _ _ _ _ s ?_,he⟩
   simp only [zcT,zdf h,zcf]
 | succ k ih=>
   intro i s hk he
   have h:(i:Int)<(T.length:Int):=by omega
   obtain ⟨t,ht⟩:∃ t,T[i]?=some t:=⟨_,zge (by omega)⟩
   obtain ⟨q1,q2,q3,q4⟩:=hT t (zmg ht)
   obtain ⟨p,b1,b2,_⟩:=(hv.ext he).load (j:=(i:Int)) (by omega) h (zbv (f:=zb2) (z:=2) (fun _=>rfl) T i t ht) rfl
   have b2':s.ldN p.1 p.2 2=some (.agg (zb2 t).toArray):=b2
   have hlm:s.lim≤s.next:=((hx0.trans he).ll hll)
   obtain ⟨s4,e4,a4,x4,n4⟩:=zaQ (st:=s) hlm (r:=Z2) (row:=zb2 t) (v:=.agg (zb2 t).toArray) (zaJ _) rfl rfl rfl
   have e4':(s.new (.cells [.int .i64 0,.int .i64 0] 0)).stV s.next 0 2 (.agg (zb2 t).toArray)=some s4:=e4
   have he4:=he.trans x4
   have c5:zbe (ptr s.next 0) 2 0 1=some (s.next,0):=rfl
   have c7:zbe (ptr s.next 0) 2 1 1=some (s.next,1):=rfl
   have l6:s4.ld s.next 0=some (.int .i64 t.1):=a4.ld
   have l8:s4.ld s.next 1=some (.int .i64 t.2):=a4.ld
   have hw9:IntKind.wrap .i64 (t.1+t.2)=t.1+t.2:=wrap64 (by omega) (by omega)
   have l11:s4.ld r 0=some wv:=(hr.ext he4).ld
   have hd:=drop_cons ht
   by_cases hc:(N:Int)<t.1+t.2
   ·obtain ⟨i15,z15,g1,g2,g3⟩:=hp.elem (j:=(0:Int)) (by omega) (by rw [hps];simp)
    obtain ⟨p17,f1,_,f3⟩:=((hp.ext hx0).ext he4).load (j:=(0:Int)) (by omega) (by rw [hps];simp) (row:=prRow p0) (by rw [hps];rfl) rfl
    have hp17:p17.1<base.next:=by rw [g1] at f1;cases f1;exact g3
    have l18:s4.ld p17.1 (p17.2+1)=some (.int .i64 p0.col):=f3 1 (by omega)
    have l14:s4.ld xb (0+1)=some (.int .i64 x.2.1.ln):=(ax.ext he4).ld
    have l16:s4.ld xb (0+1+4)=some x.2.2.2:=(ax.ext he4).ld
    have a24:=a2.ext he4
    have a34:=a3.ext he4
    obtain ⟨s20,e20,a20,m20,n20⟩:=a24.sto (k:=0) (vs:=NN) (row':=NN) rfl rfl
    obtain ⟨s22,e22,a22,m22,n22⟩:=(a34.mod m20 (by simpa using hne.symm)).sto (k:=0) (vs:=[.int .i64 x.2.1.ln,.int .i64 p0.col]) (row':=[.int .i64 x.2.1.ln,.int .i64 p0.col]) rfl rfl
    refine ⟨s22,?_⟩
    rw [if_pos (by unfold inR;rw [hd,List.any_cons,zdt hc];rfl)]
    refine ⟨zc8 _ _ _ _ _ _ _ _ _ _ _ _ s ?_,zaB (zaB (hx0.trans he4) m20 h2) m22 h3,a20.mod m22 (by simpa using hne),a22⟩
    simp only [zcT,zdt h,zct,b1,b2',e4',c5,c7,l6,l8,zob,zaa,hw9,zad,l11,hN,zdt hc,l14,l16,f1,l18,zcX hxb,zcX (show p17.1≠t2 by omega),e20,e22]
   ·obtain ⟨s',hs'⟩:=ih (i+1) s4 (by omega) he4
    have hw1:=za6 (i:=i) (by omega)
    refine ⟨s',?_⟩
    have e:inR N (T.drop i)=inR N (T.drop (i+1)):=by unfold inR;rw [hd,List.any_cons,zdf hc,Bool.false_or]
    rw [e]
    have go:∀ z,zao 12 [b',ptr t2 0,ptr t3 0,ptr r 0,ptr xb 0,w',t38,.int .i64 n,.int .i64 j,v,.int .i64 T.length,.int .i64 ((i+1:Nat):Int)] s4=some z→zao 12 [b',ptr t2 0,ptr t3 0,ptr r 0,ptr xb 0,w',t38,.int .i64 n,.int .i64 j,v,.int .i64 T.length,.int .i64 i] s=some z:=fun z hz=>by
     refine zc8 _ _ _ _ _ _ _ _ _ _ _ _ s ?_
     simp only [zcT,zdt h,zct,b1,b2',e4',c5,c7,l6,l8,zob,zaa,hw9,zad,l11,hN,zdf hc,zcf,hw1]
     exact hz
    split
    ·rename_i hh
     rw [if_pos hh] at hs'
     exact ⟨go _ hs'.1,hs'.2⟩
    ·rename_i hh
     rw [if_neg hh] at hs'
     exact ⟨go _ hs'.1,hs'.2⟩
theorem ztC {M:Nat} {x:PLine} (h:LineOk M x) (hM:M≤1099511627776):zq5 x.prs:=⟨zlt h.sp hM,fun p hp=>by
 obtain ⟨h1,h2,h3,h4⟩:=h.prs p hp
 exact ⟨h1,h2,by omega,by omega⟩⟩
def LayW (base:SS) (t2 t3 r N:Nat) (b' wv:Value) (res:Option (Nat×List Value×SS)):Except (Nat×Nat) (List Wd)→Prop
 | .error e=>∃ s',res=some (1,[ptr t2 0,ptr t3 0],s')∧Ext base s'∧At s' t2 NN∧At s' t3 [.int .i64 e.1,.int .i64 e.2]
 | .ok ws=>∃ s',res=some (0,[b',ptr t2 0,ptr t3 0,ptr r 0],s')∧Ext base s'∧At s' t2 NN∧At s' t3 Z2∧At s' r [wv,.slice none 0 0]∧Own (base.next+3) s' wv (rowsF zd1 ws) 1 N∧ws.length=N
theorem zuE [Sym] {st0 base:SS} {B b i M:Nat} {vw ve vv wv:Value} {l:Lay} {its:List WItem} (hB:Bld st0 base B b i vw ve vv l its) (hL:LayOk M l) (hM:M≤100000) (hg:Gd base)
  (hN:(lenV wv).bind (asI .i64)=some ((sizeT l:Nat):Int)):∀ (k j:Nat) (ws:List Wd) (s:SS),its.length=k+j→ws.length=sizeT l→Ext base s→At s base.next NN→At s (base.next+1) Z2→At s (base.next+2) [wv,.slice none 0 0]→Own (base.next+3) s wv (rowsF zd1 ws) 1 (sizeT l)→
  LayW base base.next (base.next+1) (base.next+2) (sizeT l) (ptr b 0) wv (zao 6 [ptr b 0,ptr base.next 0,ptr (base.next+1) 0,ptr (base.next+2) 0,vw,.int .i64 its.length,.int .i64 j] s) (zcn l.nms (sizeT l) (l.wds.drop j) ws):=by
 have hll:base.lim≤base.next:=by rw [hB.ext.lim];have:=hB.ll;have:=hB.ext.next;omega
 have hil:its.length≤2048:=by
  have h1:=hL.wlen
  have h2:=hL.pl
  rw [← hB.wds,List.length_map] at h1
  omega
 obtain ⟨hat,hNb⟩:=zjQ hL
 intro k
 induction k with
 | zero=>
   intro j ws s hk hws he a2 a3 ar ow
   have h:¬ (j:Int)<(its.length:Int):=by omega
   have hd:l.wds.drop j=[]:=List.drop_of_length_le (by rw [← hB.wds,List.length_map];omega)
   rw [hd]
   refine ⟨s,zcz _ _ _ _ _ _ _ s ?_,he,a2,a3,ar,ow,hws⟩
   simp only [zco,zdf h,zcf]
 | succ k ih=>
   intro j ws s hk hws he a2 a3 ar ow
   have h:(j:Int)<(its.length:Int):=by omega
   obtain ⟨x,hx⟩:∃ x,its[j]?=some x:=⟨_,zge (by omega)⟩
   have hwx:l.wds[j]?=some (x.1,x.2.1):=by rw [← hB.wds,List.getElem?_map,hx];rfl
   have hmem:=zmg hwx
   obtain ⟨hlo,hpne,hln⟩:=hL.prs _ hmem
   have hxat:x.1<sizeT l:=hat _ hmem
   have hd:=drop_cons hwx
   obtain ⟨p0,ps,hps⟩:∃ p0 ps,x.2.1.prs=p0::ps:=by
    cases hp:x.2.1.prs with
    | nil=>exact absurd hp hpne
    | cons a r=>exact ⟨a,r,rfl⟩
   have hsb:=hB.then he
   have hlm:s.lim≤s.next:=he.ll hll
   obtain ⟨p1,b1,b2,_⟩:=hsb.ow.rd.load (j:=(j:Int)) (by omega) h (zbv (f:=wdRow) (z:=6) (fun _=>rfl) its j x hx) rfl
   have b2':s.ldN p1.1 p1.2 6=some (.agg (wdRow x).toArray):=b2
   obtain ⟨s4,e4,a4,x4,n4⟩:=zaQ (st:=s) hlm (r:=wdRow (0,⟨0,[],[],[],[]⟩,.slice none 0 0,.slice none 0 0)) (row:=wdRow x) (v:=.agg (wdRow x).toArray) (zaJ _) rfl (by
    obtain ⟨hr1,hr2⟩:=hB.itr x (zmg hx)
    have o1:one x.2.2.1=true:=by obtain ⟨_,⟨e,_⟩ | ⟨i,c,e,_⟩⟩:=hr1<;>rw [e]<;>rfl
    have o2:one x.2.2.2=true:=by obtain ⟨_,⟨e,_⟩ | ⟨i,c,e,_⟩⟩:=hr2<;>rw [e]<;>rfl
    simp only [wdRow,lnRow,List.all_cons,List.all_nil,o1,o2]
    rfl) rfl
   have e4':(s.new (.cells [.int .i64 0,.int .i64 0,.string ⟨#[]⟩,.string ⟨#[]⟩,.slice none 0 0,.slice none 0 0] 0)).stV s.next 0 6 (.agg (wdRow x).toArray)=some s4:=e4
   have he4:=he.trans x4
   have hsb4:=hB.then he4
   have l5:s4.ldN s.next 1 5=some (.agg (lnRow x.2).toArray):=a4.ldC rfl
   have hpr:Rd st0 x.2.2.2 (rowsF prRow x.2.1.prs) 5 x.2.1.prs.length:=(hB.itr x (zmg hx)).2
   have hprb:=hpr.ext hB.ext
   obtain ⟨n6,u,hn6,hu,huo,c6⟩:=zsv l.nms hL.nms x.2 (ztC hlo (by omega)) b i (.int .i64 l.pl) vw ve vv s4 (hg.ext he4) hsb4.row.1 hsb4.row.lt hsb4.mp (by have:=hsb4.iB;have:=hsb4.BN;omega) (hprb.ext he4)
   have x6:Ext s4 (s4.adv n6):=(Ext.refl _).adv hn6
   have he6:=he4.trans x6
   obtain ⟨s10,e10,a10,x10,n10⟩:=zaQ (n:=12) (st:=s4.adv n6) (he6.ll hll) (r:=Z12) (row:=wRow u) (v:=wV u) (zaJ _) (by rw [za7,hu]) (zgq u) rfl
   have e10':((s4.adv n6).new (.cells [.int .i64 0,.int .i64 0,.int .i64 0,.int .i64 0,.int .i64 0,.int .i64 0,.int .i64 0,.int .i64 0,.int .i64 0,.int .i64 0,.int .i64 0,.int .i64 0] 0)).stV n6 0 12 (wV u)=some s10:=e10
   have he10:=he6.trans x10
   have he4_10:Ext s4 s10:=x6.trans x10
   have a4_10:=a4.ext he4_10
   have t0:∀ (a:Value) (z:Int),zal (.tuple #[a,.int .i64 z]) 0=some a:=fun _ _=>rfl
   have t1:∀ (a:Value) (z:Int),(zal (.tuple #[a,.int .i64 z]) 1).bind (asI .i64)=some z:=fun _ _=>rfl
   have hE:zcn l.nms (sizeT l) (l.wds.drop j) ws=if (zbq l.nms zaD x.2.1.prs).2≠0 then .error (x.2.1.ln,(zbq l.nms zaD x.2.1.prs).2)
    else if inR (sizeT l) (zbt ((zbq l.nms zaD x.2.1.prs).1.getD 8 0) ((zbq l.nms zaD x.2.1.prs).1.getD 10 0) x.1)=true then .error (x.2.1.ln,((x.2.1.prs.head?).map (·.col)).getD 0)
    else zcn l.nms (sizeT l) (l.wds.drop (j+1)) (ws.set x.1 (zbq l.nms zaD x.2.1.prs).1):=by rw [hd];rfl
   have hlt2:base.next<s.next:=a2.lt
   have hlt3:base.next+1<s.next:=a3.lt
   by_cases hc:(zbq l.nms zaD x.2.1.prs).2=0
   ·rw [if_neg (fun hh=>hh hc)] at hE
    have hcz:¬ (0:Int)<(((zbq l.nms zaD x.2.1.prs).2:Nat):Int):=by omega
    have hue:=huo hc
    have hwok:=zqi l.nms x.2.1.prs
    generalize hw:(zbq l.nms zaD x.2.1.prs).1=w at*
    subst hue
    have l16:s10.ldN n6 0 12=some (wV u):=a10.ldN (by rw [za7,hu])
    have l17:s10.ld s.next 0=some (.int .i64 x.1):=a4_10.ld
    have hto:=zqj hwok
    obtain ⟨v18,s18,c18,x18,o18⟩:=ztg u (x.1:Int) (u.getD 8 0) (u.getD 10 0) (getD_some (by omega)) (getD_some (by omega)) (by omega) (by omega) s10 (he10.ll hll)
    have he18:=he10.trans x18
    have hT:=zkO (s:=u.getD 8 0) (a:=(x.1:Int)) (by omega) hto
    have hTl:(zbt (u.getD 8 0) (u.getD 10 0) (x.1:Int)).length≤10:=by
     unfold zbt
     repeat' split
     all_goals simp
    obtain ⟨s20,h20⟩:=ztB (b':=ptr b 0) (w':=ptr n6 0) (t38:=vw) (n:=its.length) (j:=j) he18 hll hT hTl (x:=x) (N:=sizeT l) hN (ar.ext ((x4.trans he4_10).trans x18)) (a2.ext ((x4.trans he4_10).trans x18)) (a3.ext ((x4.trans he4_10).trans x18)) (a4_10.ext x18) (by omega) (zlr _) (by omega) (by omega) p0 ps hps hprb o18.rd
     _ 0 s18 rfl (Ext.refl _)
    rw [List.drop_zero] at h20
    have hlen:(lenV v18).bind (asI .i64)=some ((zbt (u.getD 8 0) (u.getD 10 0) (x.1:Int)).length:Int):=by rw [o18.len];rfl
    have b0:Nat.beq 0 0=true:=rfl
    have b1':Nat.beq 1 0=false:=rfl
    by_cases hr:inR (sizeT l) (zbt (u.getD 8 0) (u.getD 10 0) (x.1:Int))=true
    ·rw [if_pos hr] at hE h20
     rw [hE]
     obtain ⟨g1,g2,g3,g4⟩:=h20
     have g1':zao 12 [ptr b 0,ptr base.next 0,ptr (base.next+1) 0,ptr (base.next+2) 0,ptr s.next 0,ptr n6 0,vw,.int .i64 its.length,.int .i64 j,v18,.int .i64 (zbt (u.getD 8 0) (u.getD 10 0) (x.1:Int)).length,.int .i64 0] s18=_:=g1
     refine ⟨s20,zcz _ _ _ _ _ _ _ s ?_,g2,g3,by rw [hps];exact g4⟩
     simp only [zco,zdt h,zct,b1,b2',e4',l5,c6,t0,t1,zob,SS.adv_next,e10',zdf hcz,zcf,l16,l17,zaa,c18,hlen]
     rw [g1',zob]
     simp only [b1',zcf,zob,zgs,zgz]
    ·rw [if_neg hr] at hE h20
     rw [hE]
     obtain ⟨g1,g2⟩:=h20
     have g1':zao 12 [ptr b 0,ptr base.next 0,ptr (base.next+1) 0,ptr (base.next+2) 0,ptr s.next 0,ptr n6 0,vw,.int .i64 its.length,.int .i64 j,v18,.int .i64 (zbt (u.getD 8 0) (u.getD 10 0) (x.1:Int)).length,.int .i64 0] s18=_:=g1
     have he20:=he18.trans g2
     have xs20:Ext s s20:=((x4.trans he4_10).trans x18).trans g2
     have l31:s20.ld (base.next+2) 0=some wv:=(ar.ext xs20).ld
     have l33:s20.ld s.next 0=some (.int .i64 x.1):=(a4_10.ext (x18.trans g2)).ld
     have l35:s20.ldN n6 0 12=some (wV u):=(a10.ext (x18.trans g2)).ldN (by rw [za7,hu])
     obtain ⟨n36,hn36,c36⟩:=zur u hu (s20.ro s20.next) (hg.ext he20).ro
     rw [if_pos hwok.2] at c36
     have hn36':s20.next≤n36:=hn36
     have x36:Ext s20 (s20.adv n36):=(Ext.refl _).adv hn36'
     have hst:((s20.ro s20.next).adv n36).ro s20.lim=s20.adv n36:=rfl
     have u0:∀ (a:Int) (z:Int),(zal (.tuple #[.int .u64 a,.int .i64 z]) 0).bind (asI .u64)=some a:=fun _ _=>rfl
     have u1:∀ (a:Int) (z:Int),(zal (.tuple #[.int .u64 a,.int .i64 z]) 1).bind (asI .i64)=some z:=fun _ _=>rfl
     have he36:=he20.trans x36
     obtain ⟨iw,s40,f1,f2,f3,f4,_,f6,f7,f8⟩:=Own.put (f:=zd1) (fun _=>rfl) ((ow.ext xs20).ext x36) hws (by rw [he36.lim];omega) hxat u rfl
     rw [Nat.mul_one] at f1 f4
     have f4':(s20.adv n36).st iw x.1 [.int .u64 (zdW u)]=some s40:=f4
     have xs36:=xs20.trans x36
     have next:=ih (j+1) (ws.set x.1 u) s40 (by omega) (by rw [List.length_set,hws]) (zaB he36 f7 (by omega)) ((a2.ext xs36).mod f7 (by simp;omega)) ((a3.ext xs36).mod f7 (by simp;omega)) ((ar.ext xs36).mod f7 (by simp;omega)) f6
     have hw1:=za6 (i:=j) (by omega)
     have step:∀ z,zao 6 [ptr b 0,ptr base.next 0,ptr (base.next+1) 0,ptr (base.next+2) 0,vw,.int .i64 its.length,.int .i64 ((j+1:Nat):Int)] s40=some z→zao 6 [ptr b 0,ptr base.next 0,ptr (base.next+1) 0,ptr (base.next+2) 0,vw,.int .i64 its.length,.int .i64 j] s=some z:=fun z hz=>by
      refine zcz _ _ _ _ _ _ _ s ?_
      simp only [zco,zdt h,zct,b1,b2',e4',l5,c6,t0,t1,zob,SS.adv_next,e10',zdf hcz,zcf,l16,l17,zaa,c18,hlen]
      rw [g1',zob]
      simp only [b0,zct,zaa,zob,zgs,zgz,zad,l31,l33,l35,c36,u0,u1,hst,f1,f4',hw1]
      exact hz
     cases hz:zcn l.nms (sizeT l) (l.wds.drop (j+1)) (ws.set x.1 u) with
     | error e=>
       rw [hz] at next
       obtain ⟨s',d1,d2⟩:=next
       exact ⟨s',step _ d1,d2⟩
     | ok ws'=>
       rw [hz] at next
       obtain ⟨s',d1,d2⟩:=next
       exact ⟨s',step _ d1,d2⟩
   ·rw [if_pos hc] at hE
    rw [hE]
    have hcz:(0:Int)<(((zbq l.nms zaD x.2.1.prs).2:Nat):Int):=by omega
    have xs10:Ext s s10:=x4.trans he4_10
    have l11:s10.ld s.next 1=some (.int .i64 x.2.1.ln):=a4_10.ld
    obtain ⟨s13,e13,a13,m13,n13⟩:=(a2.ext xs10).sto (k:=0) (vs:=NN) (row':=NN) rfl rfl
    obtain ⟨s15,e15,a15,m15,n15⟩:=((a3.ext xs10).mod m13 (by simp)).sto (k:=0) (vs:=[.int .i64 x.2.1.ln,.int .i64 (zbq l.nms zaD x.2.1.prs).2]) (row':=[.int .i64 x.2.1.ln,.int .i64 (zbq l.nms zaD x.2.1.prs).2]) rfl rfl
    refine ⟨s15,zcz _ _ _ _ _ _ _ s ?_,zaB (zaB he10 m13 (zlr _)) m15 (by omega),a13.mod m15 (by simp),a15⟩
    simp only [zco,zdt h,zct,b1,b2',e4',l5,c6,t0,t1,zob,SS.adv_next,e10',zdt hcz,l11,zaa,zcX (show s.next≠base.next by omega),zad,e13,e15]
end Go.Proofs.YtifploedaacedaaGreatDoorE
namespace Go.Proofs.YtifploedaacedaaGreatDoorE
open Go Go.E Go.Proofs
def LayE (base:SS) (t2 t3 r N:Nat) (wv:Value) (ws:List Wd) (es:List (List UInt8×Int)) (res:Option (Nat×List Value×SS)):Except (Nat×Nat) (List (List UInt8×Int))→Prop
 | .error e=>∃ s',res=some (1,[ptr t2 0,ptr t3 0],s')∧Ext base s'∧At s' t2 NN∧At s' t3 [.int .i64 e.1,.int .i64 e.2]
 | .ok es'=>∃ s' ev',res=some (0,[ptr t2 0,ptr t3 0,ptr r 0],s')∧Ext base s'∧At s' t2 NN∧At s' t3 Z2∧At s' r [wv,ev']∧Owns (base.next+3) s' [⟨wv,rowsF zd1 ws,1,N⟩,⟨ev',rowsF zem (es++es'),2,(es++es').length⟩]
theorem ztD [Sym] {st0 base:SS} {B b i M N:Nat} {vw ve vv wv:Value} {l:Lay} {its:List WItem} (hB:Bld st0 base B b i vw ve vv l its) (hL:LayOk M l) (hn:l.ents.length≤100000) (ws:List Wd)
  (hN:(lenV wv).bind (asI .i64)=some (N:Int)):∀ (k j:Nat) (es:List (List UInt8×Int)) (ev:Value) (s:SS),l.ents.length=k+j→es.length≤j→Ext base s→At s base.next NN→At s (base.next+1) Z2→At s (base.next+2) [wv,ev]→Owns (base.next+3) s [⟨wv,rowsF zd1 ws,1,N⟩,⟨ev,rowsF zem es,2,es.length⟩]→
  LayE base base.next (base.next+1) (base.next+2) N wv ws es (zao 20 [ptr b 0,ptr base.next 0,ptr (base.next+1) 0,ptr (base.next+2) 0,vv,.int .i64 l.ents.length,.int .i64 j] s) (zel l.nms N (l.ents.drop j)):=by
 have hll:base.lim≤base.next:=by rw [hB.ext.lim];have:=hB.ll;have:=hB.ext.next;omega
 intro k
 induction k with
 | zero=>
   intro j es ev s hk hes he a2 a3 ar ow
   have h:¬ (j:Int)<(l.ents.length:Int):=by omega
   rw [List.drop_of_length_le (by omega)]
   refine ⟨s,ev,zbK _ _ _ _ _ _ _ s ?_,he,a2,a3,ar,by rw [List.append_nil];exact ow⟩
   simp only [zbI,zdf h,zcf]
 | succ k ih=>
   intro j es ev s hk hes he a2 a3 ar ow
   have h:(j:Int)<(l.ents.length:Int):=by omega
   obtain ⟨e,hx⟩:∃ e,l.ents[j]?=some e:=⟨_,zge (by omega)⟩
   have hd:=drop_cons hx
   have hE:zel l.nms N (l.ents.drop j)=match zb9 l.nms e.1.nm with
    | none=>.error e.2
    | some x=>if x<0∨(N:Int)≤x then .error e.2 else match zel l.nms N (l.ents.drop (j+1)) with
      | .error z=>.error z
      | .ok es=>.ok ((e.1.nm,x)::es):=by rw [hd];rfl
   have hsb:=hB.then he
   have hlm:s.lim≤s.next:=he.ll hll
   have ov:=hsb.ov
   rw [show l.ents.length=(l.ents.map (·.1)).length by simp] at ov
   have hmx:(l.ents.map (·.1))[j]?=some e.1:=by rw [List.getElem?_map,hx];rfl
   obtain ⟨p1,b1,b2,_⟩:=ov.rd.load (j:=(j:Int)) (by omega) (by simpa using h) (zbv (f:=valRow) (z:=3) (fun _=>rfl) _ j e.1 hmx) rfl
   have b2':s.ldN p1.1 p1.2 3=some (.agg (valRow e.1).toArray):=b2
   obtain ⟨s4,e4,a4,x4,n4⟩:=zaQ (n:=3) (st:=s) hlm (r:=valRow ⟨[],0,0⟩) (row:=valRow e.1) (v:=.agg (valRow e.1).toArray) (zaJ _) rfl rfl rfl
   have e4':(s.new (.cells [.string ⟨#[]⟩,.int .i64 0,.int .i64 0] 0)).stV s.next 0 3 (.agg (valRow e.1).toArray)=some s4:=e4
   have he4:=he.trans x4
   have hsb4:=hB.then he4
   have hnl:zav (ptr b 0)=some (ptr b 0):=rfl
   have l7:s4.ld b (0+1)=some (.map (some i)):=hsb4.row.ld
   have l8:s4.ld s.next 0=some (.string (mkS e.1.nm)):=a4.ld
   have l13:s4.ld b (0+3)=some ve:=hsb4.row.ld
   have m7:s4.mapF (.map (some i)) (mkS e.1.nm)=some ((zb9 l.nms e.1.nm).map (.int .i64)):=by
    unfold SS.mapF
    simp only [hsb4.mp,zob,zl5]
   obtain ⟨p14,c1,c2,_⟩:=hsb4.oe.rd.load (j:=(j:Int)) (by omega) h (zbv (f:=entRow) (z:=2) (fun _=>rfl) l.ents j e hx) rfl
   have c2':s4.ldN p14.1 p14.2 2=some (.agg (entRow e).toArray):=c2
   have hp14:p14.1<base.next:=by
    obtain ⟨i',z',g1,g2,g3⟩:=hB.oe.rd.elem (j:=(j:Int)) (by omega) h
    rw [g1] at c1;cases c1;exact g3
   have hbt:b≠base.next:=by have:=hB.row.lt;omega
   have a24:=a2.ext x4
   have a34:=a3.ext x4
   obtain ⟨s17,e17,a17,m17,n17⟩:=a24.sto (k:=0) (vs:=NN) (row':=NN) rfl rfl
   obtain ⟨s19,e19,a19,m19,n19⟩:=(a34.mod m17 (by simp)).stV (k:=0) (n:=2) (v:=.agg (entRow e).toArray) (zaJ _) rfl rfl (row':=entRow e) rfl
   have hbad:∀ z,z=some (1,[ptr base.next 0,ptr (base.next+1) 0],s19)→LayE base base.next (base.next+1) (base.next+2) N wv ws es z (.error e.2):=fun z hz=>⟨s19,hz,zaB (zaB he4 m17 (zlr _)) m19 (by omega),a17.mod m19 (by simp),a19⟩
   have hp2:zbU (ptr p14.1 p14.2) (ptr base.next 0)=true:=zcX (by omega)
   have hp1:zbU (ptr b (0+3)) (ptr base.next 0)=true:=zcX hbt
   rw [hE]
   cases hf:zb9 l.nms e.1.nm with
   | none=>
     rw [hf] at m7
     refine hbad _ (zbK _ _ _ _ _ _ _ s ?_)
     simp only [zbI,zdt h,zct,b1,b2',e4',hnl,zad,l7,l8,m7,zob,zab,Option.map_none,zfI,l13,c1,c2',hp1,hp2,e17,e19]
   | some y=>
     rw [hf] at m7
     have ht:(zal (.tuple #[.int .i64 y,.bool true]) 0).bind (asI .i64)=some y:=rfl
     by_cases hy:y<0
     ·simp only [if_pos (show y<0∨(N:Int)≤y from .inl hy)]
      refine hbad _ (zbK _ _ _ _ _ _ _ s ?_)
      simp only [zbI,zdt h,zct,b1,b2',e4',hnl,zad,l7,l8,m7,zob,zab,Option.map_some,zfI,ht,zdt hy,l13,c1,c2',hp1,hp2,e17,e19]
     ·have l31:s4.ld (base.next+2) 0=some wv:=(ar.ext x4).ld
      by_cases hyN:(N:Int)≤y
      ·simp only [if_pos (show y<0∨(N:Int)≤y from .inr hyN)]
       refine hbad _ (zbK _ _ _ _ _ _ _ s ?_)
       simp only [zbI,zdt h,zct,b1,b2',e4',hnl,zad,l7,l8,m7,zob,zab,Option.map_some,zfI,ht,zdf hy,zcf,l31,hN,zdt hyN,l13,c1,c2',hp1,hp2,e17,e19]
      ·simp only [if_neg (show ¬ (y<0∨(N:Int)≤y) by omega)]
       have l43:s4.ld (base.next+2) (0+1)=some ev:=(ar.ext x4).ld
       have hlt2:base.next+2<s.next:=ar.lt
       obtain ⟨q,s46,f1,f2,f3⟩:=(ow.ext x4).push (k:=1) (row:=zem (e.1.nm,y)) (bt:=24) rfl (by have:=x4.next;omega) (by rw [he4.lim];omega) rfl (by omega) rfl (by omega) (by omega)
       have f1':(s4.new (.cells ([.string (mkS e.1.nm),.int .i64 y]) 2)).app 2 24 ev (.slice (some ⟨s4.next,0,none⟩) 1 1)=some (.slice (some ⟨q,0,none⟩) (es.length+1) (es.length+1),s46):=f1
       have ar46:At s46 (base.next+2) [wv,ev]:=(ar.ext x4).keepB f3 (by omega) (by simp)
       have a246:=a24.keepB f3 (by omega) (by simp)
       have a346:=a34.keepB f3 (by omega) (by simp)
       obtain ⟨s48,e48,a48,m48,n48⟩:=ar46.stV (k:=1) (n:=1) (v:=.slice (some ⟨q,0,none⟩) (es.length+1) (es.length+1)) (zk5 _ _ _) rfl rfl (row':=[wv,.slice (some ⟨q,0,none⟩) (es.length+1) (es.length+1)]) rfl
       have e48':s46.stV (base.next+2) (0+1) 1 (.slice (some ⟨q,0,none⟩) (es.length+1) (es.length+1))=some s48:=e48
       have he46:Ext base s46:=⟨zlt he4.next f3.next,f3.lim.trans he4.lim,fun m hm=>(f3.keep m (by omega) (by simp)).trans (he4.keep m hm)⟩
       have hw1:=za6 (i:=j) (by omega)
       have ow48:=f2.modLt m48 (by intro m hm;have e:m=base.next+2:=(by simpa using hm);omega)
       have ow48':Owns (base.next+3) s48 [⟨wv,rowsF zd1 ws,1,N⟩,⟨.slice (some ⟨q,0,none⟩) (es.length+1) (es.length+1),rowsF zem (es++[(e.1.nm,y)]),2,(es++[(e.1.nm,y)]).length⟩]:=by
        rw [zbS,zcV,List.length_append]
        exact ow48
       have next:=ih (j+1) (es++[(e.1.nm,y)]) _ s48 (by omega) (by simp;omega) (zaB he46 m48 (by omega)) (a246.mod m48 (by simp)) (a346.mod m48 (by simp)) a48 ow48'
       have step:∀ z,zao 20 [ptr b 0,ptr base.next 0,ptr (base.next+1) 0,ptr (base.next+2) 0,vv,.int .i64 l.ents.length,.int .i64 ((j+1:Nat):Int)] s48=some z→zao 20 [ptr b 0,ptr base.next 0,ptr (base.next+1) 0,ptr (base.next+2) 0,vv,.int .i64 l.ents.length,.int .i64 j] s=some z:=fun z hz=>by
        refine zbK _ _ _ _ _ _ _ s ?_
        simp only [zbI,zdt h,zct,b1,b2',e4',hnl,zad,l7,l8,m7,zob,zab,Option.map_some,zfI,ht,zdf hy,zcf,l31,hN,zdf hyN,l43,List.append_nil,f1',e48',hw1]
        exact hz
       cases hz:zel l.nms N (l.ents.drop (j+1)) with
       | error z=>
         rw [hz] at next
         obtain ⟨s',d1,d2⟩:=next
         exact ⟨s',step _ d1,d2⟩
       | ok es'=>
         rw [hz] at next
         obtain ⟨s',ev',d1,d2,d3,d4,d5,d6⟩:=next
         refine ⟨s',ev',step _ d1,d2,d3,d4,d5,?_⟩
         rw [List.append_assoc] at d6
         exact d6
def zkP (w e:Value):Value:=.agg #[w,e]
def LayR (base:SS) (res:Option (Value×SS)):Except (Nat×Nat) (List Wd×List (List UInt8×Int))→Prop
 | .error e=>∃ s',res=some (.tuple #[zkP (.slice none 0 0) (.slice none 0 0),zbj e],s')∧Ext base s'∧e≠(0,0)
 | .ok (ws,es)=>∃ s' wv ev,res=some (.tuple #[zkP wv ev,zbj (0,0)],s')∧Ext base s'∧Own base.next s' wv (rowsF zd1 ws) 1 ws.length∧Own base.next s' ev (rowsF zem es) 2 es.length
theorem zm4 {M:Nat} {nms:Nms} {N:Nat}:∀ (xs:List (Nat×PLine)) (ws:List Wd) (e:Nat×Nat),(∀ x∈xs,LineOk M x.2∧x.2.prs≠[]∧0<x.2.ln)→zcn nms N xs ws=.error e→0<e.1
 | [],ws,e,_,h=>by cases h
 | x::r,ws,e,hx,h=>by
   unfold zcn at h
   have:=(hx x (by simp)).2.2
   split at h
   ·cases h;exact this
   ·split at h
    ·cases h;exact this
    ·exact zm4 r _ e (fun y hy=>hx y (by simp [hy])) h
theorem zn8 {nms:Nms} {N:Nat}:∀ (xs:List (Val×Nat×Nat)) (e:Nat×Nat),(∀ x∈xs,x.1.nm≠[]∧0<x.2.1∧0<x.2.2)→zel nms N xs=.error e→0<e.1
 | [],e,_,h=>by cases h
 | x::r,e,hx,h=>by
   unfold zel at h
   have:=(hx x (by simp)).2.1
   split at h
   ·cases h;exact this
   ·split at h
    ·cases h;exact this
    ·split at h
     ·rename_i hz
      cases h
      exact zn8 r _ (fun y hy=>hx y (by simp [hy])) hz
     ·cases h
theorem zm5:zdW zaD=0:=by decide+kernel
theorem zn9 (n:Nat):rowsF zd1 (List.replicate n zaD)=List.replicate n (.int .u64 0):=by
 induction n with
 | zero=>rfl
 | succ n ih=>rw [List.replicate_succ,zdh,ih,List.replicate_succ];unfold zd1;rw [zm5];rfl
theorem zf4 {nms:Nms} {N:Nat}:∀ (xs:List (Nat×PLine)) (ws ws':List Wd),zcn nms N xs ws=.ok ws'→ws'.length=ws.length
 | [],ws,ws',h=>by cases h;rfl
 | x::r,ws,ws',h=>by
   unfold zcn at h
   split at h
   ·cases h
   ·split at h
    ·cases h
    ·rw [zf4 r _ ws' h,List.length_set]
theorem lay_ok [Sym] {st0 base:SS} {B b i M:Nat} {vw ve vv:Value} {l:Lay} {its:List WItem} (hB:Bld st0 base B b i vw ve vv l its) (hL:LayOk M l) (hM:M≤100000) (hn:l.ents.length≤100000) (hg:Gd base):
  LayR base (cc 44 [ptr b 0] base) (zgP l):=by
 have hll:base.lim≤base.next:=by rw [hB.ext.lim];have:=hB.ll;have:=hB.ext.next;omega
 have hil:its.length=l.wds.length:=by rw [← hB.wds,List.length_map]
 have hil2:its.length≤2048:=by
  have h1:=hL.wlen
  have h2:=hL.pl
  omega
 have x1:Ext base (base.new (.cells NN 0)):=(Ext.refl _).new _
 have x2:Ext (base.new (.cells NN 0)) ((base.new (.cells NN 0)).new (.cells Z2 0)):=(Ext.refl _).new _
 have x3:Ext ((base.new (.cells NN 0)).new (.cells Z2 0)) (((base.new (.cells NN 0)).new (.cells Z2 0)).new (.cells NN 0)):=(Ext.refl _).new _
 have a2:At (((base.new (.cells NN 0)).new (.cells Z2 0)).new (.cells NN 0)) base.next NN:=((At.new hll NN).ext x2).ext x3
 have a3:At (((base.new (.cells NN 0)).new (.cells Z2 0)).new (.cells NN 0)) (base.next+1) Z2:=(At.new (st:=base.new (.cells NN 0)) (x1.ll hll) Z2).ext x3
 have ar:At (((base.new (.cells NN 0)).new (.cells Z2 0)).new (.cells NN 0)) (base.next+2) NN:=At.new (st:=(base.new (.cells NN 0)).new (.cells Z2 0)) ((x1.trans x2).ll hll) NN
 have he3:Ext base (((base.new (.cells NN 0)).new (.cells Z2 0)).new (.cells NN 0)):=x1.trans (x2.trans x3)
 have hn1:(base.new (.cells NN 0)).next=base.next+1:=rfl
 have hn2:((base.new (.cells NN 0)).new (.cells Z2 0)).next=base.next+2:=rfl
 have hn3:(((base.new (.cells NN 0)).new (.cells Z2 0)).new (.cells NN 0)).next=base.next+3:=rfl
 generalize hs3:((base.new (.cells NN 0)).new (.cells Z2 0)).new (.cells NN 0)=s3 at*
 have hsb:=hB.then he3
 have hnl:zav (ptr b 0)=some (ptr b 0):=rfl
 have l6:s3.ld b (0+2)=some vw:=hsb.row.ld
 have hlen:(lenV vw).bind (asI .i64)=some (its.length:Int):=by rw [hB.ow.len];rfl
 have rest:∀ (s:SS) (wv:Value),Ext base s→At s base.next NN→At s (base.next+1) Z2→At s (base.next+2) [wv,.slice none 0 0]→Own (base.next+3) s wv (rowsF zd1 (List.replicate (sizeT l) zaD)) 1 (sizeT l)→
   LayR base ((zao 6 [ptr b 0,ptr base.next 0,ptr (base.next+1) 0,ptr (base.next+2) 0,vw,.int .i64 its.length,.int .i64 0] s).bind fun r21=>cond (Nat.beq r21.1 0) (
  (r21.2.1[0]?).bind fun v22=>
  (r21.2.1[1]?).bind fun v23=>
  (r21.2.1[2]?).bind fun v24=>
  (r21.2.1[3]?).bind fun v25=>
  (zav v22).bind fun v26=>
  (addr? v26).bind fun p27=>
  (r21.2.2.ld p27.1 (p27.2+4)).bind fun v28=>
  ((lenV v28).bind (asI .i64)).bind fun n29=>
  (zao 20 [v22,v23,v24,v25,v28,.int .i64 n29,.int .i64 0] r21.2.2).bind fun r30=>
  cond (Nat.beq r30.1 0) (
   (r30.2.1[0]?).bind fun v31=>
   (r30.2.1[1]?).bind fun v32=>
   (r30.2.1[2]?).bind fun v33=>
   (addr? v33).bind fun p34=>
   (r30.2.2.ldN p34.1 p34.2 2).bind fun v35=>
   (addr? v31).bind fun p36=>
   (r30.2.2.stV p36.1 p36.2 2 v35).bind fun st37=>
   (addr? v32).bind fun p38=>
   (st37.st p38.1 p38.2 [.int .i64 0,.int .i64 0]).bind fun st39=>
   (addr? v31).bind fun p40=>
   (st39.rdN p40.1 p40.2 2).bind fun v41=>
   (addr? v32).bind fun p42=>
   (st39.rdN p42.1 p42.2 2).bind fun v43=>
   some (.tuple #[v41,v43],st39)) (
   (r30.2.1[0]?).bind fun v44=>
   (r30.2.1[1]?).bind fun v45=>
   (addr? v44).bind fun p46=>
   (r30.2.2.rdN p46.1 p46.2 2).bind fun v47=>
   (addr? v45).bind fun p48=>
   (r30.2.2.rdN p48.1 p48.2 2).bind fun v49=>
   some (.tuple #[v47,v49],r30.2.2))) (
  (r21.2.1[0]?).bind fun v50=>
  (r21.2.1[1]?).bind fun v51=>
  (addr? v50).bind fun p52=>
  (r21.2.2.rdN p52.1 p52.2 2).bind fun v53=>
  (addr? v51).bind fun p54=>
  (r21.2.2.rdN p54.1 p54.2 2).bind fun v55=>
  some (.tuple #[v53,v55],r21.2.2))) (zgP l):=by
  intro s wv he b2 b3 br bo
  have hN:(lenV wv).bind (asI .i64)=some ((sizeT l:Nat):Int):=by rw [bo.len];rfl
  have hw:=zuE hB hL hM hg hN its.length 0 (List.replicate (sizeT l) zaD) s rfl (by simp) he b2 b3 br bo
  rw [List.drop_zero] at hw
  have b0:Nat.beq 0 0=true:=rfl
  have b1:Nat.beq 1 0=false:=rfl
  unfold zgP
  cases hws:zcn l.nms (sizeT l) l.wds (List.replicate (sizeT l) zaD) with
  | error e=>
    rw [hws] at hw
    obtain ⟨s',c1,c2,c3,c4⟩:=hw
    have c1':zao 6 [ptr b 0,ptr base.next 0,ptr (base.next+1) 0,ptr (base.next+2) 0,vw,.int .i64 its.length,.int .i64 0] s=_:=c1
    have r1:=c3.rdN (n:=2) rfl
    have r2:=c4.rdN (n:=2) rfl
    refine ⟨s',?_,c2,fun hh=>by have:=zm4 _ _ _ hL.prs hws;rw [hh] at this;omega⟩
    rw [c1',zob]
    simp only [b1,zcf,zgs,zgz,zob,zad,r1,r2]
    rfl
  | ok ws=>
    rw [hws] at hw
    obtain ⟨s',c1,c2,c3,c4,c5,c6,c7⟩:=hw
    have c1':zao 6 [ptr b 0,ptr base.next 0,ptr (base.next+1) 0,ptr (base.next+2) 0,vw,.int .i64 its.length,.int .i64 0] s=_:=c1
    have hsb':=hB.then c2
    have l28:s'.ld b (0+4)=some vv:=hsb'.row.ld
    have hlen2:(lenV vv).bind (asI .i64)=some (l.ents.length:Int):=by rw [hB.ov.len];rfl
    have ow:Owns (base.next+3) s' [⟨wv,rowsF zd1 ws,1,sizeT l⟩,⟨.slice none 0 0,rowsF zem [],2,([]:List (List UInt8×Int)).length⟩]:=by
     refine ⟨fun k o ho=>?_,fun k m a b' j ha hb h1 h2=>?_⟩
     ·match k,ho with
      | 0,ho=>cases ho;exact c6
      | 1,ho=>cases ho;exact Own.nil _ _ _
      | k+2,ho=>simp at ho
     ·match k,m,ha,hb with
      | 0,0,_,_=>rfl
      | 1,1,_,_=>rfl
      | 0,1,_,hb=>cases hb;cases h2
      | 1,0,ha,_=>cases ha;cases h1
      | k+2,_,ha,_=>simp at ha
      | _,k+2,_,hb=>simp at hb
    have hen:=ztD hB hL hn ws hN l.ents.length 0 [] _ s' rfl (by simp) c2 c3 c4 c5 ow
    rw [List.drop_zero] at hen
    rw [c1',zob]
    simp only [b0,zct,zgs,zgz,zob,hnl,zad,l28,hlen2]
    cases hes:zel l.nms (sizeT l) l.ents with
    | error e=>
      rw [hes] at hen
      obtain ⟨s2,d1,d2,d3,d4⟩:=hen
      have d1':zao 20 [ptr b 0,ptr base.next 0,ptr (base.next+1) 0,ptr (base.next+2) 0,vv,.int .i64 l.ents.length,.int .i64 0] s'=_:=d1
      have r1:=d3.rdN (n:=2) rfl
      have r2:=d4.rdN (n:=2) rfl
      refine ⟨s2,?_,d2,fun hh=>by have:=zn8 _ _ hL.ent hes;rw [hh] at this;omega⟩
      rw [d1',zob]
      simp only [b1,zcf,zgs,zgz,zob,zad,r1,r2]
      rfl
    | ok es=>
      rw [hes] at hen
      obtain ⟨s2,ev,d1,d2,d3,d4,d5,d6⟩:=hen
      have d1':zao 20 [ptr b 0,ptr base.next 0,ptr (base.next+1) 0,ptr (base.next+2) 0,vv,.int .i64 l.ents.length,.int .i64 0] s'=_:=d1
      have l35:=d5.ldN (n:=2) rfl
      have o1:=d6.own 0 _ rfl
      have o2:=d6.own 1 _ rfl
      simp only [List.nil_append] at o2
      have w1:one wv=true:=(Own.cell o1).2
      have w2:one ev=true:=(Own.cell o2).2
      obtain ⟨s37,e37,a37,m37,n37⟩:=d3.stV (k:=0) (n:=2) (v:=.agg [wv,ev].toArray) (zaJ _) rfl (by simp [w1,w2]) (row':=[wv,ev]) rfl
      obtain ⟨s39,e39,a39,m39,n39⟩:=(d4.mod m37 (by simp)).sto (k:=0) (vs:=Z2) (row':=Z2) rfl rfl
      have r1:=(a37.mod m39 (by simp)).rdN (n:=2) rfl
      have r2:=a39.rdN (n:=2) rfl
      have hlw:=zf4 _ _ _ hws
      rw [List.length_replicate] at hlw
      have q1:∀ m,m∈[base.next]→m<base.next+3:=(by intro m hm;have e:m=base.next:=(by simpa using hm);omega)
      have q2:∀ m,m∈[base.next+1]→m<base.next+3:=(by intro m hm;have e:m=base.next+1:=(by simpa using hm);omega)
      refine ⟨s39,wv,ev,?_,zaB (zaB d2 m37 (zlr _)) m39 (by omega),?_,((o2.modLt m37 q1).modLt m39 q2).low (by omega)⟩
      ·rw [d1',zob]
       simp only [b0,zct,zgs,zgz,zob,zad,l35,e37,e39,r1,r2]
       rfl
      ·rw [hlw]
       exact ((o1.modLt m37 q1).modLt m39 q2).low (by omega)
 by_cases hw0:0<its.length
 ·have hp:(0:Int)<(its.length:Int):=by omega
  obtain ⟨x,hx⟩:∃ x,its[its.length-1]?=some x:=⟨_,zge (by omega)⟩
  have hwx:l.wds.getLast?=some (x.1,x.2.1):=by
   rw [List.getLast?_eq_getElem?,← hB.wds,List.length_map,List.getElem?_map,hx];rfl
  have hsz:sizeT l=x.1+1:=by unfold sizeT;rw [hwx]
  have hszb:=(zjQ hL).2
  have n11:IntKind.wrap .i64 ((its.length:Int)-1)=((its.length-1:Nat):Int):=by rw [wrap64 (by omega) (by omega)];omega
  obtain ⟨p12,b1,_,b3⟩:=hsb.ow.rd.load (j:=((its.length-1:Nat):Int)) (by omega) (by omega) (zbv (f:=wdRow) (z:=6) (fun _=>rfl) its (its.length-1) x hx) rfl
  have l13:s3.ld p12.1 p12.2=some (.int .i64 x.1):=b3 0 (by omega)
  have n14:IntKind.wrap .i64 ((x.1:Int)+1)=((sizeT l:Nat):Int):=by rw [wrap64 (by omega) (by omega),hsz];omega
  have hmk:zfb ((sizeT l:Nat):Int) ((sizeT l:Nat):Int) 8=some ():=zlX (by omega) (by omega) (by omega)
  have x15:Ext s3 (s3.new (.cells (List.replicate (sizeT l) (.int .u64 0)) 1)):=(Ext.refl _).new _
  obtain ⟨s16,e16,a16,m16,n16⟩:=(ar.ext x15).sto (k:=0) (vs:=[.slice (some ⟨s3.next,0,none⟩) (sizeT l) (sizeT l)]) (row':=[.slice (some ⟨s3.next,0,none⟩) (sizeT l) (sizeT l),.slice none 0 0]) rfl rfl
  have ow16:Own (base.next+3) s16 (.slice (some ⟨s3.next,0,none⟩) (sizeT l) (sizeT l)) (rowsF zd1 (List.replicate (sizeT l) zaD)) 1 (sizeT l):=by
   refine ⟨by rw [zn9];simp,.inr ⟨s3.next,rfl,by omega,?_,by omega,by rw [n16];simp⟩⟩
   rw [zn9]
   exact m16.get (by simp) (by simp;omega) (SS.new_get)
  have hr:=rest s16 _ (zaB (he3.trans x15) m16 (by omega)) ((a2.ext x15).mod m16 (by simp)) ((a3.ext x15).mod m16 (by simp)) a16 ow16
  have l19:s16.ld b (0+2)=some vw:=(hB.then (zaB (he3.trans x15) m16 (by omega))).row.ld
  have hst:∀ z,z=zcY cc zao (ptr b 0) base→LayR base z (zgP l):=fun z hz=>by
   rw [hz]
   simp only [zcY,hs3,hn1,hn2,hnl,zob,zad,l6,hlen,zdt hp,zct,n11,b1,l13,zaa,n14,hmk,zjw,Int.toNat_natCast,e16,l19]
   exact hr
  have hfin:=hst _ rfl
  cases hro:zgP l with
  | error e=>
    rw [hro] at hfin
    obtain ⟨s',c,d⟩:=hfin
    exact ⟨s',zc6 _ base c,d⟩
  | ok y=>
    obtain ⟨ws,es⟩:=y
    rw [hro] at hfin
    obtain ⟨s',wv,ev,c,d⟩:=hfin
    exact ⟨s',wv,ev,zc6 _ base c,d⟩
 ·have hp:¬ (0:Int)<(its.length:Int):=by omega
  have hwn:l.wds=[]:=List.length_eq_zero_iff.1 (by omega)
  have hsz:sizeT l=0:=by unfold sizeT;rw [hwn];rfl
  have hr:=rest s3 (.slice none 0 0) he3 a2 a3 ar (by rw [hsz];exact Own.nil _ _ _)
  have hst:∀ z,z=zcY cc zao (ptr b 0) base→LayR base z (zgP l):=fun z hz=>by
   rw [hz]
   simp only [zcY,hs3,hn1,hn2,hnl,zob,zad,l6,hlen,zdf hp,zcf]
   exact hr
  have hfin:=hst _ rfl
  cases hro:zgP l with
  | error e=>
    rw [hro] at hfin
    obtain ⟨s',c,d⟩:=hfin
    exact ⟨s',zc6 _ base c,d⟩
  | ok y=>
    obtain ⟨ws,es⟩:=y
    rw [hro] at hfin
    obtain ⟨s',wv,ev,c,d⟩:=hfin
    exact ⟨s',wv,ev,zc6 _ base c,d⟩
end Go.Proofs.YtifploedaacedaaGreatDoorE
namespace Go.Proofs.YtifploedaacedaaGreatDoorE
open Go Go.E Go.Proofs
theorem zpl (a b c d:Int):eqA Tryz.prog Lk0 97 (.agg #[.int .i64 a,.int .i64 b]) (.agg #[.int .i64 c,.int .i64 d])=some (decide (a=c)&&(decide (b=d)&&true)):=by kernel_rfl
theorem At.frm {b i j:Nat} {vw:Value} {st st':SS} {row:List Value} (h:At st j row) (f:Frm b i vw st st') (h1:j≠b) (h2:j≠i) (h3:blkOf vw≠some j):At st' j row:=⟨(f.keep j h.lt h1 h2 h3).trans h.1,zll h.lt f.next,by rw [f.lim];exact h.2.2⟩
theorem zm6 {st:SS} {v:Value} {c:List Value} {z n:Nat} (h:Rd st v c z n):one v=true:=by obtain ⟨_,⟨e,_⟩ | ⟨i,c,e,_⟩⟩:=h<;>rw [e]<;>rfl
def AsmL (base st0:SS) (B b i t2 t3:Nat) (res:Option (Nat×List Value×SS)):Except (Nat×Nat) Lay→Prop
 | .error e=>∃ s',res=some (1,[ptr t2 0,ptr t3 0,.int .i64 4],s')∧Ext base s'∧At s' t2 NN∧At s' t3 [.int .i64 e.1,.int .i64 e.2]
 | .ok l=>∃ s' vw ve vv its,res=some (0,[ptr t2 0,ptr t3 0,ptr b 0],s')∧Bld st0 s' B b i vw ve vv l its
theorem zuF [Sym] {base st0:SS} {B b i M:Nat} (hM:M≤100000) (items:List Item) (hits:items.length≤99999) (hok:∀ x∈items,LineOk M x.1∧0<x.1.ln) (v:Value) (hv:Rd st0 v (rowsF lnRow items) 5 items.length)
  (hrd:∀ x∈items,Rd st0 x.2.1 (rowsF valRow x.1.args) 3 x.1.args.length∧Rd st0 x.2.2 (rowsF prRow x.1.prs) 5 x.1.prs.length) (hx0:Ext base st0) (hb2:base.next+2≤st0.next) (a2:At st0 base.next NN) (a3:At st0 (base.next+1) Z2):
  ∀ (k j:Nat) (l:Lay) (vw ve vv:Value) (its:List WItem) (s:SS),items.length=k+j→Bld st0 s B b i vw ve vv l its→LayOk M l→l.ents.length≤j→
  AsmL base st0 B b i base.next (base.next+1) (zbE 6 [ptr base.next 0,ptr (base.next+1) 0,ptr b 0,v,.int .i64 items.length,.int .i64 j] s) (zf2 l ((items.drop j).map (·.1))):=by
 intro k
 induction k with
 | zero=>
   intro j l vw ve vv its s hk hB hL hen
   have h:¬ (j:Int)<(items.length:Int):=by omega
   rw [List.drop_of_length_le (by omega)]
   refine ⟨s,vw,ve,vv,its,zef _ _ _ _ _ _ s ?_,hB⟩
   simp only [zd0,zdf h,zcf]
 | succ k ih=>
   intro j l vw ve vv its s hk hB hL hen
   have h:(j:Int)<(items.length:Int):=by omega
   obtain ⟨x,hx⟩:∃ x,items[j]?=some x:=⟨_,zge (by omega)⟩
   have hmem:=zmg hx
   have hd:=drop_cons hx
   have hlm:s.lim≤s.next:=hB.ext.ll hB.ll
   have hil:its.length≤2048:=by
    have h1:=hL.wlen
    have h2:=hL.pl
    rw [← hB.wds,List.length_map] at h1
    omega
   obtain ⟨p1,b1,b2,_⟩:=(hv.ext hB.ext).load (j:=(j:Int)) (by omega) h (zbv (f:=lnRow) (z:=5) (fun _=>rfl) items j x hx) rfl
   have b2':s.ldN p1.1 p1.2 5=some (.agg (lnRow x).toArray):=b2
   have ho:one x.2.1=true∧one x.2.2=true:=⟨zm6 (hrd x hmem).1,zm6 (hrd x hmem).2⟩
   obtain ⟨s4,e4,a4,x4,n4⟩:=zaQ (n:=5) (st:=s) hlm (r:=lnRow (⟨0,[],[],[],[]⟩,.slice none 0 0,.slice none 0 0)) (row:=lnRow x) (v:=.agg (lnRow x).toArray) (zaJ _) rfl (by
    simp only [lnRow,List.all_cons,List.all_nil,ho.1,ho.2]
    rfl) rfl
   have e4':(s.new (.cells [.int .i64 0,.string ⟨#[]⟩,.string ⟨#[]⟩,.slice none 0 0,.slice none 0 0] 0)).stV s.next 0 5 (.agg (lnRow x).toArray)=some s4:=e4
   have l5:s4.ldN s.next 0 5=some (.agg (lnRow x).toArray):=a4.ldN rfl
   have hf:=ztx (hB.then x4) x (hrd x hmem) ho hL.pl (by omega) (by omega) (by have:=(hok x hmem).1.sa;omega)
   have hL6:zf2 l ((items.drop j).map (·.1))=match zh9 l x.1 with
    | none=>.error (x.1.ln,1)
    | some l'=>zf2 l' ((items.drop (j+1)).map (·.1)):=by rw [hd];rfl
   rw [hL6]
   cases hln:zh9 l x.1 with
   | none=>
     rw [hln] at hf
     obtain ⟨s6,c6,f6⟩:=hf
     have hxs:∀ q,q<st0.next→q≠b∧q≠i∧blkOf vw≠some q:=fun q hq=>⟨by have:=hB.b0;omega,by have:=hB.i0;omega,fun e=>by have:=(zcK hB.ow e).1;have:=hB.b0;have:=hB.bB;omega⟩
     have a46:At s6 s.next (lnRow x):=At.frm a4 f6 (by have:=hB.bB;have:=hB.BN;omega) (by have:=hB.iB;have:=hB.BN;omega) fun e=>by have:=(zcK hB.ow e).2;omega
     have a26:At s6 base.next NN:=At.frm (a2.ext (hB.ext.trans x4)) f6 (hxs _ (by omega)).1 (hxs _ (by omega)).2.1 (hxs _ (by omega)).2.2
     have a36:At s6 (base.next+1) Z2:=At.frm (a3.ext (hB.ext.trans x4)) f6 (hxs _ (by omega)).1 (hxs _ (by omega)).2.1 (hxs _ (by omega)).2.2
     have x6:Ext base s6:=by
      have y:=(hx0.trans hB.ext).trans x4
      exact ⟨zlt y.next f6.next,f6.lim.trans y.lim,fun q hq=>(f6.keep q (zll hq y.next) (hxs q (by omega)).1 (hxs q (by omega)).2.1 (hxs q (by omega)).2.2).trans (y.keep q hq)⟩
     have l8:s6.ld s.next 0=some (.int .i64 x.1.ln):=a46.ld
     obtain ⟨s10,e10,a10,m10,n10⟩:=a26.sto (k:=0) (vs:=NN) (row':=NN) rfl rfl
     obtain ⟨s12,e12,a12,m12,n12⟩:=(a36.mod m10 (by simp)).sto (k:=0) (vs:=[.int .i64 x.1.ln,.int .i64 1]) (row':=[.int .i64 x.1.ln,.int .i64 1]) rfl rfl
     have hne:zbU (ptr s.next 0) (ptr base.next 0)=true:=zcX (by have:=hB.ext.next;omega)
     refine ⟨s12,zef _ _ _ _ _ _ s ?_,zaB (zaB x6 m10 (zlr _)) m12 (by omega),a10.mod m12 (by simp),a12⟩
     simp only [zd0,zdt h,zct,b1,b2',e4',l5,c6,zob,zaf,znf,l8,zaa,hne,zad,e10,e12]
   | some l'=>
     rw [hln] at hf
     obtain ⟨s6,vw',ve',vv',its',c6,h6,_⟩:=hf
     obtain ⟨g1,g2⟩:=zpi hL (hok x hmem).1 (hok x hmem).2 hln
     have next:=ih (j+1) l' vw' ve' vv' its' s6 (by omega) h6 g1 (by omega)
     have hw1:=za6 (i:=j) (by omega)
     have step:∀ z,zbE 6 [ptr base.next 0,ptr (base.next+1) 0,ptr b 0,v,.int .i64 items.length,.int .i64 ((j+1:Nat):Int)] s6=some z→zbE 6 [ptr base.next 0,ptr (base.next+1) 0,ptr b 0,v,.int .i64 items.length,.int .i64 j] s=some z:=fun z hz=>by
      refine zef _ _ _ _ _ _ s ?_
      simp only [zd0,zdt h,zct,b1,b2',e4',l5,c6,zob,zaf,znt,zcf,hw1]
      exact hz
     simp only
     cases hz:zf2 l' ((items.drop (j+1)).map (·.1)) with
     | error e=>
       rw [hz] at next
       obtain ⟨s',d1,d2⟩:=next
       exact ⟨s',step _ d1,d2⟩
     | ok l2=>
       rw [hz] at next
       obtain ⟨s',w1,w2,w3,w4,d1,d2⟩:=next
       exact ⟨s',w1,w2,w3,w4,step _ d1,d2⟩
def AsmR (st:SS) (res:Option (Value×SS)):Except (Nat×Nat) (List Wd×List (List UInt8×Int))→Prop
 | .error e=>∃ s',res=some (.tuple #[zkP (.slice none 0 0) (.slice none 0 0),zbj e,.int .i64 4],s')∧Ext st s'
 | .ok (ws,es)=>∃ s' wv ev,res=some (.tuple #[zkP wv ev,zbj (0,0),.int .i64 0],s')∧Ext st s'∧Own st.next s' wv (rowsF zd1 ws) 1 ws.length∧Own st.next s' ev (rowsF zem es) 2 es.length
theorem asm_ok [Sym] {st:SS} (hg:Gd st) (hl:st.lim≤st.next) (s:ByteArray) (hs:s.size≤65536):AsmR st (cc 16 [.string s] st) (zjP (bl s)):=by
 have x1:Ext st (st.new (.cells NN 0)):=(Ext.refl _).new _
 have x2:Ext (st.new (.cells NN 0)) ((st.new (.cells NN 0)).new (.cells Z2 0)):=(Ext.refl _).new _
 have a2:At ((st.new (.cells NN 0)).new (.cells Z2 0)) st.next NN:=(At.new hl NN).ext x2
 have a3:At ((st.new (.cells NN 0)).new (.cells Z2 0)) (st.next+1) Z2:=At.new (st:=st.new (.cells NN 0)) (x1.ll hl) Z2
 have hn1:(st.new (.cells NN 0)).next=st.next+1:=rfl
 have hn2:((st.new (.cells NN 0)).new (.cells Z2 0)).next=st.next+2:=rfl
 have x02:=x1.trans x2
 generalize hs2:(st.new (.cells NN 0)).new (.cells Z2 0)=s2 at*
 have hp:=ztn (hg.ext x02) (x02.ll hl) s hs
 have t0:∀ (a b c:Value),zal (.tuple #[a,b,c]) 0=some a:=fun _ _ _=>rfl
 have t1:∀ (a b c:Value),zal (.tuple #[a,b,c]) 1=some b:=fun _ _ _=>rfl
 have t2:∀ (a b c:Value),zal (.tuple #[a,b,c]) 2=some c:=fun _ _ _=>rfl
 have u0:∀ (a b:Value),zal (.tuple #[a,b]) 0=some a:=fun _ _=>rfl
 have u1:∀ (a b:Value),zal (.tuple #[a,b]) 1=some b:=fun _ _=>rfl
 unfold zjP
 cases hpt:zfc (bl s) with
 | error e=>
   rw [hpt] at hp
   obtain ⟨s3,c3,x3⟩:=hp
   obtain ⟨s8,e8,a8,x8,n8⟩:=zaQ (n:=2) (st:=s3) ((x02.trans x3).ll hl) (r:=Z2) (row:=[.int .i64 e.1,.int .i64 e.2]) (v:=zbj e) rfl rfl rfl rfl
   have e8':(s3.new (.cells [.int .i64 0,.int .i64 0] 0)).stV s3.next 0 2 (zbj e)=some s8:=e8
   have h4:¬ (4:Int)=0:=by decide
   have a28:=(a2.ext x3).ext x8
   have a38:=(a3.ext x3).ext x8
   have l9:s8.ldN s3.next 0 2=some (zbj e):=a8.ldN rfl
   have hne:zbU (ptr s3.next 0) (ptr st.next 0)=true:=zcX (by have:=x3.next;omega)
   obtain ⟨s10,e10,a10,m10,n10⟩:=a28.sto (k:=0) (vs:=NN) (row':=NN) rfl rfl
   obtain ⟨s11,e11,a11,m11,n11⟩:=(a38.mod m10 (by simp)).stV (k:=0) (n:=2) (v:=zbj e) (vs:=[.int .i64 e.1,.int .i64 e.2]) rfl rfl rfl (row':=[.int .i64 e.1,.int .i64 e.2]) rfl
   have r1:=(a10.mod m11 (by simp)).rdN (n:=2) rfl
   have r2:=a11.rdN (n:=2) rfl
   refine ⟨s11,zdZ _ st ?_,zaB (zaB ((x02.trans x3).trans x8) m10 (zlr _)) m11 (by omega)⟩
   simp only [zd5,hs2,hn1,c3,t0,t1,t2,zob,zaa,e8',zdf h4,znf,zct,l9,hne,e10,e11,r1,r2]
   rfl
 | ok xs=>
   rw [hpt] at hp
   obtain ⟨v,s3,c3,x3,items,hxs,hv,hrd⟩:=hp
   obtain ⟨hok,hlen⟩:=zk6 hpt
   rw [zaF] at hok hlen
   obtain ⟨s8,e8,a8,x8,n8⟩:=zaQ (n:=2) (st:=s3) ((x02.trans x3).ll hl) (r:=Z2) (row:=Z2) (v:=zbj (0,0)) rfl rfl rfl rfl
   have e8':(s3.new (.cells [.int .i64 0,.int .i64 0] 0)).stV s3.next 0 2 (zbj (0,0))=some s8:=e8
   have h0:(0:Int)=0:=rfl
   have x08:=(x02.trans x3).trans x8
   have hl8:=x08.ll hl
   have hlen':(lenV v).bind (asI .i64)=some (items.length:Int):=by rw [hv.len];rfl
   have hil:items.length=xs.length:=by rw [← hxs,List.length_map]
   have hmp:((s8.new (.map [])).new (.cells (bldRow 0 s8.next (.slice none 0 0) (.slice none 0 0) (.slice none 0 0)) 0)).mem.get s8.next=some (.map []):=by
    rw [SS.new_old (by simp)];exact SS.new_get
   have hB0:Bld s8 ((s8.new (.map [])).new (.cells (bldRow 0 s8.next (.slice none 0 0) (.slice none 0 0) (.slice none 0 0)) 0)) (s8.next+2) (s8.next+1) s8.next (.slice none 0 0) (.slice none 0 0) (.slice none 0 0) zez []:=
    ⟨((Ext.refl s8).new _).new _,hl8,At.new (st:=s8.new (.map [])) (by simp;omega) _,hmp,by omega,zlr _,by omega,by omega,by omega,by simp,Own.nil _ _ _,Own.nil _ _ _,Own.nil _ _ _,fun j hj=>(by cases hj),fun j hj=>(by cases hj),rfl,fun x hx=>(by cases hx)⟩
   have hb2:st.next+2≤s8.next:=by have:=x3.next;have:=x8.next;omega
   have hloop:=zuF (base:=st) (st0:=s8) (B:=s8.next+2) (b:=s8.next+1) (i:=s8.next) (M:=s.size+1) (by omega) items (by omega) (fun x hx=>hok x.1 (by rw [← hxs];exact List.mem_map_of_mem hx)) v (hv.ext x8) (fun x hx=>⟨(hrd x hx).1.ext x8,(hrd x hx).2.ext x8⟩) x08 hb2 ((a2.ext x3).ext x8) ((a3.ext x3).ext x8)
    items.length 0 zez _ _ _ [] _ rfl hB0 (zi2 _) (by simp [zez])
   rw [List.drop_zero,hxs] at hloop
   have b0:Nat.beq 0 0=true:=rfl
   have b1:Nat.beq 1 0=false:=rfl
   simp only
   cases hly:zf2 zez xs with
   | error e=>
     rw [hly] at hloop
     obtain ⟨s17,d1,d2,d3,d4⟩:=hloop
     have d1':zbE 6 [ptr st.next 0,ptr (st.next+1) 0,ptr (s8.new (.map [])).next 0,v,.int .i64 items.length,.int .i64 0] ((s8.new (.map [])).new (.cells [.int .i64 0,.map (some s8.next),.slice none 0 0,.slice none 0 0,.slice none 0 0] 0))=_:=d1
     have r1:=d3.rdN (n:=2) rfl
     have r2:=d4.rdN (n:=2) rfl
     refine ⟨s17,zdZ _ st ?_,d2⟩
     simp only [zd5,hs2,hn1,c3,t0,t1,t2,zob,zaa,e8',decide_true,znt,zcf,hlen']
     rw [d1',zob]
     simp only [b1,zcf,zgs,zgz,zob,zad,zaa,r1,r2]
     rfl
   | ok l=>
     rw [hly] at hloop
     obtain ⟨s17,vw,ve,vv,its,d1,hB⟩:=hloop
     have d1':zbE 6 [ptr st.next 0,ptr (st.next+1) 0,ptr (s8.new (.map [])).next 0,v,.int .i64 items.length,.int .i64 0] ((s8.new (.map [])).new (.cells [.int .i64 0,.map (some s8.next),.slice none 0 0,.slice none 0 0,.slice none 0 0] 0))=_:=d1
     obtain ⟨hL,hen⟩:=zk7 xs zez l (zi2 (s.size+1)) hok hly
     simp only [zez,List.length_nil,Nat.zero_add] at hen
     have x017:=x08.trans hB.ext
     have hlay:=lay_ok hB hL (by omega) (by omega) (hg.ext x017)
     have a217:=((a2.ext x3).ext x8).ext hB.ext
     have a317:=((a3.ext x3).ext x8).ext hB.ext
     have hn17:st.next+2≤s17.next:=zlt hb2 hB.ext.next
     simp only
     cases hro:zgP l with
     | error e=>
       rw [hro] at hlay
       obtain ⟨s21,c21,x21,hne⟩:=hlay
       have hll21:=x21.ll (x017.ll hl)
       have y1:Ext s21 (s21.new (.cells NN 0)):=(Ext.refl _).new _
       have y2:Ext (s21.new (.cells NN 0)) ((s21.new (.cells NN 0)).new (.cells Z2 0)):=(Ext.refl _).new _
       have q1:At ((s21.new (.cells NN 0)).new (.cells Z2 0)) s21.next NN:=(At.new hll21 NN).ext y2
       have q2:At ((s21.new (.cells NN 0)).new (.cells Z2 0)) (s21.new (.cells NN 0)).next Z2:=At.new (st:=s21.new (.cells NN 0)) (y1.ll hll21) Z2
       have hnn:(s21.new (.cells NN 0)).next=s21.next+1:=rfl
       obtain ⟨s26,e26,a26,m26,n26⟩:=q1.stV (k:=0) (n:=2) (v:=zkP (.slice none 0 0) (.slice none 0 0)) (vs:=NN) rfl rfl rfl (row':=NN) rfl
       obtain ⟨s27,e27,a27,m27,n27⟩:=(q2.mod m26 (by simp)).stV (k:=0) (n:=2) (v:=zbj e) (vs:=[.int .i64 e.1,.int .i64 e.2]) rfl rfl rfl (row':=[.int .i64 e.1,.int .i64 e.2]) rfl
       have l28:s27.ldN (s21.new (.cells NN 0)).next 0 2=some (.agg #[.int .i64 e.1,.int .i64 e.2]):=a27.ldN rfl
       have heq:(decide ((e.1:Int)=0)&&(decide ((e.2:Int)=0)&&true))=false:=by
        rw [Bool.and_true,← Bool.decide_and,decide_eq_false_iff_not]
        exact fun hh=>hne (Prod.ext (by omega) (by omega))
       have x27:Ext s21 s27:=zaB (zaB (y1.trans y2) m26 (zlr _)) m27 (by simp)
       have xx27:=(x017.trans x21).trans x27
       have hp1:zbU (ptr (s21.new (.cells NN 0)).next 0) (ptr st.next 0)=true:=zcX (by have:=x21.next;simp;omega)
       obtain ⟨s32,e32,a32,m32,n32⟩:=((a217.ext x21).ext x27).sto (k:=0) (vs:=NN) (row':=NN) rfl rfl
       obtain ⟨s34,e34,a34,m34,n34⟩:=(((a317.ext x21).ext x27).mod m32 (by simp)).stV (k:=0) (n:=2) (v:=.agg #[.int .i64 e.1,.int .i64 e.2]) (vs:=[.int .i64 e.1,.int .i64 e.2]) rfl rfl rfl (row':=[.int .i64 e.1,.int .i64 e.2]) rfl
       have r1:=(a32.mod m34 (by simp)).rdN (n:=2) rfl
       have r2:=a34.rdN (n:=2) rfl
       refine ⟨s34,zdZ _ st ?_,zaB (zaB xx27 m32 (zlr _)) m34 (by omega)⟩
       simp only [zd5,hs2,hn1,c3,t0,t1,t2,zob,zaa,e8',decide_true,znt,zcf,hlen']
       rw [d1',zob]
       simp only [b0,zct,zgs,zgz,zob]
       rw [c21,zob]
       simp only [u0,u1,zob,e26,e27,l28,zpl,heq,znf,zaf,zct,hp1,zad,e32,e34,r1,r2]
       rfl
     | ok y=>
       obtain ⟨ws,es⟩:=y
       rw [hro] at hlay
       obtain ⟨s21,wv,ev,c21,x21,o1,o2⟩:=hlay
       have hll21:=x21.ll (x017.ll hl)
       have w1:one wv=true:=(Own.cell o1).2
       have w2:one ev=true:=(Own.cell o2).2
       have y1:Ext s21 (s21.new (.cells NN 0)):=(Ext.refl _).new _
       have y2:Ext (s21.new (.cells NN 0)) ((s21.new (.cells NN 0)).new (.cells Z2 0)):=(Ext.refl _).new _
       have q1:At ((s21.new (.cells NN 0)).new (.cells Z2 0)) s21.next NN:=(At.new hll21 NN).ext y2
       have q2:At ((s21.new (.cells NN 0)).new (.cells Z2 0)) (s21.new (.cells NN 0)).next Z2:=At.new (st:=s21.new (.cells NN 0)) (y1.ll hll21) Z2
       obtain ⟨s26,e26,a26,m26,n26⟩:=q1.stV (k:=0) (n:=2) (v:=zkP wv ev) (vs:=[wv,ev]) rfl rfl (by simp [w1,w2]) (row':=[wv,ev]) rfl
       obtain ⟨s27,e27,a27,m27,n27⟩:=(q2.mod m26 (by simp)).stV (k:=0) (n:=2) (v:=zbj (0,0)) (vs:=Z2) rfl rfl rfl (row':=Z2) rfl
       have l28:s27.ldN (s21.new (.cells NN 0)).next 0 2=some (.agg #[.int .i64 0,.int .i64 0]):=a27.ldN rfl
       have heq:(decide ((0:Int)=0)&&(decide ((0:Int)=0)&&true))=true:=rfl
       have x27:Ext s21 s27:=zaB (zaB (y1.trans y2) m26 (zlr _)) m27 (by simp)
       have xx27:=(x017.trans x21).trans x27
       have l39:s27.ldN s21.next 0 2=some (.agg [wv,ev].toArray):=(a26.mod m27 (by simp)).ldN rfl
       obtain ⟨s41,e41,a41,m41,n41⟩:=((a217.ext x21).ext x27).stV (k:=0) (n:=2) (v:=.agg [wv,ev].toArray) (vs:=[wv,ev]) (zaJ _) rfl (by simp [w1,w2]) (row':=[wv,ev]) rfl
       obtain ⟨s43,e43,a43,m43,n43⟩:=(((a317.ext x21).ext x27).mod m41 (by simp)).sto (k:=0) (vs:=Z2) (row':=Z2) rfl rfl
       have r1:=(a41.mod m43 (by simp)).rdN (n:=2) rfl
       have r2:=a43.rdN (n:=2) rfl
       have z1:∀ m,m∈[st.next]→m<s17.next:=by intro m hm;have e:m=st.next:=(by simpa using hm);omega
       have z2:∀ m,m∈[st.next+1]→m<s17.next:=by intro m hm;have e:m=st.next+1:=(by simpa using hm);omega
       refine ⟨s43,wv,ev,zdZ _ st ?_,zaB (zaB xx27 m41 (zlr _)) m43 (by omega),(((o1.ext x27).modLt m41 z1).modLt m43 z2).low (by omega),(((o2.ext x27).modLt m41 z1).modLt m43 z2).low (by omega)⟩
       simp only [zd5,hs2,hn1,c3,t0,t1,t2,zob,zaa,e8',decide_true,znt,zcf,hlen']
       rw [d1',zob]
       simp only [b0,zct,zgs,zgz,zob]
       rw [c21,zob]
       simp only [u0,u1,zob,e26,e27,l28,zpl,heq,znt,zaf,zcf,l39,zad,e41,e43,r1,r2]
       rfl
end Go.Proofs.YtifploedaacedaaGreatDoorE
namespace Go.Proofs.YtifploedaacedaaGreatDoorE
open Go Go.E Go.Proofs
def Free (L:List OL) (j:Nat):Prop:=∀ (k:Nat) (o:OL),L[k]?=some o→blkOf o.v≠some j
structure FrL (b:Nat) (st:SS) (L:List OL) (st':SS) (L':List OL):Prop where
 next:st.next≤st'.next
 lim:st'.lim=st.lim
 keep:∀ j,j<st.next→j≠b→Free L j→st'.mem.get j=st.mem.get j∧Free L' j
section
variable {b B : Nat} {st st' st'' : SS} {L L' L'' : List OL}
theorem FrL.trans (h:FrL b st L st' L') (k:FrL b st' L' st'' L''):FrL b st L st'' L'':=⟨zlt h.next k.next,k.lim.trans h.lim,fun j h1 h2 h3=>by
 obtain ⟨a,c⟩:=h.keep j h1 h2 h3
 obtain ⟨d,e⟩:=k.keep j (zll h1 h.next) h2 c
 exact ⟨d.trans a,e⟩⟩
theorem FrL.ext (x:Ext st st'):FrL b st L st' L:=⟨x.next,x.lim,fun j h1 _ h3=>⟨x.keep j h1,h3⟩⟩
theorem FrL.mod (m:Mod [b] st st'):FrL b st L st' L:=⟨m.next,m.lim,fun j h1 h2 h3=>⟨m.keep j h1 (by simpa using h2),h3⟩⟩
theorem Owns.free (h:Owns B st L) {j:Nat} (hj:j<B):Free L j:=fun k o ho e=>by have:=(zcK (h.own k o ho) e).1;omega
theorem FrL.at (f:FrL b st L st' L') {j:Nat} {row:List Value} (h:At st j row) (h1:j≠b) (h2:Free L j):At st' j row:=⟨(f.keep j h.lt h1 h2).1.trans h.1,zll h.lt f.next,by rw [f.lim];exact h.2.2⟩
theorem FrL.toExt {st0:SS} (f:FrL b st L st' L') (x:Ext st0 st) (hb:st0.next≤b) (ow:Owns B st L) (hB:st0.next≤B):Ext st0 st':=⟨zlt x.next f.next,f.lim.trans x.lim,fun j hj=>(f.keep j (zll hj x.next) (by omega) (ow.free (by omega))).1.trans (x.keep j hj)⟩
theorem Owns.grow {row:List Value} (ha:At st b row) (hb:b<B) (hB:B≤st.next) (hl:st.lim≤B) (ow:Owns B st L) {k:Nat} {v:Value} {c rw':List Value} {z n bt:Nat} (hk:L[k]?=some ⟨v,c,z,n⟩) (hkr:k<row.length) (hr:rw'.length=z) (hz:0<z) (h1:rw'.all one=true) (hs:(n+2)*bt≤2^44) (hn:n+1≤2^44):
  ∃ w s1 s2,(st.new (.cells rw' z)).app z bt v (.slice (some ⟨st.next,0,none⟩) 1 1)=some (w,s1)∧s1.stV b k 1 w=some s2∧At s2 b (row.set k w)∧Owns B s2 (L.set k ⟨w,c++rw',z,n+1⟩)∧FrL b st L s2 (L.set k ⟨w,c++rw',z,n+1⟩):=by
 obtain ⟨j,s1,f1,f2,f3⟩:=ow.push hk hB hl hr hz h1 hs hn
 have a1:=ha.keepB f3 hb (by simp)
 obtain ⟨s2,e2,a2,m2,n2⟩:=a1.stV (k:=k) (n:=1) (v:=.slice (some ⟨j,0,none⟩) (n+1) (n+1)) (zk5 _ _ _) rfl rfl (zjH hkr _)
 refine ⟨_,s1,s2,f1,e2,a2,f2.modLt m2 (by intro m hm;have e:m=b:=(by simpa using hm);omega),?_⟩
 have hlt:k<L.length:=(List.getElem?_eq_some_iff.1 hk).1
 obtain ⟨j',s1',g1,g2,g3,g4,g5,g6⟩:=zhG (row:=rw') (bt:=bt) (ow.own k _ hk) hB hl hr hz h1 hs hn
 have hsame:=f1.symm.trans g1
 simp only [zsj,zpj,Value.slice.injEq,Addr.mk.injEq,and_true,true_and] at hsame
 obtain ⟨e1,e2'⟩:=hsame
 subst e1
 subst e2'
 refine ⟨zlt f3.next m2.next,m2.lim.trans f3.lim,fun q h1 h2 h3=>⟨(m2.keep q (zll h1 f3.next) (by simpa using h2)).trans (g6 q h1 (h3 k _ hk)),fun m o ho e=>?_⟩⟩
 by_cases hm:m=k
 ·subst hm
  rw [List.getElem?_set_self hlt] at ho
  cases ho
  cases e
  omega
 ·rw [List.getElem?_set_ne (fun e=>hm e.symm)] at ho
  exact h3 m o ho e
end
structure V6 where
 n:Value
 m:Value
 l:Value
 p:Value
 e:Value
 a:Value
def nmR (x:List UInt8×Int):List Value:=[.string (mkS x.1)]
def nuR (x:List UInt8×Int):List Value:=[.int .i64 x.2]
def lnR (x:WItem):List Value:=lnRow x.2
def plR (x:WItem):List Value:=[.int .i64 x.1]
def veR (x:Val×Nat×Nat):List Value:=valRow x.1
theorem ztE (l:Nms):rowsF nmR l=strs (l.map (·.1)):=by
 induction l with
 | nil=>rfl
 | cons x r ih=>rw [zdh,ih];rfl
def LO (v:V6) (l:Lay) (its:List WItem):List OL:=[⟨v.n,rowsF nmR l.nms,1,l.nms.length⟩,⟨v.m,rowsF nuR l.nms,1,l.nms.length⟩,⟨v.l,rowsF lnR its,5,its.length⟩,⟨v.p,rowsF plR its,1,its.length⟩,⟨v.e,rowsF veR l.ents,3,l.ents.length⟩,⟨v.a,rowsF entRow l.ents,2,l.ents.length⟩]
def ldRow (v:V6) (pl:Nat):List Value:=[v.n,v.m,v.l,v.p,v.e,v.a,.int .i64 pl]
structure Rld (st0 st:SS) (B b:Nat) (v:V6) (l:Lay) (its:List WItem):Prop where
 ext:Ext st0 st
 ll:st0.lim≤st0.next
 row:At st b (ldRow v l.pl)
 b0:st0.next≤b
 bB:b<B
 BN:B≤st.next
 ow:Owns B st (LO v l its)
 wds:its.map (fun x=>(x.1,x.2.1))=l.wds
 itr:∀ x∈its,Rd st0 x.2.2.1 (rowsF valRow x.2.1.args) 3 x.2.1.args.length∧Rd st0 x.2.2.2 (rowsF prRow x.2.1.prs) 5 x.2.1.prs.length
section
variable {st0 st st' : SS} {B b : Nat} {v : V6} {l : Lay} {its : List WItem}
theorem Rld.then (h:Rld st0 st B b v l its) (x:Ext st st'):Rld st0 st' B b v l its:=
 { h with ext:=h.ext.trans x,row:=h.row.ext x,BN:=zlt h.BN x.next,ow:=h.ow.ext x }
theorem Rld.limB (h:Rld st0 st B b v l its):st.lim≤B:=by rw [h.ext.lim];have:=h.ll;have:=h.b0;have:=h.bB;omega
theorem Rld.place (h:Rld st0 st B b v l its) (p:Nat):∃ st',st.st b 6 [.int .i64 p]=some st'∧Rld st0 st' B b v { l with pl:=p } its∧Mod [b] st st':=by
 obtain ⟨s',e,a,m,_⟩:=h.row.sto (k:=6) (vs:=[.int .i64 p]) (row':=ldRow v p) rfl rfl
 exact ⟨s',e,{ h with ext:=zaB h.ext m h.b0,row:=a,BN:=zlt h.BN m.next,ow:=h.ow.modLt m (by intro j hj;have e:j=b:=(by simpa using hj);have:=h.bB;omega) },m⟩
theorem zpm:∀ (l:Nms) (n:List UInt8),match zb9 l n with
  | none=>inT (l.map (·.1)) n= -1
  | some x=>∃ k:Nat,inT (l.map (·.1)) n=k∧∃ y,l[k]?=some (y,x)
 | [],n=>rfl
 | a::r,n=>by
   have ih:=zpm r n
   unfold zb9 inT
   rw [List.find?_cons,List.map_cons,List.findIdx?_cons]
   by_cases h:n=a.1
   ·rw [zdt h,zdt h.symm]
    exact ⟨0,rfl,a.1,rfl⟩
   ·rw [zdf h,zdf (fun e=>h e.symm)]
    unfold zb9 inT at ih
    simp only
    cases hf:r.find? (fun x=>decide (n=x.1)) with
    | none=>
      rw [hf] at ih
      cases hi:(r.map (·.1)).findIdx? (fun x=>decide (x=n)) with
      | none=>simp [hi]
      | some k=>rw [hi] at ih;simp at ih
    | some y=>
      rw [hf] at ih
      simp only [Option.map_some] at ih ⊢
      obtain ⟨k,h1,h2⟩:=ih
      cases hi:(r.map (·.1)).findIdx? (fun x=>decide (x=n)) with
      | none=>rw [hi] at h1;simp at h1
      | some j=>
        rw [hi] at h1
        refine ⟨j+1,by simp,?_⟩
        have:k=j:=by simp only at h1;omega
        subst this
        simpa using h2
theorem Rld.define [Sym] (h:Rld st0 st B b v l its) (hsz:l.nms.length≤1000000) (n:List UInt8) (x:Int):
  match l.define n x with
  | none=>∃ st',cc 74 [ptr b 0,.string (mkS n),.int .i64 x] st=some (.bool false,st')∧Ext st st'
  | some l'=>∃ st' v',cc 74 [ptr b 0,.string (mkS n),.int .i64 x] st=some (.bool true,st')∧Rld st0 st' B b v' l' its∧FrL b st (LO v l its) st' (LO v' l' its):=by
 have hnl:zav (ptr b 0)=some (ptr b 0):=rfl
 have l3:st.ld b 0=some v.n:=h.row.ld
 have on:Rd st v.n (strs (l.nms.map (·.1))) 1 (l.nms.map (·.1)).length:=by
  have:=(h.ow.own 0 _ rfl).rd
  rw [ztE] at this
  rw [List.length_map]
  exact this
 obtain ⟨n4,hn4,c4⟩:=in_ok (l.nms.map (·.1)) (by simp;omega) (mkS n) v.n st on
 rw [zbJ] at c4
 have x4:Ext st (st.adv n4):=(Ext.refl _).adv hn4
 have hfi:=zpm l.nms n
 unfold Lay.define
 cases hf:zb9 l.nms n with
 | some y=>
   rw [hf] at hfi
   obtain ⟨k,h1,_⟩:=hfi
   rw [if_pos (.inl rfl)]
   refine ⟨_,zcq _ _ _ st ?_,x4⟩
   have h0:(0:Int)≤inT (l.nms.map (·.1)) n:=by omega
   simp only [zb4,hnl,zob,zad,l3,c4,zaa,zdt h0,zct]
 | none=>
   rw [hf] at hfi
   simp only at hfi
   have h0:¬ (0:Int)≤inT (l.nms.map (·.1)) n:=by omega
   have he:eqT (mkS n) ⟨#[]⟩=decide (n=[]):=zea _
   by_cases hn:n=[]
   ·rw [if_pos (.inr hn)]
    refine ⟨_,zcq _ _ _ st ?_,x4⟩
    simp only [zb4,hnl,zob,zad,l3,c4,zaa,zdf h0,zcf,he,zdt hn,zct]
   ·rw [if_neg (by rintro (e | e);cases e;exact hn e)]
    have h4:=h.then x4
    have l8:(st.adv n4).ld b 0=some v.n:=h4.row.ld
    obtain ⟨w1,s10,s13,f1,f2,f3,f4,f5⟩:=Owns.grow (k:=0) (bt:=16) (rw':=nmR (n,x)) h4.row h4.bB h4.BN h4.limB h4.ow rfl (by simp [ldRow]) rfl (by omega) rfl (by omega) (by omega)
    have f1':((st.adv n4).new (.cells [.string (mkS n)] 1)).app 1 16 v.n (.slice (some ⟨n4,0,none⟩) 1 1)=some (w1,s10):=f1
    have l16:s13.ld b (0+1)=some v.m:=f3.ld
    obtain ⟨w2,s18,s21,g1,g2,g3,g4,g5⟩:=Owns.grow (k:=1) (bt:=8) (rw':=nuR (n,x)) f3 h4.bB (zlt h4.BN f5.next) (by rw [f5.lim];exact h4.limB) f4 rfl (by simp [ldRow]) rfl (by omega) rfl (by omega) (by omega)
    have g1':(s13.new (.cells [.int .i64 x] 1)).app 1 8 v.m (.slice (some ⟨s13.next,0,none⟩) 1 1)=some (w2,s18):=g1
    have g2':s18.stV b (0+1) 1 w2=some s21:=g2
    have e2:LO { v with n:=w1,m:=w2 } { l with nms:=l.nms++[(n,x)] } its=((LO v l its).set 0 ⟨w1,rowsF nmR l.nms++nmR (n,x),1,l.nms.length+1⟩).set 1 ⟨w2,rowsF nuR l.nms++nuR (n,x),1,l.nms.length+1⟩:=by
     simp only [LO,zbS,zcV,List.length_append,List.length_cons,List.length_nil]
     rfl
    have fr:FrL b st (LO v l its) s21 (LO { v with n:=w1,m:=w2 } { l with nms:=l.nms++[(n,x)] } its):=by
     rw [e2]
     exact ((FrL.ext x4).trans f5).trans g5
    refine ⟨s21,{ v with n:=w1,m:=w2 },zcq _ _ _ st ?_,{ h with ext:=fr.toExt h.ext h.b0 h.ow (by have:=h.b0;have:=h.bB;omega),row:=g3,BN:=zlt h.BN fr.next,ow:=by rw [e2];exact g4 },fr⟩
    simp only [zb4,hnl,zob,zad,l3,c4,zaa,zdf h0,zcf,he,zdf hn,l8,List.append_nil,SS.adv_next,f1',f2,l16,g1',g2']
end
end Go.Proofs.YtifploedaacedaaGreatDoorE
namespace Go.Proofs.YtifploedaacedaaGreatDoorE
open Go Go.E Go.Proofs
def zhe (k:Nat):Nat:=(zcN.drop k).sum
theorem zm7 {k:Nat} (h:k<12):zhe k=zaz k+zhe (k+1)∧zhe k≤64:=by
 have:∀ k,k<12→zhe k=zaz k+zhe (k+1)∧zhe k≤64:=by decide+kernel
 exact this k h
theorem zsD {w:Wd} (hw:w.length=12):zei (zcN.drop 12) (w.drop 12)=0:=by
 rw [List.drop_of_length_le (l:=w) (by omega)]
 rfl
theorem zjS {w:Wd} (hw:w.length=12) {k:Nat} (h:k<12):zei (zcN.drop k) (w.drop k)=w.getD k 0+2^zaz k*zei (zcN.drop (k+1)) (w.drop (k+1)):=by
 rw [zmU h,getD_drop (by omega)];rfl
theorem zk8 {w:Wd} (hw:w.length=12) (hg:zdl w=true):∀ (m k:Nat),12=m+k→∃ X:Nat,zei (zcN.drop k) (w.drop k)=X∧X<2^zhe k
 | 0,k,h=>by
   have:k=12:=by omega
   subst this
   exact ⟨0,zsD hw,Nat.two_pow_pos _⟩
 | m+1,k,h=>by
   obtain ⟨X,h1,h2⟩:=zk8 hw hg m (k+1) (by omega)
   obtain ⟨p,hp,hlt⟩:=zjI hg (k:=k) (by omega)
   have ht:=(zm7 (k:=k) (by omega)).1
   refine ⟨p+2^zaz k*X,by rw [zjS hw (by omega),h1,hp];push_cast;rfl,?_⟩
   rw [ht,Nat.pow_add]
   have h3:2^zaz k*(X+1)≤2^zaz k*2^zhe (k+1):=Nat.mul_le_mul_left _ h2
   rw [Nat.mul_add,Nat.mul_one] at h3
   omega
theorem zoa {nms:Nms} {N:Nat}:∀ (xs:List (Nat×PLine)) (ws ws':List Wd),(∀ w∈ws,zjR w)→zcn nms N xs ws=.ok ws'→∀ w∈ws',zjR w
 | [],ws,ws',hw,h=>by cases h;exact hw
 | x::r,ws,ws',hw,h=>by
   unfold zcn at h
   split at h
   ·cases h
   ·split at h
    ·cases h
    ·refine zoa r _ ws' (fun w hm=>?_) h
     rcases List.mem_or_eq_of_mem_set hm with h1 | h1
     ·exact hw w h1
     ·rw [h1];exact zqi _ _
theorem zuG {t:List UInt8} {ws:List Wd} {es:List (List UInt8×Int)} (h:zjP t=.ok (ws,es)):(∀ w∈ws,zjR w)∧ws.length≤2048:=by
 unfold zjP at h
 cases hp:zfc t with
 | error z=>rw [hp] at h;cases h
 | ok xs=>
   rw [hp] at h
   simp only at h
   cases hl:zf2 zez xs with
   | error z=>rw [hl] at h;cases h
   | ok l=>
     rw [hl] at h
     obtain ⟨hok,hlen⟩:=zk6 hp
     obtain ⟨hL,_⟩:=zk7 xs zez l (zi2 _) hok hl
     simp only [zgP] at h
     cases hw:zcn l.nms (sizeT l) l.wds (List.replicate (sizeT l) zaD) with
     | error z=>rw [hw] at h;cases h
     | ok ws'=>
       rw [hw] at h
       simp only at h
       cases he:zel l.nms (sizeT l) l.ents with
       | error z=>rw [he] at h;cases h
       | ok es'=>
         rw [he] at h
         cases h
         refine ⟨zoa _ _ _ (fun w hm=>by rw [List.eq_of_mem_replicate hm];exact zpk) hw,?_⟩
         rw [zf4 _ _ _ hw,List.length_replicate]
         exact (zjQ hL).2
end Go.Proofs.YtifploedaacedaaGreatDoorE
namespace Go.Proofs.YtifploedaacedaaGreatDoorE
open Go Go.E Go.Proofs
def zhf (X k:Nat):Nat:=X/2^zbb k%2^zaz k
def upTo (X k:Nat):Wd:=(List.range 12).map fun i=>if i<k then ((zhf X i:Nat):Int) else 0
def zjT (X:Nat):Wd:=upTo X 12
theorem zl9 (X k:Nat):(upTo X k).length=12:=by simp [upTo]
theorem zsE (X:Nat):upTo X 0=zaD:=by
 apply List.ext_getElem
 ·simp [upTo,zaD]
 ·intro i a b
  simp only [upTo,List.getElem_map,List.getElem_range,zaD,List.getElem_replicate,if_neg (Nat.not_lt_zero i)]
theorem ztF (X k:Nat) (hk:k<12):(upTo X k).set k (zhf X k:Int)=upTo X (k+1):=by
 apply List.ext_getElem
 ·simp [upTo]
 ·intro i a b
  rw [List.getElem_set]
  simp only [upTo,List.getElem_map,List.getElem_range]
  by_cases h:k=i
  ·subst h
   simp
  ·rw [if_neg h]
   by_cases h2:i<k
   ·rw [if_pos h2,if_pos (by omega)]
   ·rw [if_neg h2,if_neg (by omega)]
theorem andU64 {a s:Nat} (ha:a<2^64) (hs:s<64):zlN .u64 (a:Int) ((2^s-1:Nat):Int)=((a%2^s:Nat):Int):=by
 have hp:2^s<2^64:=Nat.pow_lt_pow_right (by omega) hs
 have h0:0<2^s:=Nat.two_pow_pos s
 have hm:=Nat.mod_lt a h0
 unfold zlN
 have e:((BitVec.ofInt 64 (a:Int)&&& BitVec.ofInt 64 ((2^s-1:Nat):Int)).toNat:Nat)=a%2^s:=by
  rw [BitVec.toNat_and,BitVec.ofInt_natCast,BitVec.ofInt_natCast,BitVec.toNat_ofNat,BitVec.toNat_ofNat,Nat.mod_eq_of_lt ha,Nat.mod_eq_of_lt (by omega),Nat.and_two_pow_sub_one_eq_mod]
 show IntKind.wrap .u64 (((BitVec.ofInt 64 (a:Int)&&& BitVec.ofInt 64 ((2^s-1:Nat):Int)).toNat:Nat):Int)=_
 rw [e]
 exact zeD (by omega) (by omega)
theorem shr64 {c s:Nat} (hs:s<64):(aI .shr .u64 (c:Int) (s:Int)).bind (asI .u64)=some ((c/2^s:Nat):Int):=by
 have hb:¬ ((s:Int)<0):=by omega
 have e:min ((s:Int)).toNat (IntKind.bits .u64)=s:=by
  show min ((s:Int)).toNat 64=s
  rw [Int.toNat_natCast];omega
 have e2:zni .u64 (c:Int) (s:Int)=((c/2^s:Nat):Int):=by
  unfold zni
  rw [e,show (2:Int)^s=((2^s:Nat):Int) by simp]
  rw [Int.fdiv_eq_ediv_of_nonneg _ (Int.natCast_nonneg _)]
  rfl
 simp only [aI,zdf hb,zcf,zob,zaa,e2]
theorem ztG [Sym] (X:Nat) (hX:X<2^64) (b j t2:Nat) (base:SS) (hg:Gd base) (hjb:j≠b) (hb2:t2≠b) (hbb:base.next≤b):∀ (m k:Nat) (s:SS),12=m+k→Ext base s→s.mem.get j=some (.cells (plRow b) 1)→j<s.next→At s b (wRow (upTo X k))→At s t2 Z12→
  ∃ s',Ext base s'∧zdk 3 [.int .u64 ((X/2^zbb k:Nat):Int),ptr t2 0,ptr b 0,.slice (some ⟨j,0,none⟩) 12 12,.int .i64 12,.int .i64 k] s=some (0,[ptr t2 0,ptr b 0],s')∧At s' b (wRow (zjT X))∧At s' t2 Z12:=by
 intro m
 induction m with
 | zero=>
   intro k s hk he p1 hj ab at2
   have e:k=12:=by omega
   subst e
   have h:¬ (((12:Nat):Int))<12:=by omega
   refine ⟨s,he,zgK _ _ _ _ _ _ s ?_,ab,at2⟩
   simp only [zfV,zdf h,zcf]
 | succ m ih=>
   intro k s hk he p1 hj ab at2
   have gs:=hg.ext he
   have hk12:k<12:=by omega
   have h:(k:Int)<12:=by omega
   have l2:s.ld j (0+k*1)=some (ptr b k):=by rw [SS.ld_cells p1,show 0+k*1=k by omega,zkH _ hk12]
   have l4:=zkG gs hk12
   have hbk:=zh3 k
   have hp11:2^zaz k≤2^11:=Nat.pow_le_pow_right (by omega) hbk
   have h0:0<2^zaz k:=Nat.two_pow_pos _
   have s5:(aI .shl .u64 1 (zaz k:Int)).bind (asI .u64)=some ((2^zaz k:Nat):Int):=by
    have:=shl64 (c:=1) (s:=zaz k) (by omega) (by omega)
    simpa using this
   have w6:IntKind.wrap .u64 (((2^zaz k:Nat):Int)-1)=((2^zaz k-1:Nat):Int):=by
    rw [show ((2^zaz k:Nat):Int)-1=((2^zaz k-1:Nat):Int) by omega]
    exact zeD (by omega) (by omega)
   have hXk:X/2^zbb k<2^64:=Nat.lt_of_le_of_lt (Nat.div_le_self _ _) hX
   have w7:=andU64 (a:=X/2^zbb k) (s:=zaz k) hXk (by omega)
   have hup:X/2^zbb k%2^zaz k=zhf X k:=rfl
   rw [hup] at w7
   have hul:zhf X k<2^11:=zll (Nat.mod_lt _ h0) hp11
   have w8:IntKind.wrap .i64 ((zhf X k:Nat):Int)=((zhf X k:Nat):Int):=wrap64 (by omega) (by omega)
   have s12:=shr64 (c:=X/2^zbb k) (s:=zaz k) (by omega)
   have hdiv:X/2^zbb k/2^zaz k=X/2^zbb (k+1):=by rw [Nat.div_div_eq_div_mul,← Nat.pow_add,← zkI hk12]
   rw [hdiv] at s12
   obtain ⟨s11,e11,a11,m11,n11⟩:=ab.sto (k:=k) (vs:=[.int .i64 ((zhf X k:Nat):Int)]) (row':=wRow (upTo X (k+1))) rfl (by
    rw [zjH (by rw [za7,zl9];exact hk12),← zpb,ztF X k hk12])
   have hnl:zav (ptr b k)=some (ptr b k):=rfl
   have hw1:=za6 (i:=k) (by omega)
   obtain ⟨s',f1,f2,f3⟩:=ih (k+1) s11 (by omega) (zaB he m11 hbb) (m11.get hj (by simpa using hjb) p1) (by rw [n11];exact hj) a11 (at2.mod m11 (by simpa using hb2))
   refine ⟨s',f1,zgK _ _ _ _ _ _ s ?_,f3⟩
   simp only [zfV,zdt h,zct,plS hk12,zob,l2,zmS hk12,l4,zaa,s5,w6,w7,w8,hnl,zad,e11,s12,hw1]
   exact f2
theorem zsF [Sym] (X:Nat) (hX:X<2^64) (st:SS) (hg:Gd st):∃ n,st.next≤n∧cc 20 [.int .u64 X] st=some (wV (zjT X),st.adv n):=by
 have x1:Ext (st.ro st.next) ((st.ro st.next).new (.cells Z12 0)):=(Ext.refl _).new _
 have x2:Ext ((st.ro st.next).new (.cells Z12 0)) (((st.ro st.next).new (.cells Z12 0)).new (.cells Z12 0)):=(Ext.refl _).new _
 have a1:At (((st.ro st.next).new (.cells Z12 0)).new (.cells Z12 0)) st.next Z12:=(At.new (st:=st.ro st.next) (zlr _) _).ext x2
 have a2:At (((st.ro st.next).new (.cells Z12 0)).new (.cells Z12 0)) (st.next+1) Z12:=At.new (st:=(st.ro st.next).new (.cells Z12 0)) (by simp) _
 have hn1:((st.ro st.next).new (.cells Z12 0)).next=st.next+1:=rfl
 have c3:=zh2 (st.next+1) (((st.ro st.next).new (.cells Z12 0)).new (.cells Z12 0))
 have x3:Ext (((st.ro st.next).new (.cells Z12 0)).new (.cells Z12 0)) ((((st.ro st.next).new (.cells Z12 0)).new (.cells Z12 0)).new (.cells (plRow (st.next+1)) 1)):=(Ext.refl _).new _
 have hpl:((((st.ro st.next).new (.cells Z12 0)).new (.cells Z12 0)).new (.cells (plRow (st.next+1)) 1)).mem.get (st.next+2)=some (.cells (plRow (st.next+1)) 1):=SS.new_get (st:=((st.ro st.next).new (.cells Z12 0)).new (.cells Z12 0))
 have hz:wRow (upTo X 0)=Z12:=by rw [zsE,zsu]
 obtain ⟨s',f1,f2,f3,f4⟩:=ztG X hX (st.next+1) (st.next+2) st.next (st.ro st.next) hg.ro (by omega) (by omega) (by simp) 12 0 _ rfl (x1.trans (x2.trans x3)) hpl (by simp) (by rw [hz];exact a2.ext x3) (a1.ext x3)
 have h0:X/2^zbb 0=X:=by rw [show zbb 0=0 from rfl,Nat.pow_zero,Nat.div_one]
 rw [h0] at f2
 have f2':zdk 3 [.int .u64 X,ptr st.next 0,ptr (st.next+1) 0,.slice (some ⟨(((st.ro st.next).new (.cells Z12 0)).new (.cells Z12 0)).next,0,none⟩) 12 12,.int .i64 12,.int .i64 0] ((((st.ro st.next).new (.cells Z12 0)).new (.cells Z12 0)).new (.cells (plRow (st.next+1)) 1))=_:=f2
 have hl:(zjT X).length=12:=zl9 X 12
 have l9:s'.ldN (st.next+1) 0 12=some (wV (zjT X)):=f3.ldN (by rw [za7,hl])
 obtain ⟨s11,e11,a11,m11⟩:=At.setW f4 rfl (zjT X) hl
 have r13:s11.rdN st.next 0 12=some (wV (zjT X)):=a11.rdN (by rw [za7,hl])
 have hle:(lenV (.slice (some ⟨(((st.ro st.next).new (.cells Z12 0)).new (.cells Z12 0)).next,0,none⟩) 12 12)).bind (asI .i64)=some 12:=rfl
 refine ⟨s11.next,by have:=f1.next;have:=m11.next;simp at*;omega,zmO _ st ?_⟩
 simp only [zkD,SS.ro_next,hn1,c3,zob,hle]
 rw [f2',zob]
 simp only [zgs,zgz,zob,zad,l9,e11,r13,flatV,zct]
theorem ztH {w:Wd} (h:zjR w) {X:Nat} (hX:zdW w=X):zjT X=w∧X<2^64:=by
 have key:∀ (m k:Nat),12=m+k→∃ Y:Nat,zei (zcN.drop (12-m)) (w.drop (12-m))=Y:=fun m k h'=>by
  obtain ⟨Y,h1,_⟩:=zk8 h.1 h.2 m (12-m) (by omega)
  exact ⟨Y,h1⟩
 have hall:∀ k,k≤12→zei (zcN.drop k) (w.drop k)=((X/2^zbb k:Nat):Int):=by
  intro k
  induction k with
  | zero=>intro _;rw [show zbb 0=0 from rfl,Nat.pow_zero,Nat.div_one];exact hX
  | succ k ih=>
    intro hk
    have h1:=ih (by omega)
    rw [zjS h.1 (by omega)] at h1
    obtain ⟨Y,hY,_⟩:=zk8 h.1 h.2 (12-(k+1)) (k+1) (by omega)
    obtain ⟨p,hp,hpl⟩:=zjI h.2 (k:=k) (by omega)
    rw [hY] at h1 ⊢
    rw [hp] at h1
    have h2:p+2^zaz k*Y=X/2^zbb k:=by
     have:((p+2^zaz k*Y:Nat):Int)=((X/2^zbb k:Nat):Int):=by rw [← h1];push_cast;rfl
     omega
    have h3:X/2^zbb (k+1)=Y:=by
     rw [zkI (by omega),Nat.pow_add,← Nat.div_div_eq_div_mul,← h2,Nat.add_comm,Nat.mul_add_div (Nat.two_pow_pos _),Nat.div_eq_of_lt hpl,Nat.add_zero]
    rw [h3]
 obtain ⟨Y,hY,hYl⟩:=zk8 h.1 h.2 12 0 rfl
 have hXY:X=Y:=by
  have h1:zdW w=(Y:Int):=hY
  omega
 have ht:zhe 0≤64:=(zm7 (k:=0) (by omega)).2
 refine ⟨?_,by rw [hXY];exact zll hYl (Nat.pow_le_pow_right (by omega) ht)⟩
 apply List.ext_getElem
 ·rw [zjT,zl9,h.1]
 ·intro k a b
  have hk:k<12:=by rw [h.1] at b;exact b
  simp only [zjT,upTo,List.getElem_map,List.getElem_range,if_pos hk]
  have h1:=hall k (by omega)
  rw [zjS h.1 hk] at h1
  obtain ⟨Z,hZ,_⟩:=zk8 h.1 h.2 (12-(k+1)) (k+1) (by omega)
  obtain ⟨p,hp,hpl⟩:=zjI h.2 hk
  rw [hZ,hp] at h1
  have h2:p+2^zaz k*Z=X/2^zbb k:=by
   have:((p+2^zaz k*Z:Nat):Int)=((X/2^zbb k:Nat):Int):=by rw [← h1];push_cast;rfl
   omega
  have h3:zhf X k=p:=by
   unfold zhf
   rw [← h2,Nat.add_mul_mod_self_left,Nat.mod_eq_of_lt hpl]
  have h4:w[k]=w.getD k 0:=by rw [List.getD_eq_getElem?_getD,zge b];rfl
  rw [h3,h4,hp]
theorem zsG {w:Wd} (h:zjR w):∃ X:Nat,zdW w=X:=by
 obtain ⟨Y,hY,_⟩:=zk8 h.1 h.2 12 0 rfl
 exact ⟨Y,hY⟩
end Go.Proofs.YtifploedaacedaaGreatDoorE
namespace Go.Proofs.YtifploedaacedaaGreatDoorE
set_option maxRecDepth 20000
open Go Go.E Go.Proofs
def zdo:LoopI:=⟨[(3,.any),(8,.int .i64),(106,.any),(107,.int .i64),(108,.int .i64)],[(.exit 6,[(3,.any),(8,.int .i64)]),(.ret,[(2,.bool)])]⟩
def zdp:LoopI:=⟨[(3,.any),(8,.int .i64),(60,.any),(61,.int .i64),(62,.int .i64),(83,.any),(84,.int .i64),(85,.int .i64)],[(.exit 4,[(3,.any),(8,.int .i64),(60,.any),(61,.int .i64),(62,.int .i64)]),(.ret,[(2,.bool)])]⟩
def zdq:LoopI:=⟨[(3,.any),(8,.int .i64),(60,.any),(61,.int .i64),(62,.int .i64)],[(.exit 2,[(3,.any),(8,.int .i64)]),(.ret,[(2,.bool)])]⟩
def zdr:LoopI:=⟨[(3,.any),(8,.int .i64),(46,.any),(47,.int .i64),(48,.int .i64)],[(.exit 0,[(3,.any),(8,.int .i64)])]⟩
def zdI (n:Nat):Option LoopI:=cond (Nat.beq n 11) (some zdr) (cond (Nat.beq n 17) (some zdq) (cond (Nat.beq n 23) (some zdp) (cond (Nat.beq n 30) (some zdo) (none))))
noncomputable def zb5 (cf:zak) (lf:zac) (text':ByteArray) (st:SS):Option (Value×SS):=
 (cf 15 [] st).bind fun a=>
 ((some a.1).bind asB).bind fun b=>
 cond (!b) (
 some (.bool false,a.2)) (
 cond (decide (2048<(text'.size:Int))) (
 some (.bool true,a.2)) (
 (cf 16 [.string text'] a.2).bind fun c=>
 (zal c.1 0).bind fun d=>
 (zal c.1 1).bind fun e=>
 ((zal c.1 2).bind (asI .i64)).bind fun f=>
 let g:SS:=c.2.new (.cells [.slice none 0 0,.slice none 0 0] 0)
 let h:SS:=g.new (.cells [.int .i64 0,.int .i64 0] 0)
 (h.stV c.2.next 0 2 d).bind fun i=>
 (i.stV g.next 0 2 e).bind fun j=>
 cond (!(decide (f=0))) (
 (j.ld c.2.next 0).bind fun k=>
 ((lenV k).bind (asI .i64)).bind fun l=>
 cond (decide (l=0)) (
 (j.ld c.2.next 1).bind fun m=>
 ((lenV m).bind (asI .i64)).bind fun n=>
 some (.bool (decide (n=0)),j)) (
 some (.bool false,j))) (
 (cf 19 [.string text'] j).bind fun o=>
 (zal o.1 0).bind fun p=>
 (zal o.1 1).bind fun q=>
 let r:SS:=o.2.new (.cells [.int .i64 0,.int .i64 0] 0)
 (r.stV o.2.next 0 2 q).bind fun s=>
 ((lenV p).bind (asI .i64)).bind fun t=>
 (lf 11 [ptr c.2.next 0,.int .i64 0,p,.int .i64 t,.int .i64 0] s).bind fun u=>
 (u.2.1[0]?).bind fun v=>
 ((u.2.1[1]?).bind (asI .i64)).bind fun w=>
 (addr? v).bind fun x=>
 (u.2.2.ld x.1 x.2).bind fun y=>
 ((lenV y).bind (asI .i64)).bind fun z=>
 (lf 17 [v,.int .i64 w,y,.int .i64 z,.int .i64 0] u.2.2).bind fun A=>
 cond (Nat.beq A.1 0) (
 (A.2.1[0]?).bind fun B=>
 ((A.2.1[1]?).bind (asI .i64)).bind fun C=>
 (addr? B).bind fun D=>
 (A.2.2.ld D.1 (D.2+1)).bind fun E=>
 ((lenV E).bind (asI .i64)).bind fun F=>
 (lf 30 [B,.int .i64 C,E,.int .i64 F,.int .i64 0] A.2.2).bind fun G=>
 cond (Nat.beq G.1 0) (
 (G.2.1[0]?).bind fun H=>
 ((G.2.1[1]?).bind (asI .i64)).bind fun I=>
 (addr? H).bind fun J=>
 (G.2.2.ld J.1 J.2).bind fun K=>
 ((lenV K).bind (asI .i64)).bind fun L=>
 cond (decide (L≤I)) (
 (addr? H).bind fun M=>
 (G.2.2.ld M.1 M.2).bind fun N=>
 ((lenV N).bind (asI .i64)).bind fun O=>
 some (.bool (decide (O≤2048)),G.2.2)) (
 some (.bool false,G.2.2))) (
 ((G.2.1[0]?).bind asB).bind fun P=>
 some (.bool P,G.2.2))) (
 ((A.2.1[0]?).bind asB).bind fun Q=>
 some (.bool Q,A.2.2)))))
noncomputable abbrev zat:zac:=lS Tryz.prog Lk0 Tryz.f4 zdI
theorem zgw:Lk0.func 4=some (4,Tryz.f4):=by kernel_rfl
theorem zcr [Sym] (text':ByteArray) (st:SS) {r:Value×SS} (h:zb5 cc zat text' st=some r):cc 4 [.string text'] st=some r:=
 zah (li:=zdI) zai zaq zgw rfl (fun _=>rfl) (.trans (by kernel_rfl) h)
noncomputable def zbz (cf:zak) (lf:zac) (r':Value) (n':Int) (t46':Value) (t47':Int) (t48':Int) (st:SS):Option (Nat×List Value×SS):=
 cond (decide (t48'<t47')) (
 (zar t46' t48' 5).bind fun a=>
 (st.ldN a.1 a.2 5).bind fun b=>
 let c:SS:=st.new (.cells [.int .i64 0,.string ⟨#[]⟩,.string ⟨#[]⟩,.slice none 0 0,.slice none 0 0] 0)
 (c.stV st.next 0 5 b).bind fun d=>
 (d.ld st.next 4).bind fun e=>
 ((lenV e).bind (asI .i64)).bind fun f=>
 cond (decide (0<f)) (
 let g:Int:=IntKind.wrap .i64 (n'+1)
 let h:Int:=IntKind.wrap .i64 (t48'+1)
 lf 11 [r',.int .i64 g,t46',.int .i64 t47',.int .i64 h] d) (
 let i:Int:=IntKind.wrap .i64 (t48'+1)
 lf 11 [r',.int .i64 n',t46',.int .i64 t47',.int .i64 i] d)) (
 some (0,[r',.int .i64 n'],st))
theorem zbX [Sym] (r':Value) (n':Int) (t46':Value) (t47':Int) (t48':Int) (st:SS) {r:Nat×List Value×SS} (h:zbz cc zat r' n' t46' t47' t48' st=some r):zat 11 [r',.int .i64 n',t46',.int .i64 t47',.int .i64 t48'] st=some r:=
 zax zai zaq (key:=11) (I:=zdr) rfl (by kernel_rfl) (by kernel_rfl) rfl rfl (.trans (by kernel_rfl) h)
noncomputable def zbf (cf:zak) (lf:zac) (r':Value) (n':Int) (t60':Value) (t61':Int) (t62':Int) (st:SS):Option (Nat×List Value×SS):=
 cond (decide (t62'<t61')) (
 (zar t60' t62' 1).bind fun a=>
 ((st.ld a.1 a.2).bind (asI .u64)).bind fun b=>
 (cf 20 [.int .u64 b] st).bind fun c=>
 let d:SS:=c.2.new (.cells [.int .i64 0,.int .i64 0,.int .i64 0,.int .i64 0,.int .i64 0,.int .i64 0,.int .i64 0,.int .i64 0,.int .i64 0,.int .i64 0,.int .i64 0,.int .i64 0] 0)
 (d.stV c.2.next 0 12 c.1).bind fun e=>
 cond (decide (b=0)) (
 let f:Int:=IntKind.wrap .i64 (t62'+1)
 (addr? r').bind fun g=>
 (e.ld g.1 g.2).bind fun h=>
 ((lenV h).bind (asI .i64)).bind fun i=>
 cond (decide (f<i)) (
 let j:Int:=IntKind.wrap .i64 (n'+1)
 (e.ldN c.2.next 0 12).bind fun k=>
 (cf 21 [k,.int .i64 t62'] e).bind fun l=>
 ((lenV l.1).bind (asI .i64)).bind fun m=>
 (lf 23 [r',.int .i64 j,t60',.int .i64 t61',.int .i64 t62',l.1,.int .i64 m,.int .i64 0] l.2).bind fun n=>
 cond (Nat.beq n.1 0) (
 (n.2.1[0]?).bind fun o=>
 ((n.2.1[1]?).bind (asI .i64)).bind fun p=>
 (n.2.1[2]?).bind fun q=>
 ((n.2.1[3]?).bind (asI .i64)).bind fun r=>
 ((n.2.1[4]?).bind (asI .i64)).bind fun s=>
 let t:Int:=IntKind.wrap .i64 (s+1)
 lf 17 [o,.int .i64 p,q,.int .i64 r,.int .i64 t] n.2.2) (
 ((n.2.1[0]?).bind asB).bind fun u=>
 some (1,[.bool u],n.2.2))) (
 (e.ldN c.2.next 0 12).bind fun v=>
 (cf 21 [v,.int .i64 t62'] e).bind fun w=>
 ((lenV w.1).bind (asI .i64)).bind fun x=>
 (lf 23 [r',.int .i64 n',t60',.int .i64 t61',.int .i64 t62',w.1,.int .i64 x,.int .i64 0] w.2).bind fun y=>
 cond (Nat.beq y.1 0) (
 (y.2.1[0]?).bind fun z=>
 ((y.2.1[1]?).bind (asI .i64)).bind fun A=>
 (y.2.1[2]?).bind fun B=>
 ((y.2.1[3]?).bind (asI .i64)).bind fun C=>
 ((y.2.1[4]?).bind (asI .i64)).bind fun D=>
 let E:Int:=IntKind.wrap .i64 (D+1)
 lf 17 [z,.int .i64 A,B,.int .i64 C,.int .i64 E] y.2.2) (
 ((y.2.1[0]?).bind asB).bind fun F=>
 some (1,[.bool F],y.2.2)))) (
 (e.ldN c.2.next 0 12).bind fun G=>
 (cf 21 [G,.int .i64 t62'] e).bind fun H=>
 ((lenV H.1).bind (asI .i64)).bind fun I=>
 (lf 23 [r',.int .i64 n',t60',.int .i64 t61',.int .i64 t62',H.1,.int .i64 I,.int .i64 0] H.2).bind fun J=>
 cond (Nat.beq J.1 0) (
 (J.2.1[0]?).bind fun K=>
 ((J.2.1[1]?).bind (asI .i64)).bind fun L=>
 (J.2.1[2]?).bind fun M=>
 ((J.2.1[3]?).bind (asI .i64)).bind fun N=>
 ((J.2.1[4]?).bind (asI .i64)).bind fun O=>
 let P:Int:=IntKind.wrap .i64 (O+1)
 lf 17 [K,.int .i64 L,M,.int .i64 N,.int .i64 P] J.2.2) (
 ((J.2.1[0]?).bind asB).bind fun Q=>
 some (1,[.bool Q],J.2.2)))) (
 some (0,[r',.int .i64 n'],st))
theorem zbr [Sym] (r':Value) (n':Int) (t60':Value) (t61':Int) (t62':Int) (st:SS) {r:Nat×List Value×SS} (h:zbf cc zat r' n' t60' t61' t62' st=some r):zat 17 [r',.int .i64 n',t60',.int .i64 t61',.int .i64 t62'] st=some r:=
 zax zai zaq (key:=17) (I:=zdq) rfl (by kernel_rfl) (by kernel_rfl) rfl rfl (.trans (by kernel_rfl) h)
noncomputable def zcd (cf:zak) (lf:zac) (r':Value) (n':Int) (t60':Value) (t61':Int) (t62':Int) (t83':Value) (t84':Int) (t85':Int) (st:SS):Option (Nat×List Value×SS):=
 cond (decide (t85'<t84')) (
 (zar t83' t85' 2).bind fun a=>
 (st.ldN a.1 a.2 2).bind fun b=>
 let c:SS:=st.new (.cells [.int .i64 0,.int .i64 0] 0)
 (c.stV st.next 0 2 b).bind fun d=>
 (zbe (ptr st.next 0) 2 0 1).bind fun e=>
 ((d.ld e.1 e.2).bind (asI .i64)).bind fun f=>
 cond (decide (f<0)) (
 some (1,[.bool false],d)) (
 (zbe (ptr st.next 0) 2 0 1).bind fun g=>
 ((d.ld g.1 g.2).bind (asI .i64)).bind fun h=>
 (zbe (ptr st.next 0) 2 1 1).bind fun i=>
 ((d.ld i.1 i.2).bind (asI .i64)).bind fun j=>
 let k:Int:=IntKind.wrap .i64 (h+j)
 (addr? r').bind fun l=>
 (d.ld l.1 l.2).bind fun m=>
 ((lenV m).bind (asI .i64)).bind fun n=>
 cond (decide (n<k)) (
 some (1,[.bool false],d)) (
 let o:Int:=IntKind.wrap .i64 (t85'+1)
 lf 23 [r',.int .i64 n',t60',.int .i64 t61',.int .i64 t62',t83',.int .i64 t84',.int .i64 o] d))) (
 some (0,[r',.int .i64 n',t60',.int .i64 t61',.int .i64 t62'],st))
theorem zcZ [Sym] (r':Value) (n':Int) (t60':Value) (t61':Int) (t62':Int) (t83':Value) (t84':Int) (t85':Int) (st:SS) {r:Nat×List Value×SS} (h:zcd cc zat r' n' t60' t61' t62' t83' t84' t85' st=some r):zat 23 [r',.int .i64 n',t60',.int .i64 t61',.int .i64 t62',t83',.int .i64 t84',.int .i64 t85'] st=some r:=
 zax zai zaq (key:=23) (I:=zdp) rfl (by kernel_rfl) (by kernel_rfl) rfl rfl (.trans (by kernel_rfl) h)
noncomputable def zce (cf:zak) (lf:zac) (r':Value) (n':Int) (t106':Value) (t107':Int) (t108':Int) (st:SS):Option (Nat×List Value×SS):=
 cond (decide (t108'<t107')) (
 (zar t106' t108' 2).bind fun a=>
 (st.ldN a.1 a.2 2).bind fun b=>
 let c:SS:=st.new (.cells [.string ⟨#[]⟩,.int .i64 0] 0)
 (c.stV st.next 0 2 b).bind fun d=>
 ((d.ld st.next 1).bind (asI .i64)).bind fun e=>
 cond (decide (e<0)) (
 some (1,[.bool false],d)) (
 ((d.ld st.next 1).bind (asI .i64)).bind fun f=>
 (addr? r').bind fun g=>
 (d.ld g.1 g.2).bind fun h=>
 ((lenV h).bind (asI .i64)).bind fun i=>
 cond (decide (i≤f)) (
 some (1,[.bool false],d)) (
 ((d.ld st.next 0).bind asS).bind fun j=>
 cond (eqT j ⟨#[]⟩) (
 some (1,[.bool false],d)) (
 let k:Int:=IntKind.wrap .i64 (t108'+1)
 lf 30 [r',.int .i64 n',t106',.int .i64 t107',.int .i64 k] d)))) (
 some (0,[r',.int .i64 n'],st))
theorem zc0 [Sym] (r':Value) (n':Int) (t106':Value) (t107':Int) (t108':Int) (st:SS) {r:Nat×List Value×SS} (h:zce cc zat r' n' t106' t107' t108' st=some r):zat 30 [r',.int .i64 n',t106',.int .i64 t107',.int .i64 t108'] st=some r:=
 zax zai zaq (key:=30) (I:=zdo) rfl (by kernel_rfl) (by kernel_rfl) rfl rfl (.trans (by kernel_rfl) h)
end Go.Proofs.YtifploedaacedaaGreatDoorE
namespace Go.E
open Go
section
variable {P : Program} {L : Lk} {c1 c2 : CallF}
theorem znD (hc:zgG c1 c2) {ops:List Oper}:∀ (l:List Oper) (τ:Tm) (st:St) (r:Tm×St),opsE P L c1 ops l τ st=some r→opsE P L c2 ops l τ st=some r
 | [],τ,st,r,h=>h
 | o::l,τ,st,r,h=>by
   simp only [opsE] at h ⊢
   cases hw:wantedE ops τ o with
   | true=>
     rw [hw] at h
     simp only [zct,zbi] at h ⊢
     obtain ⟨x,hx,h⟩:=h
     exact ⟨x,zoK hc hx,znD hc l _ _ _ h⟩
   | false=>
     rw [hw] at h
     simp only [zcf] at h ⊢
     exact znD hc l _ _ _ h
theorem zpn:∀ n,zms (zaK P L n) (zaK P L (n+1))
 | 0,c,τ,st,r,h=>by cases h
 | n+1,c,τ,st,r,h=>by
   have ih:=zpn n
   have hc:zgG (zaX L (zaK P L n)) (zaX L (zaK P L (n+1))):=znh ih
   unfold zaK at h ⊢
   cases c<;>simp only at h ⊢<;>try exact h
   case region id ops d=>
    cases d<;>simp only [zmi] at h ⊢
    ·obtain ⟨x,hx,h⟩:=h
     exact ⟨x,znD hc _ _ _ _ hx,h⟩
    ·obtain ⟨x,hx,h⟩:=h
     exact ⟨x,zng hc _ _ _ _ _ hx,h⟩
   case seq a b=>
    simp only [zbi] at h ⊢
    obtain ⟨⟨e,τ1,st1⟩,hx,h⟩:=h
    refine ⟨(e,τ1,st1),ih _ _ _ _ hx,?_⟩
    cases e<;>simp only at h ⊢<;>first | exact ih _ _ _ _ h | exact h
   case cond x a b=>
    cases hv:rho L τ x with
    | none=>rw [hv] at h;cases h
    | some v=>
      rw [hv] at h
      try simp only [zob]
      cases v<;>(try simp only [zob] at h)<;>(try simp only)<;>try (cases h;done)
      rename_i bb
      cases bb<;>exact ih _ _ _ _ h
   case block id body=>
    simp only [zbi] at h ⊢
    obtain ⟨⟨e,τ1,st1⟩,hx,h⟩:=h
    refine ⟨(e,τ1,st1),ih _ _ _ _ hx,?_⟩
    cases e<;>exact h
   case loop body=>
    simp only [zbi] at h ⊢
    obtain ⟨⟨e,τ1,st1⟩,hx,h⟩:=h
    refine ⟨(e,τ1,st1),ih _ _ _ _ hx,?_⟩
    cases e<;>simp only at h ⊢<;>first | exact ih _ _ _ _ h | exact h
theorem ztI {n m:Nat} (h:n≤m):zms (zaK P L n) (zaK P L m):=by
 obtain ⟨k,rfl⟩:=Nat.le.dest h
 clear h
 induction k with
 | zero=>exact fun _ _ _ _ h=>h
 | succ k ih=>exact fun c τ st r h=>zpn _ _ _ _ _ (ih _ _ _ _ h)
def okP (nx:Nat) (r:Option (Value×St)):Bool:=match r with
 | some (.bool b,s)=>b&&Nat.ble nx s.next
 | _=>false
theorem zpQ [Sym] (hL:L.Ok P) {f:FuncId} {args:List Value} {st:SS} {n:Nat} (hx:L.ext f args=none) (hcn:L.con f args st.next=none) (hp:L.pureF f=true)
  (h:okP st.next (runF P L n f args ⟨st.mem,st.next,st.next,[]⟩)=true):∃ N,st.next≤N∧cS P L f args st=some (.bool true,st.adv N):=by
 cases hr:runF P L n f args ⟨st.mem,st.next,st.next,[]⟩ with
 | none=>rw [hr] at h;cases h
 | some r=>
   have hrun:=ztQ hL hr
   rw [hr] at h
   obtain ⟨v,s'⟩:=r
   have hv:v=.bool true∧st.next≤s'.next:=by
    unfold okP at h
    cases v<;>simp only at h<;>try (cases h;done)
    rename_i b
    rw [zae] at h
    exact ⟨by rw [h.1],Nat.le_of_ble_eq_true h.2⟩
   obtain ⟨rfl,hN⟩:=hv
   refine ⟨s'.next,hN,?_⟩
   rw [ziD]
   refine ⟨rfl,n,fun m hm base log=>⟨log,?_,.refl _ _ _⟩⟩
   unfold runE zaX at hrun
   unfold zaX
   have hcn':L.con f args (st.toE base log).next=none:=hcn
   rw [hx] at hrun ⊢
   simp only at hrun ⊢
   rw [hcn] at hrun
   rw [hcn']
   simp only [hp,zct,zbi] at hrun ⊢
   obtain ⟨a,ha,c,hc,h1⟩:=hrun
   refine ⟨a,ha,c,hc,?_⟩
   cases hb:Nat.ble args.length a.2.ntmps with
   | false=>rw [hb] at h1;cases h1
   | true=>
     rw [hb] at h1
     simp only [zct,zbi] at h1 ⊢
     obtain ⟨⟨e,τ,s1⟩,h2,h3⟩:=h1
     refine ⟨(e,τ,s1),ztI hm _ _ _ _ h2,?_⟩
     cases e<;>simp only [zbi] at h3 ⊢<;>first
      | (cases h3;done)
      | (obtain ⟨vs,h4,h5⟩:=h3
         refine ⟨vs,h4,?_⟩
         cases hq:(s1.log.isEmpty&&flat3 (zbh vs)) with
         | false=>rw [hq] at h5;cases h5
         | true=>
           rw [hq] at h5
           simp only [zct,zsj,zpj] at h5 ⊢
           obtain ⟨h6,h7⟩:=h5
           exact ⟨h6,by rw [← h7];rfl⟩)
end
end Go.E
namespace Go.Proofs.YtifploedaacedaaGreatDoorE
open Go Go.E Go.Proofs
noncomputable def zhI:List (Nat×AObj):=[(6,.table [.chan (some 6)]),(7,.table [.chan (some 7)]),(0,.table fieldsC),(2,.table asciiC)]
noncomputable def st0:SS:=⟨zfh zhI,12,12⟩
theorem gd0:Gd st0:=⟨by simp [st0,zfh,zhI,PT.get_upd],by simp [st0,zfh,zhI,PT.get_upd],by simp [st0,zfh,zhI,PT.get_upd],by simp [st0,zfh,zhI,PT.get_upd],zlr _⟩
theorem globIn:∀ g,Lk0.glob g=true→g∈zhI.map (·.1):=fun g h=>by
 have h':(Nat.beq g 6||Nat.beq g 7||Nat.beq g 0||Nat.beq g 2)=true:=h
 simp only [Bool.or_eq_true,zaC,decide_eq_true_eq] at h'
 rcases h' with ((rfl | rfl) | rfl) | rfl<;>simp [zhI]
theorem tabLt:∀ x∈zhI,x.1<12:=fun x hx=>by
 simp only [zhI,List.mem_cons,List.not_mem_nil,or_false] at hx
 rcases hx with rfl | rfl | rfl | rfl<;>decide
abbrev symE (a4:TypeId) (u4:Value) (a5:TypeId) (u5:Value):Sym where
 v i:=if i=6 then .iface a4 u4 else .iface a5 u5
 ok i:=by
  refine .inr (.inr ?_)
  split<;>exact ⟨_,_,rfl⟩
abbrev laidF:DataW Unit:=.agg ((zca.map fun m=>(m.1,(m.2:Int))).map fun m=>.agg [.lit (.string m.1),.lit (.int .i64 m.2)])
abbrev laidS:DataW Unit:=.agg (Lib.asciiSpaceTab.map fun m=>.lit (.int .u8 m))
theorem law_at {f:Nat} {fn:Func} (hf:Lk0.func f=some (f,fn)) {W:World} {laid:List (String×DataW Unit)} (h:laidMet Tryz.prog laid W) (h4:∃ nm d,("strconv.ErrSyntax",DataW.iface nm d)∈laid) (h5:∃ nm d,("strconv.ErrRange",DataW.iface nm d)∈laid)
  (hF:("camshaft/uword.fields",laidF)∈laid) (hS:("strings.asciiSpace",laidS)∈laid)
  {args:List Value} (hargs:∀ x∈args,flat3 x=true) (hlaw:∀ [Sym],∃ st',cc f args st0=some (.bool true,st')):
  Calls Tryz.prog f args.toArray W fun e W'=>e=.returned (.bool true)∧RowKit.Below W.heap.size W W':=by
 obtain ⟨nm4,d4,m4⟩:=h4
 obtain ⟨nm5,d5,m5⟩:=h5
 obtain ⟨a4,u4,c4⟩:=zmI h m4 (g:=6) (t:=208) (by kernel_rfl) (by kernel_rfl) Tryz.underlying208
 obtain ⟨a5,u5,c5⟩:=zmI h m5 (g:=7) (t:=208) (by kernel_rfl) (by kernel_rfl) Tryz.underlying208
 letI:Sym:=symE a4 u4 a5 u5
 have hE:ErrSym:=⟨⟨a4,u4,rfl⟩,⟨a5,u5,rfl⟩⟩
 obtain ⟨oF,f1,f2⟩:=zqw h hF (g:=0) (kk:=.i64) (by kernel_rfl) (by kernel_rfl) Tryz.underlying128 Tryz.underlying127 (by kernel_rfl) rfl rfl rfl Tryz.underlying9 Tryz.underlying3 rfl rfl (by kernel_rfl) (by kernel_rfl) _ (by simp [zca]) rfl
 obtain ⟨oS,s1,s2⟩:=zrt h hS (g:=2) (kk:=.u8) (by kernel_rfl) (by kernel_rfl) Tryz.underlying233 Tryz.underlying5 (by kernel_rfl) _ rfl
 obtain ⟨st',hl⟩:=hlaw
 refine law_cS zai (zt6 hE) hf (l:=zhI) (nx:=12) hl rfl hargs (fun x hx=>?_) globIn tabLt
 simp only [zhI,List.mem_cons,List.not_mem_nil,or_false] at hx
 rcases hx with rfl | rfl | rfl | rfl
 ·exact zrM (i:=6) c4
 ·exact zrM (i:=7) c5
 ·exact ⟨oF,f1,f2 _⟩
 ·exact ⟨oS,s1,s2 _⟩
end Go.Proofs.YtifploedaacedaaGreatDoorE
namespace Go.Proofs.YtifploedaacedaaGreatDoorE
set_option maxRecDepth 1000000
open Go Go.E Go.Proofs
theorem zq7:okP st0.next (runF Tryz.prog Lk0 2000 15 [] ⟨st0.mem,st0.next,st0.next,[]⟩)=true:=by kernel_rfl
theorem alive0 [Sym]:∃ N,st0.next≤N∧cc 15 [] st0=some (.bool true,st0.adv N):=
 zpQ (st:=st0) (f:=15) (args:=[]) (n:=2000) zai (by kernel_rfl) (by kernel_rfl) (by kernel_rfl) zq7
end Go.Proofs.YtifploedaacedaaGreatDoorE
namespace Go.Proofs.YtifploedaacedaaGreatDoorE
open Go Go.E Go.Proofs
theorem zuH {t:List UInt8} {ws:List Wd} {es:List (List UInt8×Int)} (h:zjP t=.ok (ws,es)):es.length≤t.length+1∧∀ e∈es,e.1≠[]∧0≤e.2∧e.2<ws.length:=by
 unfold zjP at h
 cases hp:zfc t with
 | error z=>rw [hp] at h;cases h
 | ok xs=>
   rw [hp] at h
   simp only at h
   cases hl:zf2 zez xs with
   | error z=>rw [hl] at h;cases h
   | ok l=>
     rw [hl] at h
     obtain ⟨hok,hlen⟩:=zk6 hp
     obtain ⟨hL,hen⟩:=zk7 xs zez l (zi2 _) hok hl
     simp only [zgP] at h
     cases hw:zcn l.nms (sizeT l) l.wds (List.replicate (sizeT l) zaD) with
     | error z=>rw [hw] at h;cases h
     | ok ws'=>
       rw [hw] at h
       simp only at h
       cases he:zel l.nms (sizeT l) l.ents with
       | error z=>rw [he] at h;cases h
       | ok es'=>
         rw [he] at h
         cases h
         have key:∀ (xs:List (Val×Nat×Nat)) (es:List (List UInt8×Int)),(∀ e∈xs,e.1.nm≠[])→zel l.nms (sizeT l) xs=.ok es→es.length=xs.length∧∀ e∈es,e.1≠[]∧0≤e.2∧e.2<sizeT l:=by
          intro xs
          induction xs with
          | nil=>intro es _ h;cases h;exact ⟨rfl,fun e he=>by cases he⟩
          | cons x r ih=>
            intro es hx h
            unfold zel at h
            split at h
            ·cases h
            ·split at h
             ·cases h
             ·rename_i hc
              split at h
              ·cases h
              ·rename_i es2 h2
               cases h
               obtain ⟨k1,k2⟩:=ih es2 (fun e he=>hx e (by simp [he])) h2
               refine ⟨by simp [k1],fun e he=>?_⟩
               rcases List.mem_cons.1 he with rfl | he
               ·exact ⟨hx x (by simp),by simp only;omega,by simp only;omega⟩
               ·exact k2 e he
         obtain ⟨k1,k2⟩:=key _ _ (fun e he=>(hL.ent e he).1) he
         refine ⟨by rw [k1];simp [zez] at hen;omega,fun e he=>?_⟩
         rw [zf4 _ _ _ hw,List.length_replicate]
         exact k2 e he
end Go.Proofs.YtifploedaacedaaGreatDoorE
namespace Go.Proofs.YtifploedaacedaaGreatDoorE
open Go Go.E Go.Proofs
theorem zoc {M:Nat} {nms:Nms} {N:Nat}:∀ (xs:List (Nat×PLine)) (ws ws':List Wd),xs.Pairwise (fun a b=>a.1<b.1)→(∀ x∈xs,x.1<N)→ws.length=N→zcn nms N xs ws=.ok ws'→∀ i,i<N→
  (∃ x∈xs,x.1=i)∧inR N (zbt ((ws'.getD i zaD).getD 8 0) ((ws'.getD i zaD).getD 10 0) i)=false∨(∀ x∈xs,x.1≠i)∧ws'.getD i zaD=ws.getD i zaD
 | [],ws,ws',_,_,_,h,i,_=>by cases h;exact .inr ⟨fun x hx=>(by cases hx),rfl⟩
 | x::r,ws,ws',hp,hN,hl,h,i,hi=>by
   unfold zcn at h
   rw [List.pairwise_cons] at hp
   split at h
   ·cases h
   ·split at h
    ·cases h
    ·rename_i h1 h2
     have ih:=zoc (M:=M) r _ ws' hp.2 (fun y hy=>hN y (by simp [hy])) (by rw [List.length_set];exact hl) h i hi
     rcases ih with ⟨⟨y,hy,e⟩,h3⟩ | ⟨h3,h4⟩
     ·exact .inl ⟨⟨y,by simp [hy],e⟩,h3⟩
     ·by_cases hx:x.1=i
      ·left
       refine ⟨⟨x,by simp,hx⟩,?_⟩
       have hg:ws'.getD i zaD=(zbq nms zaD x.2.prs).1:=by
        rw [h4,← hx,List.getD_eq_getElem?_getD,List.getElem?_set_self (by rw [hl];exact hN x (by simp))];rfl
       rw [hg,← hx]
       have:¬ inR N (zbt ((zbq nms zaD x.2.prs).1.getD 8 0) ((zbq nms zaD x.2.prs).1.getD 10 0) x.1)=true:=h2
       simpa using this
      ·right
       refine ⟨fun y hy=>?_,?_⟩
       ·rcases List.mem_cons.1 hy with rfl | hy
        ·exact hx
        ·exact h3 y hy
       ·rw [h4,List.getD_eq_getElem?_getD,List.getElem?_set_ne hx,← List.getD_eq_getElem?_getD]
theorem zpo (K:Nat):∀ l:List Nat,l.countP (fun a=>decide (a<K+1))=l.countP (fun a=>decide (a<K))+l.countP (fun a=>decide (a=K))
 | []=>rfl
 | a::r=>by
   rw [List.countP_cons,List.countP_cons,List.countP_cons,zpo K r]
   by_cases h1:a<K
   ·simp [h1,show a<K+1 by omega,show a≠K by omega];omega
   ·by_cases h2:a=K
    ·subst h2;simp;omega
    ·simp [h1,h2,show ¬ a<K+1 by omega]
def zdJ (ws:List Wd) (N K:Nat):Nat:=(List.range K).countP fun i=>decide (zdW (ws.getD i zaD)=0)&&decide (i+1<N)
theorem zlH (ws:List Wd) (N K:Nat):zdJ ws N (K+1)=zdJ ws N K+if zdW (ws.getD K zaD)=0∧K+1<N then 1 else 0:=by
 unfold zdJ
 rw [List.range_succ,List.countP_append,List.countP_singleton]
 congr 1
 by_cases h1:zdW (ws.getD K zaD)=0<;>by_cases h2:K+1<N<;>simp [h1,h2]
theorem zq8 {ws:List Wd} {N:Nat} {P:List Nat} (h:∀ i,i<N→i∉P→ws.getD i zaD=zaD∧i+1<N):∀ K,K≤N→K≤P.countP (fun a=>decide (a<K))+zdJ ws N K:=by
 intro K
 induction K with
 | zero=>intro _;omega
 | succ K ih=>
   intro hK
   have:=ih (by omega)
   rw [zpo,zlH]
   by_cases hm:K∈P
   ·have:0<P.countP fun a=>decide (a=K):=List.countP_pos_iff.2 ⟨K,hm,by simp⟩
    omega
   ·obtain ⟨h1,h2⟩:=h K (by omega) hm
    rw [h1,zm5,if_pos ⟨rfl,h2⟩]
    omega
theorem ztJ {l l':Lay} {x:PLine} (h:zcH l x=some l'):l'.wds=l.wds:=by
 unfold zcH at h
 have hdef:∀ {n:List UInt8} {z:Int},l.define n z=some l'→l'.wds=l.wds:=fun hd=>by
  unfold Lay.define at hd
  split at hd
  ·cases hd
  ·cases hd;rfl
 repeat' (split at h)
 all_goals first
  | (cases h;done)
  | (cases h;rfl)
  | exact hdef h
theorem zsH {l l':Lay} {x:PLine} (h:zh9 l x=some l'):l'.wds.length≤l.wds.length+if x.prs≠[] then 1 else 0:=by
 rw [zl7] at h
 have hlab:∃ l1,l1.wds=l.wds∧zhd l1 x=some l':=by
  cases hc:(if x.lab=[] then some l else l.define x.lab l.pl) with
  | none=>rw [hc] at h;cases h
  | some l1=>
    rw [hc] at h
    refine ⟨l1,?_,h⟩
    split at hc
    ·cases hc;rfl
    ·unfold Lay.define at hc
     split at hc
     ·cases hc
     ·cases hc;rfl
 obtain ⟨l1,h2,h3⟩:=hlab
 rw [← h2]
 unfold zhd at h3
 split at h3
 ·rw [ztJ h3];omega
 ·split at h3
  ·cases h3;omega
  ·rename_i hp
   split at h3
   ·cases h3;simp [hp]
   ·cases h3
def zcp (xs:List PLine):Nat:=xs.countP fun x=>decide (x.prs≠[])
theorem zpp:∀ (xs:List PLine) (l l':Lay),zf2 l xs=.ok l'→l'.wds.length≤l.wds.length+zcp xs
 | [],l,l',h=>by cases h;exact zlr _
 | x::r,l,l',h=>by
   unfold zf2 at h
   split at h
   ·cases h
   ·rename_i l1 hl1
    have h1:=zsH hl1
    have h2:=zpp r l1 l' h
    have h3:zcp (x::r)=zcp r+if x.prs≠[] then 1 else 0:=by
     unfold zcp
     rw [List.countP_cons]
     by_cases hp:x.prs≠[]<;>simp [hp]
    rw [h3]
    omega
theorem ztK {t:List UInt8} {ws:List Wd} {es:List (List UInt8×Int)} (h:zjP t=.ok (ws,es)):∃ xs,zfc t=.ok xs∧xs.length≤t.length+1∧ws.length≤zcp xs+zdJ ws ws.length ws.length∧
  ∀ i,i<ws.length→inR ws.length (zbt ((ws.getD i zaD).getD 8 0) ((ws.getD i zaD).getD 10 0) i)=false:=by
 unfold zjP at h
 cases hp:zfc t with
 | error z=>rw [hp] at h;cases h
 | ok xs=>
   rw [hp] at h
   simp only at h
   cases hl:zf2 zez xs with
   | error z=>rw [hl] at h;cases h
   | ok l=>
     rw [hl] at h
     obtain ⟨hok,hlen⟩:=zk6 hp
     obtain ⟨hL,hen⟩:=zk7 xs zez l (zi2 _) hok hl
     simp only [zgP] at h
     cases hw:zcn l.nms (sizeT l) l.wds (List.replicate (sizeT l) zaD) with
     | error z=>rw [hw] at h;cases h
     | ok ws'=>
       rw [hw] at h
       simp only at h
       cases he:zel l.nms (sizeT l) l.ents with
       | error z=>rw [he] at h;cases h
       | ok es'=>
         rw [he] at h
         cases h
         have hlw:ws.length=sizeT l:=by rw [zf4 _ _ _ hw,List.length_replicate]
         have hat:=zoc (M:=t.length+1) l.wds _ ws hL.ris (zjQ hL).1 (by simp) hw
         have hun:∀ i,i<sizeT l→i∉l.wds.map (·.1)→ws.getD i zaD=zaD∧i+1<sizeT l:=by
          intro i hi hm
          rcases hat i hi with ⟨⟨x,hx,e⟩,_⟩ | ⟨h1,h2⟩
          ·exact absurd (List.mem_map.2 ⟨x,hx,e⟩) hm
          ·refine ⟨by rw [h2,List.getD_eq_getElem?_getD,List.getElem?_replicate,if_pos hi];rfl,?_⟩
           cases hg:l.wds.getLast? with
           | none=>unfold sizeT at hi;rw [hg] at hi;exact absurd hi (Nat.not_lt_zero i)
           | some y=>
             have hs:sizeT l=y.1+1:=by unfold sizeT;rw [hg]
             have:=h1 y (List.mem_of_getLast? hg)
             omega
         refine ⟨xs,rfl,hlen,?_,fun i hi=>?_⟩
         ·rw [hlw]
          have h1:=zq8 hun (sizeT l) (zlr _)
          have h2:(l.wds.map (·.1)).countP (fun a=>decide (a<sizeT l))≤l.wds.length:=by
           have:=List.countP_le_length (p:=fun a=>decide (a<sizeT l)) (l:=l.wds.map (·.1))
           rwa [List.length_map] at this
          have h3:=zpp xs zez l hl
          have h4:zez.wds.length=0:=rfl
          omega
         ·rw [hlw] at hi ⊢
          rcases hat i hi with ⟨_,h2⟩ | ⟨h1,h2⟩
          ·exact h2
          ·obtain ⟨h3,h4⟩:=hun i hi (fun hm=>by obtain ⟨x,hx,e⟩:=List.mem_map.1 hm;exact h1 x hx e)
           rw [h3]
           have:zbt (zaD.getD 8 0) (zaD.getD 10 0) (i:Int)=[((i:Int)+1,1)]:=rfl
           rw [this]
           simp only [inR,List.any_cons,List.any_nil,Bool.or_false,decide_eq_false_iff_not]
           omega
theorem zou [Sym] (r' v:Value) (its:List Item) (hsz:its.length≤1000000) (base:SS) (hll:base.lim≤base.next) (hv:Rd base v (rowsF lnRow its) 5 its.length) (hrd:∀ x∈its,Rd base x.2.1 (rowsF valRow x.1.args) 3 x.1.args.length∧Rd base x.2.2 (rowsF prRow x.1.prs) 5 x.1.prs.length):
  ∀ (k i n:Nat) (s:SS),its.length=k+i→n≤i→Ext base s→∃ s',Ext base s'∧zat 11 [r',.int .i64 n,v,.int .i64 its.length,.int .i64 i] s=some (0,[r',.int .i64 ((n+zcp ((its.drop i).map (·.1)):Nat):Int)],s'):=by
 intro k
 induction k with
 | zero=>
   intro i n s hk hn he
   have h:¬ (i:Int)<(its.length:Int):=by omega
   rw [List.drop_of_length_le (by omega)]
   refine ⟨s,he,zbX _ _ _ _ _ s ?_⟩
   simp only [zbz,zdf h,zcf]
   rfl
 | succ k ih=>
   intro i n s hk hn he
   have h:(i:Int)<(its.length:Int):=by omega
   obtain ⟨x,hx⟩:∃ x,its[i]?=some x:=⟨_,zge (by omega)⟩
   obtain ⟨hr1,hr2⟩:=hrd x (zmg hx)
   obtain ⟨p1,b1,b2,_⟩:=(hv.ext he).load (j:=(i:Int)) (by omega) h (zbv (f:=lnRow) (z:=5) (fun _=>rfl) its i x hx) rfl
   have b2':s.ldN p1.1 p1.2 5=some (.agg (lnRow x).toArray):=b2
   obtain ⟨s4,e4,c4,x4,n4⟩:=zaQ (n:=5) (st:=s) (he.ll hll) (r:=lnRow (⟨0,[],[],[],[]⟩,.slice none 0 0,.slice none 0 0)) (row:=lnRow x) (v:=.agg (lnRow x).toArray) (zaJ _) rfl (by
    simp only [lnRow,List.all_cons,List.all_nil,zm6 hr1,zm6 hr2]
    rfl) rfl
   have e4':(s.new (.cells [.int .i64 0,.string ⟨#[]⟩,.string ⟨#[]⟩,.slice none 0 0,.slice none 0 0] 0)).stV s.next 0 5 (.agg (lnRow x).toArray)=some s4:=e4
   have l5:s4.ld s.next 4=some x.2.2:=c4.ld
   have hlen:(lenV x.2.2).bind (asI .i64)=some (x.1.prs.length:Int):=by rw [hr2.len];rfl
   have hw1:=za6 (i:=i) (by omega)
   have hwn:=za6 (i:=n) (by omega)
   have hd:=drop_cons hx
   have hcnt:zcp ((its.drop i).map (·.1))=zcp ((its.drop (i+1)).map (·.1))+if x.1.prs≠[] then 1 else 0:=by
    rw [hd,List.map_cons]
    unfold zcp
    rw [List.countP_cons]
    by_cases hp:x.1.prs≠[]<;>simp [hp]
   by_cases hp:x.1.prs=[]
   ·have h0:¬ (0:Int)<(x.1.prs.length:Int):=by rw [hp];simp
    rw [if_neg (fun hh=>hh hp)] at hcnt
    obtain ⟨s',f1,f2⟩:=ih (i+1) n s4 (by omega) (by omega) (he.trans x4)
    refine ⟨s',f1,zbX _ _ _ _ _ s ?_⟩
    simp only [zbz,zdt h,zct,b1,b2',e4',l5,zob,hlen,zdf h0,zcf,hw1]
    rw [hcnt]
    exact f2
   ·have h0:(0:Int)<(x.1.prs.length:Int):=by have:=List.length_pos_iff.2 hp;omega
    rw [if_pos hp] at hcnt
    obtain ⟨s',f1,f2⟩:=ih (i+1) (n+1) s4 (by omega) (by omega) (he.trans x4)
    refine ⟨s',f1,zbX _ _ _ _ _ s ?_⟩
    simp only [zbz,zdt h,zct,b1,b2',e4',l5,zob,hlen,zdt h0,hw1,hwn]
    rw [hcnt,show n+(zcp ((its.drop (i+1)).map (·.1))+1)=n+1+zcp ((its.drop (i+1)).map (·.1)) by omega]
    exact f2
theorem zq9 [Sym] {r:Nat} {wc ev t60 v:Value} {N:Nat} {t61 t62:Int} (hN:(lenV wc).bind (asI .i64)=some (N:Int)) (base:SS) (hll:base.lim≤base.next) (hr:At base r [wc,ev]) {T:List (Int×Int)} (hT:∀ t∈T,0≤t.1∧t.1≤100000∧0≤t.2∧t.2≤100000) (hTl:T.length≤10) (hin:inR N T=false) (hv:Rd base v (rowsF zb2 T) 2 T.length):
  ∀ (k i:Nat) (s:SS),T.length=k+i→Ext base s→∃ s',Ext base s'∧∀ n:Int,zat 23 [ptr r 0,.int .i64 n,t60,.int .i64 t61,.int .i64 t62,v,.int .i64 T.length,.int .i64 i] s=some (0,[ptr r 0,.int .i64 n,t60,.int .i64 t61,.int .i64 t62],s'):=by
 intro k
 induction k with
 | zero=>
   intro i s hk he
   have h:¬ (i:Int)<(T.length:Int):=by omega
   refine ⟨s,he,fun n=>zcZ _ _ _ _ _ _ _ _ s ?_⟩
   simp only [zcd,zdf h,zcf]
 | succ k ih=>
   intro i s hk he
   have h:(i:Int)<(T.length:Int):=by omega
   obtain ⟨t,ht⟩:∃ t,T[i]?=some t:=⟨_,zge (by omega)⟩
   have hmem:=zmg ht
   obtain ⟨q1,q2,q3,q4⟩:=hT t hmem
   have hle:¬ (N:Int)<t.1+t.2:=by
    have:=List.any_eq_false.1 hin t hmem
    simpa using this
   obtain ⟨p,b1,b2,_⟩:=(hv.ext he).load (j:=(i:Int)) (by omega) h (zbv (f:=zb2) (z:=2) (fun _=>rfl) T i t ht) rfl
   have b2':s.ldN p.1 p.2 2=some (.agg (zb2 t).toArray):=b2
   obtain ⟨s4,e4,a4,x4,n4⟩:=zaQ (st:=s) (he.ll hll) (r:=Z2) (row:=zb2 t) (v:=.agg (zb2 t).toArray) (zaJ _) rfl rfl rfl
   have e4':(s.new (.cells [.int .i64 0,.int .i64 0] 0)).stV s.next 0 2 (.agg (zb2 t).toArray)=some s4:=e4
   have he4:=he.trans x4
   have c5:zbe (ptr s.next 0) 2 0 1=some (s.next,0):=rfl
   have c7:zbe (ptr s.next 0) 2 1 1=some (s.next,1):=rfl
   have l6:s4.ld s.next 0=some (.int .i64 t.1):=a4.ld
   have l8:s4.ld s.next 1=some (.int .i64 t.2):=a4.ld
   have hw9:IntKind.wrap .i64 (t.1+t.2)=t.1+t.2:=wrap64 (by omega) (by omega)
   have l11:s4.ld r 0=some wc:=(hr.ext he4).ld
   have h0:¬ t.1<0:=by omega
   have hw1:=za6 (i:=i) (by omega)
   obtain ⟨s',f1,f2⟩:=ih (i+1) s4 (by omega) he4
   refine ⟨s',f1,fun n=>zcZ _ _ _ _ _ _ _ _ s ?_⟩
   simp only [zcd,zdt h,zct,b1,b2',e4',c5,c7,l6,l8,zob,zaa,zdf h0,zcf,hw9,zad,l11,hN,zdf hle,hw1]
   exact f2 n
theorem zov [Sym] {r:Nat} {wc ev:Value} (ws:List Wd) (hws:∀ w∈ws,zjR w) (hsz:ws.length≤2048) (hin:∀ i,i<ws.length→inR ws.length (zbt ((ws.getD i zaD).getD 8 0) ((ws.getD i zaD).getD 10 0) i)=false)
  (base:SS) (hg:Gd base) (hll:base.lim≤base.next) (hr:At base r [wc,ev]) (hc:Rd base wc (rowsF zd1 ws) 1 ws.length) (n0:Nat) (hn0:n0≤1000000):∀ (k i:Nat) (s:SS),ws.length=k+i→Ext base s→
  ∃ s',Ext base s'∧zat 17 [ptr r 0,.int .i64 ((n0+zdJ ws ws.length i:Nat):Int),wc,.int .i64 ws.length,.int .i64 i] s=some (0,[ptr r 0,.int .i64 ((n0+zdJ ws ws.length ws.length:Nat):Int)],s'):=by
 have hN:(lenV wc).bind (asI .i64)=some (ws.length:Int):=by rw [hc.len];rfl
 intro k
 induction k with
 | zero=>
   intro i s hk he
   have e:i=ws.length:=by omega
   subst e
   have h:¬ (ws.length:Int)<(ws.length:Int):=by omega
   refine ⟨s,he,zbr _ _ _ _ _ s ?_⟩
   simp only [zbf,zdf h,zcf]
 | succ k ih=>
   intro i s hk he
   have h:(i:Int)<(ws.length:Int):=by omega
   obtain ⟨w,hgw⟩:∃ w,ws[i]?=some w:=⟨_,zge (by omega)⟩
   have hw:=hws w (zmg hgw)
   have hgd:ws.getD i zaD=w:=by rw [List.getD_eq_getElem?_getD,hgw];rfl
   obtain ⟨p1,b1,_,b3⟩:=(hc.ext he).load (j:=(i:Int)) (by omega) h (zbv (f:=zd1) (z:=1) (fun _=>rfl) ws i w hgw) rfl
   obtain ⟨X,hX⟩:=zsG hw
   obtain ⟨hun,hXl⟩:=ztH hw hX
   have l2:s.ld p1.1 p1.2=some (.int .u64 X):=by have:=b3 0 (by omega);rw [Nat.add_zero] at this;rw [this];show some (Value.int .u64 (zdW w))=_;rw [hX]
   obtain ⟨n3,hn3,c3⟩:=zsF X hXl s (hg.ext he)
   rw [hun] at c3
   have x3:Ext s (s.adv n3):=(Ext.refl _).adv hn3
   have he3:=he.trans x3
   obtain ⟨s5,e5,a5,x5,n5⟩:=zaQ (n:=12) (st:=s.adv n3) (he3.ll hll) (r:=Z12) (row:=wRow w) (v:=wV w) (zaJ _) (by rw [za7,hw.1]) (zgq w) rfl
   have e5':((s.adv n3).new (.cells [.int .i64 0,.int .i64 0,.int .i64 0,.int .i64 0,.int .i64 0,.int .i64 0,.int .i64 0,.int .i64 0,.int .i64 0,.int .i64 0,.int .i64 0,.int .i64 0] 0)).stV n3 0 12 (wV w)=some s5:=e5
   have he5:=he3.trans x5
   have l11:s5.ldN n3 0 12=some (wV w):=a5.ldN (by rw [za7,hw.1])
   have l8:s5.ld r 0=some wc:=(hr.ext he5).ld
   have hto:=zqj hw
   obtain ⟨v12,s12,c12,x12,o12⟩:=zr4 w (i:Int) (w.getD 8 0) (w.getD 10 0) (getD_some (by rw [hw.1];omega)) (getD_some (by rw [hw.1];omega)) (by omega) (by omega) s5 (he5.ll hll)
   have he12:=he5.trans x12
   have hT:=zkO (s:=w.getD 8 0) (a:=(i:Int)) (by omega) hto
   have hTl:(zbt (w.getD 8 0) (w.getD 10 0) (i:Int)).length≤10:=by
    unfold zbt
    repeat' split
    all_goals simp
   have hinw:=hin i (by omega)
   rw [hgd] at hinw
   obtain ⟨s14,x14,f14⟩:=zq9 (t60:=wc) (t61:=ws.length) (t62:=i) hN s12 (he12.ll hll) (hr.ext he12) hT hTl hinw o12.rd _ 0 s12 rfl (Ext.refl _)
   have f14':∀ n:Int,zat 23 [ptr r 0,.int .i64 n,wc,.int .i64 ws.length,.int .i64 i,v12,.int .i64 (zbt (w.getD 8 0) (w.getD 10 0) (i:Int)).length,.int .i64 0] s12=some (0,[ptr r 0,.int .i64 n,wc,.int .i64 ws.length,.int .i64 i],s14):=f14
   have hlen:(lenV v12).bind (asI .i64)=some ((zbt (w.getD 8 0) (w.getD 10 0) (i:Int)).length:Int):=by rw [o12.len];rfl
   have b0:Nat.beq 0 0=true:=rfl
   have hw1:=za6 (i:=i) (by omega)
   obtain ⟨s',g1,g2⟩:=ih (i+1) s14 (by omega) (he12.trans x14)
   have hzs:=zlH ws ws.length i
   rw [hgd] at hzs
   have hzb:zdJ ws ws.length i≤i:=by
    have:=List.countP_le_length (p:=fun i=>decide (zdW (ws.getD i zaD)=0)&&decide (i+1<ws.length)) (l:=List.range i)
    rw [List.length_range] at this
    exact this
   have u2:asI .u64 (.int .u64 (X:Int))=some (X:Int):=rfl
   by_cases hx0:X=0
   ·have hx0':((X:Nat):Int)=0:=by omega
    by_cases hl:i+1<ws.length
    ·have hl':((i+1:Nat):Int)<(ws.length:Int):=by omega
     rw [if_pos ⟨by rw [hX,hx0'];,hl⟩] at hzs
     have hwn:IntKind.wrap .i64 (((n0+zdJ ws ws.length i:Nat):Int)+1)=((n0+zdJ ws ws.length (i+1):Nat):Int):=by
      rw [wrap64 (by omega) (by omega),hzs];omega
     refine ⟨s',g1,zbr _ _ _ _ _ s ?_⟩
     simp only [zbf,zdt h,zct,b1,l2,u2,zob,c3,SS.adv_next,e5',zdt hx0',hw1,zad,l8,hN,zdt hl',hwn,l11,c12,hlen]
     rw [f14',zob]
     simp only [b0,zct,zgs,zgz,zob,zaa,hw1]
     exact g2
    ·have hl':¬ ((i+1:Nat):Int)<(ws.length:Int):=by omega
     rw [if_neg (fun hh=>hl hh.2)] at hzs
     rw [hzs,Nat.add_zero] at g2
     refine ⟨s',g1,zbr _ _ _ _ _ s ?_⟩
     simp only [zbf,zdt h,zct,b1,l2,u2,zob,c3,SS.adv_next,e5',zdt hx0',hw1,zad,l8,hN,zdf hl',zcf,l11,c12,hlen]
     rw [f14',zob]
     simp only [b0,zct,zgs,zgz,zob,zaa,hw1]
     exact g2
   ·have hx0':¬ ((X:Nat):Int)=0:=by omega
    rw [if_neg (fun hh=>hx0' (by rw [← hX];exact hh.1))] at hzs
    rw [hzs,Nat.add_zero] at g2
    refine ⟨s',g1,zbr _ _ _ _ _ s ?_⟩
    simp only [zbf,zdt h,zct,b1,l2,u2,zob,c3,SS.adv_next,e5',zdf hx0',zcf,l11,c12,hlen]
    rw [f14',zob]
    simp only [b0,zct,zgs,zgz,zob,zaa,hw1]
    exact g2
theorem zpq [Sym] {r:Nat} {wc ev:Value} {N:Nat} (hN:(lenV wc).bind (asI .i64)=some (N:Int)) (es:List (List UInt8×Int)) (hsz:es.length≤1000000) (hes:∀ e∈es,e.1≠[]∧0≤e.2∧e.2<N) (base:SS) (hll:base.lim≤base.next) (hr:At base r [wc,ev]) (hc:Rd base ev (rowsF zem es) 2 es.length) (n:Int):∀ (k i:Nat) (s:SS),es.length=k+i→Ext base s→
  ∃ s',Ext base s'∧zat 30 [ptr r 0,.int .i64 n,ev,.int .i64 es.length,.int .i64 i] s=some (0,[ptr r 0,.int .i64 n],s'):=by
 intro k
 induction k with
 | zero=>
   intro i s hk he
   have h:¬ (i:Int)<(es.length:Int):=by omega
   refine ⟨s,he,zc0 _ _ _ _ _ s ?_⟩
   simp only [zce,zdf h,zcf]
 | succ k ih=>
   intro i s hk he
   have h:(i:Int)<(es.length:Int):=by omega
   obtain ⟨e,hg⟩:∃ e,es[i]?=some e:=⟨_,zge (by omega)⟩
   obtain ⟨h1,h2,h3⟩:=hes e (zmg hg)
   obtain ⟨p1,b1,b2,_⟩:=(hc.ext he).load (j:=(i:Int)) (by omega) h (zbv (f:=zem) (z:=2) (fun _=>rfl) es i e hg) rfl
   have b2':s.ldN p1.1 p1.2 2=some (.agg (zem e).toArray):=b2
   obtain ⟨s4,e4,a4,x4,n4⟩:=zaQ (n:=2) (st:=s) (he.ll hll) (r:=zem ([],0)) (row:=zem e) (v:=.agg (zem e).toArray) (zaJ _) rfl rfl rfl
   have e4':(s.new (.cells [.string ⟨#[]⟩,.int .i64 0] 0)).stV s.next 0 2 (.agg (zem e).toArray)=some s4:=e4
   have he4:=he.trans x4
   have l5:s4.ld s.next 1=some (.int .i64 e.2):=a4.ld
   have l10:s4.ld s.next 0=some (.string (mkS e.1)):=a4.ld
   have l8:s4.ld r 0=some wc:=(hr.ext he4).ld
   have q1:¬ e.2<0:=by omega
   have q2:¬ (N:Int)≤e.2:=by omega
   have q3:eqT (mkS e.1) ⟨#[]⟩=false:=by rw [zea];exact zdf h1
   have hw1:=za6 (i:=i) (by omega)
   obtain ⟨s',f1,f2⟩:=ih (i+1) s4 (by omega) he4
   refine ⟨s',f1,zc0 _ _ _ _ _ s ?_⟩
   simp only [zce,zdt h,zct,b1,b2',e4',l5,l10,zob,zaa,zab,zdf q1,zcf,zad,l8,hN,zdf q2,q3,hw1]
   exact f2
theorem uasmReaches_ok [Sym] (s:ByteArray):∃ st',cc 4 [.string s] st0=some (.bool true,st'):=by
 obtain ⟨N,hN,hal⟩:=alive0
 have x1:Ext st0 (st0.adv N):=(Ext.refl _).adv hN
 by_cases h1:(2048:Int)<(s.size:Int)
 ·refine ⟨_,zcr _ st0 (r:=(.bool true,st0.adv N)) ?_⟩
  simp only [zb5,hal,zob,zaf,znt,zcf,zdt h1,zct]
 have hl0:st0.lim≤st0.next:=zlr _
 have ha:=asm_ok (gd0.ext x1) (x1.ll hl0) s (by omega)
 have t0:∀ (a b c:Value),zal (.tuple #[a,b,c]) 0=some a:=fun _ _ _=>rfl
 have t1:∀ (a b c:Value),zal (.tuple #[a,b,c]) 1=some b:=fun _ _ _=>rfl
 have t2:∀ (a b c:Value),zal (.tuple #[a,b,c]) 2=some c:=fun _ _ _=>rfl
 have u0:∀ (a b:Value),zal (.tuple #[a,b]) 0=some a:=fun _ _=>rfl
 have u1:∀ (a b:Value),zal (.tuple #[a,b]) 1=some b:=fun _ _=>rfl
 have b0:Nat.beq 0 0=true:=rfl
 have mid:∀ (s3:SS) (wv ev:Value) (e:Nat×Nat),Ext st0 s3→one wv=true→one ev=true→∃ s10,(((s3.new (.cells NN 0)).new (.cells Z2 0)).stV s3.next 0 2 (zkP wv ev)).bind (fun s9=>s9.stV (s3.next+1) 0 2 (zbj e))=some s10∧Ext s3 s10∧At s10 s3.next [wv,ev]:=by
  intro s3 wv ev e he w1 w2
  have hll:=he.ll hl0
  have y1:Ext s3 (s3.new (.cells NN 0)):=(Ext.refl _).new _
  have y2:Ext (s3.new (.cells NN 0)) ((s3.new (.cells NN 0)).new (.cells Z2 0)):=(Ext.refl _).new _
  have q1:At ((s3.new (.cells NN 0)).new (.cells Z2 0)) s3.next NN:=(At.new hll NN).ext y2
  have q2:At ((s3.new (.cells NN 0)).new (.cells Z2 0)) (s3.next+1) Z2:=At.new (st:=s3.new (.cells NN 0)) (y1.ll hll) Z2
  obtain ⟨s9,e9,a9,m9,n9⟩:=q1.stV (k:=0) (n:=2) (v:=zkP wv ev) (vs:=[wv,ev]) rfl rfl (by simp [w1,w2]) (row':=[wv,ev]) rfl
  obtain ⟨s10,e10,a10,m10,n10⟩:=(q2.mod m9 (by simp)).stV (k:=0) (n:=2) (v:=zbj e) (vs:=[.int .i64 e.1,.int .i64 e.2]) rfl rfl rfl (row':=[.int .i64 e.1,.int .i64 e.2]) rfl
  exact ⟨s10,by rw [e9,zob,e10],zaB (zaB (y1.trans y2) m9 (zlr _)) m10 (by omega),a9.mod m10 (by simp)⟩
 cases hr:zjP (bl s) with
 | error e=>
   rw [hr] at ha
   obtain ⟨s3,c3,x3⟩:=ha
   have x03:=x1.trans x3
   obtain ⟨s10,e10,x10,a10⟩:=mid s3 _ _ e x03 (show one (.slice none 0 0)=true from rfl) (show one (.slice none 0 0)=true from rfl)
   obtain ⟨s9,e9,e9'⟩:=zbi.1 e10
   have h4:¬ (4:Int)=0:=by decide
   have l11:s10.ld s3.next 0=some (.slice none 0 0):=a10.ld
   have l13:s10.ld s3.next 1=some (.slice none 0 0):=a10.ld
   have hle:(lenV (.slice none 0 0)).bind (asI .i64)=some 0:=rfl
   refine ⟨s10,zcr _ st0 ?_⟩
   simp only [zb5,hal,zob,zaf,znt,zcf,zdf h1,c3,t0,t1,t2,zaa,e9,SS.new_next,e9',zdf h4,znf,zct,l11,l13,hle,decide_true]
 | ok y=>
   obtain ⟨ws,es⟩:=y
   obtain ⟨hwd,hwl⟩:=zuG hr
   obtain ⟨hel,hen⟩:=zuH hr
   obtain ⟨xs,hpx,hxl,hcount,hin⟩:=ztK hr
   rw [zaF] at hel hxl
   rw [hr] at ha
   obtain ⟨s3,wv,ev,c3,x3,o1,o2⟩:=ha
   have x03:=x1.trans x3
   obtain ⟨s10,e10,x10,a10⟩:=mid s3 wv ev (0,0) x03 (Own.cell o1).2 (Own.cell o2).2
   obtain ⟨s9,e9,e9'⟩:=zbi.1 e10
   have x010:=x03.trans x10
   have hp:=zsn (x010.ll hl0) s (by omega)
   rw [hpx] at hp
   obtain ⟨v16,s15,c15,x15,items,hxs,hv,hrd⟩:=hp
   have hil:items.length=xs.length:=by rw [← hxs,List.length_map]
   obtain ⟨s19,e19,a19,x19,n19⟩:=zaQ (n:=2) (st:=s15) ((x010.trans x15).ll hl0) (r:=Z2) (row:=Z2) (v:=zbj (0,0)) rfl rfl rfl rfl
   have x019:=(x010.trans x15).trans x19
   have hll19:=x019.ll hl0
   have a19':=(a10.ext x15).ext x19
   have q1:(lenV wv).bind (asI .i64)=some (ws.length:Int):=by rw [o1.len];rfl
   have q2:(lenV ev).bind (asI .i64)=some (es.length:Int):=by rw [o2.len];rfl
   have q3:(lenV v16).bind (asI .i64)=some (items.length:Int):=by rw [hv.len];rfl
   obtain ⟨s21,x21,f21⟩:=zou (ptr s3.next 0) v16 items (by omega) s19 hll19 (hv.ext x19) (fun x hx=>⟨(hrd x hx).1.ext x19,(hrd x hx).2.ext x19⟩) items.length 0 0 s19 rfl (zlr _) (Ext.refl _)
   rw [List.drop_zero,hxs,Nat.zero_add] at f21
   have f21':zat 11 [ptr s3.next 0,.int .i64 0,v16,.int .i64 items.length,.int .i64 0] s19=_:=f21
   have x021:=x019.trans x21
   have hll21:=x021.ll hl0
   have a21:=a19'.ext x21
   have l25:s21.ld s3.next 0=some wv:=a21.ld
   have xs21:=((x10.trans x15).trans x19).trans x21
   have hln:zcp xs≤1000000:=by
    have:=List.countP_le_length (p:=fun x:PLine=>decide (x.prs≠[])) (l:=xs)
    unfold zcp
    omega
   obtain ⟨s27,x27,f27⟩:=zov ws hwd hwl hin s21 (gd0.ext x021) hll21 a21 (o1.rd.ext xs21) (zcp xs) hln ws.length 0 s21 rfl (Ext.refl _)
   have f27':zat 17 [ptr s3.next 0,.int .i64 (zcp xs),wv,.int .i64 ws.length,.int .i64 0] s21=_:=f27
   have a27:=a21.ext x27
   have l31:s27.ld s3.next (0+1)=some ev:=a27.ld
   obtain ⟨s33,x33,f33⟩:=zpq q1 es (by omega) hen s27 ((x021.trans x27).ll hl0) a27 (o2.rd.ext (xs21.trans x27)) ((zcp xs+zdJ ws ws.length ws.length:Nat):Int) es.length 0 s27 rfl (Ext.refl _)
   have f33':zat 30 [ptr s3.next 0,.int .i64 ((zcp xs+zdJ ws ws.length ws.length:Nat):Int),ev,.int .i64 es.length,.int .i64 0] s27=_:=f33
   have l37:s33.ld s3.next 0=some wv:=(a27.ext x33).ld
   have g1:(ws.length:Int)≤((zcp xs+zdJ ws ws.length ws.length:Nat):Int):=by omega
   have g2:(ws.length:Int)≤2048:=by omega
   refine ⟨s33,zcr _ st0 ?_⟩
   simp only [zb5,hal,zob,zaf,znt,zcf,zdf h1,c3,t0,t1,t2,zaa,e9,SS.new_next,e9',decide_true,c15,u0,u1,e19,q3]
   rw [f21',zob]
   simp only [zgs,zgz,zob,zaa,zad,l25,q1]
   rw [f27',zob]
   simp only [b0,zct,zgs,zgz,zob,zaa,zad,l31,q2]
   rw [f33',zob]
   simp only [b0,zct,zgs,zgz,zob,zaa,zad,l37,q1,zdt g1,zdt g2]
end Go.Proofs.YtifploedaacedaaGreatDoorE
