/- Parts of the proof of UasmBlank, packed by a program: an evaluator over the given code, functions as plain texts, their laws. -/
import Derived.Test.YtifploedaacedaaDoorPKD
set_option linter.unusedVariables false
set_option linter.unusedSimpArgs false
namespace Go.Proofs.YtifploedaacedaaDoorE
set_option maxRecDepth 1000000
open Go Go.E Go.Proofs
theorem zo7:okP st0.next (runF Tryd.prog Lk0 2000 9 [] ⟨st0.mem,st0.next,st0.next,[]⟩)=true:=by kernel_rfl
theorem alive0 [Sym]:∃ N,st0.next≤N∧cc 9 [] st0=some (.bool true,st0.adv N):=
 znU (st:=st0) (f:=9) (args:=[]) (n:=2000) zam (by kernel_rfl) (by kernel_rfl) (by kernel_rfl) zo7
end Go.Proofs.YtifploedaacedaaDoorE
namespace Go.Proofs.YtifploedaacedaaDoorE
open Go Go.E Go.Proofs
theorem zfQ:∀ ps:List (List UInt8),(za1 ps).length=(ps.map (·.length)).sum+16*ps.length
 | []=>rfl
 | p::r=>by
   have ih:=zfQ r
   unfold za1 zdq zgj
   simp only [List.length_append,List.length_cons,List.length_nil,List.map_cons,List.sum_cons,ih]
   omega
theorem zmc (acc p:List UInt8) (r:List (List UInt8)):acc++[59,32,109,111,114,101,10,9]++p++[32,59,32,108,101,115,115,10]++za1 r=acc++za1 (p::r):=by simp [za1,zdq,zgj]
theorem zo8 [Sym] (s:ByteArray) (hs:s.size≤100000) (st:SS):∀ (k i f:Nat) (acc:List UInt8),s.size=k+i→f≤i→(10:UInt8)∉((bl s).take i).drop f→acc.length+(za1 (pieces 10 ((bl s).drop f))).length≤1000000→
  zay 8 [.string s,.string (mkS acc),.int .i64 f,.int .i64 i] st=some (0,[.string s,.string (mkS (acc++za1 (pieces 10 ((bl s).drop f))))],st):=by
 have hbl:(bl s).length=s.size:=zaI s
 have hsub:∀ f i:Nat,f≤i→i≤s.size→zb4 s (f:Int) (i:Int)=some (mkS (((bl s).take i).drop f)):=fun f i h1 h2=>by
  rw [zf7 (by omega) (by omega) (by omega),Int.toNat_natCast,Int.toNat_natCast,← zfE,zpK]
 have seg:∀ (f i:Nat) (acc:List UInt8),f≤i→i≤s.size→acc.length+(((bl s).take i).drop f).length+16≤1000000→zeu (mkS acc) ⟨#[59,32,109,111,114,101,10,9]⟩=some (mkS (acc++[59,32,109,111,114,101,10,9]))∧
   zeu (mkS (acc++[59,32,109,111,114,101,10,9])) (mkS (((bl s).take i).drop f))=some (mkS (acc++[59,32,109,111,114,101,10,9]++((bl s).take i).drop f))∧
   zeu (mkS (acc++[59,32,109,111,114,101,10,9]++((bl s).take i).drop f)) ⟨#[32,59,32,108,101,115,115,10]⟩=some (mkS (acc++[59,32,109,111,114,101,10,9]++((bl s).take i).drop f++[32,59,32,108,101,115,115,10])):=fun f i acc h1 h2 h3=>
  ⟨zm8 (a:=acc) (b:=[59,32,109,111,114,101,10,9]) (by simp only [List.length_cons,List.length_nil];omega),zm8 (by simp only [List.length_append,List.length_cons,List.length_nil];omega),zm8 (b:=[32,59,32,108,101,115,115,10]) (by simp only [List.length_append,List.length_cons,List.length_nil];omega)⟩
 have blen:∀ (p:List UInt8) (r:List (List UInt8)),(za1 (p::r)).length=p.length+16+(za1 r).length:=fun p r=>by
  rw [zfQ,zfQ]
  simp only [List.map_cons,List.sum_cons,List.length_cons]
  omega
 intro k
 induction k with
 | zero=>
   intro i f acc hk hf hno hlen
   have e:i=s.size:=by omega
   subst e
   have q1:(s.size:Int)≤(s.size:Int):=Int.le_refl _
   have hcur:((bl s).take s.size).drop f=(bl s).drop f:=by rw [List.take_of_length_le (by omega)]
   rw [hcur] at hno
   have hp:pieces 10 ((bl s).drop f)=[(bl s).drop f]:=zff hno
   rw [hp,blen] at hlen
   obtain ⟨k1,k2,k3⟩:=seg f s.size acc hf (zlr _) (by rw [hcur];omega)
   have hw:=zbg (i:=s.size) (by omega)
   have hex:zay 8 [.string s,.string (mkS (acc++za1 (pieces 10 ((bl s).drop f)))),.int .i64 ((s.size+1:Nat):Int),.int .i64 ((s.size+1:Nat):Int)] st=some (0,[.string s,.string (mkS (acc++za1 (pieces 10 ((bl s).drop f))))],st):=by
    have h:¬ ((s.size+1:Nat):Int)≤(s.size:Int):=by omega
    refine zbc _ _ _ _ st ?_
    simp only [za7,zdf h,zcf]
   have hseg:=zmc acc ((bl s).drop f) []
   rw [show za1 []=[] from rfl,List.append_nil] at hseg
   rw [hcur] at k2 k3
   have hsb:=hsub f s.size hf (zlr _)
   rw [hcur] at hsb
   rw [hseg,← hp] at k3
   refine zbc _ _ _ _ st ?_
   simp only [za7,zdt q1,zct,decide_true,k1,zob,zab,hsb,k2,k3,hw]
   exact hex
 | succ k ih=>
   intro i f acc hk hf hno hlen
   have q1:(i:Int)≤(s.size:Int):=by omega
   have q2:¬ (i:Int)=(s.size:Int):=by omega
   obtain ⟨b,hb,hidx⟩:=zmZ (s:=s) (i:=(i:Int)) (by omega) (by omega)
   rw [Int.toNat_natCast] at hb
   have hidx':(zew s (i:Int)).bind (asI .u8)=some (b.toNat:Int):=by rw [hidx];rfl
   have hw:=zbg (i:=i) (by omega)
   have hdrop:(bl s).drop f=((bl s).take i).drop f++b::(bl s).drop (i+1):=by
    have h1:bl s=(bl s).take i++b::(bl s).drop (i+1):=by
     rw [← drop_cons hb,List.take_append_drop]
    conv=>lhs;rw [h1]
    rw [List.drop_append_of_le_length (by rw [List.length_take];omega)]
   by_cases hb10:b=10
   ·have q3:(b.toNat:Int)=10:=by rw [hb10];rfl
    have hp:pieces 10 ((bl s).drop f)=((bl s).take i).drop f::pieces 10 ((bl s).drop (i+1)):=by
     rw [hdrop,hb10,zfr,zff hno];rfl
    rw [hp,blen] at hlen
    obtain ⟨k1,k2,k3⟩:=seg f i acc hf (by omega) (by omega)
    have hsb:=hsub f i hf (by omega)
    have hseg:=zmc acc (((bl s).take i).drop f) (pieces 10 ((bl s).drop (i+1)))
    have next:=ih (i+1) (i+1) (acc++[59,32,109,111,114,101,10,9]++((bl s).take i).drop f++[32,59,32,108,101,115,115,10]) (by omega) (zlr _) (by rw [List.drop_of_length_le (by rw [List.length_take];omega)];simp) (by
     simp only [List.length_append,List.length_cons,List.length_nil]
     omega)
    rw [hseg,← hp] at next
    refine zbc _ _ _ _ st ?_
    simp only [za7,zdt q1,zct,zdf q2,zcf,hidx',zob,zdt q3,k1,zab,hsb,k2,k3,hw]
    exact next
   ·have q3:¬ (b.toNat:Int)=10:=fun e=>hb10 (by
     have:b.toNat=10:=by omega
     exact UInt8.toNat_inj.1 (by rw [this];rfl))
    have hcur:((bl s).take (i+1)).drop f=((bl s).take i).drop f++[b]:=by
     rw [List.take_add_one,hb]
     rw [List.drop_append_of_le_length (by rw [List.length_take];omega)]
     rfl
    have next:=ih (i+1) f acc (by omega) (by omega) (by
     rw [hcur]
     simp only [List.mem_append,List.mem_singleton,not_or]
     exact ⟨hno,fun e=>hb10 e.symm⟩) hlen
    refine zbc _ _ _ _ st ?_
    simp only [za7,zdt q1,zct,zdf q2,zcf,hidx',zob,zdf q3,hw]
    exact next
theorem zjH [Sym] {r q:Nat} {wc ev wd ed:Value} (ws:List Wd) (hsz:ws.length≤1099511627776) (st:SS) (hr:At st r [wc,ev]) (hq:At st q [wd,ed]) (hc:Rd st wc (rowsF zci ws) 1 ws.length) (hd:Rd st wd (rowsF zci ws) 1 ws.length):∀ (k i:Nat),ws.length=k+i→
  zay 18 [ptr r 0,ptr q 0,.int .i64 ws.length,.int .i64 i] st=some (0,[],st):=by
 intro k
 induction k with
 | zero=>
   intro i hk
   have h:¬ (i:Int)<(ws.length:Int):=by omega
   refine zcH _ _ _ _ st ?_
   simp only [zb2,zdf h,zcf]
 | succ k ih=>
   intro i hk
   have h:(i:Int)<(ws.length:Int):=by omega
   obtain ⟨w,hg⟩:∃ w,ws[i]?=some w:=⟨_,zge (by omega)⟩
   have hgr:=zbI (f:=zci) (z:=1) (fun _=>rfl) ws i w hg
   obtain ⟨p3,b1,_,b3⟩:=hc.load (j:=(i:Int)) (by omega) h hgr rfl
   obtain ⟨p7,c1,_,c3⟩:=hd.load (j:=(i:Int)) (by omega) h hgr rfl
   have l4:st.ld p3.1 p3.2=some (.int .u64 (zeE w)):=b3 0 (by omega)
   have l8:st.ld p7.1 p7.2=some (.int .u64 (zeE w)):=c3 0 (by omega)
   have l2:st.ld r 0=some wc:=hr.ld
   have l6:st.ld q 0=some wd:=hq.ld
   have u:asI .u64 (.int .u64 (zeE w))=some (zeE w):=rfl
   have hw:=zbg (i:=i) (by omega)
   refine zcH _ _ _ _ st ?_
   simp only [zb2,zdt h,zct,zad,zob,l2,l6,b1,c1,l4,l8,u,decide_true,znt,zcf,hw]
   exact ih (i+1) (by omega)
theorem zkX {st0 s3:SS} {wv ev:Value} {e:Nat×Nat} (hl0:st0.lim≤st0.next) (he:Ext st0 s3) (w1:one wv=true) (w2:one ev=true):∃ s10,(((s3.new (.cells NN 0)).new (.cells Z2 0)).stV s3.next 0 2 (zgl wv ev)).bind (fun s9=>s9.stV (s3.next+1) 0 2 (zbl e))=some s10∧Ext s3 s10∧At s10 s3.next [wv,ev]:=by
 have hll:=he.ll hl0
 have y1:Ext s3 (s3.new (.cells NN 0)):=(Ext.refl _).new _
 have y2:Ext (s3.new (.cells NN 0)) ((s3.new (.cells NN 0)).new (.cells Z2 0)):=(Ext.refl _).new _
 have q1:At ((s3.new (.cells NN 0)).new (.cells Z2 0)) s3.next NN:=(At.new hll NN).ext y2
 have q2:At ((s3.new (.cells NN 0)).new (.cells Z2 0)) (s3.next+1) Z2:=At.new (st:=s3.new (.cells NN 0)) (y1.ll hll) Z2
 obtain ⟨s9,e9,a9,m9,n9⟩:=q1.stV (k:=0) (n:=2) (v:=zgl wv ev) (vs:=[wv,ev]) rfl rfl (by simp [w1,w2]) (row':=[wv,ev]) rfl
 obtain ⟨s10,e10,a10,m10,n10⟩:=(q2.mod m9 (by simp)).stV (k:=0) (n:=2) (v:=zbl e) (vs:=[.int .i64 e.1,.int .i64 e.2]) rfl rfl rfl (row':=[.int .i64 e.1,.int .i64 e.2]) rfl
 exact ⟨s10,by rw [e9,zob,e10],zaw (zaw (y1.trans y2) m9 (zlr _)) m10 (by omega),a9.mod m10 (by simp)⟩
theorem uasmBlank_ok [Sym] (s:ByteArray):∃ st',cc 5 [.string s] st0=some (.bool true,st'):=by
 obtain ⟨N,hN,hal⟩:=alive0
 have x1:Ext st0 (st0.adv N):=(Ext.refl _).adv hN
 by_cases h1:(1024:Int)<(s.size:Int)
 ·refine ⟨_,zb8 _ st0 (r:=(.bool true,st0.adv N)) ?_⟩
  simp only [zbL,hal,zob,zal,znt,zcf,zdt h1,zct]
 have hl0:st0.lim≤st0.next:=zlr _
 have hsum:=zo5 10 (bl s)
 have hpl:=pieces_len 10 (bl s)
 have hbl:(bl s).length=s.size:=zaI s
 have hbt:(za1 (pieces 10 (bl s))).length≤65536:=by rw [zfQ];omega
 have hloop:=zo8 s (by omega) (st0.adv N) s.size 0 0 [] (by omega) (zlr _) (by simp) (by rw [List.drop_zero];simp only [List.length_nil];omega)
 rw [List.drop_zero,List.nil_append] at hloop
 have hloop':zay 8 [.string s,.string ⟨#[]⟩,.int .i64 0,.int .i64 0] (st0.adv N)=some (0,[.string s,.string (mkS (za1 (pieces 10 (bl s))))],st0.adv N):=hloop
 have ha:=zns (gd0.ext x1) (x1.ll hl0) s (by omega)
 have hlaw:=zqu (bl s)
 have t0:∀ (a b c:Value),zan (.tuple #[a,b,c]) 0=some a:=fun _ _ _=>rfl
 have t1:∀ (a b c:Value),zan (.tuple #[a,b,c]) 1=some b:=fun _ _ _=>rfl
 have t2:∀ (a b c:Value),zan (.tuple #[a,b,c]) 2=some c:=fun _ _ _=>rfl
 have b0:Nat.beq 0 0=true:=rfl
 have fin:∀ (s6 s14:SS) (wv ev wu eu:Value) (p q:Nat×Nat) (n:Int) (ws:List Wd) (es:List (List UInt8×Int)),Ext st0 s6→cc 10 [.string s] (st0.adv N)=some (.tuple #[zgl wv ev,zbl p,.int .i64 n],s6)→Rd s6 wv (rowsF zci ws) 1 ws.length→Rd s6 ev (rowsF zfg es) 2 es.length→ws.length≤1000000→
   (∀ s13,Ext s6 s13→At s13 s6.next [wv,ev]→∃ s14,Ext s13 s14∧cc 10 [.string (mkS (za1 (pieces 10 (bl s))))] s13=some (.tuple #[zgl wu eu,zbl q,.int .i64 n],s14)∧Rd s14 wu (rowsF zci ws) 1 ws.length∧Rd s14 eu (rowsF zfg es) 2 es.length)→
   ∃ st',cc 5 [.string s] st0=some (.bool true,st'):=by
  intro s6 _ wv ev wu eu p q n ws es x6 c6 r1 r2 hwl hsec
  obtain ⟨s13,e13,x13,a13⟩:=zkX (e:=p) hl0 x6 (zhh r1) (zhh r2)
  obtain ⟨s12,e12,e13'⟩:=zbi.1 e13
  obtain ⟨s14,x14,c14,r3,r4⟩:=hsec s13 x13 a13
  have x014:=(x6.trans x13).trans x14
  obtain ⟨s21,e21,x21,a21⟩:=zkX (e:=q) hl0 x014 (zhh r3) (zhh r4)
  obtain ⟨s20,e20,e21'⟩:=zbi.1 e21
  have a1:=(a13.ext x14).ext x21
  have l22:s21.ld s6.next 0=some wv:=a1.ld
  have l26:s21.ld s6.next 1=some ev:=a1.ld
  have l24:s21.ld s14.next 0=some wu:=a21.ld
  have l28:s21.ld s14.next 1=some eu:=a21.ld
  have q1:(lenV wv).bind (asI .i64)=some (ws.length:Int):=by rw [r1.len];rfl
  have q2:(lenV ev).bind (asI .i64)=some (es.length:Int):=by rw [r2.len];rfl
  have q3:(lenV wu).bind (asI .i64)=some (ws.length:Int):=by rw [r3.len];rfl
  have q4:(lenV eu).bind (asI .i64)=some (es.length:Int):=by rw [r4.len];rfl
  have f18:=zjH ws (by omega) s21 a1 a21 (((r1.ext x13).ext x14).ext x21) (r3.ext x21) ws.length 0 rfl
  have f18':zay 18 [ptr s6.next 0,ptr s14.next 0,.int .i64 ws.length,.int .i64 0] s21=some (0,[],s21):=f18
  refine ⟨s21,zb8 _ st0 ?_⟩
  simp only [zbL,hal,zob,zal,znt,zcf,zdf h1]
  rw [hloop',zob]
  simp only [zgs,zgz,zob,zab,c6,t0,t1,t2,zaa,e12,SS.new_next,e13']
  rw [c14,zob]
  simp only [t0,t1,t2,zob,zaa,e20,SS.new_next,e21',decide_true,znt,zcf,l22,l24,l26,l28,q1,q2,q3,q4]
  rw [f18',zob]
  simp only [b0,zct]
 cases hr:zgT (bl s) with
 | error e=>
   rw [hr] at ha hlaw
   obtain ⟨s6,c6,x6⟩:=ha
   cases hr2:zgT (za1 (pieces 10 (bl s))) with
   | ok y=>rw [hr2] at hlaw;cases hlaw
   | error e2=>
     refine fin s6 s6 _ _ (.slice none 0 0) (.slice none 0 0) e e2 4 [] [] (x1.trans x6) c6 (Own.nil 0 s6 1).rd (Own.nil 0 s6 2).rd (by simp) fun s13 x13 _=>?_
     have ha2:=zns (gd0.ext ((x1.trans x6).trans x13)) (((x1.trans x6).trans x13).ll hl0) (mkS (za1 (pieces 10 (bl s)))) hbt
     rw [zbY,hr2] at ha2
     obtain ⟨s14,c14,x14⟩:=ha2
     exact ⟨s14,x14,c14,(Own.nil 0 s14 1).rd,(Own.nil 0 s14 2).rd⟩
 | ok y=>
   obtain ⟨ws,es⟩:=y
   rw [hr] at ha hlaw
   obtain ⟨s6,wv,ev,c6,x6,o1,o2⟩:=ha
   cases hr2:zgT (za1 (pieces 10 (bl s))) with
   | error e2=>rw [hr2] at hlaw;cases hlaw
   | ok y2=>
     rw [hr2] at hlaw
     have hy:y2=(ws,es):=Option.some.inj hlaw
     have hwl:ws.length≤1000000:=by
      have h2:ws.length≤2048:=by
       unfold zgT at hr
       cases hp:zfc (bl s) with
       | error z=>rw [hp] at hr;cases hr
       | ok xs=>
         rw [hp] at hr
         simp only at hr
         cases hl:zdQ zdA xs with
         | error z=>rw [hl] at hr;cases hr
         | ok l=>
           rw [hl] at hr
           have hL:=(zlw xs zdA l (zi6 _) (zlv hp).1 hl).1
           simp only [zeJ] at hr
           cases hw:zbP l.nms (sizeT l) l.wds (List.replicate (sizeT l) zaC) with
           | error z=>rw [hw] at hr;cases hr
           | ok ws'=>
             rw [hw] at hr
             simp only at hr
             cases he:zcs l.nms (sizeT l) l.ents with
             | error z=>rw [he] at hr;cases hr
             | ok es'=>
               rw [he] at hr
               cases hr
               rw [zh4 _ _ _ hw,List.length_replicate]
               exact (zj5 hL).2
      omega
     have ha2:∀ s13,Ext s6 s13→∃ s14 wu eu,cc 10 [.string (mkS (za1 (pieces 10 (bl s))))] s13=some (.tuple #[zgl wu eu,zbl (0,0),.int .i64 0],s14)∧Ext s13 s14∧Own s13.next s14 wu (rowsF zci ws) 1 ws.length∧Own s13.next s14 eu (rowsF zfg es) 2 es.length:=fun s13 x13=>by
      have h:=zns (gd0.ext ((x1.trans x6).trans x13)) (((x1.trans x6).trans x13).ll hl0) (mkS (za1 (pieces 10 (bl s)))) hbt
      rw [zbY,hr2,hy] at h
      exact h
     obtain ⟨s13,e13,x13,a13⟩:=zkX (e:=(0,0)) hl0 (x1.trans x6) (Own.cell o1).2 (Own.cell o2).2
     obtain ⟨s12,e12,e13'⟩:=zbi.1 e13
     obtain ⟨s14,wu,eu,c14,x14,o3,o4⟩:=ha2 s13 x13
     have x014:=((x1.trans x6).trans x13).trans x14
     obtain ⟨s21,e21,x21,a21⟩:=zkX (e:=(0,0)) hl0 x014 (Own.cell o3).2 (Own.cell o4).2
     obtain ⟨s20,e20,e21'⟩:=zbi.1 e21
     have a1:=(a13.ext x14).ext x21
     have l22:s21.ld s6.next 0=some wv:=a1.ld
     have l26:s21.ld s6.next 1=some ev:=a1.ld
     have l24:s21.ld s14.next 0=some wu:=a21.ld
     have l28:s21.ld s14.next 1=some eu:=a21.ld
     have q1:(lenV wv).bind (asI .i64)=some (ws.length:Int):=by rw [o1.len];rfl
     have q2:(lenV ev).bind (asI .i64)=some (es.length:Int):=by rw [o2.len];rfl
     have q3:(lenV wu).bind (asI .i64)=some (ws.length:Int):=by rw [o3.len];rfl
     have q4:(lenV eu).bind (asI .i64)=some (es.length:Int):=by rw [o4.len];rfl
     have f18:=zjH ws (by omega) s21 a1 a21 (((o1.rd.ext x13).ext x14).ext x21) (o3.rd.ext x21) ws.length 0 rfl
     have f18':zay 18 [ptr s6.next 0,ptr s14.next 0,.int .i64 ws.length,.int .i64 0] s21=some (0,[],s21):=f18
     refine ⟨s21,zb8 _ st0 ?_⟩
     simp only [zbL,hal,zob,zal,znt,zcf,zdf h1]
     rw [hloop',zob]
     simp only [zgs,zgz,zob,zab,c6,t0,t1,t2,zaa,e12,SS.new_next,e13']
     rw [c14,zob]
     simp only [t0,t1,t2,zob,zaa,e20,SS.new_next,e21',decide_true,znt,zcf,l22,l24,l26,l28,q1,q2,q3,q4]
     rw [f18',zob]
     simp only [b0,zct]
end Go.Proofs.YtifploedaacedaaDoorE
