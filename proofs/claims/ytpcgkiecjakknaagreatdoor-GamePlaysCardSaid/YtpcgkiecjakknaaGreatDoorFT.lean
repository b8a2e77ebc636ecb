/- A part. -/
import Derived.Test.YtpcgkiecjakknaaGreatDoorFS
import Derived.Carry
import Derived.Lib.LaidTab
import Derived.Deep.SlicePairs
set_option linter.all false
set_option maxRecDepth 20000
set_option maxHeartbeats 32000000
namespace Mv
open Go
theorem Aps (D:Int) (l g:BitVec 64) (s:Dg):AD false (ES.st (ES.cons 0 1 false ES.int (ES.cons 1 2 true (ES.st (ES.cons 0 1 false ES.int (ES.cons 1 1 false ES.int ES.nil))) (ES.cons 3 32 true (ES.ar 32 1 false ES.int) ES.nil)))) (Al D l g s) (Al D l g s)=True:=by
 simp [AD,Al,Ac,W,dg,B,V.fget,V.fhas]
 (repeat' apply And.intro) <;> first | rfl | (intro i hi;rfl)
theorem Ap1 (D:Int) (l g:BitVec 64) (s:Dg):AK (ES.st (ES.cons 0 1 false ES.int (ES.cons 1 2 true (ES.st (ES.cons 0 1 false ES.int (ES.cons 1 1 false ES.int ES.nil))) (ES.cons 3 32 true (ES.ar 32 1 false ES.int) ES.nil)))) (Al D l g s) (Al D l g s)=true:=by
 simp [AK,Al,Ac,W,dg,B,V.fget,V.fhas]
structure OkPe (M:Seat):Prop where
 g:OkGr M
 r:OkRt M
 l:OkLe M
 dl:OkDL M
theorem As2 {M:Seat} {x:Ctx} (hx:x.k=0) (a:Ga) (tv sv:V) (s:Dg) (htv:∀ H m z,Az H m z tv tv) (hvv:∀ H m z,Bi H m z sv sv) (D:Nat) (hD:a.dp=D) (i n:Nat) (t:BitVec 64) (G:Gs) (m:Nat) (e:Nat→Lv) (I:Pli (8#64 * (a.rc % 1000#64)) D a.lm a.gr s G m e) (hs:∃ y,tv = .st 34 (.fcons 0 (dg s) y)) (ok:OkPe M) :
 Bm M x (Ar M x [RVr.tmp 4] fun r H' k'=>r = .bool true∧H'=[]∧k'=0) [.code plE] 10 (plF i n sv t) (plH G m e a.v tv):=by
 obtain ⟨y,rfl⟩:=hs
 have hy:∀ H m z,Az H m z y y:=by
  intro H m z
  have h:=htv H m z
  simp only [dg,LY,seval] at h
  exact h
 have hn64:=I.ok.w.hn
 have hm:=I.L.l.lt
 have hav:∀ H m z,Az H m z a.v a.v:=by
  intro H m z
  simp only [Ga.v,LY,seval]
 have hC:=fun (j:Nat) hj=>BW ok.g G.D G.l G.g G.s G.n G.c j hj
 have hA:=fun j=>Al5 ok.r (G.c j)
 have hLk:=H8 ok.l G.b G.i G.o G.n G.k
 have hB:=fun p hp=>J9 ok.l G.b G.i G.o G.n G.k p hp
 have hDB:=fun p=>Alm ok.dl e m Aa p
 have hRG:=EU ok.g G.D G.l G.g G.s G.n
 have hRu:=IU ok.g.t.s.v.g.n D a.lm a.gr s
 rw [← I.hD,← I.hl,← I.hg,← I.hs] at hRu
 have eP:=Aps G.D G.l G.g G.s
 have eV:=Ap1 G.D G.l G.g G.s
 simp only [Cl.v,Cl.d,Ac] at hA
 simp only [D1,Lv.w] at hDB
 simp only [Al,Ac] at eP eV
 refine es 2000 ?_
 (simp only [plE,plF,plH,plD,Gs.H,Ai,Al,Ac,Ap,Cl.v,Aq,A7,A4,dgV,dcV,Cl.d,D1,Lv.w,B3,LZ,seval])
 refine An (σ:=Nat) (fun j=>j≤G.n) (fun j=>fr 513 [(2,.ptr 8 []),(6,.ptr 9 []),(8,.ptr 2 []),(9,.ptr 6 []),(11,.ptr 0 []),(13,.ptr 4 []),(442,.int .i64 G.n),(443,.int .i64 j)]) (fun _=>plH G m e a.v (.st 34 (.fcons 0 (dg s) y))) (fun _=>10) (fun j=>G.n - j) 0 Aa ?_ ?_
 ·refine Ao.fr [0,1,2,3,4,5,6,7,8,9] [] hx AQ Am ?_ ?_
  ·simp only [hvv,Int.natCast_zero,LY,seval]
  ·simp only [hav,hy,plH,plD,Gs.H,Ai,Al,Ac,Ap,Cl.v,Aq,A7,A4,dgV,dcV,Cl.d,D1,Lv.w,B3,dg,LY,seval]
 ·intro j hj
  by_cases hjn:j=G.n
  ·have w0:((j:Int) < (G.n:Int))=False:=eq_false Aa
   refine es 2000 ?_
   (simp only [w0,Aso,plH,plD,Gs.H,Ai,Al,Ac,Ap,Cl.v,Aq,A7,A4,dgV,dcV,Cl.d,D1,Lv.w,B3,LZ,seval])
   have zz:=@Aq.eq_1;refine Bw [2,3] [2] (hLk) ?_
   (simp only [plH,plD,Gs.H,Ai,Al,Ac,Ap,Cl.v,Aq,A7,A4,dgV,dcV,Cl.d,D1,Lv.w,B3,LZ,seval])
   refine An (σ:=Nat) (fun p=>p≤8) (fun p=>fr 513 [(2,.ptr 8 []),(6,.ptr 9 []),(8,.ptr 2 []),(9,.ptr 6 []),(11,.ptr 0 []),(13,.ptr 4 []),(37,W (G.k + suB G.b p)),(469,.int .i64 p)]) (fun _=>plH G m e a.v (.st 34 (.fcons 0 (dg s) y))) (fun _=>10) (fun p=>8 - p) 0 Aa ?_ ?_
   ·refine Ao.fr [0,1,2,3,4,5,6,7,8,9] [] hx AQ Am ?_ ?_
    ·simp only [suB,BitVec.add_zero,Int.natCast_zero,LY,seval]
    ·simp only [hav,hy,plH,plD,Gs.H,Ai,Al,Ac,Ap,Cl.v,Aq,A7,A4,dgV,dcV,Cl.d,D1,Lv.w,B3,dg,LY,seval]
   ·intro p hp
    by_cases hp8:p=8
    ·subst hp8
     have w1:(((8:Nat):Int) < 8)=False:=eq_false Aa
     have e2:(G.k + suB G.b 8=8#64 * (a.rc % 1000#64))=True:=eq_true (by rw [BitVec.add_comm];exact I.sm)
     refine es 2000 ?_
     (simp only [w1,e2,hD,← I.hD,← I.hl,← I.hg,← I.hs,Ga.v,plH,plD,Gs.H,Ai,Al,Ac,Ap,Cl.v,Aq,A7,A4,dgV,dcV,Cl.d,D1,Lv.w,B3,LZ,seval])
     have zz:=GM @Ai.eq_1 @Al.eq_1 @Ac.eq_1 @Ap.eq_1 @dg.eq_1;refine L9 [0,1,2] [0] (hRG) ?_
     (simp only [Al,Ac,plH,plD,Gs.H,Ai,Ap,Cl.v,Aq,A7,A4,dgV,dcV,Cl.d,D1,Lv.w,B3,LZ,seval])
     have zz:=C4 @Al.eq_1 @Ac.eq_1 @dg.eq_1;refine G0 (hRu) ?_
     (simp only [eP,eV,plH,plD,Gs.H,Ai,Al,Ac,Ap,Cl.v,Aq,A7,A4,dgV,dcV,Cl.d,D1,Lv.w,B3,LZ,seval])
     exact Ar.mkZ hx [] ⟨rfl,rfl,rfl⟩
    ·have w1:((p:Int) < 8)=True:=eq_true Aa
     have z1:IntKind.i64.wrap ((p:Int) + 1)=((p + 1:Nat):Int):=AZ
     have hb:=hB p Aa
     have hdb:=hDB p
     have eb:=I.L.l.b p Aa
     rw [eb] at hdb
     have e1:G.k + suB G.b (p + 1)=G.k + suB G.b p + G.b p:=by rw [suB,BitVec.add_assoc]
     refine es 2000 ?_
     (simp only [w1,plH,plD,Gs.H,Ai,Al,Ac,Ap,Cl.v,Aq,A7,A4,dgV,dcV,Cl.d,D1,Lv.w,B3,LZ,seval])
     have zz:=@Aq.eq_1;refine Bw [2,3] [2] (hb) ?_
     (simp only [AH,plH,plD,Gs.H,Ai,Al,Ac,Ap,Cl.v,Aq,A7,A4,dgV,dcV,Cl.d,D1,Lv.w,B3,seval])
     refine Ak (hdb) ?_
     (simp only [z1,plH,plD,Gs.H,Ai,Al,Ac,Ap,Cl.v,Aq,A7,A4,dgV,dcV,Cl.d,D1,Lv.w,B3,LZ,seval])
     refine ⟨p + 1,by omega,by omega,?_⟩
     refine Ao.fr [0,1,2,3,4,5,6,7,8,9] [] hx AQ Am ?_ ?_
     ·simp only [e1,LY,seval]
     ·simp only [hav,hy,plH,plD,Gs.H,Ai,Al,Ac,Ap,Cl.v,Aq,A7,A4,dgV,dcV,Cl.d,D1,Lv.w,B3,dg,LY,seval]
  ·have w0:((j:Int) < (G.n:Int))=True:=eq_true Aa
   have w2:(0≤(j:Int))=True:=eq_true Aa
   have z1:IntKind.i64.wrap ((j:Int) + 1)=((j + 1:Nat):Int):=AZ
   have hc:=hC j Aa
   have ha:=hA j
   refine es 2000 ?_
   (simp only [w0,plH,plD,Gs.H,Ai,Al,Ac,Ap,Cl.v,Aq,A7,A4,dgV,dcV,Cl.d,D1,Lv.w,B3,LZ,seval])
   have zz:=Db @Ai.eq_1 @Al.eq_1 @Ac.eq_1 @Ap.eq_1 @Cl.v.eq_1 @dg.eq_1;refine Bw [0,1,2] [0,1] (hc) ?_
   (simp only [AH,w0,w2,plH,plD,Gs.H,Ai,Al,Ac,Ap,Cl.v,Aq,A7,A4,dgV,dcV,Cl.d,D1,Lv.w,B3,seval])
   repeat refine sd ?_
   have zz:=@dg.eq_1;refine G0 (ha) ?_
   (simp only [z1,plH,plD,Gs.H,Ai,Al,Ac,Ap,Cl.v,Aq,A7,A4,dgV,dcV,Cl.d,D1,Lv.w,B3,LZ,seval])
   refine ⟨j + 1,by omega,by omega,?_⟩
   refine Ao.fr [0,1,2,3,4,5,6,7,8,9] [] hx AQ Am ?_ ?_
   ·simp only [LY,seval]
   ·simp only [hav,hy,plH,plD,Gs.H,Ai,Al,Ac,Ap,Cl.v,Aq,A7,A4,dgV,dcV,Cl.d,D1,Lv.w,B3,dg,LY,seval]
structure OkPy (M:Seat):Prop where
 g:OkGr M
 d:OkDn M
 r:OkRt M
 fx:OkFx M
 td:OkTd M
 tv:OkTv M
 ri:OkRi M
 rv:OkRV M
 v9:OkV9 M
 is:∀ a b:Int,Ag M 63 [.ifc 74 (.int .i64 a),.ifc 74 (.int .i64 b)] [] 0 (Q3 (.bool (decide (a=b))) [] 0)
 k35:Au M 35 f35=true
theorem Aqb {n:Nat} {l:Nat→Op} {sv:V} (hs:sv=C3 n l ∨ (sv = .nils∧n=0)):∀ H m z,Bi H m z sv sv:=by
 intro H m z
 rcases hs with rfl | ⟨rfl,-⟩ <;> simp only [C3,Op.v,LY,seval]
theorem Aoo {M:Seat} (ok:OkPy M) {x:Ctx} (hx:x.k=0) (a:Ga) (s:Dg) (C:Nat→Dg) {K:Nat} {R:Nat→Dg} {h:Nat→Hd} {L:Nat→List Pf} {P:Nat→Pr} {vf:Nat→BitVec 64→Dg→Dg × Option Int} (tr:Trc M K R h L P vf) (n:Nat) (l:Nat→Op) (sv:V) (hs:sv=C3 n l ∨ (sv = .nils∧n=0)) (hn:n < 9223372036854775808)
 (D:Nat) (hD:a.dp=D) (i:Nat) (t:BitVec 64) (G:Gs) (m:Nat) (e:Nat→Lv) (I:Pli (8#64 * (a.rc % 1000#64)) D a.lm a.gr s G m e) (tv:V) (htv:Akj s K C R h L P=tv) (hin:i≤n) (hi60:i≤60)
 {J:List V→Hp→Nat→Prop} (hJ:i < n→i < 60→∀ A H N,plP M x (8#64 * (a.rc % 1000#64)) D a.lm a.gr s (i + 1) n sv a.v tv A H N→J A H N) :
 Bm M x (Ar M x [RVr.tmp 4] fun r H' k'=>r = .bool true∧H'=[]∧k'=0) [.code plB,.inv J,.blk 0,.code plE] 10 (plF i n sv t) (plH G m e a.v tv):=by
 have hvv:=Aqb hs
 have hav:∀ H m z,Az H m z a.v a.v:=by
  intro H m z
  simp only [Ga.v,LY,seval]
 have htvv:∀ H m z,Az H m z tv tv:=by
  intro H m z
  rw [← htv]
  simp only [Akj,CY,BI,Hd.v,AM,Be,Fz,dg,seval]
 have p1:OkP1 M:=⟨ok.g,ok.d.g,ok.r,ok.tv⟩
 have p3:OkP3 M:=⟨ok.g,ok.d.g,ok.r⟩
 have hE:=As2 hx a tv sv s htvv hvv D hD i n t G m e I ⟨_,htv.symm⟩ ⟨ok.g,ok.r,ok.g.t.s.le,ok.d.g.l⟩
 by_cases hx1:i=n
 ·have w0:((i:Int) < (n:Int))=False:=eq_false Aa
  refine es 5 ?_
  (simp only [plB,plF,w0,plH,plD,Gs.H,Ai,Al,Ac,Ap,Cl.v,Aq,A7,A4,dgV,dcV,Cl.d,D1,Lv.w,B3,LZ,seval])
  refine Bm.weak _ _ _ ?_ hE
  unfold plF
  refine Ao.fr [0,1,2,3,4,5,6,7,8,9] [] hx AQ Am ?_ ?_
  ·simp only [hvv,LY,seval]
  ·simp only [hav,htvv,dg,plH,plD,Gs.H,Ai,Al,Ac,Ap,Cl.v,Aq,A7,A4,dgV,dcV,Cl.d,D1,Lv.w,B3,LY,seval]
 have w0:((i:Int) < (n:Int))=True:=eq_true Aa
 have w1:(0≤(i:Int))=True:=eq_true Aa
 have hsv:sv=C3 n l:=hs.resolve_right (fun h=>hx1 Aa)
 by_cases hx2:i=60
 ·have w2:((60:Int)≤(i:Int))=True:=eq_true Aa
  refine es 14 ?_
  rw [hsv]
  (simp only [plB,plF,w0,w1,w2,C3,Op.v,plH,plD,Gs.H,Ai,Al,Ac,Ap,Cl.v,Aq,A7,A4,dgV,dcV,Cl.d,D1,Lv.w,B3,LZ,seval])
  repeat refine sd ?_
  refine Bm.weak _ _ _ ?_ hE
  unfold plF
  rw [hsv]
  refine Ao.fr [0,1,2,3,4,5,6,7,8,9] [] hx AQ Am ?_ ?_
  ·simp only [C3,Op.v,LY,seval]
  ·simp only [hav,htvv,dg,plH,plD,Gs.H,Ai,Al,Ac,Ap,Cl.v,Aq,A7,A4,dgV,dcV,Cl.d,D1,Lv.w,B3,LY,seval]
 have w2:((60:Int)≤(i:Int))=False:=eq_false Aa
 refine es 15 ?_
 unfold plF
 rw [hsv]
 (simp only [plB,w0,w1,w2,C3,Op.v,plH,plD,Gs.H,Ai,Al,Ac,Ap,Cl.v,Aq,A7,A4,dgV,dcV,Cl.d,D1,Lv.w,B3,LZ,seval])
 repeat refine sd ?_
 refine Anb (P:=plP M x (8#64 * (a.rc % 1000#64)) D a.lm a.gr s i n sv a.v tv) ?_ (fun A H N hP=>?_)
 ·refine Bm.weak (plG i n sv t) (plH G m e a.v tv ++ [(10,(l i).v)]) 11 ?_ ?_
  ·unfold plG
   rw [hsv]
   refine Ao.fr [0,1,2,3,4,5,6,7,8,9,74] [] hx AQ Am ?_ ?_
   ·simp only [C3,Op.v,LY,seval]
   ·simp only [hav,htvv,Op.v,dg,plH,plD,Gs.H,Ai,Al,Ac,Ap,Cl.v,Aq,A7,A4,dgV,dcV,Cl.d,D1,Lv.w,B3,LY,seval]
  ·by_cases k1:(l i).kd=1
   ·exact Arz hx a.v sv hav hvv _ D a.lm a.gr s i n t G m e I s K C R h L P tv htv.symm p1 (l i) k1
   by_cases k2:(l i).kd=2
   ·exact Aro hx a.v sv hav hvv _ D a.lm a.gr s i n t G m e I s C tr tv htv.symm p1 (l i) k2
   by_cases k3:(l i).kd=3
   ·exact Ass hx a.v tv sv hav htvv hvv _ D a.lm a.gr s i n t G m e I p3 (l i) k3
   by_cases k4:(l i).kd=4
   ·exact Ar8 hx a.v tv sv hav htvv hvv _ D a.lm a.gr s i n t G m e I (l i) k4
   by_cases k5:(l i).kd=5
   ·exact Arm hx a.v tv sv hav htvv hvv _ D a.lm a.gr s i n t G m e I p3 (l i) k5
   by_cases k6:(l i).kd=6
   ·exact Asc hx a.v tv sv hav htvv hvv _ D a.lm a.gr s i n t G m e I ⟨ok.g,ok.r,ok.is⟩ (l i) k6
   exact Ary hx a.v tv sv hav htvv hvv _ D a.lm a.gr s i n t G m e I (l i) k1 k2 k3 k4 k5 k6
 ·obtain ⟨t',G',m',e',I',hw'⟩:=hP
  refine Bm.weak _ _ _ hw' (As5 hx a.v tv sv hav htvv hvv _ D a.lm a.gr s i n t' G' m' e' I' ⟨ok.g,ok.d.g,ok.g.t.s.le,ok.d.g.l.d⟩ Aa (hJ Aa Aa))
theorem Apy {M:Seat} (ok:OkPy M) {x:Ctx} (hx:x.k=0) (a:Ga) (s:Dg) (C:Nat→Dg) {K:Nat} {R:Nat→Dg} {h:Nat→Hd} {L:Nat→List Pf} {P:Nat→Pr} {vf:Nat→BitVec 64→Dg→Dg × Option Int} (tr:Trc M K R h L P vf) (n:Nat) (l:Nat→Op) (sv:V) (hs:sv=C3 n l ∨ (sv = .nils∧n=0)) (hn:n < 9223372036854775808)
 (D:Nat) (hD:a.dp=D) (t:BitVec 64) (G:Gs) (m:Nat) (e:Nat→Lv) (I:Pli (8#64 * (a.rc % 1000#64)) D a.lm a.gr s G m e) {A:List V} {H:Hp} {N:Nat} (hw:Ao M x A H N (plF 0 n sv t) (plH G m e a.v (Akj s K C R h L P)) 10) :
 HH M x (Ar M x [RVr.tmp 4] fun r H' k'=>r = .bool true∧H'=[]∧k'=0) plB [.blk 0,.code plE] A H N:=by
 refine An (σ:=Nat × BitVec 64 × Gs × Nat × (Nat→Lv)) (fun y=>(y.1≤n∧y.1≤60)∧Pli (8#64 * (a.rc % 1000#64)) D a.lm a.gr s y.2.2.1 y.2.2.2.1 y.2.2.2.2) (fun y=>plF y.1 n sv y.2.1) (fun y=>plH y.2.2.1 y.2.2.2.1 y.2.2.2.2 a.v (Akj s K C R h L P)) (fun _=>10) (fun y=>n - y.1) (0,t,G,m,e) ⟨⟨by omega,by omega⟩,I⟩ hw ?_
 rintro ⟨i,t,G,m,e⟩ ⟨⟨hin,hi60⟩,I⟩
 refine Aoo ok hx a s C tr n l sv hs hn D hD i t G m e I _ rfl hin hi60 fun h1 h2 A H N hP=>?_
 obtain ⟨t2,G2,m2,e2,I2,hw2⟩:=hP
 exact ⟨(i + 1,t2,G2,m2,e2),⟨⟨h1,h2⟩,I2⟩,by dsimp only;omega,hw2⟩
theorem Aqk (u:BitVec 64):(u % 1000#64).toNat < 1000:=by rw [BitVec.toNat_umod];exact Nat.mod_lt _ Am
theorem Aob (v:BitVec 64) (hv:v.toNat < 1000):∀ n,n≤8→(HK v n).toNat≤n * 1000
 | 0,_=>Nat.zero_le _
 | n + 1, h => by
   have:=Aob v hv n Aa
   rw [HK,BitVec.toNat_add]
   omega
theorem Aqs {D:Int} {l g:BitVec 64} {p:Int} {t:BitVec 64} {b:Nat→BitVec 64} (h:nwE D l g p t b=none):1≤D∧D≤20∧Oa l g∧¬ 1099511627776#64 < t∧0≤p∧p < 8∧¬ b p.toNat < 1#64:=by
 unfold nwE at h
 split at h
 ·cases h
 next h1 =>
  split at h
  ·cases h
  next h2 =>
   split at h
   ·cases h
   next h3=>exact ⟨by omega,by omega,Classical.byContradiction fun q=>h1 (.inr (.inr (.inl q))),fun q=>h1 (.inr (.inr (.inr q))),by omega,by omega,h3⟩
theorem Aqi {D:Int} {l g:BitVec 64} {p:Int} {t:BitVec 64} {b:Nat→BitVec 64} {z:Int} (h:nwE D l g p t b=some z):z ≠ 0:=by
 unfold nwE at h
 split at h
 ·cases h;decide
 split at h
 ·cases h;decide
 split at h
 ·cases h;decide
 ·cases h
theorem As7 {M:Seat} (ok:OkPy M) {x:Ctx} (hx:x.k=0) (a:Ga) (s:Dg) (C:Nat→Dg) {K:Nat} {R:Nat→Dg} {h:Nat→Hd} {L:Nat→List Pf} {P:Nat→Pr} {vf:Nat→BitVec 64→Dg→Dg × Option Int} (tr:Trc M K R h L P vf) (n:Nat) (l:Nat→Op) (sv:V) (hs:sv=C3 n l ∨ (sv = .nils∧n=0)) (hn:n < 9223372036854775808) :
 Bm M x (Ar M x [RVr.tmp 4] fun r H' k'=>r = .bool true∧H'=[]∧k'=0) [.code plN] 5 (fr 513 [(1,sv),(2,.ptr 0 []),(6,.ptr 1 []),(8,.ptr 2 []),(9,.ptr 3 [])]) [(0,a.v),(1,Akj s K C R h L P),(2,Aq (DD (a.rc % 1000#64) 8) (HK (a.rc % 1000#64) 8) 0#64 .nils 0#64),(3,D1 (.sl 4 [] 0 8 4)),(4,.ar 4 8 fun j=>(evR (a.rc % 1000#64) j).w)]:=by
 have hvv:=Aqb hs
 have hRu:=IU ok.g.t.s.v.g.n a.dp a.lm a.gr s
 have hVa:=FN ok.tv s K C (.lst 116 K fun i=>BI (R i) (h i) (L i) (P i)) ⟨_,rfl⟩ a.rt
 have hlen:∀ H,O2 0 sv H=⟨True,.int .i64 n,H⟩:=by
  intro H
  rcases hs with rfl | ⟨rfl,rfl⟩ <;> rfl
 generalize EI K C a.rt=v0 at *
 generalize hrr:a.rc % 1000#64=rr at *
 have hb:∀ p:Nat,p < 8→blE (evR rr) 8 p=DD rr 8 p:=fun p hp=>Aod rr p 8
 have hE:=fun z hz=>Anx ok.g.t.s.v a.dp a.lm a.gr s v0 a.pl a.nw (DD rr 8) (HK rr 8) 0#64 0#64 z hz
 have dE:=fun z hz=>An4 ok.d a.dp a.lm a.gr s v0 a.pl a.nw (DD rr 8) 8 (evR rr) Am (Ale rr 8) hb z hz
 have dS:=fun hz=>Anr ok.d a.dp a.lm a.gr s v0 a.pl a.nw (DD rr 8) 8 (evR rr) Am (Ale rr 8) hb hz
 simp only [CY,BI,Hd.v,AM] at hVa
 cases hz:nwE a.dp a.lm a.gr a.pl a.nw (DD rr 8) with
 | some z =>
   have hE:=hE z hz
   have dE:=dE z hz
   have hne:=eq_false (Aqi hz)
   have hW:=Ana ok.r.n z
   simp only [lH,D1,Lv.w] at dE
   refine es 2000 ?_
   (simp only [plN,Ga.v,Akj,CY,BI,Hd.v,CR,hrr,D1,Lv.w,seval])
   have zz:=C4 @Al.eq_1 @Ac.eq_1 @dg.eq_1;refine G0 (hRu) ?_
   (simp only [Al,Ac,LZ,seval])
   have zz:=Bb @dg.eq_1 Fs;refine L9 [] [] (hVa) ?_
   (simp only [Al,Ac,LZ,seval])
   have zz:=Ka @Al.eq_1 @Ac.eq_1 @Aq.eq_1 @dg.eq_1;refine Xs [2] [2] (hE) ?_
   (simp only [AH,Aq,Al,Ac,seval])
   have zz:=Bb @dg.eq_1 Fs;refine L9 [] [] (hVa) ?_
   (simp only [Al,Ac,LZ,seval])
   have zz:=C4 @D1.eq_1 @Lv.w.eq_1 @dg.eq_1;refine Xs [3,4] [3,4] (dE) ?_
   (simp only [AH,D1,Lv.w,seval])
   refine Ak (hW) ?_
   (simp only [AH,hne,seval])
   exact Ar.mkZ hx [] ⟨rfl,rfl,rfl⟩
 | none =>
   have dS:=dS hz
   obtain ⟨h1,h20,hr,ht,hp0,hp8,hbp⟩:=Aqs hz
   obtain ⟨D,hD⟩:∃ D:Nat,a.dp=D:=⟨a.dp.toNat,by omega⟩
   obtain ⟨q,hq⟩:∃ q:Nat,a.pl=q:=⟨a.pl.toNat,by omega⟩
   rw [hq,Int.toNat_natCast] at hbp
   rw [hD,hq] at dS
   rw [Int.toNat_natCast] at dS
   have hN:=O4 ok.g.t.s.v D a.lm a.gr s v0 q a.nw (DD rr 8) (HK rr 8) 0#64 0#64 Aa hr Aa ht hbp
   rw [hD] at hRu
   have hI:Pli (8#64 * (a.rc % 1000#64)) D a.lm a.gr s (Gs.new D a.lm a.gr s v0 q a.nw (DD rr 8) (HK rr 8) 0#64 0#64) 9 (Akg (evR rr) 8 ⟨3,q,0,1#64⟩) :=
    ⟨FH _ _ hr D Aa _ _ _ Aa _ _ _ _ _,Aov ..,by rw [hrr];exact Apu rr q Aa,rfl,rfl,rfl,rfl⟩
   have hL:=fun A H N hw=>Apy ok hx a s C tr n l sv hs hn D hD a.nw _ 9 _ hI (A:=A) (H:=H) (N:=N) hw
   have hW:=Als ok.r.n
   have hev:∀ j,(evR rr j).w = .st 4 (.fcons 0 (.int .i64 1) (.fcons 1 (.int .i64 j) (.fcons 2 (.int .i64 0) (.fcons 3 (W rr) .fnil)))):=fun j=>rfl
   simp only [dH4,lH,D1,dgV,dcV,Lv.w] at dS
   refine es 2000 ?_
   (simp only [plN,Ga.v,Akj,CY,BI,Hd.v,CR,hrr,hD,hq,D1,Lv.w,seval])
   have zz:=C4 @Al.eq_1 @Ac.eq_1 @dg.eq_1;refine G0 (hRu) ?_
   (simp only [Al,Ac,LZ,seval])
   have zz:=Bb @dg.eq_1 Fs;refine L9 [] [] (hVa) ?_
   (simp only [Al,Ac,LZ,seval])
   have zz:=Ho @Al.eq_1 @Ac.eq_1 @Aq.eq_1 @A7.eq_1 @A4.eq_1 @Ai.eq_1 @Ap.eq_1 @clF.eq_1 @Cl.v.eq_1 @dg.eq_1;refine omY [2] (hN) ?_
   (simp only [AH,Aq,A7,A4,Ai,Al,Ac,Ap,Cl.v,clF,seval])
   have zz:=Bb @dg.eq_1 Fs;refine L9 [] [] (hVa) ?_
   (simp only [Al,Ac,LZ,seval])
   have zz:=aq7 @D1.eq_1 @Lv.w.eq_1 @dgV.eq_1 @dcV.eq_1 @Cl.d.eq_1 @clF.eq_1 @dg.eq_1;refine Xs [3,4] [3,4] (dS) ?_
   (simp only [AH,D1,Lv.w,dgV,dcV,Cl.d,clF,seval])
   refine Ak (hW) ?_
   (simp only [AH,hlen,seval])
   refine hL _ _ _ ?_
   unfold plF
   refine Ao.fr [694,695,2,693,1398,1399,3,1397,0,1] [] hx AQ Am ?_ ?_
   ·simp only [hvv,Int.natCast_zero,LY,seval]
   ·simp only [Gs.new,Akj,CY,BI,Hd.v,AM,Ga.v,hD,hq,hrr,clF,Be,Fz,dg,plH,plD,Gs.H,Ai,Al,Ac,Ap,Cl.v,Aq,A7,A4,dgV,dcV,Cl.d,D1,Lv.w,B3,seval]
theorem Ame {M:Seat} (ok:OkPy M) (a:Ga) (n:Nat) (l:Nat→Op) (sv:V) (hs:sv=C3 n l ∨ (sv = .nils∧n=0)) (hn:n < 9223372036854775808) :
 Ag M 35 [a.v,sv] [] 0 (Q3 (.bool true) [] 0):=by
 have hvv:=Aqb hs
 have hF:=CI ok.fx
 have hrn:=Aqk a.rc
 have hRi:=K1 ok.ri (a.rc % 1000#64) (by rw [BitVec.lt_def];show ¬ 281474976710656 < _;omega) (fun n hn=>by
  have:=Aob (a.rc % 1000#64) hrn n Aa
  rw [BitVec.lt_def,BitVec.toNat_add]
  show ¬ 281474976710656 < _
  omega)
 refine Ab ok.k35 rfl fun x hx=>?_
 have hP:=fun (a':Ga) (d:Nat) (hd:1≤d∧d≤4)=>As7 ok hx a' (tm 0).com (fun i=>(tm (i + 1)).com) (Aqh ok.td.w ok.td.o ok.rv ok.v9 (2 ^ d) (Nat.two_pow_pos d) (Nat.pow_le_pow_right (n:=2) Am hd.2)) n l sv hs hn
 have hTr:=fun (d:Nat) (hd:1≤d∧d≤4)=>H5 ok.td d hd
 obtain ⟨L,P,hL,hPr⟩:∃ (L:Nat→List Pf) (P:Nat→Pr),(∀ i,(CV (C7 16).pres (tm i)).2.1=L i)∧∀ i,(CV (C7 16).pres (tm i)).2.2=P i:=⟨_,_,fun _=>rfl,fun _=>rfl⟩
 obtain ⟨R,hR⟩:∃ R:Nat→Dg,∀ i,Dp (tm i).f 13 0=R i:=⟨_,fun _=>rfl⟩
 obtain ⟨h,hh⟩:∃ h:Nat→Hd,∀ i,(tm i).h=h i:=⟨_,fun _=>rfl⟩
 obtain ⟨C,hC⟩:∃ C:Nat→Dg,∀ i,(tm (i + 1)).com=C i:=⟨_,fun _=>rfl⟩
 simp only [hL,hPr,hR,hh,hC] at hTr hP
 generalize (tm 0).com=s0 at *
 clear hL hPr hR hh hC
 have hev:∀ r:BitVec 64,DY r=fun j=>(evR r j).w:=fun _=>rfl
 have hc:(a.dp < 1) ∨ (1≤a.dp∧a.dp≤4) ∨ (4 < a.dp∧a.dp≤20) ∨ 20 < a.dp:=Aa
 rcases hc with hc | hc | hc | hc
 ·have hT:=hTr 1 Am
  have hP:=hP { a with dp:=a.dp } 1 Am
  rw [show ((1:Nat):Int)=max 1 a.dp by omega] at hT
  generalize (2:Nat) ^ 1=K at *
  have d4:(4 < a.dp)=False:=by simp only [eq_iff_iff,iff_false,iff_true];omega
  have d20:(a.dp≤20)=True:=by simp only [eq_iff_iff,iff_false,iff_true];omega
  refine es 28 ?_
  (simp only [f35,c35,Ga.v,d4,LZ,seval])
  refine Ak (hF) ?_
  (simp only [d4,LZ,seval])
  have zz:=Db @CY.eq_1 @BI.eq_1 @Hd.v.eq_1 @AM.eq_1 @dg.eq_1 Fs;refine Bw [] [] (hT) ?_
  (simp only [Oh,CY,BI,Hd.v,AM,seval])
  have zz:=C4 @Aq.eq_1 @D1.eq_1 @DY.eq_1;refine Kb (hRi) ?_
  (simp only [AH,Aq,D1,DY,d4,d20,seval])
  refine Bm.weak _ _ _ ?_ hP
  refine Ao.fr [0,240,336,337,338] [] hx AQ Am ?_ ?_
  ·simp only [hvv,LY,seval]
  ·simp only [Akj,CY,BI,Hd.v,AM,Ga.v,Be,Fz,dg,Aq,D1,evR,Lv.w,seval]
 ·have hT:=hTr a.dp.toNat Aa
  have hP:=hP { a with dp:=a.dp } a.dp.toNat Aa
  rw [show ((a.dp.toNat:Nat):Int)=max 1 a.dp by omega] at hT
  generalize (2:Nat) ^ a.dp.toNat=K at *
  have d4:(4 < a.dp)=False:=by simp only [eq_iff_iff,iff_false,iff_true];omega
  have d20:(a.dp≤20)=True:=by simp only [eq_iff_iff,iff_false,iff_true];omega
  refine es 28 ?_
  (simp only [f35,c35,Ga.v,d4,LZ,seval])
  refine Ak (hF) ?_
  (simp only [d4,LZ,seval])
  have zz:=Db @CY.eq_1 @BI.eq_1 @Hd.v.eq_1 @AM.eq_1 @dg.eq_1 Fs;refine Bw [] [] (hT) ?_
  (simp only [Oh,CY,BI,Hd.v,AM,seval])
  have zz:=C4 @Aq.eq_1 @D1.eq_1 @DY.eq_1;refine Kb (hRi) ?_
  (simp only [AH,Aq,D1,DY,d4,d20,seval])
  refine Bm.weak _ _ _ ?_ hP
  refine Ao.fr [0,240,336,337,338] [] hx AQ Am ?_ ?_
  ·simp only [hvv,LY,seval]
  ·simp only [Akj,CY,BI,Hd.v,AM,Ga.v,Be,Fz,dg,Aq,D1,evR,Lv.w,seval]
 ·have hT:=hTr 4 Am
  have hP:=hP { a with dp:=4 } 4 Am
  rw [show ((4:Nat):Int)=max 1 4 by omega] at hT
  generalize (2:Nat) ^ 4=K at *
  have d4:(4 < a.dp)=True:=by simp only [eq_iff_iff,iff_false,iff_true];omega
  have d20:(a.dp≤20)=True:=by simp only [eq_iff_iff,iff_false,iff_true];omega
  refine es 28 ?_
  (simp only [f35,c35,Ga.v,d4,LZ,seval])
  refine Ak (hF) ?_
  (simp only [d4,LZ,seval])
  have zz:=Db @CY.eq_1 @BI.eq_1 @Hd.v.eq_1 @AM.eq_1 @dg.eq_1 Fs;refine Bw [] [] (hT) ?_
  (simp only [Oh,CY,BI,Hd.v,AM,seval])
  have zz:=C4 @Aq.eq_1 @D1.eq_1 @DY.eq_1;refine Kb (hRi) ?_
  (simp only [AH,Aq,D1,DY,d4,d20,seval])
  refine Bm.weak _ _ _ ?_ hP
  refine Ao.fr [0,256,352,353,354] [] hx AQ Am ?_ ?_
  ·simp only [hvv,LY,seval]
  ·simp only [Akj,CY,BI,Hd.v,AM,Ga.v,Be,Fz,dg,Aq,D1,evR,Lv.w,seval]
 ·have hT:=hTr 4 Am
  have hP:=hP { a with dp:=a.dp } 4 Am
  rw [show ((4:Nat):Int)=max 1 4 by omega] at hT
  generalize (2:Nat) ^ 4=K at *
  have d4:(4 < a.dp)=True:=by simp only [eq_iff_iff,iff_false,iff_true];omega
  have d20:(a.dp≤20)=False:=by simp only [eq_iff_iff,iff_false,iff_true];omega
  refine es 28 ?_
  (simp only [f35,c35,Ga.v,d4,LZ,seval])
  refine Ak (hF) ?_
  (simp only [d4,LZ,seval])
  have zz:=Db @CY.eq_1 @BI.eq_1 @Hd.v.eq_1 @AM.eq_1 @dg.eq_1 Fs;refine Bw [] [] (hT) ?_
  (simp only [Oh,CY,BI,Hd.v,AM,seval])
  have zz:=C4 @Aq.eq_1 @D1.eq_1 @DY.eq_1;refine Kb (hRi) ?_
  (simp only [AH,Aq,D1,DY,d4,d20,seval])
  refine Bm.weak _ _ _ ?_ hP
  refine Ao.fr [0,256,352,353,354] [] hx AQ Am ?_ ?_
  ·simp only [hvv,LY,seval]
  ·simp only [Akj,CY,BI,Hd.v,AM,Ga.v,Be,Fz,dg,Aq,D1,evR,Lv.w,seval]
def F1 (M:Seat) (W:World):Env where
 ρ:=fun _=>0
 D:=fun _=>False
 im:=fun b=>∃ cells el fz,W.heap[b]?=some (.cells cells el fz)
 w:=W
 φ:=M.φ
 τ:=M.τ
theorem Inv.start (M:Seat) (W:World) (hg:GS M (F1 M W)):Inv M ⟨F1 M W,fun b=>∃ id,Af [] id=true∧(F1 M W).ρ id=b,0⟩ (F1 M W) [] where
 ev:=⟨rfl,rfl,rfl,Nat.le_refl _,fun _ _ _=>rfl,fun _=>Nat.le_refl _⟩
 blk:=fun id h=>by simp [Af] at h
 inj:=fun i j h=>by simp [Af] at h
 imo:=fun b h=>.inl h
 imb:=fun b h=>h
 rb:=fun id h=>h.elim
 keep:=fun b h=>h
 low:=fun id h=>by simp at h
 gs:=hg
 φ:=rfl
 τ:=rfl
theorem DP {M:Seat} {f:Nat} {us:List V} {vs:Array Value} {Q:V→Hp→Nat→Prop} (hr:Ag M f us [] 0 Q) (W:World) (hg:GS M (F1 M W)) (ha:HN (F1 M W) us vs) :
 Calls M.P (M.φ f) vs W fun en W'=>∃ x v H' k' e',en = .returned x∧RV e' v x∧Q v H' k'∧RowKit.Below W.heap.size W W':=by
 refine (hr (F1 M W) vs (Inv.start M W hg) (fun id _ h=>h) ha).mono ?_
 rintro en W' ⟨x,v,e',H',k',rfl,rfl,hI,hv,_,_,hQ⟩
 refine ⟨x,v,H',k',e',rfl,hv,hQ,hI.ev.os,hI.ev.tape,hI.ev.output,hI.ev.size,fun k hk=>hI.ev.frame k hk ?_⟩
 rintro ⟨id,h,_⟩
 simp [Af] at h
theorem Dk {M:Seat} {W:World} {name:String} {k:IntKind} {zs:List Int} {g:Nat} (h:Lib.TabIs M.P W name k zs) (hg:M.P.globalNamed name=some g) (hpos:0 < zs.length) :
 R (F1 M W) (.imm (.ar 1 zs.length (fun i=>.int k (zs.getD i 0)))) [.pointer (some ⟨g,0,none⟩)]:=by
 have hc:∀ i,i < zs.length→W.cell? ⟨g,i,none⟩=some (.int k (zs.getD i 0)):=fun i hi=>h.cell hg i hi
 have h0:=hc 0 hpos
 simp only [R]
 cases hb:W.heap[g]? with
 | none=>simp [World.cell?,hb] at h0
 | some o =>
   cases o with
   | cells c el fz =>
     have hci:∀ i,i < zs.length→c[i]?=some (.int k (zs.getD i 0)):=fun i hi=>by simpa [World.cell?,hb] using hc i hi
     have hsz:zs.length≤c.size:=by
      have:=hci (zs.length - 1) Aa
      have:=(Array.getElem?_eq_some_iff.1 this).1
      omega
     refine ⟨g,0,c,el,fz,rfl,⟨c,el,fz,hb⟩,hb,by simp only [V.size];omega,by simp [V.size];omega,fun i hi=>⟨⟨rfl,rfl⟩,?_⟩⟩
     simp only [V.size,Nat.mul_one,List.drop_zero]
     have h1:=hci i hi
     have h2:c.toList[i]?=some (.int k (zs.getD i 0)):=by simpa using h1
     apply List.ext_getElem?
     intro j
     cases j with
     | zero=>simp [List.getElem?_take,List.getElem?_drop,hi,h1]
     | succ j=>simp [List.getElem?_take]
   | _=>simp [World.cell?,hb] at h0
variable {M:Seat}
theorem Inv.garb {c:Ctx} {e:Env} {H:Hp} (h:Inv M c e H) (o:Obj):e.le { e with w:=e.w.alloc o }∧Inv M c { e with w:=e.w.alloc o } H:=by
 have hle:e.le { e with w:=e.w.alloc o }:=⟨fun i hi=>⟨hi,rfl⟩,fun b hb=>⟨hb,fun cl el fz hc=>⟨el,fz,by show (e.w.alloc o).heap[b]?=_;rw [A9 _ _ (h.imlt b hb)];exact hc⟩⟩,fun b=>D7 _ _ b,rfl,rfl⟩
 refine ⟨hle,?_,fun id hid=>?_,h.inj,h.imo,fun b hb=>?_,fun id hid=>?_,h.keep,h.low,h.gs.mono hle,h.φ,h.τ⟩
 ·exact h.ev.trans (O':=fun _=>False) ⟨rfl,rfl,rfl,by simp,fun b hb _=>A9 _ _ hb,fun b=>D7 _ _ b⟩ (fun _ hf=>hf.elim)
 ·obtain ⟨h1,h2,h3,h4⟩:=h.blk id hid
  exact ⟨h1,BA hle h1 (A9 _ _ (h.rb id h1)) h2,h3,h4⟩
 ·obtain ⟨cells,el,fz,hc⟩:=h.imb b hb
  exact ⟨cells,el,fz,by show (e.w.alloc o).heap[b]?=_;rw [A9 _ _ (h.imlt b hb)];exact hc⟩
 ·have:=h.rb id hid
  show e.ρ id < (e.w.alloc o).heap.size
  simp;omega
theorem N6 {c:Ctx} {e:Env} {H:Hp} (h:Inv M c e H) {b:Nat} {v:Value} (hr:(b,v) ∈ M.raw):e.w.cell? ⟨b,0,none⟩=some v:=by
 obtain ⟨_,cl,el,fz,h1,h2⟩:=h.gs.2 _ hr
 simp [World.cell?,h1,h2]
theorem NS {c:Ctx} {e:Env} {H:Hp} (h:Inv M c e H) {id:Nat} (hid:Af H id=true) (hs:(hget H id).solid=true) (h1:(hget H id).size=1) :
 ∃ x cells el,R e (hget H id) [x]∧e.w.heap[e.ρ id]?=some (.cells cells el (0,0))∧0 < cells.size∧e.w.cell? ⟨e.ρ id,0,none⟩=some x∧e.w.frozen? ⟨e.ρ id,0,none⟩=false:=by
 obtain ⟨cells,el,hc,hsz,hR⟩:=h.cells hid hs
 rw [h1] at hsz hR
 have hlt:0 < cells.size:=Aa
 have e1:cells.toList.take 1=[cells[0]]:=by
  rcases cells with ⟨l⟩
  cases l with
  | nil=>simp at hlt
  | cons y r=>simp
 rw [e1] at hR
 refine ⟨cells[0],cells,el,hR,hc,hlt,?_,?_⟩
 ·simp [World.cell?,hc,hlt]
 ·simp [World.frozen?,hc]
theorem Aq7 {g:Nat} {gv:Value} (hg:(g,gv) ∈ M.raw)
 (h:∀ (n:Int) (t:Addr) (old:Value) (w:World),w.cell? ⟨g,0,none⟩=some gv→w.cell? t=some old→w.frozen? t=false →
  Calls M.P (M.φ 93) #[.iface (M.τ 74) (.int .i64 n),.iface (M.τ 394) (.pointer (some t))] w fun ev w'=>ev = .returned (.bool true)∧∃ o1 o2 o3 o4,w'=((((w.alloc o1).alloc o2).alloc o3).alloc o4).setCell t (.int .i64 n)) (a b:Int) :
 Ag M 93 [erN a,.ifc 394 (.ptr 0 [])] [(0,.int .i64 b)] 1 (Q3 (.bool true) [(0,.int .i64 a)] 1):=by
 intro e vs hI hD ⟨hvs,hargs⟩
 obtain ⟨v0,v1,rfl⟩:∃ v0 v1,vs = #[v0,v1]:=by
  match vs,hvs with
  | ⟨[v0,v1]⟩,_=>exact ⟨v0,v1,rfl⟩
 have h0:=hargs 0
 have h1:=hargs 1
 simp only [List.getD_cons_zero,List.getD_cons_succ,RV,RS,V.isAgg,R,EF] at h0 h1
 obtain ⟨x0,k0,_,rfl⟩:=h0
 obtain ⟨x1,k1,_,_,rfl⟩:=h1
 have e0:v0 = .iface (M.τ 74) (.int .i64 a):=by rw [← hI.τ];simpa using k0
 have e1:v1 = .iface (M.τ 394) (.pointer (some ⟨e.ρ 0,0,none⟩)):=by rw [← hI.τ];simpa [As] using k1
 subst e0 e1
 obtain ⟨x,cells,el,hx,hc,hlt,hcell,hfz⟩:=NS hI (id:=0) rfl rfl rfl
 refine (h a ⟨e.ρ 0,0,none⟩ x e.w (N6 hI hg) hcell hfz).mono ?_
 rintro en w' ⟨rfl,o1,o2,o3,o4,rfl⟩
 obtain ⟨l1,I1⟩:=hI.garb o1
 obtain ⟨l2,I2⟩:=I1.garb o2
 obtain ⟨l3,I3⟩:=I2.garb o3
 obtain ⟨l4,I4⟩:=I3.garb o4
 have hr:e.ρ 0 < e.w.heap.size:=hI.rb 0 (hI.blk 0 rfl).1
 have hc4:((((e.w.alloc o1).alloc o2).alloc o3).alloc o4).heap[e.ρ 0]?=some (.cells cells el (0,0)):=by
  rw [A9 _ _ DI,A9 _ _ DI,A9 _ _ DI,A9 _ _ hr];exact hc
 obtain ⟨l5,I5⟩:=I4.row (id:=0) rfl hc4 (new:=cells.setIfInBounds 0 (.int .i64 a)) B5 (z:=.int .i64 a) rfl (by simp only [V.size,Array.size_setIfInBounds];omega) (by
  have:(cells.setIfInBounds 0 (Value.int .i64 a)).toList.take 1=[Value.int .i64 a]:=by
   rcases cells with ⟨l⟩
   cases l with
   | nil=>simp at hlt
   | cons y r=>simp
  show R _ (.int .i64 a) ((cells.setIfInBounds 0 (Value.int .i64 a)).toList.take 1)
  rw [this];simp only [R])
 rw [setCell_eq_setRow _ _ _ cells el (0,0) _ hc4]
 refine ⟨_,.bool true,_,[(0,.int .i64 a)],1,rfl,rfl,I5,?_,hD,Nat.le_refl _,rfl,rfl,rfl⟩
 simp [RV,RS,V.isAgg,R]
theorem Aq4 {g:Nat} {gv:Value} (hg:(g,gv) ∈ M.raw)
 (h:∀ (n:Int) (t:Addr) (w:World),w.cell? ⟨g,0,none⟩=some gv →
  Calls M.P (M.φ 93) #[.iface (M.τ 74) (.int .i64 n),.iface (M.τ 147) (.pointer (some t))] w fun ev w'=>ev = .returned (.bool false)∧∃ o1 o2 o3,w'=((w.alloc o1).alloc o2).alloc o3) (a:Int) :
 Ag M 93 [erN a,.ifc 147 (.ptr 0 [])] [(0,.nilp)] 1 (Q3 (.bool false) [(0,.nilp)] 1):=by
 intro e vs hI hD ⟨hvs,hargs⟩
 obtain ⟨v0,v1,rfl⟩:∃ v0 v1,vs = #[v0,v1]:=by
  match vs,hvs with
  | ⟨[v0,v1]⟩,_=>exact ⟨v0,v1,rfl⟩
 have h0:=hargs 0
 have h1:=hargs 1
 simp only [List.getD_cons_zero,List.getD_cons_succ,RV,RS,V.isAgg,R,EF] at h0 h1
 obtain ⟨x0,k0,_,rfl⟩:=h0
 obtain ⟨x1,k1,_,_,rfl⟩:=h1
 have e0:v0 = .iface (M.τ 74) (.int .i64 a):=by rw [← hI.τ];simpa using k0
 have e1:v1 = .iface (M.τ 147) (.pointer (some ⟨e.ρ 0,0,none⟩)):=by rw [← hI.τ];simpa [As] using k1
 subst e0 e1
 refine (h a ⟨e.ρ 0,0,none⟩ e.w (N6 hI hg)).mono ?_
 rintro en w' ⟨rfl,o1,o2,o3,rfl⟩
 obtain ⟨l1,I1⟩:=hI.garb o1
 obtain ⟨l2,I2⟩:=I1.garb o2
 obtain ⟨l3,I3⟩:=I2.garb o3
 refine ⟨_,.bool false,_,[(0,.nilp)],1,rfl,rfl,I3,?_,hD,Nat.le_refl _,rfl,rfl,rfl⟩
 simp [RV,RS,V.isAgg,R]
end Mv
