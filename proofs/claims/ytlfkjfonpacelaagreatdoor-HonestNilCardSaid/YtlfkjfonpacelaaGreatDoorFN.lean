/- A part. -/
import Derived.Test.YtlfkjfonpacelaaGreatDoorFM
import Derived.KernelRfl
set_option linter.all false
set_option maxRecDepth 20000
set_option maxHeartbeats 8000000
namespace Mv
open Go
structure OkHv (M:Seat):Prop where
 a:OkHa M
 o:OkOs M
 g:OkGr M
 k155:Au M 155 Awu=true
 k254:Au M 254 Avn=true
theorem Auc {M:Seat} (ok:OkHv M) (pres:List (Dg × Pr)) (l:List (Nat→BitVec 64)) :
 Ag M 155 [.ptr 0 [],W 0#64] (hB pres l) 13 (Q3 (Ah (BI (Dp EJ.f 13 0) EJ.h [Da EJ.f 0#64] Pr.zero) .nili) (hB pres l) 13):=by
 have hR:=Aul ok.a.r 1
 have hP:=S3 ok.o EJ pres 0
 rw [Ax1] at hP
 dsimp only at hP
 have hpv:Yb EJ none [Da EJ.f 0#64] Pr.zero=Ah (BI (Dp EJ.f 13 0) EJ.h [Da EJ.f 0#64] Pr.zero) .nili:=rfl
 rw [hpv] at hP
 unfold hB
 generalize I3.com=C1 at *
 generalize Dp EJ.f 13 0=R0 at *
 generalize [Da EJ.f 0#64]=L0 at *
 simp only [Mc.v,I3,A3] at hR
 simp only [Mc.v,Mc.h,EJ,A3,BI,Hd.v,AM] at hP
 refine Ab ok.k155 rfl fun x hx=>?_
 refine es 2000 ?_;(simp only [Awu,Aws,EA,I2,Lv,Mc.v,EJ,I3,Zt,seval])
 refine cnK [0,1,2,3,4,5,6,7] [0,2,6] (hR) (by constructor <;> (try simp only [EA,I2,LY,seval]) <;> first | exact q1 | (intro j hj;rcases (show j=0 ∨ j=1 by omega) with rfl | rfl <;> simp only [Nat.one_ne_zero,CL,LY,seval])) ?_
 (simp only [EA,I2,I1,EE,seval])
 repeat refine sd ?_
 have zz:=Bb @Kt.eq_1 @J3;refine Bw [4,5,8,9,10] [4,5,8] (hP) ?_
 (simp only [Oh,Kt,seval])
 refine Ar.mk hx [0,1,2,3,4,5,6,7,8,9,10,11,12] [] (Ah (BI R0 EJ.h L0 Pr.zero) .nili) _ 13 Am (by (simp only [CU,seval])) (by simp only [LV,AH,BI,Mc.h,EJ,Hd.v,AM,dg,Be,Fz,seval]) ?_ ⟨rfl,rfl,rfl⟩
 simp only [kn1,Lbx,I1,Bj,seval]
 intro j hj
 rcases (show j=0 ∨ j=1 by omega) with rfl | rfl <;> simp only [Nat.one_ne_zero,CL,LN,LP,V.ren,AV,A6,BS,Ex,seval,LY]
def hC (pres:List (Dg × Pr)) (l:List (Nat→BitVec 64)):Hp:=[(4,EA (.sl 6 [] 0 2 3) 1 (.map 7) (.map 5)),(5,kmV l),(6,.ar 3 2 fun j=>if j=0 then I2 0#64 8 9 else I2 1#64 10 11),(7,kn1 I3.com),(8,EJ.v),(9,Lv 12 13 14),(10,I3.v),(11,Lv 15 13 16),(12,BR Bk Pr.zero pres),(14,E8 []),(15,BR Bk Pr.zero pres),(16,E8 [])]
def vwV (n:Nat) (own:Int):V:=.st 5 (.fcons 0 (.ptr 0 []) (.fcons 1 (.ptr 4 []) (.fcons 2 (.sl 18 [] 0 n 42) (.fcons 3 (.sl 19 [] 0 n 1) (.fcons 4 (.int .i64 own) .fnil)))))
theorem Avp {M:Seat} (ok:OkHv M) (k359:Au M 359 Aaj=true) (pres:List (Dg × Pr)) (l:List (Nat→BitVec 64)) (G:Gs) (hD:G.D=1) (hn:G.n=1) (hp:(G.c 0).pos=1#64) (hv:(G.c 0).val=I3.com) :
 Ag M 254 [.ptr 0 [],.ptr 4 []] (G.H ++ hC pres l) 17 (Q3 (Ah (.ptr 17 []) .nili) (G.H ++ hC pres l ++ [(17,vwV 1 0),(18,Ap 1 G.c),(19,.ar 1 1 fun _=>.bool true)]) 20):=by
 have hRu:=EU ok.g G.D G.l G.g G.s G.n
 have hLn:=De ok.g G.D G.l G.g G.s G.n
 have hC0:=BW ok.g G.D G.l G.g G.s G.n G.c 0 Aa
 have hT:=FA ok.g.t.s.v.g.p k359 (D:=1) (k:=0) (i:=0) Am Am Am
 rw [show pw 0 0=1#64 by decide,show BitVec.ofNat 64 (Zp 1 0 0)=1#64 by decide] at hT
 have hA:=Atu ok.a pres l
 rw [hD,hn] at hRu hLn hC0
 unfold hC
 unfold hB at hA
 generalize I3.com=C1 at *
 simp only [Mc.v,EJ,I3,A3,EA,I2,Lv] at hA
 refine Ab ok.k254 rfl fun x hx=>?_
 refine es 2000 ?_;(simp only [Avn,Avl,Gs.H,hD,hn,Ai,Al,Ac,Ap,Cl.v,Aq,A7,A4,EA,I2,Lv,Mc.v,EJ,I3,Zt,B3,seval])
 have z1:IntKind.i64.wrap 1=1:=rfl
 have zz:=Ka @Ai.eq_1 @Al.eq_1 @Ac.eq_1 @dg.eq_1;refine L9 [0,1,2] [0] (hRu) ?_
 (simp only [Ai,Al,Ac,Ap,Cl.v,Aq,A7,A4,EA,I2,Lv,LZ,seval])
 have zz:=Ka @Ai.eq_1 @Al.eq_1 @Ac.eq_1 @dg.eq_1;refine Bw [0,1,2] [0] (hLn) ?_
 (simp only [Ai,Al,Ac,Ap,Cl.v,Aq,A7,A4,EA,I2,Lv,LZ,seval])
 refine AW ?_
 refine es 2000 ?_
 (simp only [Ai,Al,Ac,Ap,Cl.v,Aq,A7,A4,EA,I2,Lv,LZ,seval])
 have zz:=Db @Ai.eq_1 @Al.eq_1 @Ac.eq_1 @Ap.eq_1 @Cl.v.eq_1 @dg.eq_1;refine Bw [0,1,2] [0,1] (hC0) ?_
 (simp only [AH,hp,hv,Ai,Al,Ac,Ap,Cl.v,Aq,A7,A4,EA,I2,Lv,seval])
 refine Bq (hT) ?_
 (simp only [AH,Ai,Al,Ac,Ap,Cl.v,Aq,A7,A4,EA,I2,Lv,seval])
 refine cnK [4,5,6,7,8,9,10,11,12,13,14,15,16] [4,5,6,7,8,9,10,11,12,14,15,16] (hA) (by constructor <;> (try simp only [kn1,Bj,Lbx,seval]) <;> first | exact q1 | (intro j hj;rcases (show j=0 ∨ j=1 by omega) with rfl | rfl <;> simp only [Nat.one_ne_zero,CL,LY,seval])) ?_
 (simp only [NC,I1,I4,Iu,decide_true,z1,kn1,Nat.testBit,List.map_nil,List.map_cons,B3,Ai,Al,Ac,Ap,Cl.v,Aq,A7,A4,EA,I2,Lv,seval])
 repeat refine sd ?_
 refine AW ?_
 refine es 2000 ?_
 (simp only [z1,Ai,Al,Ac,Ap,Cl.v,Aq,A7,A4,EA,I2,Lv,LZ,seval])
 repeat refine sd ?_
 refine Ar.mk hx [0,1,2,3,4,5,6,7,8,9,10,11,12,13,14,15,16,497,1857,2017] [] (Ah (.ptr 17 []) .nili) _ 20 Am (by (simp only [CU,seval])) (by simp only [LV,AH,seval,LY]) ?_ ⟨rfl,rfl,rfl⟩
 simp only [vwV,kn1,Lbx,I1,Bj,Ai,Al,Ac,Ap,Cl.v,Aq,A7,A4,EA,I2,Lv,seval]
 refine ⟨fun j hj=>?_,fun j hj=>?_,fun j hj=>?_⟩
 ·rcases (show j=0 ∨ j=1 by omega) with rfl | rfl <;> simp only [Nat.one_ne_zero,CL,LN,LP,V.ren,AV,A6,BS,Ex,seval,LY]
 ·obtain rfl:j=0:=Aa
  simp only [if_true,hp,hv,LY,seval]
 ·rw [if_pos Aa]
theorem Au9 {M:Seat} (ok:OkHv M) (k359:Au M 359 Aaj=true) (pres:List (Dg × Pr)) (l:List (Nat→BitVec 64)) (G:Gs) (hD:G.D=1) (hn:G.n=2) (hp:(G.c 0).pos=1#64) (hv:(G.c 0).val=I3.com) (hp1:(G.c 1).pos=2#64) (hv1:(G.c 1).val=d1 1#8) (hne:¬ I3.com=d1 1#8) :
 Ag M 254 [.ptr 0 [],.ptr 4 []] (G.H ++ hC pres l) 17 (Q3 (Ah (.ptr 17 []) .nili) (G.H ++ hC pres l ++ [(17,vwV 2 0),(18,Ap 2 G.c),(19,.ar 1 2 fun j=>.bool (decide (j=0)))]) 20):=by
 have hRu:=EU ok.g G.D G.l G.g G.s G.n
 have hLn:=De ok.g G.D G.l G.g G.s G.n
 have hC0:=BW ok.g G.D G.l G.g G.s G.n G.c 0 Aa
 have hC1:=BW ok.g G.D G.l G.g G.s G.n G.c 1 Aa
 have hT:=FA ok.g.t.s.v.g.p k359 (D:=1) (k:=0) (i:=0) Am Am Am
 rw [show pw 0 0=1#64 by decide,show BitVec.ofNat 64 (Zp 1 0 0)=1#64 by decide] at hT
 have hT1:=FA ok.g.t.s.v.g.p k359 (D:=1) (k:=1) (i:=0) Am Am Am
 rw [show pw 1 0=2#64 by decide,show BitVec.ofNat 64 (Zp 1 1 0)=0#64 by decide] at hT1
 have hA:=Atu ok.a pres l
 have hA1:=Au1 ok.a pres l
 rw [hD,hn] at hRu hLn hC0 hC1
 unfold hC
 unfold hB at hA hA1
 generalize I3.com=C1 at *
 simp only [Mc.v,EJ,I3,A3,EA,I2,Lv] at hA hA1
 generalize hy:d1 1#8=y at *
 refine Ab ok.k254 rfl fun x hx=>?_
 refine es 2000 ?_;(simp only [Avn,Avl,Gs.H,hD,hn,Ai,Al,Ac,Ap,Cl.v,Aq,A7,A4,EA,I2,Lv,Mc.v,EJ,I3,Zt,B3,seval])
 have z1:IntKind.i64.wrap 1=1:=rfl
 have z2:IntKind.i64.wrap 2=2:=rfl
 have hne:=eq_false hne
 have zz:=Ka @Ai.eq_1 @Al.eq_1 @Ac.eq_1 @dg.eq_1;refine L9 [0,1,2] [0] (hRu) ?_
 (simp only [Ai,Al,Ac,Ap,Cl.v,Aq,A7,A4,EA,I2,Lv,LZ,seval])
 have zz:=Ka @Ai.eq_1 @Al.eq_1 @Ac.eq_1 @dg.eq_1;refine Bw [0,1,2] [0] (hLn) ?_
 (simp only [Ai,Al,Ac,Ap,Cl.v,Aq,A7,A4,EA,I2,Lv,LZ,seval])
 refine AW ?_
 refine es 2000 ?_
 (simp only [Ai,Al,Ac,Ap,Cl.v,Aq,A7,A4,EA,I2,Lv,LZ,seval])
 have zz:=Db @Ai.eq_1 @Al.eq_1 @Ac.eq_1 @Ap.eq_1 @Cl.v.eq_1 @dg.eq_1;refine Bw [0,1,2] [0,1] (hC0) ?_
 (simp only [AH,hp,hv,Ai,Al,Ac,Ap,Cl.v,Aq,A7,A4,EA,I2,Lv,seval])
 refine Bq (hT) ?_
 (simp only [AH,Ai,Al,Ac,Ap,Cl.v,Aq,A7,A4,EA,I2,Lv,seval])
 refine cnK [4,5,6,7,8,9,10,11,12,13,14,15,16] [4,5,6,7,8,9,10,11,12,14,15,16] (hA) (by constructor <;> (try simp only [kn1,Bj,Lbx,seval]) <;> first | exact q1 | (intro j hj;rcases (show j=0 ∨ j=1 by omega) with rfl | rfl <;> simp only [Nat.one_ne_zero,CL,LY,seval])) ?_
 (simp only [NC,I1,I4,Iu,decide_true,z1,kn1,Nat.testBit,List.map_nil,List.map_cons,B3,Ai,Al,Ac,Ap,Cl.v,Aq,A7,A4,EA,I2,Lv,seval])
 repeat refine sd ?_
 refine AW ?_
 refine es 2000 ?_
 (simp only [z1,Ai,Al,Ac,Ap,Cl.v,Aq,A7,A4,EA,I2,Lv,LZ,seval])
 have zz:=Db @Ai.eq_1 @Al.eq_1 @Ac.eq_1 @Ap.eq_1 @Cl.v.eq_1 @dg.eq_1;refine Bw [0,1,2] [0,1] (hC1) ?_
 (simp only [AH,hp1,hv1,Ai,Al,Ac,Ap,Cl.v,Aq,A7,A4,EA,I2,Lv,seval])
 refine Bq (hT1) ?_
 (simp only [AH,Ai,Al,Ac,Ap,Cl.v,Aq,A7,A4,EA,I2,Lv,seval])
 refine cnK [4,5,6,7,8,9,10,11,12,13,14,15,16] [4,5,6,7,8,9,10,11,12,14,15,16] (hA1) (by constructor <;> (try simp only [kn1,Bj,Lbx,seval]) <;> first | exact q1 | (intro j hj;rcases (show j=0 ∨ j=1 by omega) with rfl | rfl <;> simp only [Nat.one_ne_zero,CL,LY,seval])) ?_
 (simp only [NC,I1,I4,Iu,hne,decide_false,decide_true,z1,z2,kn1,Nat.testBit,List.map_nil,List.map_cons,B3,Ai,Al,Ac,Ap,Cl.v,Aq,A7,A4,EA,I2,Lv,seval])
 repeat refine sd ?_
 refine AW ?_
 refine es 2000 ?_
 (simp only [z1,Ai,Al,Ac,Ap,Cl.v,Aq,A7,A4,EA,I2,Lv,LZ,seval])
 repeat refine sd ?_
 refine Ar.mk hx [0,1,2,3,4,5,6,7,8,9,10,11,12,13,14,15,16,497,3473,3633] [] (Ah (.ptr 17 []) .nili) _ 20 Am (by (simp only [CU,seval])) (by simp only [LV,AH,seval,LY]) ?_ ⟨rfl,rfl,rfl⟩
 simp only [vwV,kn1,Lbx,I1,Bj,Ai,Al,Ac,Ap,Cl.v,Aq,A7,A4,EA,I2,Lv,seval]
 refine ⟨fun j hj=>?_,fun j hj=>?_,fun j hj=>?_⟩
 ·rcases (show j=0 ∨ j=1 by omega) with rfl | rfl <;> simp only [Nat.one_ne_zero,CL,LN,LP,V.ren,AV,A6,BS,Ex,seval,LY]
 ·rcases (show j=0 ∨ j=1 by omega) with rfl | rfl <;> simp only [hp,hv,hp1,hv1,dg,Nat.one_ne_zero,Nat.lt_irrefl,Nat.zero_lt_one,Nat.sub_self,CL,LN,LP,V.ren,AV,A6,BS,Ex,seval,LY]
 ·rcases (show j=0 ∨ j=1 by omega) with rfl | rfl <;> simp only [Nat.one_ne_zero,Nat.lt_irrefl,Nat.zero_lt_one,Nat.sub_self,CL,decide_true,decide_false,LN,LP,V.ren,AV,A6,BS,Ex,seval,LY]
end Mv
namespace Mv
def Lj (w:Nat) (v:Nat→Nat):Nat→Nat
 | 0=>0
 | k + 1=>Lj w v k + (v k) <<< (w * k)
theorem Atr (w:Nat) (v:Nat→Nat) (hv:∀ k,v k < 2 ^ w):∀ n,Lj w v n < 2 ^ (w * n)
 | 0=>by simp [Lj]
 | n + 1 => by
   have h:=Atr w v hv n
   have h2:=hv n
   simp only [Lj,Nat.shiftLeft_eq]
   rw [Nat.mul_succ,Nat.pow_add,Nat.mul_comm (2 ^ (w * n))]
   have h3:(v n + 1) * 2 ^ (w * n)≤2 ^ w * 2 ^ (w * n):=Nat.mul_le_mul_right _ h2
   rw [Nat.add_mul] at h3
   omega
theorem Vj (w:Nat) (v:Nat→Nat) (hv:∀ k,v k < 2 ^ w):∀ n i,(Lj w v n >>> (w * i)) % 2 ^ w=if i < n then v i else 0
 | 0,i=>by simp [Lj]
 | n + 1, i => by
   have ih:=Vj w v hv n i
   have hlt:=Atr w v hv n
   simp only [Lj,Nat.shiftLeft_eq,Nat.shiftRight_eq_div_pow] at ih ⊢
   by_cases h1:i < n
   ·rw [if_pos h1] at ih
    rw [if_pos Aa]
    have e1:w * n=w * i + (w + w * (n - i - 1)):=by
     have:n=i + 1 + (n - i - 1):=Aa
     rw [this,Nat.mul_add,Nat.mul_add]
     have e:i + 1 + (n - i - 1) - i - 1=n - i - 1:=Aa
     rw [e];omega
    have e2:v n * 2 ^ (w * n)=2 ^ (w * i) * (2 ^ w * (v n * 2 ^ (w * (n - i - 1)))):=by
     rw [e1,Nat.pow_add,Nat.pow_add]
     simp only [Nat.mul_assoc,Nat.mul_comm,Nat.mul_left_comm]
    rw [e2,Nat.add_mul_div_left _ _ (Nat.pow_pos Aa),Nat.add_mul_mod_self_left]
    exact ih
   ·by_cases h2:i=n
    ·subst h2
     rw [if_pos Aa,Nat.add_mul_div_right _ _ (Nat.pow_pos Aa),Nat.div_eq_of_lt hlt,Nat.zero_add,Nat.mod_eq_of_lt (hv i)]
    ·rw [if_neg Aa]
     have h3:Lj w v n + v n * 2 ^ (w * n) < 2 ^ (w * i):=by
      have:=Atr w v hv (n + 1)
      simp only [Lj,Nat.shiftLeft_eq] at this
      exact Nat.lt_of_lt_of_le this (Nat.pow_le_pow_right Aa (Nat.mul_le_mul_left _ Aa))
     rw [Nat.div_eq_of_lt h3];rfl
theorem I5 (w:Nat) {u v:Nat→Nat}:∀ n,(∀ k,k < n→u k=v k)→Lj w u n=Lj w v n
 | 0,_=>rfl
 | n + 1,h=>by rw [Lj,Lj,I5 w n (fun k hk=>h k Aa),h n Aa]
def At0 (s i:Nat):Nat:=(s >>> (64 * i)) % 18446744073709551616
def Awx (x k:Nat):Nat:=(x <<< k) % 18446744073709551616 ||| x >>> (64 - k)
def Awb (s x:Nat):Nat:=At0 s x ^^^ At0 s (x + 5) ^^^ At0 s (x + 10) ^^^ At0 s (x + 15) ^^^ At0 s (x + 20)
def Aww (s x:Nat):Nat:=Awb s ((x + 4) % 5) ^^^ Awx (Awb s ((x + 1) % 5)) 1
def thN (s j:Nat):Nat:=At0 s j ^^^ Aww s (j % 5)
def Ak5:List Nat:=[0,6,12,18,24,3,9,10,16,22,1,7,13,19,20,4,5,11,17,23,2,8,14,15,21]
def Apn:List Nat:=[0,44,43,21,14,28,20,3,45,61,1,6,25,8,18,27,36,10,15,56,62,55,39,41,2]
def bN (s j:Nat):Nat:=Awx (thN s (Ak5.getD j 0)) (Apn.getD j 0)
def Aw0 (s j:Nat):Nat:=bN s j ^^^ ((18446744073709551615 ^^^ bN s (5 * (j / 5) + (j + 1) % 5)) &&& bN s (5 * (j / 5) + (j + 2) % 5))
def rcN (n:Nat):Nat:=(rounds.getD n 0).toNat
def Awe (s n:Nat):Nat:=Lj 64 (fun k=>Aw0 s k ^^^ (if k=0 then rcN n else 0)) 25
def Aw7 (s:Nat):Nat→Nat
 | 0=>s
 | n + 1=>Awe (Aw7 s n) n
def Avz (a j:Nat):Nat:=(a >>> (8 * j)) % 256
def Awn (a b j:Nat):Nat:=if j < 32 then Avz a j else if j < 64 then Avz b (j - 32) else if j=64 then 1 else if j=135 then 128 else 0
def xwN (p:Nat→Nat) (j:Nat):Nat→Nat
 | 0=>0
 | k + 1=>xwN p j k ^^^ ((p (8 * j + k) <<< (8 * k)) % 18446744073709551616)
def inN (a b:Nat):Nat:=Lj 64 (fun i=>if i < 17 then xwN (Awn a b) i 8 else 0) 25
def Awz (s:Nat):Nat:=Lj 8 (fun i=>(At0 s (i / 8) >>> (8 * (i % 8))) % 256) 32
def Ato (a b:Nat):Nat:=Awz (Aw7 (inN a b) 24)
def toN (d:Dg):Nat:=Lj 8 (fun i=>(d.at i).toNat) 32
theorem Aui (d:Dg) (i:Nat) (hi:i < 32):Avz (toN d) i=(d.at i).toNat:=by
 have h:=Vj 8 (fun i=>(d.at i).toNat) (fun k=>(d.at k).isLt) 32 i
 rw [if_pos hi] at h
 exact h
def St (s:Nat) (l:List (BitVec 64)):Prop:=∀ i,i < 25→At0 s i=(l.getD i 0).toNat
theorem Aus (x:BitVec 64) (k:Nat):Awx x.toNat k=(rot x k).toNat:=TX x k
theorem Awt {s:Nat} {l:List (BitVec 64)} (h:St s l) (x:Nat) (hx:x < 5):Awb s x=(par l x).toNat:=by
 simp only [Awb,par,BitVec.toNat_xor,h x Aa,h (x + 5) Aa,h (x + 10) Aa,h (x + 15) Aa,h (x + 20) Aa]
theorem Aw9 {s:Nat} {l:List (BitVec 64)} (h:St s l) (x:Nat):Aww s x=(SS l x).toNat:=by
 simp only [Aww,SS,BitVec.toNat_xor,Awt h _ (Nat.mod_lt _ (by omega:0 < 5)),Aus]
theorem Axr {s:Nat} {l:List (BitVec 64)} (h:St s l) (j:Nat) (hj:j < 25):thN s j=((th l).getD j 0).toNat:=by
 rw [Zj _ _ hj,Oj,if_pos Aa,BitVec.toNat_xor,thN,h j hj,Aw9 h]
end Mv
namespace Mv
def Ln (p:Nat):Nat:=(lanes.getD p 0).toNat
def Tn (p:Nat):Nat:=(turns.getD p 0).toNat
def pos:Nat→Nat
 | 0=>1
 | p + 1=>Ln p
theorem Ar4:∀ p,p < 24→Ln p < 25:=Am
theorem Ap5:∀ p,p < 24→∀ q,q < 24→p ≠ q→Ln p ≠ Ln q:=Am
theorem Aqq:∀ j,j < 25→j ≠ 0→∃ p,p < 24∧Ln p=j∧pos p=Ak5.getD j 0∧Tn p=Apn.getD j 0:=Am
theorem Arg:∀ p,p < 24→Ln p ≠ 0:=Am
def Am3 (a:List (BitVec 64)):Nat→Nat→BitVec 64
 | 0,j=>a.getD j 0
 | p + 1,j=>if j=Ln p then rot (a.getD (pos p) 0) (Tn p) else Am3 a p j
theorem Ald (a:List (BitVec 64)) (j:Nat):∀ p,(∀ q,q < p→Ln q ≠ j)→Am3 a p j=a.getD j 0
 | 0,_=>rfl
 | p + 1,h=>by rw [Am3,if_neg (fun e=>h p Aa e.symm),Ald a j p (fun q hq=>h q Aa)]
theorem Anj (a:List (BitVec 64)) (p:Nat):∀ n,p < n→n≤24→Am3 a n (Ln p)=rot (a.getD (pos p) 0) (Tn p)
 | 0,h,_=>by omega
 | n + 1, h, h2 => by
   by_cases e:p=n
   ·subst e;rw [Am3,if_pos rfl]
   ·rw [Am3,if_neg (Ap5 p Aa n Aa e),Anj a p n Aa Aa]
theorem Aog (a:List (BitVec 64)) (ha:a.length=25):∀ p,p≤24→(Sr a p).1=a.getD (pos p) 0∧∀ j,(Sr a p).2.getD j 0=Am3 a p j
 | 0,_=>⟨rfl,fun _=>rfl⟩
 | p + 1, h => by
   obtain ⟨h1,h2⟩:=Aog a ha p Aa
   refine ⟨?_,fun j=>?_⟩
   ·show (Sr a p).2.getD (Ln p) 0=a.getD (Ln p) 0
    rw [h2,Ald a _ p (fun q hq=>Ap5 q Aa p Aa Aa)]
   ·show ((Sr a p).2.set (Ln p) (rot (Sr a p).1 (Tn p))).getD j 0=Am3 a (p + 1) j
    rw [ZF _ _ _ _ (by rw [Qo a ha];exact Ar4 p Aa),h1,h2,Am3]
theorem Ap3 (x:BitVec 64):rot x 0=x:=by
 have h:x >>> 64=0:=by
  apply BitVec.eq_of_toNat_eq
  rw [BitVec.toNat_ushiftRight,Nat.shiftRight_eq_div_pow,Nat.div_eq_of_lt x.isLt];rfl
 simp [rot,h]
theorem Aqp (a:List (BitVec 64)) (ha:a.length=25) (j:Nat) (hj:j < 25):(Sr a 24).2.getD j 0=rot (a.getD (Ak5.getD j 0) 0) (Apn.getD j 0):=by
 rw [(Aog a ha 24 (Nat.le_refl _)).2]
 by_cases h0:j=0
 ·subst h0
  rw [Ald a 0 24 (fun q hq=>Arg q hq)]
  exact (Ap3 _).symm
 ·obtain ⟨p,h1,h2,h3,h4⟩:=Aqq j hj h0
  rw [← h2,Anj a p 24 h1 (Nat.le_refl _),h2,h3,h4]
theorem Amv:∀ j,j < 25→Ak5.getD j 0 < 25:=Am
theorem Awy {s:Nat} {l:List (BitVec 64)} (h:St s l) (j:Nat) (hj:j < 25):bN s j=((Sr (th l) 24).2.getD j 0).toNat:=by
 rw [Aqp _ (ZQ l) j hj,bN,Axr h _ (Amv j hj),Aus]
theorem Awi (x:BitVec 64):(~~~x).toNat=18446744073709551615 ^^^ x.toNat:=by
 have h2:BitVec.allOnes 64 ^^^ x = ~~~x:=BitVec.allOnes_xor
 rw [← h2,BitVec.toNat_xor];rfl
theorem Awv {s:Nat} {l:List (BitVec 64)} (h:St s l) (j:Nat) (hj:j < 25):Aw0 s j=(FZ (Sr (th l) 24).2 5 j).toNat:=by
 rw [FZ,if_pos Aa,BitVec.toNat_xor,BitVec.toNat_and,Awi,Aw0,Awy h j hj,Awy h _ Aa,Awy h _ Aa]
theorem Ax4 (n:Nat) (hn:n < 24):rcN n=(rc.getD n 0).toNat:=by
 have:=Aiw n hn
 rw [rcN,← this];rfl
theorem Awo {s:Nat} {l:List (BitVec 64)} (h:St s l) (n:Nat) (hn:n < 24):St (Awe s n) (rnd l n):=by
 intro i hi
 have hw:∀ k,(fun k=>if k < 25 then ((rnd l n).getD k 0).toNat else 0) k < 2 ^ 64:=by
  intro k
  simp only
  split
  ·exact BitVec.isLt _
  ·exact Nat.pow_pos Aa
 have e:Awe s n=Lj 64 (fun k=>if k < 25 then ((rnd l n).getD k 0).toNat else 0) 25:=by
  unfold Awe
  refine I5 64 25 (fun k hk=>?_)
  rw [if_pos hk,Adx _ _ _ hk,Awv h k hk]
  by_cases h0:k=0
  ·subst h0
   rw [if_pos rfl,if_pos rfl,BitVec.toNat_xor,Ax4 n hn]
  ·rw [if_neg h0,if_neg h0,Nat.xor_zero]
 have:=Vj 64 _ hw 25 i
 rw [if_pos hi] at this
 simp only [if_pos hi] at this
 rw [At0,e]
 exact this
theorem Av7 {s:Nat} {l:List (BitVec 64)} (h:St s l):∀ n,n≤24→St (Aw7 s n) (Q8 l n)
 | 0,_=>h
 | n + 1,hn=>Awo (Av7 h n Aa) n Aa
theorem Awl (p:Nat→BitVec 8) (q:Nat→Nat) (j:Nat):∀ k,k≤8→(∀ i,i < 8→q (8 * j + i)=(p (8 * j + i)).toNat)→xwN q j k=(pwx 0 p j k).toNat
 | 0,_,_=>rfl
 | k + 1, hk, h => by
   rw [xwN,pwx,BitVec.toNat_xor,Awl p q j k Aa h,h k Aa,BitVec.toNat_shiftLeft,BitVec.toNat_setWidth]
   have hb:=(p (8 * j + k)).isLt
   rw [Nat.mod_eq_of_lt (by omega:(p (8 * j + k)).toNat < 2 ^ 64)]
theorem Axw (a b:Dg) (k:Nat) (hk:k < 136):Awn (toN a) (toN b) k=(pad a b k).toNat:=by
 unfold Awn pad
 by_cases h1:k < 32
 ·rw [if_pos h1,if_pos h1,Aui a k h1]
 ·rw [if_neg h1,if_neg h1]
  by_cases h2:k < 64
  ·rw [if_pos h2,if_pos h2,Aui b _ Aa]
  ·rw [if_neg h2,if_neg h2]
   split
   ·rfl
   ·split <;> rfl
theorem Axz (a b:Dg):St (inN (toN a) (toN b)) (mix (List.replicate 25 0) (pad a b)):=by
 intro i hi
 have hrep:(List.replicate 25 (0:BitVec 64)).getD i 0=0:=by rw [List.getD,List.getElem?_replicate,if_pos hi];rfl
 have hw:∀ k,(fun k=>if k < 17 then (pwx 0 (pad a b) k 8).toNat else 0) k < 2 ^ 64:=by
  intro k
  simp only
  split
  ·exact BitVec.isLt _
  ·exact Nat.pow_pos Aa
 have e:inN (toN a) (toN b)=Lj 64 (fun k=>if k < 17 then (pwx 0 (pad a b) k 8).toNat else 0) 25:=by
  unfold inN
  refine I5 64 25 (fun k hk=>?_)
  by_cases h1:k < 17
  ·rw [if_pos h1,if_pos h1]
   exact Awl (pad a b) _ k 8 (Nat.le_refl _) (fun i hi=>Axw a b _ Aa)
  ·rw [if_neg h1,if_neg h1]
 have:=Vj 64 _ hw 25 i
 rw [if_pos hi] at this
 rw [At0,e]
 refine Eq.trans this ?_
 rw [ZI _ _ _ hi,Qg,hrep]
 by_cases h1:i < 17
 ·simp only [if_pos h1]
 ·simp only [if_neg h1]
  split <;> rfl
theorem Aw2 {s:Nat} {l:List (BitVec 64)} (h:St s l):Awz s=toN (Xg l):=by
 unfold Awz toN
 refine I5 8 32 (fun k hk=>?_)
 rw [Xg,Dg.at_mk' _ _ hk,BitVec.toNat_setWidth,BitVec.toNat_ushiftRight,h (k / 8) Aa]
theorem W1 (a b:Dg):toN (Ch a b)=Ato (toN a) (toN b):=by
 rw [Ato,Ch,Lf,Zd]
 exact (Aw2 (Av7 (Axz a b) 24 (Nat.le_refl _))).symm
def Atm:Nat→Nat
 | 0=>0
 | h + 1=>Ato (Atm h) (Atm h)
theorem Aw5:toN Dg.zero=0:=by
 have h:toN Dg.zero=Lj 8 (fun _=>0) 32:=I5 8 32 (fun k _=>by simp only [Dg.at_zero];rfl)
 rw [h];decide
theorem Atv:∀ h,toN (At h)=Atm h
 | 0=>Aw5
 | h + 1=>by rw [At,W1,Atv h,Atm]
end Mv
namespace Mv
open Go
theorem Ath:∀ h q,Dp (fun _=>0#64) h q=At h
 | 0,q=>by simp only [Dp,show BC 0#64=Dg.zero from Yl,ite_self];rfl
 | h + 1,q=>by rw [Dp,Ath h,Ath h];rfl
theorem Avw (w:Nat→BitVec 64) (hw:∀ j,j < 4→w j=0#64):toN (Bu w)=0:=by
 have h:toN (Bu w)=Lj 8 (fun _=>0) 32:=I5 8 32 (fun k hk=>by
  rw [Bu,Dg.at_mk' _ _ hk,JB,hw _ Aa]
  have:∀ k,k < 32→(WK (0#64) (k % 8)).toNat=0:=Am
  exact this k hk)
 rw [h];decide
theorem Axv:toN (Bu (w4 0#64 1#64 0#64 0#64))=1 <<< 120:=by
 have h:toN (Bu (w4 0#64 1#64 0#64 0#64))=Lj 8 (fun k=>if k=15 then 1 else 0) 32:=I5 8 32 (fun k hk=>by
  rw [Bu,Dg.at_mk' _ _ hk]
  have:∀ k,k < 32→(JB (w4 0#64 1#64 0#64 0#64) k).toNat=if k=15 then 1 else 0:=Am
  exact this k hk)
 rw [h];decide
def Ax6:Nat:=Ato (Ato 0 0) (Ato 0 0)
def Av5 (x:Nat):Nat:=Ato (Atm 13) (Ato Ax6 x)
theorem Aw4:toN EJ.com=Av5 0:=by
 show toN (Ch (Dp (fun _=>0#64) 13 0) (Ch (Ch (Ch (Bu fun _=>0#64) (Bu fun _=>0#64)) (Ch (Bu fun _=>0#64) (Bu fun _=>0#64))) (Bu (w4 0#64 0#64 0#64 0#64))))=_
 rw [W1,Ath,Atv,W1,W1,W1,Avw _ (fun _ _=>rfl),Avw _ Am];rfl
theorem Av3:toN I3.com=Av5 (1 <<< 120):=by
 show toN (Ch (Dp (fun _=>0#64) 13 0) (Ch (Ch (Ch (Bu fun _=>0#64) (Bu fun _=>0#64)) (Ch (Bu fun _=>0#64) (Bu fun _=>0#64))) (Bu (w4 0#64 1#64 0#64 0#64))))=_
 rw [W1,Ath,Atv,W1,W1,W1,Avw _ (fun _ _=>rfl),Axv];rfl
theorem Auu:Nat.beq (Av5 (1 <<< 120)) (Av5 0)=false:=by kernel_rfl
theorem Awr:¬ I3.com=EJ.com:=by
 intro h
 have h2:=Auu
 rw [← Av3,← Aw4,h,Nat.beq_refl] at h2
 cases h2
end Mv
