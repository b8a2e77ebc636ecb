/- A part. -/
import Derived.Test.YtncipgmjhaiagaaGreatDoorHA
import Derived.Test.YtncipgmjhaiagaaGreatDoorHN
set_option linter.all false
set_option maxRecDepth 20000
set_option maxHeartbeats 8000000
namespace Mv
open Go
variable {M:Seat}
def BQ (q:Nat) (hs ps:V) (met:Bool):V:=.st 4 (.fcons 0 hs (.fcons 1 ps (.fcons 2 (.sl 3 [] 0 q 32) (.fcons 3 (.bool met) .fnil))))
def Aar (q:Nat) (hs ps:V) (met:Bool):V:=.st 4 (.fcons 0 hs (.fcons 1 ps (.fcons 2 (.sl 4 [] 0 q 32) (.fcons 3 (.bool met) .fnil))))
def Cu (q:Nat) (qs:Nat→Dg) (l:List (Dg × Pr)) (met:Bool):Hp:=[(0,BQ q (.sl 1 [] 0 l.length 32) (.sl 2 [] 0 l.length 64) met),(1,.ar 32 l.length fun i=>dg (rh l i)),(2,.ar 64 l.length fun i=>At (rp l i)),(3,.ar 32 q fun i=>dg (qs i))]
def Z2:=(aq4 @GT.eq_1 @Cu.eq_1 @BQ.eq_1 @BJ.eq_1)
def Jx (q:Nat) (qs:Nat→Dg) (l:List (Dg × Pr)) (met:Bool):Hp:=[(0,BQ q (.sl 4 [] 0 l.length 32) (.sl 5 [] 0 l.length 64) met),(4,.ar 32 l.length fun i=>dg (rh l i)),(5,.ar 64 l.length fun i=>At (rp l i)),(3,.ar 32 q fun i=>dg (qs i))]
theorem Ee (q:Nat) (ok:OkR M) (h:Dg) (n:Nat) (hs:Nat→Dg) (met:Bool) (hn:n < 4294967296) (i0:Nat) (hi0:i0≤n) (hlow:∀ j,j < i0→¬ hs j=h) (hend:i0=n ∨ hs i0=h) :
 Af M 330 [.ptr 0 [],dg h] [(0,BQ q (.sl 1 [] 0 n 32) (.sl 2 [] 0 n 64) met),(1,.ar 32 n fun i=>dg (hs i))] 4 (Q3 (.int .i64 (if i0=n then -1 else (i0:Int))) [(0,BQ q (.sl 1 [] 0 n 32) (.sl 2 [] 0 n 64) met),(1,.ar 32 n fun i=>dg (hs i))] 4):=by
 refine Ac ok.k330 rfl fun x hx=>?_
 refine es 2000 ?_;(simp only [Wj,Aah,BQ,LZ,seval])
 refine Ag (σ:=Nat) (fun i=>i≤i0) (fun i=>fr 25 [(0,.ptr 0 []),(3,.ptr 4 []),(5,.int .i64 i)])
  (fun i=>[(0,BQ q (.sl 1 [] 0 n 32) (.sl 2 [] 0 n 64) met),(1,.ar 32 n fun i=>dg (hs i)),(4,dg h)]) (fun _=>5) (fun i=>i0 - i) 0 Aa ?_ ?_
 ·refine Aj.fr [0,1,2,3,4] [] hx Ax Ak ?_ ?_
  ·simp only [LY,seval]
  ·simp only [BQ,dg,LY,seval]
 ·intro i hi
  refine es 2000 ?_
  by_cases hin:i=n
  ·subst hin
   have e0:i0=i:=Aa
   subst e0
   have d0:((i0:Int) < (i0:Int))=False:=eq_false Aa
   rw [if_pos rfl]
   (simp only [BQ,d0,LZ,seval])
   have zz:=aq2 @BQ.eq_1 @dg.eq_1;exact Bg hx [0,1,2,3] ⟨rfl,rfl,rfl⟩
  ·have d0:((i:Int) < (n:Int))=True:=eq_true Aa
   have w0:IntKind.i64.wrap ((i:Int) + 1)=((i + 1:Nat):Int):=A9
   by_cases hf:hs i=h
   ·have e0:i=i0:=by
     rcases Nat.lt_or_ge i i0 with h1 | h1
     ·exact absurd hf (hlow i h1)
     ·omega
    subst e0
    rw [if_neg hin]
    (simp only [BQ,d0,hf,LZ,seval])
    repeat refine sd ?_
    have zz:=aq2 @BQ.eq_1 @dg.eq_1;exact Bg hx [0,1,2,3] ⟨rfl,rfl,rfl⟩
   ·have hlt:i < i0:=by
     rcases Nat.lt_or_ge i i0 with h1 | h1
     ·exact h1
     ·rcases hend with h2 | h2
      ·omega
      ·exact absurd (by rw [show i=i0 by omega];exact h2) hf
    (simp only [BQ,d0,w0,hf,LZ,seval])
    repeat refine sd ?_
    refine ⟨i + 1,by omega,by omega,?_⟩
    refine Aj.fr [0,1,2,3,4] [] hx Ax Ak ?_ ?_
    ·simp only [LY,seval]
    ·simp only [BQ,dg,LY,seval]
theorem PO (q:Nat) (qs:Nat→Dg) (okB:OkB M) (ok:OkR M) (p:Pr) (met:Bool) (l:List (Dg × Pr)) (hl:l.length < 4294967296) (hk:Gq l (CE p)=l.length) :
 Af M 219 [.ptr 0 [],At p] (Cu q qs l met) 4 (Q3 (dg (CE p)) (Jx q qs (l ++ [(CE p,p)]) met) 6):=by
 have hS:Af M 311 [.lst 1 64 (fun j=>B (p.at j))] [] 0 (Q3 (dg (CE p)) [] 0):=CC okB p.at
 generalize CE p=D at *
 have hI:=Ee q ok D l.length (rh l) met hl (Gq l D) (Dy l D) (Ip l D) (F1 l D)
 simp only [if_pos hk] at hI
 refine Ac ok.k219 rfl fun x hx=>?_
 refine es 2000 ?_;(simp only [QT,TG,At,Cu,BQ,LZ,seval])
 refine Ah (hS) ?_
 (simp only [dg,LZ,seval])
 have zz:=aq2 @BQ.eq_1 @dg.eq_1;refine JO [0,1,2,3] [0,1] (hI) ?_
 (simp only [BQ,Fq,LZ,seval])
 repeat refine sd ?_
 refine Aq.mk hx [0,1,2,3,468,820] [] (dg D) (Jx q qs (l ++ [(D,p)]) met) 6 Ak (by simp only [Fk,dg,seval]) (by simp only [IT,dg,seval]) ?_ ⟨rfl,rfl,rfl⟩
 simp only [Jx,BQ,Fq,Lc4,Nat.zero_add,CF,seval]
 refine ⟨fun i hi=>?_,fun i hi=>?_⟩
 ·rw [Yg _ _ _ _ hi]
  by_cases h:i < l.length
  ·rw [if_pos h,if_pos h];simp only [LY,seval]
  ·rw [if_neg h,if_neg h,if_pos Aa];simp only [LY,seval]
 ·rw [VH _ _ _ _ hi]
  by_cases h:i < l.length
  ·rw [if_pos h,if_pos h];simp only [LY,seval]
  ·rw [if_neg h,if_neg h,if_pos Aa];simp only [LY,seval]
theorem PV (q:Nat) (qs:Nat→Dg) (okB:OkB M) (ok:OkR M) (p:Pr) (met:Bool) (l:List (Dg × Pr)) (hl:l.length < 4294967296) (hk:¬ Gq l (CE p)=l.length) :
 Af M 219 [.ptr 0 [],At p] (Cu q qs l met) 4 (Q3 (dg (CE p)) (Cu q qs (P4 l p) (Xk l met p)) 4):=by
 have hS:Af M 311 [.lst 1 64 (fun j=>B (p.at j))] [] 0 (Q3 (dg (CE p)) [] 0):=CC okB p.at
 rw [P4,Xk]
 generalize CE p=D at *
 have hI:=Ee q ok D l.length (rh l) met hl (Gq l D) (Dy l D) (Ip l D) (F1 l D)
 have hle:=Dy l D
 have hhi:=(F1 l D).resolve_left hk
 generalize Gq l D=k at *
 simp only [if_neg hk] at hI
 have h0:((k:Int) < 0)=False:=eq_false Aa
 refine Ac ok.k219 rfl fun x hx=>?_
 refine es 2000 ?_;(simp only [QT,TG,Cu,BQ,BA,seval])
 have zz:=@At.eq_1;refine CI (hS) ?_
 (simp only [dg,BA,seval])
 have zz:=aq2 @BQ.eq_1 @dg.eq_1;refine JO [0,1,2,3] [0,1] (hI) ?_
 by_cases hp:rp l k=p
 all_goals
  (simp only [BQ,dg,hk,h0,hp,BA,seval])
  repeat refine sd ?_
 ·refine Aq.mk hx [0,1,2,3] [] (dg D) (Cu q qs (l.set k (D,p)) met) 4 Ak (by simp only [Fk,dg,seval]) (by simp only [IT,dg,seval]) ?_ ⟨rfl,rfl,rfl⟩
  simp only [Cu,BQ,dg,List.length_set,Na _ _ _ _ hhi,CF,seval]
  intro i hi
  rw [Ng _ _ _ _ _ hi]
  by_cases h:i=k
  ·rw [if_pos h,h,hp]
  ·rw [if_neg h]
 ·refine Aq.mk hx [0,1,2,3] [] (dg D) (Cu q qs (l.set k (D,p)) true) 4 Ak (by simp only [Fk,dg,seval]) (by simp only [IT,dg,seval]) ?_ ⟨rfl,rfl,rfl⟩
  simp only [Cu,BQ,dg,List.length_set,Na _ _ _ _ hhi,CF,seval]
  intro i hi
  rw [Ng _ _ _ _ _ hi]
  by_cases h:i=k
  ·rw [if_pos h,if_pos h]
   simp only [C6]
  ·rw [if_neg h,if_neg h]
   simp only [C6]
def Ol (l:List (Dg × Pr)) (d:Dg):V:=Ao (At (if Gq l d=l.length then Pr.zero else rp l (Gq l d))) (.int .i64 (if Gq l d=l.length then 14 else 0))
def Ov (q:Nat) (qs:Nat→Dg) (l:List (Dg × Pr)) (met:Bool):Hp:=[(0,Aar q (.sl 1 [] 0 l.length 32) (.sl 2 [] 0 l.length 64) met),(1,.ar 32 l.length fun i=>dg (rh l i)),(2,.ar 64 l.length fun i=>At (rp l i)),(4,.ar 32 q fun i=>dg (qs i))]
def Vm:=(aq4 @Fq @Z2 @Ov.eq_1 @Aar.eq_1)
structure OkRG (M:Seat):Prop where
 r:OkR M
 k345:Al M 345 Aaw=true
theorem R1 (ok:OkRG M) (d:Dg) (met:Bool) (l:List (Dg × Pr)) (hl:l.length < 4294967296) :
 Af M 345 [.ptr 0 [],dg d] (GT l met) 3 (Q3 (Ol l d) (Cu 1 (fun _=>d) l met) 4):=by
 have hI:=Ee 1 ok.r d l.length (rh l) met hl (Gq l d) (Dy l d) (Ip l d) (F1 l d)
 have hle:=Dy l d
 unfold Ol
 generalize Gq l d=k at *
 by_cases hk:k=l.length
 all_goals
  simp only [hk,CD] at hI
  simp only [hk,CD]
  have h0:((k:Int) < 0)=False:=eq_false Aa
  have hq:k=l.length ∨ k < l.length:=Aa
  refine Ac ok.k345 rfl fun x hx=>?_
  refine es 2000 ?_;(simp only [Aaw,Af3,GT,BJ,BA,seval])
  refine AZ ?_
  refine es 2000 ?_
  (simp only [BA,seval])
  have zz:=aq2 @BQ.eq_1 Ft;refine JO [0,1,2,499] [0,1] (hI) ?_
  (simp only [BQ,BJ,Fq,BA,hk,h0,seval])
  repeat refine sd ?_
 ·refine Aq.mk hx [0,1,2,499] [] (Ao (At Pr.zero) (.int .i64 14)) (Cu 1 (fun _=>d) l met) 4 Ak (by simp only [Fk,Fq,seval]) (by simp only [LV,OS,Cb,IY,seval,LY]) ?_ ⟨rfl,rfl,rfl⟩
  all_goals simp only [Cu,BQ,OS,Ao,IY,LM,CF,seval]
  intro i hi
  obtain rfl:i=0:=Aa
  simp only [if_true,LY,seval]
 ·refine Aq.mk hx [0,1,2,499] [] (Ao (At (rp l k)) (.int .i64 0)) (Cu 1 (fun _=>d) l met) 4 Ak (by simp only [Fk,Fq,seval]) (by simp only [LV,OS,Cb,IY,seval,LY]) ?_ ⟨rfl,rfl,rfl⟩
  all_goals simp only [Cu,BQ,OS,Ao,IY,LM,CF,seval]
  intro i hi
  obtain rfl:i=0:=Aa
  simp only [if_true,LY,seval]
def Zj (qs:Nat→Dg) (d:Dg):Nat→Bool
 | 0=>false
 | i + 1=>Zj qs d i || decide (qs i=d)
theorem RI (ok:OkRG M) (q:Nat) (hq':q < 4294967296) (qs:Nat→Dg) (d:Dg) (met:Bool) (l:List (Dg × Pr)) (hl:l.length < 4294967296) :
 Af M 345 [.ptr 0 [],dg d] (Cu q qs l met) 4 (Q3 (Ol l d) (if Zj qs d q=true then Cu q qs l met else Ov (q + 1) (fun i=>if i < q then qs i else d) l met) (if Zj qs d q=true then 4 else 5)):=by
 have hI:=fun q=>Ee q ok.r d l.length (rh l) met hl (Gq l d) (Dy l d) (Ip l d) (F1 l d)
 have hle:=Dy l d
 unfold Ol
 generalize Gq l d=k at *
 refine Ac ok.k345 rfl fun x hx=>?_
 refine es 2000 ?_;(simp only [Aaw,Af3,Cu,BQ,BA,seval])
 refine Ag (σ:=Nat) (fun i=>i≤q) (fun i=>fr 55 [(0,.ptr 0 []),(3,.ptr 4 []),(4,.ptr 5 []),(5,.int .i64 0),(6,.bool (Zj qs d i)),(7,.int .i64 i)])
  (fun i=>[(0,BQ q (.sl 1 [] 0 l.length 32) (.sl 2 [] 0 l.length 64) met),(1,.ar 32 l.length fun i=>dg (rh l i)),(2,.ar 64 l.length fun i=>At (rp l i)),(3,.ar 32 q fun i=>dg (qs i)),(4,dg d),(5,At Pr.zero)]) (fun _=>6) (fun i=>q - i) 0 Aa ?_ ?_
 ·refine Aj.fr [0,1,2,3,4,20] [] hx Ax Ak ?_ ?_
  ·simp only [Zj,LY,seval]
  ·simp only [BQ,OS,LM,LY,seval]
 ·intro i hi
  refine es 2000 ?_
  by_cases hin:i=q
  ·subst hin
   have d0:((i:Int) < (i:Int))=False:=eq_false Aa
   by_cases hf:Zj qs d i=true <;> by_cases hk:k=l.length
   all_goals
    simp only [hk,CD] at hI
    have h0:((k:Int) < 0)=False:=eq_false Aa
    (simp only [BQ,d0,hf,BA,seval])
    repeat refine sd ?_
    (first | ((have zz:=aq2 @BQ.eq_1 @dg.eq_1;refine JO [0,1,2,3] [0,1] (hI i) ?_)) | ((have zz:=aq2 @BQ.eq_1 @dg.eq_1;refine JO [0,1,2,422] [0,1] (hI (i + 1)) ?_)))
    (simp only [BQ,Fq,hk,h0,BA,seval])
    repeat refine sd ?_
   ·refine Aq.mk hx [0,1,2,3] [] (Ao (At Pr.zero) (.int .i64 14)) (Cu i qs l met) 4 Ak (by simp only [Fk,Fq,seval]) (by simp only [LV,OS,Cb,IY,seval,LY]) ?_ ⟨rfl,rfl,rfl⟩
    all_goals simp only [hk,CD,Cu,BQ,OS,Ao,IY,LM,CF,seval]
   ·refine Aq.mk hx [0,1,2,3] [] (Ao (At (rp l k)) (.int .i64 0)) (Cu i qs l met) 4 Ak (by simp only [Fk,Fq,seval]) (by simp only [LV,OS,Cb,IY,seval,LY]) ?_ ⟨rfl,rfl,rfl⟩
    all_goals simp only [hk,CD,Cu,BQ,OS,Ao,IY,LM,CF,seval]
   ·refine Aq.mk hx [0,1,2,3,422] [] (Ao (At Pr.zero) (.int .i64 14)) (Ov (i + 1) (fun j=>if j < i then qs j else d) l met) 5 Ak (by simp only [Fk,Fq,seval]) (by simp only [LV,OS,Cb,IY,seval,LY]) ?_ ⟨rfl,rfl,rfl⟩
    all_goals simp only [hk,CD,Ov,Aar,OS,Ao,IY,LM,CF,seval]
    intro j hj
    by_cases h:j < i
    ·simp only [if_pos h,LY,seval]
    ·simp only [if_neg h,if_pos (show j - i=0 by omega),LY,seval]
   ·refine Aq.mk hx [0,1,2,3,422] [] (Ao (At (rp l k)) (.int .i64 0)) (Ov (i + 1) (fun j=>if j < i then qs j else d) l met) 5 Ak (by simp only [Fk,Fq,seval]) (by simp only [LV,OS,Cb,IY,seval,LY]) ?_ ⟨rfl,rfl,rfl⟩
    all_goals simp only [hk,CD,Ov,Aar,OS,Ao,IY,LM,CF,seval]
    intro j hj
    by_cases h:j < i
    ·simp only [if_pos h,LY,seval]
    ·simp only [if_neg h,if_pos (show j - i=0 by omega),LY,seval]
  ·have d0:((i:Int) < (q:Int))=True:=eq_true Aa
   have w0:IntKind.i64.wrap ((i:Int) + 1)=((i + 1:Nat):Int):=A9
   cases hf:Zj qs d i <;> by_cases he:qs i=d
   all_goals
    (simp only [BQ,d0,w0,he,BA,seval])
    repeat refine sd ?_
    refine ⟨i + 1,by omega,by omega,?_⟩
    refine Aj.fr [0,1,2,3,4,5] [] hx Ax Ak ?_ ?_
    ·simp only [Zj,hf,he,decide_true,decide_false,Bool.or_true,Bool.or_false,Bool.true_or,LY,seval]
    ·simp only [BQ,Fq,LM,LY,seval]
theorem Alu (a n:BitVec 64) (hn:n=4#64 ∨ n=8#64):wi a n=(decide (a < 8192#64) && decide (a + n≤8192#64)):=by
 have h:=a.isLt
 rw [Bool.eq_iff_iff]
 simp only [wi,Bool.and_eq_true,decide_eq_true_eq,BitVec.le_def,BitVec.lt_def,BitVec.toNat_add,BitVec.toNat_sub]
 rcases hn with rfl | rfl
 all_goals simp only [show (8192#64).toNat=8192 from rfl,show (4#64).toNat=4 from rfl,show (8#64).toNat=8 from rfl];omega
theorem AW {M:Seat} (ok:OkRM M) (a n:BitVec 64) (hn:n=4#64 ∨ n=8#64):Af M 343 [W a,W n] [] 0 (Q3 (.bool (wi a n)) [] 0):=by
 rw [Alu a n hn]
 refine Ac ok.k343 rfl fun x hx=>?_
 by_cases h1:a < 8192#64 <;> by_cases h2:a + n≤8192#64
 all_goals
  simp only [h1,h2,decide_true,decide_false,Bool.and_true,Bool.and_false]
  refine es 2000 ?_;(simp only [Ahm,Ama,h1,h2,LZ,seval])
  exact Aq.mkZ hx [] ⟨rfl,rfl,rfl⟩
theorem Br {M:Seat} (ok:OkRM M) (n:Nat) (hn:8≤n) (v:Nat→BitVec 64):Af M 344 [.lst 1 n (fun j=>W (v j))] [] 0 (Q3 (At (Pr.mk' (A6 v))) [] 0):=by
 refine Ac ok.k344 rfl fun x hx=>?_
 refine es 2000 ?_;(simp only [Ahl,Ak7,LZ,seval])
 refine Ag (σ:=Nat) (fun i=>i≤64) (fun i=>fr 24 [(0,.lst 1 n (fun j=>W (v j))),(2,.ptr 0 []),(3,.ptr 1 []),(4,.int .i64 i)])
  (fun i=>[(0,.ar 1 64 fun _=>B 0#8),(1,.ar 1 64 fun j=>B (if j < i then A6 v j else 0#8))]) (fun _=>2) (fun i=>64 - i) 0 Aa ?_ ?_
 ·refine Aj.fr [0,16] [] hx Ax Ak ?_ ?_
  ·simp only [LY,seval]
  ·simp only [LY,seval]
   intro j hj
   simp only [if_neg (show ¬ j < 0 by omega),LY,seval]
 ·intro i hi
  refine es 2000 ?_
  by_cases h4:i=64
  ·subst h4
   have d0:(((64:Nat):Int) < 64)=False:=eq_false Aa
   (simp only [d0,Lbp,seval])
   refine Aq.mk hx [] [] (At (Pr.mk' (A6 v))) [] 0 Ak (by simp only [Fk,At,seval]) ?_ trivial ⟨rfl,rfl,rfl⟩
   simp only [IT,At,seval]
   intro j hj
   rw [if_pos Aa,Pr.at_mk' _ _ hj]
  ·have d0:((i:Int) < 64)=True:=eq_true Aa
   have w0:IntKind.i64.wrap ((i:Int) + 1)=((i + 1:Nat):Int):=A9
   have q8:IntKind.i64.wrap ((i:Int).tdiv 8)=((i / 8:Nat):Int):=Z1
   have s8:IntKind.i64.wrap (56 - IntKind.i64.wrap (8 * (i:Int).tmod 8))=((56 - 8 * (i % 8):Nat):Int):=by
    have e8:IntKind.i64.wrap (8 * ((i:Int) % 8))=8 * ((i:Int) % 8):=AI Aa
    rw [Int.tmod_eq_emod_of_nonneg Aa,e8,AI Aa];omega
   have s9:(BitVec.ofInt 64 ((56 - 8 * (i % 8):Nat):Int)).toNat=56 - 8 * (i % 8):=by
    rw [BitVec.ofInt_natCast,BitVec.toNat_ofNat,Nat.mod_eq_of_lt Aa]
   (simp only [d0,w0,q8,s8,s9,LZ,seval])
   repeat refine sd ?_
   refine ⟨i + 1,by omega,by omega,?_⟩
   refine Aj.fr [0,1] [] hx Ax Ak ?_ ?_
   ·simp only [LY,seval]
   ·simp only [At,LY,seval]
    intro j hj
    by_cases h1:j=i
    ·subst h1
     rw [if_pos rfl,if_pos Aa]
     simp only [A6,V7,LY,seval]
    ·rw [if_neg h1]
     by_cases h2:j < i
     ·rw [if_pos h2,if_pos Aa];simp only [LY,seval]
     ·rw [if_neg h2,if_neg Aa];simp only [LY,seval]
def Aro:LC:=(sr [A1 4 (.mv (.c (.bool false)))] (sr [mt 5 0,
  aU 6 .lss 5 8192,mt 7 6,mg 8 7 true 0,mg 9 7 true 1,A2 10 7 true (.ari .add (.t 8) (.t 9)),A2 11 7 true (.ari .leq (.t 10) (cU 8192)),
  pKf 12 7 11,mt 4 12] .ret))
def Arn:LF:=⟨Aro,2,0,13,[.tmp 4]⟩
variable {M:Seat}
theorem Asj (ok:OkW2 M) (i:Nat) (v:Dg) (p:List Dg) (hp:p.length≤16) (hi:i < 2 ^ p.length) :
 Af M 65 [.int .i64 i,dg v,row p] [] 0 (Q3 (Ao (dg (BZ i v p p.length)) (.int .i64 0)) [] 0):=by
 refine Ac ok.k65 rfl fun x hx=>?_
 have h16:(2:Nat) ^ p.length≤2 ^ 16:=Nat.pow_le_pow_right Aa hp
 have hi':i < 65536:=Aa
 have e0:((16:Int) < (p.length:Int))=False:=eq_false Aa
 have e1:((i:Int) < 0)=False:=eq_false Aa
 have e2:(BitVec.ofInt 64 (p.length:Int)).toNat=p.length:=by rw [R2 _ Aa Aa];rfl
 have e3:IntKind.i64.wrap (1 * 2 ^ min p.length 64)=((2 ^ p.length:Nat):Int):=by
  rw [Nat.min_eq_left Aa,Int.one_mul,Aes,AI Aa]
 have e4:(((2 ^ p.length:Nat):Int)≤(i:Int))=False:=eq_false Aa
 refine es 2000 ?_;(simp only [f65,c65,row,e0,e1,e2,e3,e4,LZ,seval])
 refine Ag (σ:=Nat) (fun q=>q≤p.length) (fun q=>fr 50 [(0,.int .i64 i),(2,.lst 32 p.length (Gc p)),(4,.ptr 0 []),(6,.ptr 1 []),(8,.int .i64 q)])
  (fun q=>[(0,dg (BZ i v p q)),(1,dg Dg.zero)]) (fun _=>2) (fun q=>p.length - q) 0 Aa ?_ ?_
 ·refine Aj.fr [0,16] [] hx Ax Ak ?_ ?_
  ·simp only [LY,seval]
  ·simp only [BZ,dg,LY,seval]
 ·intro q hq
  refine es 2000 ?_
  by_cases h13:q=p.length
  ·subst h13
   have d0:((p.length:Int) < (p.length:Int))=False:=eq_false Aa
   (simp only [d0,LZ,seval])
   refine Aq.mk hx [] [] (Ao (dg (BZ i v p p.length)) (.int .i64 0)) [] 0 Ak (by (simp only [Fk,seval])) (by (try simp only [IT,seval]) <;> exact q2) trivial ⟨rfl,rfl,rfl⟩
  ·have d0:((q:Int) < (p.length:Int))=True:=eq_true Aa
   have f0:(i:Int).fdiv (2 ^ min q 64)=((i / 2 ^ q:Nat):Int):=by rw [Nat.min_eq_left Aa];exact Atg i q
   have f1:(BitVec.ofInt 64 (q:Int)).toNat=q:=by rw [R2 _ Aa Aa];rfl
   have f2:((i / 2 ^ q:Nat):Int).tmod 2=((i / 2 ^ q % 2:Nat):Int):=Atq _ 2
   have w0:IntKind.i64.wrap ((q:Int) + 1)=((q + 1:Nat):Int):=A9
   by_cases h2:i / 2 ^ q % 2=0
   ·have d1:(((i / 2 ^ q % 2:Nat):Int)=0)=True:=eq_true Aa
    (simp only [d0,f0,f1,f2,d1,LZ,seval])
    repeat refine sd ?_
    refine BI (Oe ok.b (BZ i v p q) (p.getD q Dg.zero)) ?_
    (simp only [w0,LZ,seval])
    repeat refine sd ?_
    refine ⟨q + 1,by omega,by omega,?_⟩
    refine Aj.fr [0,1] [] hx Ax Ak ?_ ?_
    ·simp only [LY,seval]
    ·simp only [LY,seval]
     rw [BZ,if_pos h2]
   ·have d1:(((i / 2 ^ q % 2:Nat):Int)=0)=False:=eq_false Aa
    (simp only [d0,f0,f1,f2,d1,LZ,seval])
    repeat refine sd ?_
    refine BI (Oe ok.b (p.getD q Dg.zero) (BZ i v p q)) ?_
    (simp only [w0,LZ,seval])
    repeat refine sd ?_
    refine ⟨q + 1,by omega,by omega,?_⟩
    refine Aj.fr [0,1] [] hx Ax Ak ?_ ?_
    ·simp only [LY,seval]
    ·simp only [LY,seval]
     rw [BZ,if_neg h2]
structure OkRS (M:Seat):Prop where
 w:OkW2 M
 r:OkRM M
 k243:Al M 243 Arn=true
 k349:Al M 349 Ar3=true
 k449:Al M 449 At1=true
 k450:Al M 450 Att=true
 k451:Al M 451 Atv=true
theorem Ar0 (ok:OkRS M) (a n:BitVec 64) (hn:n=4#64 ∨ n=8#64):Af M 243 [W a,W n] [] 0 (Q3 (.bool (wi a n)) [] 0):=by
 rw [Alu a n hn]
 refine Ac ok.k243 rfl fun x hx=>?_
 by_cases h1:a < 8192#64 <;> by_cases h2:a + n≤8192#64
 all_goals
  simp only [h1,h2,decide_true,decide_false,Bool.and_true,Bool.and_false]
  refine es 2000 ?_;(simp only [Arn,Aro,h1,h2,LZ,seval])
  exact Aq.mkZ hx [] ⟨rfl,rfl,rfl⟩
def ckD (c:Ck):V:=.st 34 (.fcons 0 (dg c.root) (.fcons 32 (.lst 2 c.l.length (Dz c.l)) (.fcons 33 (.int .i64 0) .fnil)))
theorem Ar1 (ok:OkRS M) (pc:BitVec 64) (hl:Bool) (xt e:BitVec 64) :
 Af M 449 [hdR (.sl 0 [] 0 16 1) pc hl xt,W e] [] 1 (Q3 (hdR (.sl 0 [] 0 16 1) pc true e) [] 1):=by
 refine Ac ok.k449 rfl fun x hx=>?_
 refine es 2000 ?_;(simp only [At1,At2,hdR,LZ,seval])
 have zz:=@hdR.eq_1;exact Bg hx [0] ⟨rfl,rfl,rfl⟩
theorem Ar8 (ok:OkRS M) (root:Dg) (p:Pf) (l:List Pf) (pre:Pr) (a v:BitVec 64) (ha:¬ 8192#64≤a) (hp:p.p.length=13) (hf:BZ a.toNat (B5 p.v) p.p 13=root) (b:Bool) :
 Af M 451 [.ptr 0 [],W a,W v,.bool b] [(0,ckD ⟨root,p :: l,pre⟩)] 1 (Q3 (W p.v) [(0,ckD ⟨if b then BZ a.toNat (B5 v) p.p 13 else root,l,pre⟩)] 1):=by
 refine Ac ok.k451 rfl fun x hx=>?_
 have e0:(((l.length + 1:Nat):Int)=0)=False:=eq_false Aa
 have e1:Dz (p :: l) 0=Ir p:=rfl
 have e2:l.length + 1 - 1=l.length:=rfl
 have e3:∀ i,Dz (p :: l) (1 + i)=Dz l i:=fun i=>by rw [Nat.add_comm];rfl
 have ha':=Ql a ha
 have w0:a.toInt=(a.toNat:Int):=BitVec.toInt_eq_toNat_of_lt Aa
 have hF:=fun u=>Asj ok.w a.toNat (B5 u) p.p Aa (by rw [hp];omega)
 simp only [hp,row] at hF
 have hF1:=hF p.v
 rw [hf] at hF1
 refine es 2000 ?_;(simp only [Atv,At0,ckD,List.length_cons,e0,e1,e2,e3,Tg hp,LZ,seval])
 repeat refine sd ?_
 refine BI (Ar6 ok.w p.v) ?_
 (simp only [w0,LZ,seval])
 have zz:=aq2 @Gc.eq_1 @dg.eq_1;refine Gy (hF1) ?_
 (simp only [Cb,seval])
 cases b with
 | false =>
   (simp only [LZ,seval])
   have zz:=aq2 Jl @Gc.eq_1;exact Bg hx [0] ⟨rfl,rfl,rfl⟩
 | true =>
   (simp only [LZ,seval])
   refine BI (Ar6 ok.w v) ?_
   (simp only [w0,LZ,seval])
   have zz:=aq2 @Gc.eq_1 @dg.eq_1;refine Gy (hF v) ?_
   (simp only [Cb,seval])
   have zz:=aq2 Jl @Gc.eq_1;exact Bg hx [0] ⟨rfl,rfl,rfl⟩
theorem Asx (ok:OkRS M) (root:Dg) (p:Pf) (l:List Pf) (pre:Pr) (a:BitVec 64) (ha:¬ 8192#64≤a) (hp:p.p.length=13) (hf:BZ a.toNat (B5 p.v) p.p 13=root) :
 Af M 450 [.ptr 0 [],W a] [(0,ckD ⟨root,p :: l,pre⟩)] 1 (Q3 (W p.v) [(0,ckD ⟨root,l,pre⟩)] 1):=by
 refine Ac ok.k450 rfl fun x hx=>?_
 have h:=Ar8 ok root p l pre a 0#64 ha hp hf false
 simp only [TJ] at h
 refine es 2000 ?_;(simp only [Att,At5,LZ,seval])
 have zz:=aq3 @ckD.eq_1 @dg.eq_1 @Ca;refine IJ [0] [0] (h) ?_
 (simp only [ckD,H3,BA,seval])
 have zz:=aq2 @Ca @dg.eq_1;exact Bg hx [0] ⟨rfl,rfl,rfl⟩
variable {M:Seat}
def dsH (c:Ck) (g:Nat→BitVec 64):Hp:=[(0,ckD c),(1,.ar 1 16 fun j=>W (g j))]
abbrev hdS (pc:BitVec 64) (hl:Bool) (xt:BitVec 64):V:=hdR (.sl 1 [] 0 16 1) pc hl xt
abbrev RdR (M:Seat) (c:Ck) (a w:BitVec 64) (c1:Ck):Prop:=Af M 450 [.ptr 0 [],W a] [(0,ckD c)] 1 (Q3 (W w) [(0,ckD c1)] 1)
abbrev WrR (M:Seat) (c:Ck) (a v w:BitVec 64) (c1:Ck):Prop:=Af M 451 [.ptr 0 [],W a,W v,.bool true] [(0,ckD c)] 1 (Q3 (W w) [(0,ckD c1)] 1)
abbrev DsR (M:Seat) (g:Nat→BitVec 64) (pc:BitVec 64) (hl:Bool) (xt:BitVec 64) (pre:Pr) (c:Ck) (g1:Nat→BitVec 64) (pc1:BitVec 64) (hl1:Bool) (xt1:BitVec 64) (c1:Ck):Prop :=
 Af M 349 [.ptr 0 [],hdS pc hl xt,At pre] (dsH c g) 2 (Q3 (hdS pc1 hl1 xt1) (dsH c1 g1) 2)
theorem Ata (ok:OkRS M) (g:Nat→BitVec 64) (pc xt:BitVec 64) (pre:Pr) (c:Ck):DsR M g pc true xt pre c g pc true xt c:=by
 refine Ac ok.k349 rfl fun x hx=>?_
 refine es 2000 ?_;(simp only [Ar3,Ar4,hdR,At,dsH,LZ,seval])
 have zz:=aq4 @hdR.eq_1 @ckD.eq_1 @Ca @dg.eq_1;exact Bg hx [0,1] ⟨rfl,rfl,rfl⟩
theorem As4 (ok:OkRS M) (g:Nat→BitVec 64) (pc xt:BitVec 64) (pre:Pr) (c:Ck) (hpc:8192#64≤pc):DsR M g pc false xt pre c g pc true Ap c:=by
 refine Ac ok.k349 rfl fun x hx=>?_
 refine es 2000 ?_;(simp only [Ar3,Ar4,hdR,At,dsH,eq_true hpc,LZ,seval])
 have zz:=@hdR.eq_1;refine JO [1] [] (Ar1 ok pc false xt Ap) ?_
 (simp only [hdR,LZ,seval])
 have zz:=aq4 @hdR.eq_1 @ckD.eq_1 @Ca @dg.eq_1;exact Bg hx [0,1] ⟨rfl,rfl,rfl⟩
theorem As7 (ok:OkRS M) (g:Nat→BitVec 64) (pc xt:BitVec 64) (pre:Pr) (c:Ck) (hpc:¬ 8192#64≤pc) (c1:Ck) (w:BitVec 64) (hR:RdR M c pc w c1) (h:Co w=false):DsR M g pc false xt pre c g pc true Ap c1:=by
 refine Ac ok.k349 rfl fun x hx=>?_
 refine es 2000 ?_;(simp only [Ar3,Ar4,hdR,At,dsH,hpc,LZ,seval])
 have zz:=aq3 @ckD.eq_1 @dg.eq_1 Mt;refine IJ [0] [0] (hR) ?_
 (simp only [ckD,H3,BA,seval])
 have zz:=@BD.eq_1;refine El (Jq ok.r.rp w h) ?_
 (simp only [BD,LZ,seval])
 have zz:=@hdR.eq_1;refine JO [1] [] (Ar1 ok pc false xt Ap) ?_
 (simp only [hdR,LZ,seval])
 have zz:=aq4 @hdR.eq_1 @ckD.eq_1 @Ca @dg.eq_1;exact Bg hx [0,1] ⟨rfl,rfl,rfl⟩
theorem Asy (ok:OkRS M) (g:Nat→BitVec 64) (pc xt:BitVec 64) (pre:Pr) (c:Ck) (hpc:¬ 8192#64≤pc) (c1:Ck) (w:BitVec 64) (hR:RdR M c pc w c1) (h:Co w=true) (hop:AT w=0):DsR M g pc false xt pre c g pc true (g (pF w 48)) c1:=by
 refine Ac ok.k349 rfl fun x hx=>?_
 have a1:=Ai w 52
 have a2:=Ai w 48
 have a3:=Ai w 44
 have a4:=Ai w 40
 refine es 2000 ?_;(simp only [Ar3,Ar4,hdR,At,dsH,hpc,LZ,seval])
 have zz:=aq3 @ckD.eq_1 @dg.eq_1 Mt;refine IJ [0] [0] (hR) ?_
 (simp only [ckD,H3,BA,seval])
 have zz:=Im;refine El (As ok.r.rp w h) ?_
 (simp only [Im,Al4,ckD,dg,hop,LZ,seval])
 repeat refine sd ?_
 have zz:=@hdR.eq_1;refine JO [1] [] (Ar1 ok pc false xt (g (pF w 48))) ?_
 (simp only [hdR,LZ,seval])
 have zz:=aq5 @hdR.eq_1 @ckD.eq_1 @Ca @dg.eq_1 Og;exact Bg hx [0,1] ⟨rfl,rfl,rfl⟩
theorem Aso (ok:OkRS M) (g:Nat→BitVec 64) (pc xt:BitVec 64) (pre:Pr) (c:Ck) (hpc:¬ 8192#64≤pc) (c1:Ck) (w:BitVec 64) (hR:RdR M c pc w c1) (h:Co w=true) (op:Nat) (h1:1≤op) (h25:op≤25) (hop:AT w=op):DsR M g pc false xt pre c (E9 g (pF w 52) (P1 op (g (pF w 48)) (g (pF w 44)) (g (pF w 40)))) (pc + 1#64) false xt c1:=by
 have hv:=N6 ok.r.x op h1 h25 (g (pF w 48)) (g (pF w 44)) (g (pF w 40))
 refine Ac ok.k349 rfl fun x hx=>?_
 have a1:=Ai w 52
 have a2:=Ai w 48
 have a3:=Ai w 44
 have a4:=Ai w 40
 have d1:((op:Int)=0)=False:=eq_false Aa
 have d2:((op:Int)≤25)=True:=eq_true Aa
 refine es 2000 ?_;(simp only [Ar3,Ar4,hdR,At,dsH,hpc,LZ,seval])
 have zz:=aq3 @ckD.eq_1 @dg.eq_1 Mt;refine IJ [0] [0] (hR) ?_
 (simp only [ckD,H3,BA,seval])
 have zz:=Im;refine El (As ok.r.rp w h) ?_
 (simp only [Im,Al4,ckD,dg,hop,d1,d2,LZ,seval])
 repeat refine sd ?_
 refine BI (hv) ?_
 (simp only [Cb,Im,Al4,ckD,dg,seval])
 repeat refine sd ?_
 have zz:=aq5 @hdR.eq_1 @ckD.eq_1 @Ca @dg.eq_1 Og;exact Bg hx [0,1] ⟨rfl,rfl,rfl⟩
theorem Atc (ok:OkRS M) (g:Nat→BitVec 64) (pc xt:BitVec 64) (pre:Pr) (c:Ck) (hpc:¬ 8192#64≤pc) (c1:Ck) (w:BitVec 64) (hR:RdR M c pc w c1) (h:Co w=true) (hop:AT w=26):DsR M g pc false xt pre c (E9 g (pF w 52) (BitVec.ofInt 64 (pN w))) (pc + 1#64) false xt c1:=by
 refine Ac ok.k349 rfl fun x hx=>?_
 have a1:=Ai w 52
 have a2:=Ai w 48
 have a3:=Ai w 44
 have a4:=Ai w 40
 refine es 2000 ?_;(simp only [Ar3,Ar4,hdR,At,dsH,hpc,LZ,seval])
 have zz:=aq3 @ckD.eq_1 @dg.eq_1 Mt;refine IJ [0] [0] (hR) ?_
 (simp only [ckD,H3,BA,seval])
 have zz:=Im;refine El (As ok.r.rp w h) ?_
 (simp only [Im,Al4,ckD,dg,hop,LZ,seval])
 repeat refine sd ?_
 have zz:=aq5 @hdR.eq_1 @ckD.eq_1 @Ca @dg.eq_1 Og;exact Bg hx [0,1] ⟨rfl,rfl,rfl⟩
theorem Asa (ok:OkRS M) (g:Nat→BitVec 64) (pc xt:BitVec 64) (pre:Pr) (c:Ck) (hpc:¬ 8192#64≤pc) (c1:Ck) (w:BitVec 64) (hR:RdR M c pc w c1) (h:Co w=true) (hop:AT w=27) (hx2:8192#64≤g (pF w 48) + BitVec.ofInt 64 (pN w)):DsR M g pc false xt pre c g pc true Ap c1:=by
 refine Ac ok.k349 rfl fun x hx=>?_
 have a1:=Ai w 52
 have a2:=Ai w 48
 have a3:=Ai w 44
 have a4:=Ai w 40
 refine es 2000 ?_;(simp only [Ar3,Ar4,hdR,At,dsH,hpc,LZ,seval])
 have zz:=aq3 @ckD.eq_1 @dg.eq_1 Mt;refine IJ [0] [0] (hR) ?_
 (simp only [ckD,H3,BA,seval])
 have zz:=Im;refine El (As ok.r.rp w h) ?_
 (simp only [Im,Al4,ckD,dg,hop,eq_true hx2,LZ,seval])
 repeat refine sd ?_
 have zz:=@hdR.eq_1;refine JO [1] [] (Ar1 ok pc false xt Ap) ?_
 (simp only [hdR,LZ,seval])
 have zz:=aq5 @hdR.eq_1 @ckD.eq_1 @Ca @dg.eq_1 Og;exact Bg hx [0,1] ⟨rfl,rfl,rfl⟩
theorem Ar7 (ok:OkRS M) (g:Nat→BitVec 64) (pc xt:BitVec 64) (pre:Pr) (c:Ck) (hpc:¬ 8192#64≤pc) (c1:Ck) (w:BitVec 64) (hR:RdR M c pc w c1) (h:Co w=true) (hop:AT w=28) (hx2:8192#64≤g (pF w 48) + BitVec.ofInt 64 (pN w)):DsR M g pc false xt pre c g pc true Ap c1:=by
 refine Ac ok.k349 rfl fun x hx=>?_
 have a1:=Ai w 52
 have a2:=Ai w 48
 have a3:=Ai w 44
 have a4:=Ai w 40
 refine es 2000 ?_;(simp only [Ar3,Ar4,hdR,At,dsH,hpc,LZ,seval])
 have zz:=aq3 @ckD.eq_1 @dg.eq_1 Mt;refine IJ [0] [0] (hR) ?_
 (simp only [ckD,H3,BA,seval])
 have zz:=Im;refine El (As ok.r.rp w h) ?_
 (simp only [Im,Al4,ckD,dg,hop,eq_true hx2,LZ,seval])
 repeat refine sd ?_
 have zz:=@hdR.eq_1;refine JO [1] [] (Ar1 ok pc false xt Ap) ?_
 (simp only [hdR,LZ,seval])
 have zz:=aq5 @hdR.eq_1 @ckD.eq_1 @Ca @dg.eq_1 Og;exact Bg hx [0,1] ⟨rfl,rfl,rfl⟩
theorem Asv (ok:OkRS M) (g:Nat→BitVec 64) (pc xt:BitVec 64) (pre:Pr) (c:Ck) (hpc:¬ 8192#64≤pc) (c1:Ck) (w:BitVec 64) (hR:RdR M c pc w c1) (h:Co w=true) (hop:AT w=27) (hx2:¬ 8192#64≤g (pF w 48) + BitVec.ofInt 64 (pN w)) (v:BitVec 64) (c2:Ck) (hR2:RdR M c1 (g (pF w 48) + BitVec.ofInt 64 (pN w)) v c2):DsR M g pc false xt pre c (E9 g (pF w 52) v) (pc + 1#64) false xt c2:=by
 refine Ac ok.k349 rfl fun x hx=>?_
 have a1:=Ai w 52
 have a2:=Ai w 48
 have a3:=Ai w 44
 have a4:=Ai w 40
 refine es 2000 ?_;(simp only [Ar3,Ar4,hdR,At,dsH,hpc,LZ,seval])
 have zz:=aq3 @ckD.eq_1 @dg.eq_1 Mt;refine IJ [0] [0] (hR) ?_
 (simp only [ckD,H3,BA,seval])
 have zz:=Im;refine El (As ok.r.rp w h) ?_
 (simp only [Im,Al4,ckD,dg,hop,eq_false hx2,LZ,seval])
 repeat refine sd ?_
 have zz:=aq3 @ckD.eq_1 @dg.eq_1 Mt;refine onY [0] [0] (hR2) ?_
 (simp only [ckD,H3,BA,Im,Al4,seval])
 repeat refine sd ?_
 have zz:=aq5 @hdR.eq_1 @ckD.eq_1 @Ca @dg.eq_1 Og;exact Bg hx [0,1] ⟨rfl,rfl,rfl⟩
theorem Asr (ok:OkRS M) (g:Nat→BitVec 64) (pc xt:BitVec 64) (pre:Pr) (c:Ck) (hpc:¬ 8192#64≤pc) (c1:Ck) (w:BitVec 64) (hR:RdR M c pc w c1) (h:Co w=true) (hop:AT w=28) (hx2:¬ 8192#64≤g (pF w 48) + BitVec.ofInt 64 (pN w)) (v:BitVec 64) (c2:Ck) (hR2:WrR M c1 (g (pF w 48) + BitVec.ofInt 64 (pN w)) (g (pF w 44)) v c2):DsR M g pc false xt pre c g (pc + 1#64) false xt c2:=by
 refine Ac ok.k349 rfl fun x hx=>?_
 have a1:=Ai w 52
 have a2:=Ai w 48
 have a3:=Ai w 44
 have a4:=Ai w 40
 refine es 2000 ?_;(simp only [Ar3,Ar4,hdR,At,dsH,hpc,LZ,seval])
 have zz:=aq3 @ckD.eq_1 @dg.eq_1 Mt;refine IJ [0] [0] (hR) ?_
 (simp only [ckD,H3,BA,seval])
 have zz:=Im;refine El (As ok.r.rp w h) ?_
 (simp only [Im,Al4,ckD,dg,hop,eq_false hx2,LZ,seval])
 repeat refine sd ?_
 have zz:=aq3 @ckD.eq_1 @dg.eq_1 Mt;refine IJ [0] [0] (hR2) ?_
 (simp only [ckD,H3,BA,Im,Al4,seval])
 repeat refine sd ?_
 have zz:=aq5 @hdR.eq_1 @ckD.eq_1 @Ca @dg.eq_1 Og;exact Bg hx [0,1] ⟨rfl,rfl,rfl⟩
end Mv
