/- A part. -/
import Derived.Test.YtncipgmjhaiagaaGreatDoorFM
import Derived.Test.YtncipgmjhaiagaaGreatDoorFP
set_option linter.all false
set_option maxRecDepth 20000
set_option maxHeartbeats 8000000
namespace Mv
open Go
variable {M:Seat}
def BQ (q:Nat) (hs ps:V) (met:Bool):V:=.st 4 (.fcons 0 hs (.fcons 1 ps (.fcons 2 (.sl 3 [] 0 q 32) (.fcons 3 (.bool met) .fnil))))
def Aar (q:Nat) (hs ps:V) (met:Bool):V:=.st 4 (.fcons 0 hs (.fcons 1 ps (.fcons 2 (.sl 4 [] 0 q 32) (.fcons 3 (.bool met) .fnil))))
def Cu (q:Nat) (qs:Nat→Dg) (l:List (Dg × Pr)) (met:Bool):Hp:=[(0,BQ q (.sl 1 [] 0 l.length 32) (.sl 2 [] 0 l.length 64) met),(1,.ar 32 l.length fun i=>dg (rh l i)),(2,.ar 64 l.length fun i=>At (rp l i)),(3,.ar 32 q fun i=>dg (qs i))]
def Z2:=(aq4 @GT.eq_1 @Cu.eq_1 @BQ.eq_1 @BJ.eq_1)
def Jx (q:Nat) (qs:Nat→Dg) (l:List (Dg × Pr)) (met:Bool):Hp:=[(0,BQ q (.sl 4 [] 0 l.length 32) (.sl 5 [] 0 l.length 64) met),(4,.ar 32 l.length fun i=>dg (rh l i)),(5,.ar 64 l.length fun i=>At (rp l i)),(3,.ar 32 q fun i=>dg (qs i))]
theorem Ee (q:Nat) (ok:OkR M) (h:Dg) (n:Nat) (hs:Nat→Dg) (met:Bool) (hn:n < 4294967296) (i0:Nat) (hi0:i0≤n) (hlow:∀ j,j < i0→¬ hs j=h) (hend:i0=n ∨ hs i0=h) :
 Af M 330 [.ptr 0 [],dg h] [(0,BQ q (.sl 1 [] 0 n 32) (.sl 2 [] 0 n 64) met),(1,.ar 32 n fun i=>dg (hs i))] 4 (Q3 (.int .i64 (if i0=n then -1 else (i0:Int))) [(0,BQ q (.sl 1 [] 0 n 32) (.sl 2 [] 0 n 64) met),(1,.ar 32 n fun i=>dg (hs i))] 4):=by
 refine Ac ok.k330 rfl fun x hx=>?_
 refine es 2000 ?_;(simp only [Wj,Aah,BQ,LZ,seval])
 refine Ag (σ:=Nat) (fun i=>i≤i0) (fun i=>fr 25 [(0,.ptr 0 []),(3,.ptr 4 []),(5,.int .i64 i)])
  (fun i=>[(0,BQ q (.sl 1 [] 0 n 32) (.sl 2 [] 0 n 64) met),(1,.ar 32 n fun i=>dg (hs i)),(4,dg h)]) (fun _=>5) (fun i=>i0 - i) 0 Aa ?_ ?_
 ·refine Aj.fr [0,1,2,3,4] [] hx Ax Ak ?_ ?_
  ·simp only [LY,seval]
  ·simp only [BQ,dg,LY,seval]
 ·intro i hi
  refine es 2000 ?_
  by_cases hin:i=n
  ·subst hin
   have e0:i0=i:=Aa
   subst e0
   have d0:((i0:Int) < (i0:Int))=False:=eq_false Aa
   rw [if_pos rfl]
   (simp only [BQ,d0,LZ,seval])
   have zz:=aq2 @BQ.eq_1 @dg.eq_1;exact Bg hx [0,1,2,3] ⟨rfl,rfl,rfl⟩
  ·have d0:((i:Int) < (n:Int))=True:=eq_true Aa
   have w0:IntKind.i64.wrap ((i:Int) + 1)=((i + 1:Nat):Int):=A9
   by_cases hf:hs i=h
   ·have e0:i=i0:=by
     rcases Nat.lt_or_ge i i0 with h1 | h1
     ·exact absurd hf (hlow i h1)
     ·omega
    subst e0
    rw [if_neg hin]
    (simp only [BQ,d0,hf,LZ,seval])
    repeat refine sd ?_
    have zz:=aq2 @BQ.eq_1 @dg.eq_1;exact Bg hx [0,1,2,3] ⟨rfl,rfl,rfl⟩
   ·have hlt:i < i0:=by
     rcases Nat.lt_or_ge i i0 with h1 | h1
     ·exact h1
     ·rcases hend with h2 | h2
      ·omega
      ·exact absurd (by rw [show i=i0 by omega];exact h2) hf
    (simp only [BQ,d0,w0,hf,LZ,seval])
    repeat refine sd ?_
    refine ⟨i + 1,by omega,by omega,?_⟩
    refine Aj.fr [0,1,2,3,4] [] hx Ax Ak ?_ ?_
    ·simp only [LY,seval]
    ·simp only [BQ,dg,LY,seval]
theorem PO (q:Nat) (qs:Nat→Dg) (okB:OkB M) (ok:OkR M) (p:Pr) (met:Bool) (l:List (Dg × Pr)) (hl:l.length < 4294967296) (hk:Gq l (CE p)=l.length) :
 Af M 219 [.ptr 0 [],At p] (Cu q qs l met) 4 (Q3 (dg (CE p)) (Jx q qs (l ++ [(CE p,p)]) met) 6):=by
 have hS:Af M 311 [.lst 1 64 (fun j=>B (p.at j))] [] 0 (Q3 (dg (CE p)) [] 0):=CC okB p.at
 generalize CE p=D at *
 have hI:=Ee q ok D l.length (rh l) met hl (Gq l D) (Dy l D) (Ip l D) (F1 l D)
 simp only [if_pos hk] at hI
 refine Ac ok.k219 rfl fun x hx=>?_
 refine es 2000 ?_;(simp only [QT,TG,At,Cu,BQ,LZ,seval])
 refine Ah (hS) ?_
 (simp only [dg,LZ,seval])
 have zz:=aq2 @BQ.eq_1 @dg.eq_1;refine JO [0,1,2,3] [0,1] (hI) ?_
 (simp only [BQ,Fq,LZ,seval])
 repeat refine sd ?_
 refine Aq.mk hx [0,1,2,3,468,820] [] (dg D) (Jx q qs (l ++ [(D,p)]) met) 6 Ak (by simp only [Fk,dg,seval]) (by simp only [IT,dg,seval]) ?_ ⟨rfl,rfl,rfl⟩
 simp only [Jx,BQ,Fq,Lc4,Nat.zero_add,CF,seval]
 refine ⟨fun i hi=>?_,fun i hi=>?_⟩
 ·rw [Yg _ _ _ _ hi]
  by_cases h:i < l.length
  ·rw [if_pos h,if_pos h];simp only [LY,seval]
  ·rw [if_neg h,if_neg h,if_pos Aa];simp only [LY,seval]
 ·rw [VH _ _ _ _ hi]
  by_cases h:i < l.length
  ·rw [if_pos h,if_pos h];simp only [LY,seval]
  ·rw [if_neg h,if_neg h,if_pos Aa];simp only [LY,seval]
theorem PV (q:Nat) (qs:Nat→Dg) (okB:OkB M) (ok:OkR M) (p:Pr) (met:Bool) (l:List (Dg × Pr)) (hl:l.length < 4294967296) (hk:¬ Gq l (CE p)=l.length) :
 Af M 219 [.ptr 0 [],At p] (Cu q qs l met) 4 (Q3 (dg (CE p)) (Cu q qs (P4 l p) (Xk l met p)) 4):=by
 have hS:Af M 311 [.lst 1 64 (fun j=>B (p.at j))] [] 0 (Q3 (dg (CE p)) [] 0):=CC okB p.at
 rw [P4,Xk]
 generalize CE p=D at *
 have hI:=Ee q ok D l.length (rh l) met hl (Gq l D) (Dy l D) (Ip l D) (F1 l D)
 have hle:=Dy l D
 have hhi:=(F1 l D).resolve_left hk
 generalize Gq l D=k at *
 simp only [if_neg hk] at hI
 have h0:((k:Int) < 0)=False:=eq_false Aa
 refine Ac ok.k219 rfl fun x hx=>?_
 refine es 2000 ?_;(simp only [QT,TG,Cu,BQ,BA,seval])
 have zz:=@At.eq_1;refine CI (hS) ?_
 (simp only [dg,BA,seval])
 have zz:=aq2 @BQ.eq_1 @dg.eq_1;refine JO [0,1,2,3] [0,1] (hI) ?_
 by_cases hp:rp l k=p
 all_goals
  (simp only [BQ,dg,hk,h0,hp,BA,seval])
  repeat refine sd ?_
 ·refine Aq.mk hx [0,1,2,3] [] (dg D) (Cu q qs (l.set k (D,p)) met) 4 Ak (by simp only [Fk,dg,seval]) (by simp only [IT,dg,seval]) ?_ ⟨rfl,rfl,rfl⟩
  simp only [Cu,BQ,dg,List.length_set,Na _ _ _ _ hhi,CF,seval]
  intro i hi
  rw [Ng _ _ _ _ _ hi]
  by_cases h:i=k
  ·rw [if_pos h,h,hp]
  ·rw [if_neg h]
 ·refine Aq.mk hx [0,1,2,3] [] (dg D) (Cu q qs (l.set k (D,p)) true) 4 Ak (by simp only [Fk,dg,seval]) (by simp only [IT,dg,seval]) ?_ ⟨rfl,rfl,rfl⟩
  simp only [Cu,BQ,dg,List.length_set,Na _ _ _ _ hhi,CF,seval]
  intro i hi
  rw [Ng _ _ _ _ _ hi]
  by_cases h:i=k
  ·rw [if_pos h,if_pos h]
   simp only [C6]
  ·rw [if_neg h,if_neg h]
   simp only [C6]
def Ol (l:List (Dg × Pr)) (d:Dg):V:=Ao (At (if Gq l d=l.length then Pr.zero else rp l (Gq l d))) (.int .i64 (if Gq l d=l.length then 14 else 0))
def Ov (q:Nat) (qs:Nat→Dg) (l:List (Dg × Pr)) (met:Bool):Hp:=[(0,Aar q (.sl 1 [] 0 l.length 32) (.sl 2 [] 0 l.length 64) met),(1,.ar 32 l.length fun i=>dg (rh l i)),(2,.ar 64 l.length fun i=>At (rp l i)),(4,.ar 32 q fun i=>dg (qs i))]
def Vm:=(aq4 @Fq @Z2 @Ov.eq_1 @Aar.eq_1)
structure OkRG (M:Seat):Prop where
 r:OkR M
 k345:Al M 345 Aaw=true
theorem R1 (ok:OkRG M) (d:Dg) (met:Bool) (l:List (Dg × Pr)) (hl:l.length < 4294967296) :
 Af M 345 [.ptr 0 [],dg d] (GT l met) 3 (Q3 (Ol l d) (Cu 1 (fun _=>d) l met) 4):=by
 have hI:=Ee 1 ok.r d l.length (rh l) met hl (Gq l d) (Dy l d) (Ip l d) (F1 l d)
 have hle:=Dy l d
 unfold Ol
 generalize Gq l d=k at *
 by_cases hk:k=l.length
 all_goals
  simp only [hk,CD] at hI
  simp only [hk,CD]
  have h0:((k:Int) < 0)=False:=eq_false Aa
  have hq:k=l.length ∨ k < l.length:=Aa
  refine Ac ok.k345 rfl fun x hx=>?_
  refine es 2000 ?_;(simp only [Aaw,Af3,GT,BJ,BA,seval])
  refine AZ ?_
  refine es 2000 ?_
  (simp only [BA,seval])
  have zz:=aq2 @BQ.eq_1 Ft;refine JO [0,1,2,499] [0,1] (hI) ?_
  (simp only [BQ,BJ,Fq,BA,hk,h0,seval])
  repeat refine sd ?_
 ·refine Aq.mk hx [0,1,2,499] [] (Ao (At Pr.zero) (.int .i64 14)) (Cu 1 (fun _=>d) l met) 4 Ak (by simp only [Fk,Fq,seval]) (by simp only [LV,OS,Cb,IY,seval,LY]) ?_ ⟨rfl,rfl,rfl⟩
  all_goals simp only [Cu,BQ,OS,Ao,IY,LM,CF,seval]
  intro i hi
  obtain rfl:i=0:=Aa
  simp only [if_true,LY,seval]
 ·refine Aq.mk hx [0,1,2,499] [] (Ao (At (rp l k)) (.int .i64 0)) (Cu 1 (fun _=>d) l met) 4 Ak (by simp only [Fk,Fq,seval]) (by simp only [LV,OS,Cb,IY,seval,LY]) ?_ ⟨rfl,rfl,rfl⟩
  all_goals simp only [Cu,BQ,OS,Ao,IY,LM,CF,seval]
  intro i hi
  obtain rfl:i=0:=Aa
  simp only [if_true,LY,seval]
def Zj (qs:Nat→Dg) (d:Dg):Nat→Bool
 | 0=>false
 | i + 1=>Zj qs d i || decide (qs i=d)
theorem RI (ok:OkRG M) (q:Nat) (hq':q < 4294967296) (qs:Nat→Dg) (d:Dg) (met:Bool) (l:List (Dg × Pr)) (hl:l.length < 4294967296) :
 Af M 345 [.ptr 0 [],dg d] (Cu q qs l met) 4 (Q3 (Ol l d) (if Zj qs d q=true then Cu q qs l met else Ov (q + 1) (fun i=>if i < q then qs i else d) l met) (if Zj qs d q=true then 4 else 5)):=by
 have hI:=fun q=>Ee q ok.r d l.length (rh l) met hl (Gq l d) (Dy l d) (Ip l d) (F1 l d)
 have hle:=Dy l d
 unfold Ol
 generalize Gq l d=k at *
 refine Ac ok.k345 rfl fun x hx=>?_
 refine es 2000 ?_;(simp only [Aaw,Af3,Cu,BQ,BA,seval])
 refine Ag (σ:=Nat) (fun i=>i≤q) (fun i=>fr 55 [(0,.ptr 0 []),(3,.ptr 4 []),(4,.ptr 5 []),(5,.int .i64 0),(6,.bool (Zj qs d i)),(7,.int .i64 i)])
  (fun i=>[(0,BQ q (.sl 1 [] 0 l.length 32) (.sl 2 [] 0 l.length 64) met),(1,.ar 32 l.length fun i=>dg (rh l i)),(2,.ar 64 l.length fun i=>At (rp l i)),(3,.ar 32 q fun i=>dg (qs i)),(4,dg d),(5,At Pr.zero)]) (fun _=>6) (fun i=>q - i) 0 Aa ?_ ?_
 ·refine Aj.fr [0,1,2,3,4,20] [] hx Ax Ak ?_ ?_
  ·simp only [Zj,LY,seval]
  ·simp only [BQ,OS,LM,LY,seval]
 ·intro i hi
  refine es 2000 ?_
  by_cases hin:i=q
  ·subst hin
   have d0:((i:Int) < (i:Int))=False:=eq_false Aa
   by_cases hf:Zj qs d i=true <;> by_cases hk:k=l.length
   all_goals
    simp only [hk,CD] at hI
    have h0:((k:Int) < 0)=False:=eq_false Aa
    (simp only [BQ,d0,hf,BA,seval])
    repeat refine sd ?_
    (first | ((have zz:=aq2 @BQ.eq_1 @dg.eq_1;refine JO [0,1,2,3] [0,1] (hI i) ?_)) | ((have zz:=aq2 @BQ.eq_1 @dg.eq_1;refine JO [0,1,2,422] [0,1] (hI (i + 1)) ?_)))
    (simp only [BQ,Fq,hk,h0,BA,seval])
    repeat refine sd ?_
   ·refine Aq.mk hx [0,1,2,3] [] (Ao (At Pr.zero) (.int .i64 14)) (Cu i qs l met) 4 Ak (by simp only [Fk,Fq,seval]) (by simp only [LV,OS,Cb,IY,seval,LY]) ?_ ⟨rfl,rfl,rfl⟩
    all_goals simp only [hk,CD,Cu,BQ,OS,Ao,IY,LM,CF,seval]
   ·refine Aq.mk hx [0,1,2,3] [] (Ao (At (rp l k)) (.int .i64 0)) (Cu i qs l met) 4 Ak (by simp only [Fk,Fq,seval]) (by simp only [LV,OS,Cb,IY,seval,LY]) ?_ ⟨rfl,rfl,rfl⟩
    all_goals simp only [hk,CD,Cu,BQ,OS,Ao,IY,LM,CF,seval]
   ·refine Aq.mk hx [0,1,2,3,422] [] (Ao (At Pr.zero) (.int .i64 14)) (Ov (i + 1) (fun j=>if j < i then qs j else d) l met) 5 Ak (by simp only [Fk,Fq,seval]) (by simp only [LV,OS,Cb,IY,seval,LY]) ?_ ⟨rfl,rfl,rfl⟩
    all_goals simp only [hk,CD,Ov,Aar,OS,Ao,IY,LM,CF,seval]
    intro j hj
    by_cases h:j < i
    ·simp only [if_pos h,LY,seval]
    ·simp only [if_neg h,if_pos (show j - i=0 by omega),LY,seval]
   ·refine Aq.mk hx [0,1,2,3,422] [] (Ao (At (rp l k)) (.int .i64 0)) (Ov (i + 1) (fun j=>if j < i then qs j else d) l met) 5 Ak (by simp only [Fk,Fq,seval]) (by simp only [LV,OS,Cb,IY,seval,LY]) ?_ ⟨rfl,rfl,rfl⟩
    all_goals simp only [hk,CD,Ov,Aar,OS,Ao,IY,LM,CF,seval]
    intro j hj
    by_cases h:j < i
    ·simp only [if_pos h,LY,seval]
    ·simp only [if_neg h,if_pos (show j - i=0 by omega),LY,seval]
  ·have d0:((i:Int) < (q:Int))=True:=eq_true Aa
   have w0:IntKind.i64.wrap ((i:Int) + 1)=((i + 1:Nat):Int):=A9
   cases hf:Zj qs d i <;> by_cases he:qs i=d
   all_goals
    (simp only [BQ,d0,w0,he,BA,seval])
    repeat refine sd ?_
    refine ⟨i + 1,by omega,by omega,?_⟩
    refine Aj.fr [0,1,2,3,4,5] [] hx Ax Ak ?_ ?_
    ·simp only [Zj,hf,he,decide_true,decide_false,Bool.or_true,Bool.or_false,Bool.true_or,LY,seval]
    ·simp only [BQ,Fq,LM,LY,seval]
theorem Alu (a n:BitVec 64) (hn:n=4#64 ∨ n=8#64):wi a n=(decide (a < 8192#64) && decide (a + n≤8192#64)):=by
 have h:=a.isLt
 rw [Bool.eq_iff_iff]
 simp only [wi,Bool.and_eq_true,decide_eq_true_eq,BitVec.le_def,BitVec.lt_def,BitVec.toNat_add,BitVec.toNat_sub]
 rcases hn with rfl | rfl
 all_goals simp only [show (8192#64).toNat=8192 from rfl,show (4#64).toNat=4 from rfl,show (8#64).toNat=8 from rfl];omega
theorem AW {M:Seat} (ok:OkRM M) (a n:BitVec 64) (hn:n=4#64 ∨ n=8#64):Af M 343 [W a,W n] [] 0 (Q3 (.bool (wi a n)) [] 0):=by
 rw [Alu a n hn]
 refine Ac ok.k343 rfl fun x hx=>?_
 by_cases h1:a < 8192#64 <;> by_cases h2:a + n≤8192#64
 all_goals
  simp only [h1,h2,decide_true,decide_false,Bool.and_true,Bool.and_false]
  refine es 2000 ?_;(simp only [Ahm,Ama,h1,h2,LZ,seval])
  exact Aq.mkZ hx [] ⟨rfl,rfl,rfl⟩
theorem Br {M:Seat} (ok:OkRM M) (n:Nat) (hn:8≤n) (v:Nat→BitVec 64):Af M 344 [.lst 1 n (fun j=>W (v j))] [] 0 (Q3 (At (Pr.mk' (A6 v))) [] 0):=by
 refine Ac ok.k344 rfl fun x hx=>?_
 refine es 2000 ?_;(simp only [Ahl,Ak7,LZ,seval])
 refine Ag (σ:=Nat) (fun i=>i≤64) (fun i=>fr 24 [(0,.lst 1 n (fun j=>W (v j))),(2,.ptr 0 []),(3,.ptr 1 []),(4,.int .i64 i)])
  (fun i=>[(0,.ar 1 64 fun _=>B 0#8),(1,.ar 1 64 fun j=>B (if j < i then A6 v j else 0#8))]) (fun _=>2) (fun i=>64 - i) 0 Aa ?_ ?_
 ·refine Aj.fr [0,16] [] hx Ax Ak ?_ ?_
  ·simp only [LY,seval]
  ·simp only [LY,seval]
   intro j hj
   simp only [if_neg (show ¬ j < 0 by omega),LY,seval]
 ·intro i hi
  refine es 2000 ?_
  by_cases h4:i=64
  ·subst h4
   have d0:(((64:Nat):Int) < 64)=False:=eq_false Aa
   (simp only [d0,Lbp,seval])
   refine Aq.mk hx [] [] (At (Pr.mk' (A6 v))) [] 0 Ak (by simp only [Fk,At,seval]) ?_ trivial ⟨rfl,rfl,rfl⟩
   simp only [IT,At,seval]
   intro j hj
   rw [if_pos Aa,Pr.at_mk' _ _ hj]
  ·have d0:((i:Int) < 64)=True:=eq_true Aa
   have w0:IntKind.i64.wrap ((i:Int) + 1)=((i + 1:Nat):Int):=A9
   have q8:IntKind.i64.wrap ((i:Int).tdiv 8)=((i / 8:Nat):Int):=Z1
   have s8:IntKind.i64.wrap (56 - IntKind.i64.wrap (8 * (i:Int).tmod 8))=((56 - 8 * (i % 8):Nat):Int):=by
    have e8:IntKind.i64.wrap (8 * ((i:Int) % 8))=8 * ((i:Int) % 8):=AI Aa
    rw [Int.tmod_eq_emod_of_nonneg Aa,e8,AI Aa];omega
   have s9:(BitVec.ofInt 64 ((56 - 8 * (i % 8):Nat):Int)).toNat=56 - 8 * (i % 8):=by
    rw [BitVec.ofInt_natCast,BitVec.toNat_ofNat,Nat.mod_eq_of_lt Aa]
   (simp only [d0,w0,q8,s8,s9,LZ,seval])
   repeat refine sd ?_
   refine ⟨i + 1,by omega,by omega,?_⟩
   refine Aj.fr [0,1] [] hx Ax Ak ?_ ?_
   ·simp only [LY,seval]
   ·simp only [At,LY,seval]
    intro j hj
    by_cases h1:j=i
    ·subst h1
     rw [if_pos rfl,if_pos Aa]
     simp only [A6,V7,LY,seval]
    ·rw [if_neg h1]
     by_cases h2:j < i
     ·rw [if_pos h2,if_pos Aa];simp only [LY,seval]
     ·rw [if_neg h2,if_neg Aa];simp only [LY,seval]
def psh (o:BitVec 64) (p:Nat→BitVec 8):Nat→BitVec 64
 | 0=>o
 | k + 1=>psh o p k * 256#64 + (p k).setWidth 64
theorem Ard (x:BitVec 64) (b:BitVec 8):(x <<< (8#64).toNat) ||| b.setWidth 64=x * 256#64 + b.setWidth 64:=by
 have h1:x * 256#64=x <<< (8#64).toNat:=by
  apply BitVec.eq_of_toNat_eq
  simp [BitVec.toNat_mul,BitVec.toNat_shiftLeft,Nat.shiftLeft_eq]
 rw [h1,BitVec.add_eq_or_of_and_eq_zero]
 ext i hi
 simp only [BitVec.getElem_and,BitVec.getElem_shiftLeft,BitVec.getElem_setWidth,BitVec.getElem_zero,show (8#64).toNat=8 from rfl]
 by_cases h:i < 8
 ·simp [h]
 ·have:b.getLsbD i=false:=BitVec.getLsbD_of_ge b i Aa
  simp [this]
theorem Aq6 (o:BitVec 64) (p:Nat→BitVec 8):∀ k,psh o p k=o * BitVec.ofNat 64 (256 ^ k) + Jp p k
 | 0=>by simp [psh,Jp]
 | k + 1 => by
   rw [psh,Aq6 o p k,Jp,Ard]
   have h:BitVec.ofNat 64 (256 ^ (k + 1))=BitVec.ofNat 64 (256 ^ k) * 256#64:=by
    apply BitVec.eq_of_toNat_eq
    simp [BitVec.toNat_mul,Nat.pow_succ,Nat.mul_mod]
   rw [h,BitVec.add_mul,BitVec.mul_assoc,BitVec.add_assoc]
theorem Arl (o:BitVec 64) (p:Nat→BitVec 8):psh o p 8=Jp p 8:=by
 rw [Aq6]
 have:BitVec.ofNat 64 (256 ^ 8)=0#64:=Ak
 rw [this];simp
def mS (f:Nat→BitVec 64) (b n:Nat) (p:Nat→BitVec 8) (i j:Nat):BitVec 64 :=
 if b≤j∧j < b + n then psh (f j) (fun t=>p (8 * (j - b) + t)) (min 8 (i - 8 * (j - b))) else f j
theorem Fa (f:Nat→BitVec 64) (b n:Nat) (p:Nat→BitVec 8) (j:Nat):mS f b n p 0 j=f j:=by
 unfold mS
 split
 ·rw [show min 8 (0 - 8 * (j - b))=0 by omega];rfl
 ·rfl
theorem EY (f:Nat→BitVec 64) (b n:Nat) (p:Nat→BitVec 8) (i:Nat) (hi:i < 8 * n) (j:Nat) :
 mS f b n p (i + 1) j=if j=b + i / 8 then mS f b n p i (b + i / 8) * 256#64 + (p i).setWidth 64 else mS f b n p i j:=by
 by_cases h:j=b + i / 8
 ·subst h
  rw [if_pos rfl]
  unfold mS
  rw [if_pos Aa,if_pos Aa,show b + i / 8 - b=i / 8 by omega,show min 8 (i + 1 - 8 * (i / 8))=i % 8 + 1 by omega,show min 8 (i - 8 * (i / 8))=i % 8 by omega,psh,show 8 * (i / 8) + i % 8=i by omega]
 ·rw [if_neg h]
  unfold mS
  by_cases h2:b≤j∧j < b + n
  ·rw [if_pos h2,if_pos h2]
   congr 1
   omega
  ·rw [if_neg h2,if_neg h2]
theorem Aq3 (f:Nat→BitVec 64) (b n:Nat) (p:Nat→BitVec 8) (j:Nat):mS f b n p (8 * n) j=if b≤j∧j < b + n then Jp (fun t=>p (8 * (j - b) + t)) 8 else f j:=by
 unfold mS
 by_cases h2:b≤j∧j < b + n
 ·rw [if_pos h2,if_pos h2,show min 8 (8 * n - 8 * (j - b))=8 by omega,Arl]
 ·rw [if_neg h2,if_neg h2]
theorem Nb {M:Seat} (ok:OkRM M) (f g:Nat→BitVec 64) (pc xt:BitVec 64) (hpc:¬ 8192#64≤pc) (w:BitVec 64) (hw:f pc.toNat=w) (hop:AT w=34) (h:Co w=true) (hb:(wi (g (pF w 48)) 8#64 && wi (g (pF w 44)) 4#64)=false) :
 Af M 240 [.ptr 0 [],.ptr 3 []] (Cc f g pc false xt) 4 (Q3 (.tup .fnil) (Cc f g pc true Ap) 4):=by
 refine Ac ok.k240 rfl fun x hx=>?_
 have hp:pc.toNat < 8192:=BM
 have a1:=Ai w 52
 have a2:=Ai w 48
 have a3:=Ai w 44
 cases h1:wi (g (pF w 48)) 8#64 with
 | false =>
   refine es 2000 ?_;(simp only [N7,hpc,hw,seval])
   repeat refine sd ?_
   have zz:=Im;refine IM (As ok.rp w h) ?_
   (simp only [Jc,hop,seval])
   repeat refine sd ?_
   refine Ah (AW ok _ 8#64 Ak) ?_
   (simp only [h1,LZ,seval])
   have zz:=@Ba.eq_1;refine JO [0,1,2] [0] (Bq ok pc xt Ap false) ?_
   (simp only [Fj,seval])
   have zz:=@Ba.eq_1;exact Bg hx [0,1,2,3] ⟨rfl,rfl,rfl⟩
 | true =>
   rw [h1,Bool.true_and] at hb
   refine es 2000 ?_;(simp only [N7,hpc,hw,seval])
   repeat refine sd ?_
   have zz:=Im;refine IM (As ok.rp w h) ?_
   (simp only [Jc,hop,seval])
   repeat refine sd ?_
   refine Ah (AW ok _ 8#64 Ak) ?_
   (simp only [h1,LZ,seval])
   refine Ah (AW ok _ 4#64 Ak) ?_
   (simp only [hb,LZ,seval])
   have zz:=@Ba.eq_1;refine JO [0,1,2] [0] (Bq ok pc xt Ap false) ?_
   (simp only [Fj,seval])
   have zz:=@Ba.eq_1;exact Bg hx [0,1,2,3] ⟨rfl,rfl,rfl⟩
theorem Nz {M:Seat} (ok:OkRM M) (f g:Nat→BitVec 64) (pc xt:BitVec 64) (hpc:¬ 8192#64≤pc) (w:BitVec 64) (hw:f pc.toNat=w) (hop:AT w=35) (h:Co w=true) (hb:(wi (g (pF w 48)) 4#64 && wi (g (pF w 44)) 8#64)=false) :
 Af M 240 [.ptr 0 [],.ptr 3 []] (Cc f g pc false xt) 4 (Q3 (.tup .fnil) (Cc f g pc true Ap) 4):=by
 refine Ac ok.k240 rfl fun x hx=>?_
 have hp:pc.toNat < 8192:=BM
 have a1:=Ai w 52
 have a2:=Ai w 48
 have a3:=Ai w 44
 cases h1:wi (g (pF w 48)) 4#64 with
 | false =>
   refine es 2000 ?_;(simp only [N7,hpc,hw,seval])
   repeat refine sd ?_
   have zz:=Im;refine IM (As ok.rp w h) ?_
   (simp only [Jc,hop,seval])
   repeat refine sd ?_
   refine Ah (AW ok _ 4#64 Ak) ?_
   (simp only [h1,LZ,seval])
   have zz:=@Ba.eq_1;refine JO [0,1,2] [0] (Bq ok pc xt Ap false) ?_
   (simp only [Fj,seval])
   have zz:=@Ba.eq_1;exact Bg hx [0,1,2,3] ⟨rfl,rfl,rfl⟩
 | true =>
   rw [h1,Bool.true_and] at hb
   refine es 2000 ?_;(simp only [N7,hpc,hw,seval])
   repeat refine sd ?_
   have zz:=Im;refine IM (As ok.rp w h) ?_
   (simp only [Jc,hop,seval])
   repeat refine sd ?_
   refine Ah (AW ok _ 4#64 Ak) ?_
   (simp only [h1,LZ,seval])
   refine Ah (AW ok _ 8#64 Ak) ?_
   (simp only [hb,LZ,seval])
   have zz:=@Ba.eq_1;refine JO [0,1,2] [0] (Bq ok pc xt Ap false) ?_
   (simp only [Fj,seval])
   have zz:=@Ba.eq_1;exact Bg hx [0,1,2,3] ⟨rfl,rfl,rfl⟩
variable {M:Seat}
def YI (l:List (Dg × Pr)) (met:Bool):Hp:=[(3,BJ (.sl 4 [] 0 l.length 32) (.sl 5 [] 0 l.length 64) met),(4,.ar 32 l.length fun i=>dg (rh l i)),(5,.ar 64 l.length fun i=>At (rp l i))]
def NL (l:List (Dg × Pr)) (met:Bool):Hp:=[(3,BJ (.sl 6 [] 0 l.length 32) (.sl 7 [] 0 l.length 64) met),(6,.ar 32 l.length fun i=>dg (rh l i)),(7,.ar 64 l.length fun i=>At (rp l i))]
def Eh (q:Nat) (hs ps:V) (met:Bool):V:=.st 4 (.fcons 0 hs (.fcons 1 ps (.fcons 2 (.sl 6 [] 0 q 32) (.fcons 3 (.bool met) .fnil))))
def Qm:=(aq3 @Fj @Eh.eq_1 @BJ.eq_1)
def Lcc:=(aq2 @Int.cast_ofNat_Int @Qm)
def UW:=(aq6 @C6 @dg.eq_1 @At.eq_1 @Ba.eq_1 @Eh.eq_1 @BJ.eq_1)
def IX:=(aq2 @LY @UW)
def Qj (q:Nat) (qs:Nat→Dg) (l:List (Dg × Pr)) (met:Bool):Hp:=[(3,Eh q (.sl 4 [] 0 l.length 32) (.sl 5 [] 0 l.length 64) met),(4,.ar 32 l.length fun i=>dg (rh l i)),(5,.ar 64 l.length fun i=>At (rp l i)),(6,.ar 32 q fun i=>dg (qs i))]
def YH:=(aq5 @N7 @YI.eq_1 @Qj.eq_1 @Eh.eq_1 @BJ.eq_1)
def NW (q:Nat) (qs:Nat→Dg) (l:List (Dg × Pr)) (met:Bool):Hp:=[(3,Eh q (.sl 7 [] 0 l.length 32) (.sl 8 [] 0 l.length 64) met),(7,.ar 32 l.length fun i=>dg (rh l i)),(8,.ar 64 l.length fun i=>At (rp l i)),(6,.ar 32 q fun i=>dg (qs i))]
structure OkRH (M:Seat):Prop where
 m:OkRM M
 g:OkRG M
 b:OkB M
theorem No (ok:OkRH M) (f g:Nat→BitVec 64) (pc xt:BitVec 64) (hpc:¬ 8192#64≤pc) (w:BitVec 64) (hw:f pc.toNat=w) (hop:AT w=34) (h:Co w=true) (A b:BitVec 64) (hA0:g (pF w 48)=A) (hb0:g (pF w 44)=b) (h3:wi A 8#64=true) (h4:wi b 4#64=true)
 (l L:List (Dg × Pr)) (met met':Bool) (D:Dg) (hA:Af M 219 [.ptr 0 [],At (Pr.mk' (A6 fun j=>f (A.toNat + j)))] (GT l met) 3 (Q3 (dg D) (RX L met') 5)) :
 Af M 240 [.ptr 0 [],.ptr 3 []] (Cc f g pc false xt ++ YI l met) 6 (Q3 (.tup .fnil) (Cc (mS f b.toNat 4 D.at 32) g (pc + 1#64) false xt ++ NL L met') 8):=by
 have ha:A.toNat + 8≤8192:=B8 h3
 have hb:b.toNat + 4≤8192:=B8 h4
 have ha8:(A + 8#64).toNat=A.toNat + 8:=Abd
 have n8:A.toNat + 8 - A.toNat=8:=Aa
 have hle:A.toNat≤8184:=Aa
 refine Ac ok.m.k240 rfl fun x hx=>?_
 have hp:pc.toNat < 8192:=BM
 have a1:=Ai w 52
 have a2:=Ai w 48
 have a3:=Ai w 44
 refine es 2000 ?_;(simp only [YH,NL,NW,hpc,hw,seval])
 repeat refine sd ?_
 have zz:=Im;refine IM (As ok.m.rp w h) ?_
 (simp only [Jc,hop,hA0,hb0,seval])
 repeat refine sd ?_
 refine Ah (AW ok.m _ 8#64 Ak) ?_
 (simp only [h3,LZ,seval])
 refine Ah (AW ok.m _ 4#64 Ak) ?_
 (simp only [h4,ha8,n8,LZ,seval])
 repeat refine sd ?_
 have zz:=aq2 hle @At.eq_1;refine CI (Br ok.m 8 Ak (fun j=>f (A.toNat + j))) ?_
 (simp only [LZ,seval])
 have zz:=aq6 Z2 @RX.eq_1 @Jx.eq_1 @Eh.eq_1 Fq @C6;refine Fl [3,4,5] (hA) ?_
 (simp only [Z2,RX,Jx,Eh,dg,BA,seval])
 refine Ag (σ:=Nat) (fun i=>i≤32) (fun i=>fr 364 [(0,.ptr 0 []),(10,W b),(11,W (pc + 1#64)),(14,.ptr 8 []),(15,W (BitVec.ofNat 64 i))])
  (fun i=>[(0,Ba 1 2 pc false xt),(1,.ar 1 8192 fun j=>W (mS f b.toNat 4 D.at i j)),(2,.ar 1 16 fun j=>W (g j)),(3,BJ (.sl 6 [] 0 L.length 32) (.sl 7 [] 0 L.length 64) met'),(6,.ar 32 L.length fun i=>dg (rh L i)),(7,.ar 64 L.length fun i=>At (rp L i)),(8,dg D)]) (fun _=>9) (fun i=>32 - i) 0 Aa ?_ ?_
 ·refine Aj.fr [0,1,2,3,4,5,2086,2087,2102] [] hx Ax Ak ?_ ?_
  ·simp only [LY,seval]
  ·simp only [IX,Fa,seval]
 ·intro i hi
  refine es 2000 ?_
  have hc:(BitVec.ofNat 64 i).toNat=i:=HG
  by_cases h32:i=32
  ·subst h32
   have d0:(BitVec.ofNat 64 32 < 32#64)=False:=eq_false Ak
   (simp only [d0,Qm,seval])
   have zz:=aq2 UW @LM;exact Bg hx [0,1,2,3,4,5,6,7] ⟨rfl,rfl,rfl⟩
  ·have d0:(BitVec.ofNat 64 i < 32#64)=True:=eq_true Acp
   have w0:BitVec.ofNat 64 i + 1#64=BitVec.ofNat 64 (i + 1):=by
    apply BitVec.eq_of_toNat_eq
    rw [BitVec.toNat_add,hc,show (1#64).toNat=1 from rfl,BitVec.toNat_ofNat]
   generalize hC:BitVec.ofNat 64 i=c at *
   have hI:(b + c / 8#64).toNat=b.toNat + i / 8:=by
    rw [BitVec.toNat_add,BitVec.toNat_udiv,hc,show (8#64).toNat=8 from rfl,Nat.mod_eq_of_lt Aa]
   (simp only [d0,w0,hI,hc,Qm,dg,seval])
   repeat refine sd ?_
   refine ⟨i + 1,by omega,by omega,?_⟩
   refine Aj.fr [0,1,2,3,4,5,6,7,8] [] hx Ax Ak ?_ ?_
   ·simp only [LY,seval]
   ·simp only [IX,seval]
    intro j hj
    rw [EY _ _ _ _ _ Aa]
    by_cases h1:j=b.toNat + i / 8
    ·rw [if_pos h1,if_pos h1];simp only [LY,seval]
    ·rw [if_neg h1,if_neg h1];simp only [LY,seval]
theorem Nj (ok:OkRH M) (f g:Nat→BitVec 64) (pc xt:BitVec 64) (hpc:¬ 8192#64≤pc) (w:BitVec 64) (hw:f pc.toNat=w) (hop:AT w=34) (h:Co w=true) (A b:BitVec 64) (hA0:g (pF w 48)=A) (hb0:g (pF w 44)=b) (h3:wi A 8#64=true) (h4:wi b 4#64=true)
 (l L:List (Dg × Pr)) (met met':Bool) (D:Dg) (hA:Af M 219 [.ptr 0 [],At (Pr.mk' (A6 fun j=>f (A.toNat + j)))] (GT l met) 3 (Q3 (dg D) (GT L met') 3)) :
 Af M 240 [.ptr 0 [],.ptr 3 []] (Cc f g pc false xt ++ YI l met) 6 (Q3 (.tup .fnil) (Cc (mS f b.toNat 4 D.at 32) g (pc + 1#64) false xt ++ YI L met') 6):=by
 have ha:A.toNat + 8≤8192:=B8 h3
 have hb:b.toNat + 4≤8192:=B8 h4
 have ha8:(A + 8#64).toNat=A.toNat + 8:=Abd
 have n8:A.toNat + 8 - A.toNat=8:=Aa
 have hle:A.toNat≤8184:=Aa
 refine Ac ok.m.k240 rfl fun x hx=>?_
 have hp:pc.toNat < 8192:=BM
 have a1:=Ai w 52
 have a2:=Ai w 48
 have a3:=Ai w 44
 refine es 2000 ?_;(simp only [YH,NL,NW,hpc,hw,seval])
 repeat refine sd ?_
 have zz:=Im;refine IM (As ok.m.rp w h) ?_
 (simp only [Jc,hop,hA0,hb0,seval])
 repeat refine sd ?_
 refine Ah (AW ok.m _ 8#64 Ak) ?_
 (simp only [h3,LZ,seval])
 refine Ah (AW ok.m _ 4#64 Ak) ?_
 (simp only [h4,ha8,n8,LZ,seval])
 repeat refine sd ?_
 have zz:=aq2 hle @At.eq_1;refine CI (Br ok.m 8 Ak (fun j=>f (A.toNat + j))) ?_
 (simp only [LZ,seval])
 have zz:=aq6 Z2 @RX.eq_1 @Jx.eq_1 @Eh.eq_1 Fq @C6;refine Fl [3,4,5] (hA) ?_
 (simp only [Z2,RX,Jx,Eh,dg,BA,seval])
 refine Ag (σ:=Nat) (fun i=>i≤32) (fun i=>fr 364 [(0,.ptr 0 []),(10,W b),(11,W (pc + 1#64)),(14,.ptr 6 []),(15,W (BitVec.ofNat 64 i))])
  (fun i=>[(0,Ba 1 2 pc false xt),(1,.ar 1 8192 fun j=>W (mS f b.toNat 4 D.at i j)),(2,.ar 1 16 fun j=>W (g j)),(3,BJ (.sl 4 [] 0 L.length 32) (.sl 5 [] 0 L.length 64) met'),(4,.ar 32 L.length fun i=>dg (rh L i)),(5,.ar 64 L.length fun i=>At (rp L i)),(6,dg D)]) (fun _=>7) (fun i=>32 - i) 0 Aa ?_ ?_
 ·refine Aj.fr [0,1,2,3,4,5,2102] [] hx Ax Ak ?_ ?_
  ·simp only [LY,seval]
  ·simp only [IX,Fa,seval]
 ·intro i hi
  refine es 2000 ?_
  have hc:(BitVec.ofNat 64 i).toNat=i:=HG
  by_cases h32:i=32
  ·subst h32
   have d0:(BitVec.ofNat 64 32 < 32#64)=False:=eq_false Ak
   (simp only [d0,Qm,seval])
   have zz:=aq2 UW @LM;exact Bg hx [0,1,2,3,4,5] ⟨rfl,rfl,rfl⟩
  ·have d0:(BitVec.ofNat 64 i < 32#64)=True:=eq_true Acp
   have w0:BitVec.ofNat 64 i + 1#64=BitVec.ofNat 64 (i + 1):=by
    apply BitVec.eq_of_toNat_eq
    rw [BitVec.toNat_add,hc,show (1#64).toNat=1 from rfl,BitVec.toNat_ofNat]
   generalize hC:BitVec.ofNat 64 i=c at *
   have hI:(b + c / 8#64).toNat=b.toNat + i / 8:=by
    rw [BitVec.toNat_add,BitVec.toNat_udiv,hc,show (8#64).toNat=8 from rfl,Nat.mod_eq_of_lt Aa]
   (simp only [d0,w0,hI,hc,Qm,dg,seval])
   repeat refine sd ?_
   refine ⟨i + 1,by omega,by omega,?_⟩
   refine Aj.fr [0,1,2,3,4,5,6] [] hx Ax Ak ?_ ?_
   ·simp only [LY,seval]
   ·simp only [IX,seval]
    intro j hj
    rw [EY _ _ _ _ _ Aa]
    by_cases h1:j=b.toNat + i / 8
    ·rw [if_pos h1,if_pos h1];simp only [LY,seval]
    ·rw [if_neg h1,if_neg h1];simp only [LY,seval]
theorem NZ (q:Nat) (qs:Nat→Dg)(ok:OkRH M) (f g:Nat→BitVec 64) (pc xt:BitVec 64) (hpc:¬ 8192#64≤pc) (w:BitVec 64) (hw:f pc.toNat=w) (hop:AT w=34) (h:Co w=true) (A b:BitVec 64) (hA0:g (pF w 48)=A) (hb0:g (pF w 44)=b) (h3:wi A 8#64=true) (h4:wi b 4#64=true)
 (l L:List (Dg × Pr)) (met met':Bool) (D:Dg) (hA:Af M 219 [.ptr 0 [],At (Pr.mk' (A6 fun j=>f (A.toNat + j)))] (Cu q qs l met) 4 (Q3 (dg D) (Jx q qs L met') 6)) :
 Af M 240 [.ptr 0 [],.ptr 3 []] (Cc f g pc false xt ++ Qj q qs l met) 7 (Q3 (.tup .fnil) (Cc (mS f b.toNat 4 D.at 32) g (pc + 1#64) false xt ++ NW q qs L met') 9):=by
 have ha:A.toNat + 8≤8192:=B8 h3
 have hb:b.toNat + 4≤8192:=B8 h4
 have ha8:(A + 8#64).toNat=A.toNat + 8:=Abd
 have n8:A.toNat + 8 - A.toNat=8:=Aa
 have hle:A.toNat≤8184:=Aa
 refine Ac ok.m.k240 rfl fun x hx=>?_
 have hp:pc.toNat < 8192:=BM
 have a1:=Ai w 52
 have a2:=Ai w 48
 have a3:=Ai w 44
 refine es 2000 ?_;(simp only [YH,NL,NW,hpc,hw,seval])
 repeat refine sd ?_
 have zz:=Im;refine IM (As ok.m.rp w h) ?_
 (simp only [Jc,hop,hA0,hb0,seval])
 repeat refine sd ?_
 refine Ah (AW ok.m _ 8#64 Ak) ?_
 (simp only [h3,LZ,seval])
 refine Ah (AW ok.m _ 4#64 Ak) ?_
 (simp only [h4,ha8,n8,LZ,seval])
 repeat refine sd ?_
 have zz:=aq2 hle @At.eq_1;refine CI (Br ok.m 8 Ak (fun j=>f (A.toNat + j))) ?_
 (simp only [LZ,seval])
 have zz:=aq6 Z2 @RX.eq_1 @Jx.eq_1 @Eh.eq_1 Fq @C6;refine Fl [3,4,5,6] (hA) ?_
 (simp only [Z2,RX,Jx,Eh,dg,BA,seval])
 refine Ag (σ:=Nat) (fun i=>i≤32) (fun i=>fr 364 [(0,.ptr 0 []),(10,W b),(11,W (pc + 1#64)),(14,.ptr 9 []),(15,W (BitVec.ofNat 64 i))])
  (fun i=>[(0,Ba 1 2 pc false xt),(1,.ar 1 8192 fun j=>W (mS f b.toNat 4 D.at i j)),(2,.ar 1 16 fun j=>W (g j)),(6,.ar 32 q fun i=>dg (qs i)),(3,Eh q (.sl 7 [] 0 L.length 32) (.sl 8 [] 0 L.length 64) met'),(7,.ar 32 L.length fun i=>dg (rh L i)),(8,.ar 64 L.length fun i=>At (rp L i)),(9,dg D)]) (fun _=>10) (fun i=>32 - i) 0 Aa ?_ ?_
 ·refine Aj.fr [0,1,2,3,4,5,6,2087,2088,2103] [] hx Ax Ak ?_ ?_
  ·simp only [LY,seval]
  ·simp only [IX,Fa,seval]
 ·intro i hi
  refine es 2000 ?_
  have hc:(BitVec.ofNat 64 i).toNat=i:=HG
  by_cases h32:i=32
  ·subst h32
   have d0:(BitVec.ofNat 64 32 < 32#64)=False:=eq_false Ak
   (simp only [d0,Qm,seval])
   have zz:=aq2 UW @LM;exact Bg hx [0,1,2,3,4,5,6,7,8] ⟨rfl,rfl,rfl⟩
  ·have d0:(BitVec.ofNat 64 i < 32#64)=True:=eq_true Acp
   have w0:BitVec.ofNat 64 i + 1#64=BitVec.ofNat 64 (i + 1):=by
    apply BitVec.eq_of_toNat_eq
    rw [BitVec.toNat_add,hc,show (1#64).toNat=1 from rfl,BitVec.toNat_ofNat]
   generalize hC:BitVec.ofNat 64 i=c at *
   have hI:(b + c / 8#64).toNat=b.toNat + i / 8:=by
    rw [BitVec.toNat_add,BitVec.toNat_udiv,hc,show (8#64).toNat=8 from rfl,Nat.mod_eq_of_lt Aa]
   (simp only [d0,w0,hI,hc,Qm,dg,seval])
   repeat refine sd ?_
   refine ⟨i + 1,by omega,by omega,?_⟩
   refine Aj.fr [0,1,2,3,4,5,6,7,8,9] [] hx Ax Ak ?_ ?_
   ·simp only [LY,seval]
   ·simp only [IX,seval]
    intro j hj
    rw [EY _ _ _ _ _ Aa]
    by_cases h1:j=b.toNat + i / 8
    ·rw [if_pos h1,if_pos h1];simp only [LY,seval]
    ·rw [if_neg h1,if_neg h1];simp only [LY,seval]
theorem NC (q:Nat) (qs:Nat→Dg)(ok:OkRH M) (f g:Nat→BitVec 64) (pc xt:BitVec 64) (hpc:¬ 8192#64≤pc) (w:BitVec 64) (hw:f pc.toNat=w) (hop:AT w=34) (h:Co w=true) (A b:BitVec 64) (hA0:g (pF w 48)=A) (hb0:g (pF w 44)=b) (h3:wi A 8#64=true) (h4:wi b 4#64=true)
 (l L:List (Dg × Pr)) (met met':Bool) (D:Dg) (hA:Af M 219 [.ptr 0 [],At (Pr.mk' (A6 fun j=>f (A.toNat + j)))] (Cu q qs l met) 4 (Q3 (dg D) (Cu q qs L met') 4)) :
 Af M 240 [.ptr 0 [],.ptr 3 []] (Cc f g pc false xt ++ Qj q qs l met) 7 (Q3 (.tup .fnil) (Cc (mS f b.toNat 4 D.at 32) g (pc + 1#64) false xt ++ Qj q qs L met') 7):=by
 have ha:A.toNat + 8≤8192:=B8 h3
 have hb:b.toNat + 4≤8192:=B8 h4
 have ha8:(A + 8#64).toNat=A.toNat + 8:=Abd
 have n8:A.toNat + 8 - A.toNat=8:=Aa
 have hle:A.toNat≤8184:=Aa
 refine Ac ok.m.k240 rfl fun x hx=>?_
 have hp:pc.toNat < 8192:=BM
 have a1:=Ai w 52
 have a2:=Ai w 48
 have a3:=Ai w 44
 refine es 2000 ?_;(simp only [YH,NL,NW,hpc,hw,seval])
 repeat refine sd ?_
 have zz:=Im;refine IM (As ok.m.rp w h) ?_
 (simp only [Jc,hop,hA0,hb0,seval])
 repeat refine sd ?_
 refine Ah (AW ok.m _ 8#64 Ak) ?_
 (simp only [h3,LZ,seval])
 refine Ah (AW ok.m _ 4#64 Ak) ?_
 (simp only [h4,ha8,n8,LZ,seval])
 repeat refine sd ?_
 have zz:=aq2 hle @At.eq_1;refine CI (Br ok.m 8 Ak (fun j=>f (A.toNat + j))) ?_
 (simp only [LZ,seval])
 have zz:=aq6 Z2 @RX.eq_1 @Jx.eq_1 @Eh.eq_1 Fq @C6;refine Fl [3,4,5,6] (hA) ?_
 (simp only [Z2,RX,Jx,Eh,dg,BA,seval])
 refine Ag (σ:=Nat) (fun i=>i≤32) (fun i=>fr 364 [(0,.ptr 0 []),(10,W b),(11,W (pc + 1#64)),(14,.ptr 7 []),(15,W (BitVec.ofNat 64 i))])
  (fun i=>[(0,Ba 1 2 pc false xt),(1,.ar 1 8192 fun j=>W (mS f b.toNat 4 D.at i j)),(2,.ar 1 16 fun j=>W (g j)),(6,.ar 32 q fun i=>dg (qs i)),(3,Eh q (.sl 4 [] 0 L.length 32) (.sl 5 [] 0 L.length 64) met'),(4,.ar 32 L.length fun i=>dg (rh L i)),(5,.ar 64 L.length fun i=>At (rp L i)),(7,dg D)]) (fun _=>8) (fun i=>32 - i) 0 Aa ?_ ?_
 ·refine Aj.fr [0,1,2,3,4,5,6,2103] [] hx Ax Ak ?_ ?_
  ·simp only [LY,seval]
  ·simp only [IX,Fa,seval]
 ·intro i hi
  refine es 2000 ?_
  have hc:(BitVec.ofNat 64 i).toNat=i:=HG
  by_cases h32:i=32
  ·subst h32
   have d0:(BitVec.ofNat 64 32 < 32#64)=False:=eq_false Ak
   (simp only [d0,Qm,seval])
   have zz:=aq2 UW @LM;exact Bg hx [0,1,2,3,4,5,6] ⟨rfl,rfl,rfl⟩
  ·have d0:(BitVec.ofNat 64 i < 32#64)=True:=eq_true Acp
   have w0:BitVec.ofNat 64 i + 1#64=BitVec.ofNat 64 (i + 1):=by
    apply BitVec.eq_of_toNat_eq
    rw [BitVec.toNat_add,hc,show (1#64).toNat=1 from rfl,BitVec.toNat_ofNat]
   generalize hC:BitVec.ofNat 64 i=c at *
   have hI:(b + c / 8#64).toNat=b.toNat + i / 8:=by
    rw [BitVec.toNat_add,BitVec.toNat_udiv,hc,show (8#64).toNat=8 from rfl,Nat.mod_eq_of_lt Aa]
   (simp only [d0,w0,hI,hc,Qm,dg,seval])
   repeat refine sd ?_
   refine ⟨i + 1,by omega,by omega,?_⟩
   refine Aj.fr [0,1,2,3,4,5,6,7] [] hx Ax Ak ?_ ?_
   ·simp only [LY,seval]
   ·simp only [IX,seval]
    intro j hj
    rw [EY _ _ _ _ _ Aa]
    by_cases h1:j=b.toNat + i / 8
    ·rw [if_pos h1,if_pos h1];simp only [LY,seval]
    ·rw [if_neg h1,if_neg h1];simp only [LY,seval]
end Mv
