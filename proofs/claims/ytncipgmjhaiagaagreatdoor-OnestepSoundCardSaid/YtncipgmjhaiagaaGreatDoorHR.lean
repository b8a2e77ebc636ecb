/- A part. -/
import Derived.Test.YtncipgmjhaiagaaGreatDoorHQ
set_option linter.all false
set_option maxRecDepth 20000
set_option maxHeartbeats 8000000
namespace Mv
open Go
variable {M:Seat}
theorem Ou (ok:OkRH M) (f g:Nat→BitVec 64) (pc xt:BitVec 64) (hpc:¬ 8192#64≤pc) (w:BitVec 64) (hw:f pc.toNat=w) (hop:AT w=35) (h:Co w=true) (A b:BitVec 64) (hA0:g (pF w 48)=A) (hb0:g (pF w 44)=b) (h3:wi A 4#64=true) (h4:wi b 8#64=true)
 (l:List (Dg × Pr)) (met:Bool) (D:Dg) (hD:Dg.mk' (A6 fun j=>f (A.toNat + j))=D) (P:Pr) (hG:Af M 345 [.ptr 0 [],dg D] (GT l met) 3 (Q3 (Ao (At P) (.int .i64 0)) (Cu 1 (fun _=>D) l met) 4)) :
 Af M 240 [.ptr 0 [],.ptr 3 []] (Cc f g pc false xt ++ YI l met) 6 (Q3 (.tup .fnil) (Cc (mS f b.toNat 8 P.at 64) g (pc + 1#64) false xt ++ Qj 1 (fun _=>D) l met) 7):=by
 have ha:A.toNat + 4≤8192:=B8 h3
 have hb:b.toNat + 8≤8192:=B8 h4
 have ha8:(A + 4#64).toNat=A.toNat + 4:=Ul
 have n8:A.toNat + 4 - A.toNat=4:=Aa
 have hle:A.toNat≤8188:=Aa
 refine Ac ok.m.k240 rfl fun x hx=>?_
 have hp:pc.toNat < 8192:=BM
 have a1:=Ai w 52
 have a2:=Ai w 48
 have a3:=Ai w 44
 refine es 2000 ?_;(simp only [YH,Jn,CO,hpc,hw,seval])
 repeat refine sd ?_
 have zz:=Im;refine IM (As ok.m.rp w h) ?_
 (simp only [Jc,hop,hA0,hb0,seval])
 repeat refine sd ?_
 refine Ah (AW ok.m _ 4#64 Ak) ?_
 (simp only [h3,LZ,seval])
 refine Ah (AW ok.m _ 8#64 Ak) ?_
 (simp only [h4,ha8,n8,LZ,seval])
 repeat refine sd ?_
 simp only [ite_self]
 refine Di (Br ok.m 8 Ak (GR f A.toNat)) ?_ Bx (by simp only [At,LX,implies_true]) ?_
 ·simp only [LY,seval]
  intro j hj
  simp only [GR]
  by_cases h1:j < 4
  ·rw [if_pos h1,if_pos h1];simp only [LY,seval]
  ·rw [if_neg h1,if_neg h1];simp only [LY,seval]
 (simp only [At,LZ,seval])
 have hQ:∀ j,j < 32→(Pr.mk' (A6 (GR f A.toNat))).at j=D.at j:=by
  intro j hj
  rw [← hD,Pr.at_mk' _ _ Aa,Dg.at_mk' _ _ hj,A6,A6,GR,if_pos Aa]
 generalize Pr.mk' (A6 (GR f A.toNat))=Q at *
 refine Ag (σ:=Nat) (fun i=>i≤32) (fun i=>fr 364 [(0,.ptr 0 []),(1,.ptr 3 []),(10,W b),(11,W (pc + 1#64)),(16,.ptr 6 []),(17,.ptr 7 []),(18,.int .i64 i)])
  (fun i=>[(0,Ba 1 2 pc false xt),(1,.ar 1 8192 fun j=>W (f j)),(2,.ar 1 16 fun j=>W (g j)),(3,BJ (.sl 4 [] 0 l.length 32) (.sl 5 [] 0 l.length 64) met),(4,.ar 32 l.length fun i=>dg (rh l i)),(5,.ar 64 l.length fun i=>At (rp l i)),(6,At Q),(7,.ar 1 32 fun j=>B (if j < i then D.at j else 0#8))]) (fun _=>8) (fun i=>32 - i) 0 Aa ?_ ?_
 ·refine Aj.fr [0,1,2,3,4,5,2182,2214] [] hx Ax Ak ?_ ?_
  ·simp only [LY,seval]
  ·simp only [IX,seval]
   intro j hj
   simp only [if_neg (show ¬ j < 0 by omega),LY,seval]
 ·intro i hi
  refine es 2000 ?_
  by_cases h32:i=32
  ·subst h32
   have d0:(((32:Nat):Int) < 32)=False:=eq_false Aa
   (simp only [d0,Lcc,seval])
   have hf:(fun j=>B (if j < 32 then D.at j else 0#8))=fun j=>B (D.at j):=by
    funext j
    by_cases hj:j < 32
    ·rw [if_pos hj]
    ·rw [if_neg hj,Dg.at_ge _ _ Aa]
   simp only [hf]
   have zz:=aq2 Vm PR;refine Fl [3,4,5] (hG) ?_
   (simp only [Vm,Gw,seval])
   refine Ag (σ:=Nat) (fun i=>i≤64) (fun i=>fr 364 [(0,.ptr 0 []),(10,W b),(11,W (pc + 1#64)),(19,.ptr 7 []),(21,W (BitVec.ofNat 64 i))])
    (fun i=>[(0,Ba 1 2 pc false xt),(1,.ar 1 8192 fun j=>W (mS f b.toNat 8 P.at i j)),(2,.ar 1 16 fun j=>W (g j)),(6,.ar 32 1 fun i=>dg D),(3,Eh 1 (.sl 4 [] 0 l.length 32) (.sl 5 [] 0 l.length 64) met),(4,.ar 32 l.length fun i=>dg (rh l i)),(5,.ar 64 l.length fun i=>At (rp l i)),(7,At P)]) (fun _=>8) (fun i=>64 - i) 0 Aa ?_ ?_
   ·refine Aj.fr [0,1,2,3,4,5,72,136] [] hx Ax Ak ?_ ?_
    ·simp only [LY,seval]
    ·simp only [IX,CO,Fa,seval]
   ·intro i hi
    refine es 2000 ?_
    have hc:(BitVec.ofNat 64 i).toNat=i:=HG
    by_cases h64:i=64
    ·subst h64
     have d0:(BitVec.ofNat 64 64 < 64#64)=False:=eq_false Ak
     (simp only [d0,Qm,CO,seval])
     have zz:=aq3 UW @CO.eq_1 @LM;exact Bg hx [0,1,2,3,4,5,6] ⟨rfl,rfl,rfl⟩
    ·have d0:(BitVec.ofNat 64 i < 64#64)=True:=eq_true Agd
     have w0:BitVec.ofNat 64 i + 1#64=BitVec.ofNat 64 (i + 1):=by
      apply BitVec.eq_of_toNat_eq
      rw [BitVec.toNat_add,hc,show (1#64).toNat=1 from rfl,BitVec.toNat_ofNat]
     generalize hC:BitVec.ofNat 64 i=c at *
     have hI:(b + c / 8#64).toNat=b.toNat + i / 8:=by
      rw [BitVec.toNat_add,BitVec.toNat_udiv,hc,show (8#64).toNat=8 from rfl,Nat.mod_eq_of_lt Aa]
     (simp only [d0,w0,hI,hc,Qm,CO,Fq,seval])
     repeat refine sd ?_
     refine ⟨i + 1,by omega,by omega,?_⟩
     refine Aj.fr [0,1,2,3,4,5,6,7] [] hx Ax Ak ?_ ?_
     ·simp only [LY,seval]
     ·simp only [IX,CO,seval]
      intro j hj
      rw [EY _ _ _ _ _ Aa]
      by_cases h1:j=b.toNat + i / 8
      ·rw [if_pos h1,if_pos h1];simp only [LY,seval]
      ·rw [if_neg h1,if_neg h1];simp only [LY,seval]
  ·have d0:((i:Int) < 32)=True:=eq_true Aa
   have w0:IntKind.i64.wrap ((i:Int) + 1)=((i + 1:Nat):Int):=A9
   (simp only [d0,w0,Fq,LZ,seval])
   repeat refine sd ?_
   refine ⟨i + 1,by omega,by omega,?_⟩
   refine Aj.fr [0,1,2,3,4,5,6,7] [] hx Ax Ak ?_ ?_
   ·simp only [LY,seval]
   ·simp only [IX,seval]
    intro j hj
    by_cases h1:j=i
    ·subst h1
     rw [if_pos rfl,if_pos Aa,hQ j hj]
     simp only [LY,seval]
    ·rw [if_neg h1]
     by_cases h2:j < i
     ·rw [if_pos h2,if_pos Aa];simp only [LY,seval]
     ·rw [if_neg h2,if_neg Aa];simp only [LY,seval]
theorem PY (q:Nat) (qs:Nat→Dg)(ok:OkRH M) (f g:Nat→BitVec 64) (pc xt:BitVec 64) (hpc:¬ 8192#64≤pc) (w:BitVec 64) (hw:f pc.toNat=w) (hop:AT w=35) (h:Co w=true) (A b:BitVec 64) (hA0:g (pF w 48)=A) (hb0:g (pF w 44)=b) (h3:wi A 4#64=true) (h4:wi b 8#64=true)
 (l:List (Dg × Pr)) (met:Bool) (D:Dg) (hD:Dg.mk' (A6 fun j=>f (A.toNat + j))=D) (P:Pr) (hG:Af M 345 [.ptr 0 [],dg D] (Cu q qs l met) 4 (Q3 (Ao (At P) (.int .i64 0)) (Cu q qs l met) 4)) :
 Af M 240 [.ptr 0 [],.ptr 3 []] (Cc f g pc false xt ++ Qj q qs l met) 7 (Q3 (.tup .fnil) (Cc (mS f b.toNat 8 P.at 64) g (pc + 1#64) false xt ++ Qj q qs l met) 7):=by
 have ha:A.toNat + 4≤8192:=B8 h3
 have hb:b.toNat + 8≤8192:=B8 h4
 have ha8:(A + 4#64).toNat=A.toNat + 4:=Ul
 have n8:A.toNat + 4 - A.toNat=4:=Aa
 have hle:A.toNat≤8188:=Aa
 refine Ac ok.m.k240 rfl fun x hx=>?_
 have hp:pc.toNat < 8192:=BM
 have a1:=Ai w 52
 have a2:=Ai w 48
 have a3:=Ai w 44
 refine es 2000 ?_;(simp only [YH,Jn,CO,hpc,hw,seval])
 repeat refine sd ?_
 have zz:=Im;refine IM (As ok.m.rp w h) ?_
 (simp only [Jc,hop,hA0,hb0,seval])
 repeat refine sd ?_
 refine Ah (AW ok.m _ 4#64 Ak) ?_
 (simp only [h3,LZ,seval])
 refine Ah (AW ok.m _ 8#64 Ak) ?_
 (simp only [h4,ha8,n8,LZ,seval])
 repeat refine sd ?_
 simp only [ite_self]
 refine Di (Br ok.m 8 Ak (GR f A.toNat)) ?_ Bx (by simp only [At,LX,implies_true]) ?_
 ·simp only [LY,seval]
  intro j hj
  simp only [GR]
  by_cases h1:j < 4
  ·rw [if_pos h1,if_pos h1];simp only [LY,seval]
  ·rw [if_neg h1,if_neg h1];simp only [LY,seval]
 (simp only [At,LZ,seval])
 have hQ:∀ j,j < 32→(Pr.mk' (A6 (GR f A.toNat))).at j=D.at j:=by
  intro j hj
  rw [← hD,Pr.at_mk' _ _ Aa,Dg.at_mk' _ _ hj,A6,A6,GR,if_pos Aa]
 generalize Pr.mk' (A6 (GR f A.toNat))=Q at *
 refine Ag (σ:=Nat) (fun i=>i≤32) (fun i=>fr 364 [(0,.ptr 0 []),(1,.ptr 3 []),(10,W b),(11,W (pc + 1#64)),(16,.ptr 7 []),(17,.ptr 8 []),(18,.int .i64 i)])
  (fun i=>[(0,Ba 1 2 pc false xt),(1,.ar 1 8192 fun j=>W (f j)),(2,.ar 1 16 fun j=>W (g j)),(6,.ar 32 q fun i=>dg (qs i)),(3,Eh q (.sl 4 [] 0 l.length 32) (.sl 5 [] 0 l.length 64) met),(4,.ar 32 l.length fun i=>dg (rh l i)),(5,.ar 64 l.length fun i=>At (rp l i)),(7,At Q),(8,.ar 1 32 fun j=>B (if j < i then D.at j else 0#8))]) (fun _=>9) (fun i=>32 - i) 0 Aa ?_ ?_
 ·refine Aj.fr [0,1,2,3,4,5,6,2183,2215] [] hx Ax Ak ?_ ?_
  ·simp only [LY,seval]
  ·simp only [IX,seval]
   intro j hj
   simp only [if_neg (show ¬ j < 0 by omega),LY,seval]
 ·intro i hi
  refine es 2000 ?_
  by_cases h32:i=32
  ·subst h32
   have d0:(((32:Nat):Int) < 32)=False:=eq_false Aa
   (simp only [d0,Lcc,seval])
   have hf:(fun j=>B (if j < 32 then D.at j else 0#8))=fun j=>B (D.at j):=by
    funext j
    by_cases hj:j < 32
    ·rw [if_pos hj]
    ·rw [if_neg hj,Dg.at_ge _ _ Aa]
   simp only [hf]
   have zz:=aq2 Vm PR;refine Fl [3,4,5,6] (hG) ?_
   (simp only [Vm,Gw,seval])
   refine Ag (σ:=Nat) (fun i=>i≤64) (fun i=>fr 364 [(0,.ptr 0 []),(10,W b),(11,W (pc + 1#64)),(19,.ptr 7 []),(21,W (BitVec.ofNat 64 i))])
    (fun i=>[(0,Ba 1 2 pc false xt),(1,.ar 1 8192 fun j=>W (mS f b.toNat 8 P.at i j)),(2,.ar 1 16 fun j=>W (g j)),(6,.ar 32 q fun i=>dg (qs i)),(3,Eh q (.sl 4 [] 0 l.length 32) (.sl 5 [] 0 l.length 64) met),(4,.ar 32 l.length fun i=>dg (rh l i)),(5,.ar 64 l.length fun i=>At (rp l i)),(7,At P)]) (fun _=>8) (fun i=>64 - i) 0 Aa ?_ ?_
   ·refine Aj.fr [0,1,2,3,4,5,6,137] [] hx Ax Ak ?_ ?_
    ·simp only [LY,seval]
    ·simp only [IX,CO,Fa,seval]
   ·intro i hi
    refine es 2000 ?_
    have hc:(BitVec.ofNat 64 i).toNat=i:=HG
    by_cases h64:i=64
    ·subst h64
     have d0:(BitVec.ofNat 64 64 < 64#64)=False:=eq_false Ak
     (simp only [d0,Qm,CO,seval])
     have zz:=aq3 UW @CO.eq_1 @LM;exact Bg hx [0,1,2,3,4,5,6] ⟨rfl,rfl,rfl⟩
    ·have d0:(BitVec.ofNat 64 i < 64#64)=True:=eq_true Agd
     have w0:BitVec.ofNat 64 i + 1#64=BitVec.ofNat 64 (i + 1):=by
      apply BitVec.eq_of_toNat_eq
      rw [BitVec.toNat_add,hc,show (1#64).toNat=1 from rfl,BitVec.toNat_ofNat]
     generalize hC:BitVec.ofNat 64 i=c at *
     have hI:(b + c / 8#64).toNat=b.toNat + i / 8:=by
      rw [BitVec.toNat_add,BitVec.toNat_udiv,hc,show (8#64).toNat=8 from rfl,Nat.mod_eq_of_lt Aa]
     (simp only [d0,w0,hI,hc,Qm,CO,Fq,seval])
     repeat refine sd ?_
     refine ⟨i + 1,by omega,by omega,?_⟩
     refine Aj.fr [0,1,2,3,4,5,6,7] [] hx Ax Ak ?_ ?_
     ·simp only [LY,seval]
     ·simp only [IX,CO,seval]
      intro j hj
      rw [EY _ _ _ _ _ Aa]
      by_cases h1:j=b.toNat + i / 8
      ·rw [if_pos h1,if_pos h1];simp only [LY,seval]
      ·rw [if_neg h1,if_neg h1];simp only [LY,seval]
  ·have d0:((i:Int) < 32)=True:=eq_true Aa
   have w0:IntKind.i64.wrap ((i:Int) + 1)=((i + 1:Nat):Int):=A9
   (simp only [d0,w0,Fq,LZ,seval])
   repeat refine sd ?_
   refine ⟨i + 1,by omega,by omega,?_⟩
   refine Aj.fr [0,1,2,3,4,5,6,7,8] [] hx Ax Ak ?_ ?_
   ·simp only [LY,seval]
   ·simp only [IX,seval]
    intro j hj
    by_cases h1:j=i
    ·subst h1
     rw [if_pos rfl,if_pos Aa,hQ j hj]
     simp only [LY,seval]
    ·rw [if_neg h1]
     by_cases h2:j < i
     ·rw [if_pos h2,if_pos Aa];simp only [LY,seval]
     ·rw [if_neg h2,if_neg Aa];simp only [LY,seval]
theorem Po (q:Nat) (qs qs':Nat→Dg)(ok:OkRH M) (f g:Nat→BitVec 64) (pc xt:BitVec 64) (hpc:¬ 8192#64≤pc) (w:BitVec 64) (hw:f pc.toNat=w) (hop:AT w=35) (h:Co w=true) (A b:BitVec 64) (hA0:g (pF w 48)=A) (hb0:g (pF w 44)=b) (h3:wi A 4#64=true) (h4:wi b 8#64=true)
 (l:List (Dg × Pr)) (met:Bool) (D:Dg) (hD:Dg.mk' (A6 fun j=>f (A.toNat + j))=D) (P:Pr) (hG:Af M 345 [.ptr 0 [],dg D] (Cu q qs l met) 4 (Q3 (Ao (At P) (.int .i64 0)) (Ov (q + 1) qs' l met) 5)) :
 Af M 240 [.ptr 0 [],.ptr 3 []] (Cc f g pc false xt ++ Qj q qs l met) 7 (Q3 (.tup .fnil) (Cc (mS f b.toNat 8 P.at 64) g (pc + 1#64) false xt ++ Jn (q + 1) qs' l met) 8):=by
 have ha:A.toNat + 4≤8192:=B8 h3
 have hb:b.toNat + 8≤8192:=B8 h4
 have ha8:(A + 4#64).toNat=A.toNat + 4:=Ul
 have n8:A.toNat + 4 - A.toNat=4:=Aa
 have hle:A.toNat≤8188:=Aa
 refine Ac ok.m.k240 rfl fun x hx=>?_
 have hp:pc.toNat < 8192:=BM
 have a1:=Ai w 52
 have a2:=Ai w 48
 have a3:=Ai w 44
 refine es 2000 ?_;(simp only [YH,Jn,CO,hpc,hw,seval])
 repeat refine sd ?_
 have zz:=Im;refine IM (As ok.m.rp w h) ?_
 (simp only [Jc,hop,hA0,hb0,seval])
 repeat refine sd ?_
 refine Ah (AW ok.m _ 4#64 Ak) ?_
 (simp only [h3,LZ,seval])
 refine Ah (AW ok.m _ 8#64 Ak) ?_
 (simp only [h4,ha8,n8,LZ,seval])
 repeat refine sd ?_
 simp only [ite_self]
 refine Di (Br ok.m 8 Ak (GR f A.toNat)) ?_ Bx (by simp only [At,LX,implies_true]) ?_
 ·simp only [LY,seval]
  intro j hj
  simp only [GR]
  by_cases h1:j < 4
  ·rw [if_pos h1,if_pos h1];simp only [LY,seval]
  ·rw [if_neg h1,if_neg h1];simp only [LY,seval]
 (simp only [At,LZ,seval])
 have hQ:∀ j,j < 32→(Pr.mk' (A6 (GR f A.toNat))).at j=D.at j:=by
  intro j hj
  rw [← hD,Pr.at_mk' _ _ Aa,Dg.at_mk' _ _ hj,A6,A6,GR,if_pos Aa]
 generalize Pr.mk' (A6 (GR f A.toNat))=Q at *
 refine Ag (σ:=Nat) (fun i=>i≤32) (fun i=>fr 364 [(0,.ptr 0 []),(1,.ptr 3 []),(10,W b),(11,W (pc + 1#64)),(16,.ptr 7 []),(17,.ptr 8 []),(18,.int .i64 i)])
  (fun i=>[(0,Ba 1 2 pc false xt),(1,.ar 1 8192 fun j=>W (f j)),(2,.ar 1 16 fun j=>W (g j)),(6,.ar 32 q fun i=>dg (qs i)),(3,Eh q (.sl 4 [] 0 l.length 32) (.sl 5 [] 0 l.length 64) met),(4,.ar 32 l.length fun i=>dg (rh l i)),(5,.ar 64 l.length fun i=>At (rp l i)),(7,At Q),(8,.ar 1 32 fun j=>B (if j < i then D.at j else 0#8))]) (fun _=>9) (fun i=>32 - i) 0 Aa ?_ ?_
 ·refine Aj.fr [0,1,2,3,4,5,6,2183,2215] [] hx Ax Ak ?_ ?_
  ·simp only [LY,seval]
  ·simp only [IX,seval]
   intro j hj
   simp only [if_neg (show ¬ j < 0 by omega),LY,seval]
 ·intro i hi
  refine es 2000 ?_
  by_cases h32:i=32
  ·subst h32
   have d0:(((32:Nat):Int) < 32)=False:=eq_false Aa
   (simp only [d0,Lcc,seval])
   have hf:(fun j=>B (if j < 32 then D.at j else 0#8))=fun j=>B (D.at j):=by
    funext j
    by_cases hj:j < 32
    ·rw [if_pos hj]
    ·rw [if_neg hj,Dg.at_ge _ _ Aa]
   simp only [hf]
   have zz:=aq2 Vm PR;refine Fl [3,4,5,6] (hG) ?_
   (simp only [Vm,Gw,seval])
   refine Ag (σ:=Nat) (fun i=>i≤64) (fun i=>fr 364 [(0,.ptr 0 []),(10,W b),(11,W (pc + 1#64)),(19,.ptr 8 []),(21,W (BitVec.ofNat 64 i))])
    (fun i=>[(0,Ba 1 2 pc false xt),(1,.ar 1 8192 fun j=>W (mS f b.toNat 8 P.at i j)),(2,.ar 1 16 fun j=>W (g j)),(7,.ar 32 (q + 1) fun i=>dg (qs' i)),(3,CO (q + 1) (.sl 4 [] 0 l.length 32) (.sl 5 [] 0 l.length 64) met),(4,.ar 32 l.length fun i=>dg (rh l i)),(5,.ar 64 l.length fun i=>At (rp l i)),(8,At P)]) (fun _=>9) (fun i=>64 - i) 0 Aa ?_ ?_
   ·refine Aj.fr [0,1,2,3,4,5,6,73,137] [] hx Ax Ak ?_ ?_
    ·simp only [LY,seval]
    ·simp only [IX,CO,Fa,seval]
   ·intro i hi
    refine es 2000 ?_
    have hc:(BitVec.ofNat 64 i).toNat=i:=HG
    by_cases h64:i=64
    ·subst h64
     have d0:(BitVec.ofNat 64 64 < 64#64)=False:=eq_false Ak
     (simp only [d0,Qm,CO,seval])
     have zz:=aq3 UW @CO.eq_1 @LM;exact Bg hx [0,1,2,3,4,5,6,7] ⟨rfl,rfl,rfl⟩
    ·have d0:(BitVec.ofNat 64 i < 64#64)=True:=eq_true Agd
     have w0:BitVec.ofNat 64 i + 1#64=BitVec.ofNat 64 (i + 1):=by
      apply BitVec.eq_of_toNat_eq
      rw [BitVec.toNat_add,hc,show (1#64).toNat=1 from rfl,BitVec.toNat_ofNat]
     generalize hC:BitVec.ofNat 64 i=c at *
     have hI:(b + c / 8#64).toNat=b.toNat + i / 8:=by
      rw [BitVec.toNat_add,BitVec.toNat_udiv,hc,show (8#64).toNat=8 from rfl,Nat.mod_eq_of_lt Aa]
     (simp only [d0,w0,hI,hc,Qm,CO,Fq,seval])
     repeat refine sd ?_
     refine ⟨i + 1,by omega,by omega,?_⟩
     refine Aj.fr [0,1,2,3,4,5,6,7,8] [] hx Ax Ak ?_ ?_
     ·simp only [LY,seval]
     ·simp only [IX,CO,seval]
      intro j hj
      rw [EY _ _ _ _ _ Aa]
      by_cases h1:j=b.toNat + i / 8
      ·rw [if_pos h1,if_pos h1];simp only [LY,seval]
      ·rw [if_neg h1,if_neg h1];simp only [LY,seval]
  ·have d0:((i:Int) < 32)=True:=eq_true Aa
   have w0:IntKind.i64.wrap ((i:Int) + 1)=((i + 1:Nat):Int):=A9
   (simp only [d0,w0,Fq,LZ,seval])
   repeat refine sd ?_
   refine ⟨i + 1,by omega,by omega,?_⟩
   refine Aj.fr [0,1,2,3,4,5,6,7,8] [] hx Ax Ak ?_ ?_
   ·simp only [LY,seval]
   ·simp only [IX,seval]
    intro j hj
    by_cases h1:j=i
    ·subst h1
     rw [if_pos rfl,if_pos Aa,hQ j hj]
     simp only [LY,seval]
    ·rw [if_neg h1]
     by_cases h2:j < i
     ·rw [if_pos h2,if_pos Aa];simp only [LY,seval]
     ·rw [if_neg h2,if_neg Aa];simp only [LY,seval]
structure RD where
 l:List (Dg × Pr)
 met:Bool
 n:Nat
 q:Nat→Dg
 m:Mc
def Fx (m:Mc):Hp:=Cc m.f m.g m.pc m.hl m.xt
def rN (s:RD):Hp:=Fx s.m ++ YI s.l s.met
def rNG (s:RD):Hp:=Fx s.m ++ NL s.l s.met
def rS (s:RD):Hp:=Fx s.m ++ Qj s.n s.q s.l s.met
def rSG (s:RD):Hp:=Fx s.m ++ NW s.n s.q s.l s.met
def rST (s:RD):Hp:=Fx s.m ++ Jn s.n s.q s.l s.met
inductive TrD (M:Seat) (s s':RD):Prop
 | plain (h:Af M 240 [.ptr 0 [],.ptr 3 []] (Fx s.m) 4 (Q3 (.tup .fnil) (Fx s'.m) 4)) (hl:s'.l=s.l) (hm:s'.met=s.met) (hn:s'.n=s.n) (hq:s'.q=s.q)
 | NO (h0:s.n=0) (h1:s'.n=0) (h:Af M 240 [.ptr 0 [],.ptr 3 []] (rN s) 6 (Q3 (.tup .fnil) (rN s') 6))
 | NG (h0:s.n=0) (h1:s'.n=0) (h:Af M 240 [.ptr 0 [],.ptr 3 []] (rN s) 6 (Q3 (.tup .fnil) (rNG s') 8))
 | NS (h0:s.n=0) (h1:0 < s'.n) (h:Af M 240 [.ptr 0 [],.ptr 3 []] (rN s) 6 (Q3 (.tup .fnil) (rS s') 7))
 | SO (h0:0 < s.n) (h1:0 < s'.n) (h:Af M 240 [.ptr 0 [],.ptr 3 []] (rS s) 7 (Q3 (.tup .fnil) (rS s') 7))
 | SG (h0:0 < s.n) (h1:0 < s'.n) (h:Af M 240 [.ptr 0 [],.ptr 3 []] (rS s) 7 (Q3 (.tup .fnil) (rSG s') 9))
 | ST (h0:0 < s.n) (h1:0 < s'.n) (h:Af M 240 [.ptr 0 [],.ptr 3 []] (rS s) 7 (Q3 (.tup .fnil) (rST s') 8))
theorem Pb (l:List (Dg × Pr)) (p:Pr):(P4 l p).length=l.length:=by simp [P4]
theorem TW {M:Seat} (ok:OkRM M) (m:Mc) (h:¬ Aaj m):∃ m':Mc,Af M 240 [.ptr 0 [],.ptr 3 []] (Fx m) 4 (Q3 (.tup .fnil) (Fx m') 4):=by
 obtain ⟨f,g,pc,hl,xt⟩:=m
 unfold Fx
 cases hl with
 | true=>exact ⟨⟨f,g,pc,true,xt⟩,ML ok f g pc xt⟩
 | false =>
   dsimp only
   by_cases hpc:8192#64≤pc
   ·exact ⟨⟨f,g,pc,true,Ap⟩,Ug ok f g pc xt hpc⟩
   cases hi:Co (f pc.toNat) with
   | false=>exact ⟨⟨f,g,pc,true,Ap⟩,Ut ok f g pc xt hpc _ rfl hi⟩
   | true =>
     have hi':=hi
     simp only [Co,decide_eq_true_eq] at hi'
     have h35:=hi'.1
     have h2:=hi'.2
     by_cases q0:AT (f pc.toNat)=0
     ·exact ⟨⟨f,g,pc,true,_⟩,RE ok f g pc xt hpc _ rfl q0 hi⟩
     by_cases q1:AT (f pc.toNat)≤25
     ·exact ⟨⟨f,_,_,false,xt⟩,PU ok f g pc xt hpc _ rfl (AT (f pc.toNat)) Aa q1 rfl hi⟩
     by_cases q2:AT (f pc.toNat)=26
     ·exact ⟨⟨f,_,_,false,xt⟩,Vt ok f g pc xt hpc _ rfl q2 hi⟩
     by_cases q3:AT (f pc.toNat)=27
     ·by_cases hwh:8192#64≤g (pF (f pc.toNat) 48) + BitVec.ofInt 64 (pN (f pc.toNat))
      ·exact ⟨⟨f,g,pc,true,Ap⟩,Jv ok f g pc xt hpc _ rfl q3 hi hwh⟩
      ·exact ⟨⟨f,_,_,false,xt⟩,QS ok f g pc xt hpc _ rfl q3 hi hwh⟩
     by_cases q4:AT (f pc.toNat)=28
     ·by_cases hwh:8192#64≤g (pF (f pc.toNat) 48) + BitVec.ofInt 64 (pN (f pc.toNat))
      ·exact ⟨⟨f,g,pc,true,Ap⟩,IE ok f g pc xt hpc _ rfl q4 hi hwh⟩
      ·exact ⟨⟨_,g,_,false,xt⟩,Oj ok f g pc xt hpc _ rfl q4 hi hwh⟩
     obtain ⟨ga,hga⟩:∃ ga,g (pF (f pc.toNat) 48)=ga:=⟨_,rfl⟩
     obtain ⟨to,hto⟩:∃ to,BitVec.ofInt 64 (pN (f pc.toNat))=to:=⟨_,rfl⟩
     by_cases q5:AT (f pc.toNat)=29
     ·by_cases ht:8192#64≤to
      ·exact ⟨⟨f,g,pc,true,Ap⟩,Dr ok f g pc xt hpc _ rfl hi to ga hto hga (.inl ⟨q5,ht⟩)⟩
      ·exact ⟨⟨f,g,to,false,xt⟩,EH ok f g pc xt hpc _ rfl hi to ga to hto hga ht (.inl ⟨q5,rfl⟩)⟩
     by_cases q6:AT (f pc.toNat)=30
     ·by_cases h0:ga=0#64
      ·by_cases ht:8192#64≤to
       ·exact ⟨⟨f,g,pc,true,Ap⟩,Dr ok f g pc xt hpc _ rfl hi to ga hto hga (.inr (.inl ⟨q6,h0,ht⟩))⟩
       ·exact ⟨⟨f,g,to,false,xt⟩,EH ok f g pc xt hpc _ rfl hi to ga to hto hga ht (.inr (.inl ⟨q6,h0,rfl⟩))⟩
      ·exact ⟨⟨f,g,_,false,xt⟩,KK ok f g pc xt hpc _ rfl hi ga hga (.inl ⟨q6,h0⟩)⟩
     by_cases q7:AT (f pc.toNat)=31
     ·by_cases h0:ga=0#64
      ·exact ⟨⟨f,g,_,false,xt⟩,KK ok f g pc xt hpc _ rfl hi ga hga (.inr ⟨q7,h0⟩)⟩
      ·by_cases ht:8192#64≤to
       ·exact ⟨⟨f,g,pc,true,Ap⟩,Dr ok f g pc xt hpc _ rfl hi to ga hto hga (.inr (.inr (.inl ⟨q7,h0,ht⟩)))⟩
       ·exact ⟨⟨f,g,to,false,xt⟩,EH ok f g pc xt hpc _ rfl hi to ga to hto hga ht (.inr (.inr (.inl ⟨q7,h0,rfl⟩)))⟩
     by_cases q8:AT (f pc.toNat)=32
     ·by_cases ht:8192#64≤to
      ·exact ⟨⟨f,g,pc,true,Ap⟩,Dr ok f g pc xt hpc _ rfl hi to ga hto hga (.inr (.inr (.inr (.inl ⟨q8,ht⟩))))⟩
      ·exact ⟨⟨f,_,to,false,xt⟩,TE ok f g pc xt hpc _ rfl hi to hto ht q8⟩
     by_cases q9:AT (f pc.toNat)=33
     ·by_cases ht:8192#64≤ga
      ·exact ⟨⟨f,g,pc,true,Ap⟩,Dr ok f g pc xt hpc _ rfl hi to ga hto hga (.inr (.inr (.inr (.inr ⟨q9,ht⟩))))⟩
      ·exact ⟨⟨f,g,ga,false,xt⟩,EH ok f g pc xt hpc _ rfl hi to ga ga hto hga ht (.inr (.inr (.inr ⟨q9,rfl⟩)))⟩
     by_cases q10:AT (f pc.toNat)=34
     ·cases hb:wi (g (pF (f pc.toNat) 48)) 8#64 && wi (g (pF (f pc.toNat) 44)) 4#64 with
      | false=>exact ⟨⟨f,g,pc,true,Ap⟩,Nb ok f g pc xt hpc _ rfl q10 hi hb⟩
      | true=>exact absurd ⟨rfl,hpc,h2,.inl ⟨q10,hb⟩⟩ h
     have q11:AT (f pc.toNat)=35:=Aa
     cases hb:wi (g (pF (f pc.toNat) 48)) 4#64 && wi (g (pF (f pc.toNat) 44)) 8#64 with
     | false=>exact ⟨⟨f,g,pc,true,Ap⟩,Nz ok f g pc xt hpc _ rfl q11 hi hb⟩
     | true=>exact absurd ⟨rfl,hpc,h2,.inr ⟨q11,hb⟩⟩ h
theorem MD (l:List (Dg × Pr)) (d:Dg) (h:Gq l d=l.length):Ol l d=Ao (At Pr.zero) (.int .i64 14):=by simp [Ol,h]
theorem K0 (l:List (Dg × Pr)) (d:Dg) (h:¬ Gq l d=l.length):Ol l d=Ao (At (rp l (Gq l d))) (.int .i64 0):=by simp [Ol,h]
theorem Wi {M:Seat} (ok:OkRH M) (s:RD) (hs:s.n < 4294967296) (hl:s.l.length < 4294967296):∃ s',TrD M s s'∧s'.n≤s.n + 1∧s'.l.length≤s.l.length + 1:=by
 obtain ⟨l,met,n,q,m⟩:=s
 by_cases ha:Aaj m
 ·obtain ⟨f,g,pc,hl',xt⟩:=m
  obtain ⟨h1,hpc,h2,ho⟩:=ha
  dsimp only at h1 hpc h2 ho hs hl
  subst h1
  rcases ho with ⟨hop,hw⟩ | ⟨hop,hw⟩
  ·simp only [Bool.and_eq_true] at hw
   have hi:Co (f pc.toNat)=true:=by simp only [Co,decide_eq_true_eq];exact ⟨by omega,h2⟩
   by_cases hk:Gq l (CE (Pr.mk' (A6 fun j=>f ((g (pF (f pc.toNat) 48)).toNat + j))))=l.length
   ·cases n with
    | zero=>exact ⟨⟨_,met,0,q,⟨_,g,_,false,xt⟩⟩,.NG rfl rfl (No ok f g pc xt hpc _ rfl hop hi _ _ rfl rfl hw.1 hw.2 l _ met met _ (JW ok.b ok.g.r _ met l hl hk)),by simp,by simp⟩
    | succ n=>exact ⟨⟨_,met,n + 1,q,⟨_,g,_,false,xt⟩⟩,.SG (Nat.succ_pos _) (Nat.succ_pos _) (NZ (n + 1) q ok f g pc xt hpc _ rfl hop hi _ _ rfl rfl hw.1 hw.2 l _ met met _ (PO (n + 1) q ok.b ok.g.r _ met l hl hk)),by simp,by simp⟩
   ·cases n with
    | zero=>exact ⟨⟨_,_,0,q,⟨_,g,_,false,xt⟩⟩,.NO rfl rfl (Nj ok f g pc xt hpc _ rfl hop hi _ _ rfl rfl hw.1 hw.2 l _ met _ _ (Kr ok.b ok.g.r _ met l hl hk)),by simp,by simp [Pb]⟩
    | succ n=>exact ⟨⟨_,_,n + 1,q,⟨_,g,_,false,xt⟩⟩,.SO (Nat.succ_pos _) (Nat.succ_pos _) (NC (n + 1) q ok f g pc xt hpc _ rfl hop hi _ _ rfl rfl hw.1 hw.2 l _ met _ _ (PV (n + 1) q ok.b ok.g.r _ met l hl hk)),by simp,by simp [Pb]⟩
  ·simp only [Bool.and_eq_true] at hw
   have hi:Co (f pc.toNat)=true:=by simp only [Co,decide_eq_true_eq];exact ⟨by omega,h2⟩
   obtain ⟨D,hD⟩:∃ D,Dg.mk' (A6 fun j=>f ((g (pF (f pc.toNat) 48)).toNat + j))=D:=⟨_,rfl⟩
   cases n with
   | zero =>
     have hG:=R1 ok.g D met l hl
     by_cases hk:Gq l D=l.length
     ·rw [MD l D hk] at hG
      exact ⟨⟨l,met,1,fun _=>D,⟨f,g,pc,true,_⟩⟩,.NS rfl Nat.one_pos (Ow ok f g pc xt hpc _ rfl hop hi _ _ rfl rfl hw.1 hw.2 l met D hD _ hG),by simp,by simp⟩
     ·rw [K0 l D hk] at hG
      exact ⟨⟨l,met,1,fun _=>D,⟨_,g,_,false,xt⟩⟩,.NS rfl Nat.one_pos (Ou ok f g pc xt hpc _ rfl hop hi _ _ rfl rfl hw.1 hw.2 l met D hD _ hG),by simp,by simp⟩
   | succ n =>
     have hG:=RI ok.g (n + 1) hs q D met l hl
     cases hf:Zj q D (n + 1) with
     | true =>
       simp only [hf,if_true] at hG
       by_cases hk:Gq l D=l.length
       ·rw [MD l D hk] at hG
        exact ⟨⟨l,met,n + 1,q,⟨f,g,pc,true,_⟩⟩,.SO (Nat.succ_pos _) (Nat.succ_pos _) (P9 (n + 1) q ok f g pc xt hpc _ rfl hop hi _ _ rfl rfl hw.1 hw.2 l met D hD _ hG),by simp,by simp⟩
       ·rw [K0 l D hk] at hG
        exact ⟨⟨l,met,n + 1,q,⟨_,g,_,false,xt⟩⟩,.SO (Nat.succ_pos _) (Nat.succ_pos _) (PY (n + 1) q ok f g pc xt hpc _ rfl hop hi _ _ rfl rfl hw.1 hw.2 l met D hD _ hG),by simp,by simp⟩
     | false =>
       simp only [hf,TJ] at hG
       by_cases hk:Gq l D=l.length
       ·rw [MD l D hk] at hG
        exact ⟨⟨l,met,n + 1 + 1,_,⟨f,g,pc,true,_⟩⟩,.ST (Nat.succ_pos _) (Nat.succ_pos _) (PG (n + 1) q _ ok f g pc xt hpc _ rfl hop hi _ _ rfl rfl hw.1 hw.2 l met D hD _ hG),by simp,by simp⟩
       ·rw [K0 l D hk] at hG
        exact ⟨⟨l,met,n + 1 + 1,_,⟨_,g,_,false,xt⟩⟩,.ST (Nat.succ_pos _) (Nat.succ_pos _) (Po (n + 1) q _ ok f g pc xt hpc _ rfl hop hi _ _ rfl rfl hw.1 hw.2 l met D hD _ hG),by simp,by simp⟩
 ·obtain ⟨m',hm⟩:=TW ok.m m ha
  exact ⟨⟨l,met,n,q,m'⟩,.plain hm rfl rfl rfl rfl,Nat.le_succ _,Nat.le_succ _⟩
theorem Aqr (op:Nat) (h:Hd) (d a:Nat) (to:BitVec 64) (hs:(op=30∧¬ h.g a=0#64) ∨ (op=31∧h.g a=0#64)):Vx op h d a to=⟨h.g,h.pc + 1#64,h.hl,h.xt⟩:=if_pos hs
theorem Aqt (op:Nat) (h:Hd) (d a:Nat) (to nx:BitVec 64) (hs:¬ ((op=30∧¬ h.g a=0#64) ∨ (op=31∧h.g a=0#64))) (hn:(if op=33 then h.g a else to)=nx) (hw:8192#64≤nx):Vx op h d a to=h.stop Ap:=by
 rw [Vx,if_neg hs,hn,if_pos hw]
theorem Aqj (op:Nat) (h:Hd) (d a:Nat) (to nx:BitVec 64) (hs:¬ ((op=30∧¬ h.g a=0#64) ∨ (op=31∧h.g a=0#64))) (hn:(if op=33 then h.g a else to)=nx) (hw:¬ 8192#64≤nx):Vx op h d a to=⟨if op=32 then E9 h.g d (h.pc + 1#64) else h.g,nx,h.hl,h.xt⟩:=by
 rw [Vx,if_neg hs,hn,if_neg hw]
end Mv
