/- A part. -/
import Derived.Test.YtncipgmjhaiagaaGreatDoorHP
set_option linter.all false
set_option maxRecDepth 20000
set_option maxHeartbeats 8000000
namespace Mv
open Go
variable {M:Seat}
def YI (l:List (Dg × Pr)) (met:Bool):Hp:=[(3,BJ (.sl 4 [] 0 l.length 32) (.sl 5 [] 0 l.length 64) met),(4,.ar 32 l.length fun i=>dg (rh l i)),(5,.ar 64 l.length fun i=>At (rp l i))]
def NL (l:List (Dg × Pr)) (met:Bool):Hp:=[(3,BJ (.sl 6 [] 0 l.length 32) (.sl 7 [] 0 l.length 64) met),(6,.ar 32 l.length fun i=>dg (rh l i)),(7,.ar 64 l.length fun i=>At (rp l i))]
def Eh (q:Nat) (hs ps:V) (met:Bool):V:=.st 4 (.fcons 0 hs (.fcons 1 ps (.fcons 2 (.sl 6 [] 0 q 32) (.fcons 3 (.bool met) .fnil))))
def Qm:=(aq3 @Fj @Eh.eq_1 @BJ.eq_1)
def Lcc:=(aq2 @Int.cast_ofNat_Int @Qm)
def UW:=(aq6 @C6 @dg.eq_1 @At.eq_1 @Ba.eq_1 @Eh.eq_1 @BJ.eq_1)
def IX:=(aq2 @LY @UW)
def Qj (q:Nat) (qs:Nat→Dg) (l:List (Dg × Pr)) (met:Bool):Hp:=[(3,Eh q (.sl 4 [] 0 l.length 32) (.sl 5 [] 0 l.length 64) met),(4,.ar 32 l.length fun i=>dg (rh l i)),(5,.ar 64 l.length fun i=>At (rp l i)),(6,.ar 32 q fun i=>dg (qs i))]
def YH:=(aq5 @N7 @YI.eq_1 @Qj.eq_1 @Eh.eq_1 @BJ.eq_1)
def NW (q:Nat) (qs:Nat→Dg) (l:List (Dg × Pr)) (met:Bool):Hp:=[(3,Eh q (.sl 7 [] 0 l.length 32) (.sl 8 [] 0 l.length 64) met),(7,.ar 32 l.length fun i=>dg (rh l i)),(8,.ar 64 l.length fun i=>At (rp l i)),(6,.ar 32 q fun i=>dg (qs i))]
structure OkRH (M:Seat):Prop where
 m:OkRM M
 g:OkRG M
 b:OkB M
theorem No (ok:OkRH M) (f g:Nat→BitVec 64) (pc xt:BitVec 64) (hpc:¬ 8192#64≤pc) (w:BitVec 64) (hw:f pc.toNat=w) (hop:AT w=34) (h:Co w=true) (A b:BitVec 64) (hA0:g (pF w 48)=A) (hb0:g (pF w 44)=b) (h3:wi A 8#64=true) (h4:wi b 4#64=true)
 (l L:List (Dg × Pr)) (met met':Bool) (D:Dg) (hA:Af M 219 [.ptr 0 [],At (Pr.mk' (A6 fun j=>f (A.toNat + j)))] (GT l met) 3 (Q3 (dg D) (RX L met') 5)) :
 Af M 240 [.ptr 0 [],.ptr 3 []] (Cc f g pc false xt ++ YI l met) 6 (Q3 (.tup .fnil) (Cc (mS f b.toNat 4 D.at 32) g (pc + 1#64) false xt ++ NL L met') 8):=by
 have ha:A.toNat + 8≤8192:=B8 h3
 have hb:b.toNat + 4≤8192:=B8 h4
 have ha8:(A + 8#64).toNat=A.toNat + 8:=Abd
 have n8:A.toNat + 8 - A.toNat=8:=Aa
 have hle:A.toNat≤8184:=Aa
 refine Ac ok.m.k240 rfl fun x hx=>?_
 have hp:pc.toNat < 8192:=BM
 have a1:=Ai w 52
 have a2:=Ai w 48
 have a3:=Ai w 44
 refine es 2000 ?_;(simp only [YH,NL,NW,hpc,hw,seval])
 repeat refine sd ?_
 have zz:=Im;refine IM (As ok.m.rp w h) ?_
 (simp only [Jc,hop,hA0,hb0,seval])
 repeat refine sd ?_
 refine Ah (AW ok.m _ 8#64 Ak) ?_
 (simp only [h3,LZ,seval])
 refine Ah (AW ok.m _ 4#64 Ak) ?_
 (simp only [h4,ha8,n8,LZ,seval])
 repeat refine sd ?_
 have zz:=aq2 hle @At.eq_1;refine CI (Br ok.m 8 Ak (fun j=>f (A.toNat + j))) ?_
 (simp only [LZ,seval])
 have zz:=aq6 Z2 @RX.eq_1 @Jx.eq_1 @Eh.eq_1 Fq @C6;refine Fl [3,4,5] (hA) ?_
 (simp only [Z2,RX,Jx,Eh,dg,BA,seval])
 refine Ag (σ:=Nat) (fun i=>i≤32) (fun i=>fr 364 [(0,.ptr 0 []),(10,W b),(11,W (pc + 1#64)),(14,.ptr 8 []),(15,W (BitVec.ofNat 64 i))])
  (fun i=>[(0,Ba 1 2 pc false xt),(1,.ar 1 8192 fun j=>W (mS f b.toNat 4 D.at i j)),(2,.ar 1 16 fun j=>W (g j)),(3,BJ (.sl 6 [] 0 L.length 32) (.sl 7 [] 0 L.length 64) met'),(6,.ar 32 L.length fun i=>dg (rh L i)),(7,.ar 64 L.length fun i=>At (rp L i)),(8,dg D)]) (fun _=>9) (fun i=>32 - i) 0 Aa ?_ ?_
 ·refine Aj.fr [0,1,2,3,4,5,2086,2087,2102] [] hx Ax Ak ?_ ?_
  ·simp only [LY,seval]
  ·simp only [IX,Fa,seval]
 ·intro i hi
  refine es 2000 ?_
  have hc:(BitVec.ofNat 64 i).toNat=i:=HG
  by_cases h32:i=32
  ·subst h32
   have d0:(BitVec.ofNat 64 32 < 32#64)=False:=eq_false Ak
   (simp only [d0,Qm,seval])
   have zz:=aq2 UW @LM;exact Bg hx [0,1,2,3,4,5,6,7] ⟨rfl,rfl,rfl⟩
  ·have d0:(BitVec.ofNat 64 i < 32#64)=True:=eq_true Acp
   have w0:BitVec.ofNat 64 i + 1#64=BitVec.ofNat 64 (i + 1):=by
    apply BitVec.eq_of_toNat_eq
    rw [BitVec.toNat_add,hc,show (1#64).toNat=1 from rfl,BitVec.toNat_ofNat]
   generalize hC:BitVec.ofNat 64 i=c at *
   have hI:(b + c / 8#64).toNat=b.toNat + i / 8:=by
    rw [BitVec.toNat_add,BitVec.toNat_udiv,hc,show (8#64).toNat=8 from rfl,Nat.mod_eq_of_lt Aa]
   (simp only [d0,w0,hI,hc,Qm,dg,seval])
   repeat refine sd ?_
   refine ⟨i + 1,by omega,by omega,?_⟩
   refine Aj.fr [0,1,2,3,4,5,6,7,8] [] hx Ax Ak ?_ ?_
   ·simp only [LY,seval]
   ·simp only [IX,seval]
    intro j hj
    rw [EY _ _ _ _ _ Aa]
    by_cases h1:j=b.toNat + i / 8
    ·rw [if_pos h1,if_pos h1];simp only [LY,seval]
    ·rw [if_neg h1,if_neg h1];simp only [LY,seval]
theorem Nj (ok:OkRH M) (f g:Nat→BitVec 64) (pc xt:BitVec 64) (hpc:¬ 8192#64≤pc) (w:BitVec 64) (hw:f pc.toNat=w) (hop:AT w=34) (h:Co w=true) (A b:BitVec 64) (hA0:g (pF w 48)=A) (hb0:g (pF w 44)=b) (h3:wi A 8#64=true) (h4:wi b 4#64=true)
 (l L:List (Dg × Pr)) (met met':Bool) (D:Dg) (hA:Af M 219 [.ptr 0 [],At (Pr.mk' (A6 fun j=>f (A.toNat + j)))] (GT l met) 3 (Q3 (dg D) (GT L met') 3)) :
 Af M 240 [.ptr 0 [],.ptr 3 []] (Cc f g pc false xt ++ YI l met) 6 (Q3 (.tup .fnil) (Cc (mS f b.toNat 4 D.at 32) g (pc + 1#64) false xt ++ YI L met') 6):=by
 have ha:A.toNat + 8≤8192:=B8 h3
 have hb:b.toNat + 4≤8192:=B8 h4
 have ha8:(A + 8#64).toNat=A.toNat + 8:=Abd
 have n8:A.toNat + 8 - A.toNat=8:=Aa
 have hle:A.toNat≤8184:=Aa
 refine Ac ok.m.k240 rfl fun x hx=>?_
 have hp:pc.toNat < 8192:=BM
 have a1:=Ai w 52
 have a2:=Ai w 48
 have a3:=Ai w 44
 refine es 2000 ?_;(simp only [YH,NL,NW,hpc,hw,seval])
 repeat refine sd ?_
 have zz:=Im;refine IM (As ok.m.rp w h) ?_
 (simp only [Jc,hop,hA0,hb0,seval])
 repeat refine sd ?_
 refine Ah (AW ok.m _ 8#64 Ak) ?_
 (simp only [h3,LZ,seval])
 refine Ah (AW ok.m _ 4#64 Ak) ?_
 (simp only [h4,ha8,n8,LZ,seval])
 repeat refine sd ?_
 have zz:=aq2 hle @At.eq_1;refine CI (Br ok.m 8 Ak (fun j=>f (A.toNat + j))) ?_
 (simp only [LZ,seval])
 have zz:=aq6 Z2 @RX.eq_1 @Jx.eq_1 @Eh.eq_1 Fq @C6;refine Fl [3,4,5] (hA) ?_
 (simp only [Z2,RX,Jx,Eh,dg,BA,seval])
 refine Ag (σ:=Nat) (fun i=>i≤32) (fun i=>fr 364 [(0,.ptr 0 []),(10,W b),(11,W (pc + 1#64)),(14,.ptr 6 []),(15,W (BitVec.ofNat 64 i))])
  (fun i=>[(0,Ba 1 2 pc false xt),(1,.ar 1 8192 fun j=>W (mS f b.toNat 4 D.at i j)),(2,.ar 1 16 fun j=>W (g j)),(3,BJ (.sl 4 [] 0 L.length 32) (.sl 5 [] 0 L.length 64) met'),(4,.ar 32 L.length fun i=>dg (rh L i)),(5,.ar 64 L.length fun i=>At (rp L i)),(6,dg D)]) (fun _=>7) (fun i=>32 - i) 0 Aa ?_ ?_
 ·refine Aj.fr [0,1,2,3,4,5,2102] [] hx Ax Ak ?_ ?_
  ·simp only [LY,seval]
  ·simp only [IX,Fa,seval]
 ·intro i hi
  refine es 2000 ?_
  have hc:(BitVec.ofNat 64 i).toNat=i:=HG
  by_cases h32:i=32
  ·subst h32
   have d0:(BitVec.ofNat 64 32 < 32#64)=False:=eq_false Ak
   (simp only [d0,Qm,seval])
   have zz:=aq2 UW @LM;exact Bg hx [0,1,2,3,4,5] ⟨rfl,rfl,rfl⟩
  ·have d0:(BitVec.ofNat 64 i < 32#64)=True:=eq_true Acp
   have w0:BitVec.ofNat 64 i + 1#64=BitVec.ofNat 64 (i + 1):=by
    apply BitVec.eq_of_toNat_eq
    rw [BitVec.toNat_add,hc,show (1#64).toNat=1 from rfl,BitVec.toNat_ofNat]
   generalize hC:BitVec.ofNat 64 i=c at *
   have hI:(b + c / 8#64).toNat=b.toNat + i / 8:=by
    rw [BitVec.toNat_add,BitVec.toNat_udiv,hc,show (8#64).toNat=8 from rfl,Nat.mod_eq_of_lt Aa]
   (simp only [d0,w0,hI,hc,Qm,dg,seval])
   repeat refine sd ?_
   refine ⟨i + 1,by omega,by omega,?_⟩
   refine Aj.fr [0,1,2,3,4,5,6] [] hx Ax Ak ?_ ?_
   ·simp only [LY,seval]
   ·simp only [IX,seval]
    intro j hj
    rw [EY _ _ _ _ _ Aa]
    by_cases h1:j=b.toNat + i / 8
    ·rw [if_pos h1,if_pos h1];simp only [LY,seval]
    ·rw [if_neg h1,if_neg h1];simp only [LY,seval]
theorem NZ (q:Nat) (qs:Nat→Dg)(ok:OkRH M) (f g:Nat→BitVec 64) (pc xt:BitVec 64) (hpc:¬ 8192#64≤pc) (w:BitVec 64) (hw:f pc.toNat=w) (hop:AT w=34) (h:Co w=true) (A b:BitVec 64) (hA0:g (pF w 48)=A) (hb0:g (pF w 44)=b) (h3:wi A 8#64=true) (h4:wi b 4#64=true)
 (l L:List (Dg × Pr)) (met met':Bool) (D:Dg) (hA:Af M 219 [.ptr 0 [],At (Pr.mk' (A6 fun j=>f (A.toNat + j)))] (Cu q qs l met) 4 (Q3 (dg D) (Jx q qs L met') 6)) :
 Af M 240 [.ptr 0 [],.ptr 3 []] (Cc f g pc false xt ++ Qj q qs l met) 7 (Q3 (.tup .fnil) (Cc (mS f b.toNat 4 D.at 32) g (pc + 1#64) false xt ++ NW q qs L met') 9):=by
 have ha:A.toNat + 8≤8192:=B8 h3
 have hb:b.toNat + 4≤8192:=B8 h4
 have ha8:(A + 8#64).toNat=A.toNat + 8:=Abd
 have n8:A.toNat + 8 - A.toNat=8:=Aa
 have hle:A.toNat≤8184:=Aa
 refine Ac ok.m.k240 rfl fun x hx=>?_
 have hp:pc.toNat < 8192:=BM
 have a1:=Ai w 52
 have a2:=Ai w 48
 have a3:=Ai w 44
 refine es 2000 ?_;(simp only [YH,NL,NW,hpc,hw,seval])
 repeat refine sd ?_
 have zz:=Im;refine IM (As ok.m.rp w h) ?_
 (simp only [Jc,hop,hA0,hb0,seval])
 repeat refine sd ?_
 refine Ah (AW ok.m _ 8#64 Ak) ?_
 (simp only [h3,LZ,seval])
 refine Ah (AW ok.m _ 4#64 Ak) ?_
 (simp only [h4,ha8,n8,LZ,seval])
 repeat refine sd ?_
 have zz:=aq2 hle @At.eq_1;refine CI (Br ok.m 8 Ak (fun j=>f (A.toNat + j))) ?_
 (simp only [LZ,seval])
 have zz:=aq6 Z2 @RX.eq_1 @Jx.eq_1 @Eh.eq_1 Fq @C6;refine Fl [3,4,5,6] (hA) ?_
 (simp only [Z2,RX,Jx,Eh,dg,BA,seval])
 refine Ag (σ:=Nat) (fun i=>i≤32) (fun i=>fr 364 [(0,.ptr 0 []),(10,W b),(11,W (pc + 1#64)),(14,.ptr 9 []),(15,W (BitVec.ofNat 64 i))])
  (fun i=>[(0,Ba 1 2 pc false xt),(1,.ar 1 8192 fun j=>W (mS f b.toNat 4 D.at i j)),(2,.ar 1 16 fun j=>W (g j)),(6,.ar 32 q fun i=>dg (qs i)),(3,Eh q (.sl 7 [] 0 L.length 32) (.sl 8 [] 0 L.length 64) met'),(7,.ar 32 L.length fun i=>dg (rh L i)),(8,.ar 64 L.length fun i=>At (rp L i)),(9,dg D)]) (fun _=>10) (fun i=>32 - i) 0 Aa ?_ ?_
 ·refine Aj.fr [0,1,2,3,4,5,6,2087,2088,2103] [] hx Ax Ak ?_ ?_
  ·simp only [LY,seval]
  ·simp only [IX,Fa,seval]
 ·intro i hi
  refine es 2000 ?_
  have hc:(BitVec.ofNat 64 i).toNat=i:=HG
  by_cases h32:i=32
  ·subst h32
   have d0:(BitVec.ofNat 64 32 < 32#64)=False:=eq_false Ak
   (simp only [d0,Qm,seval])
   have zz:=aq2 UW @LM;exact Bg hx [0,1,2,3,4,5,6,7,8] ⟨rfl,rfl,rfl⟩
  ·have d0:(BitVec.ofNat 64 i < 32#64)=True:=eq_true Acp
   have w0:BitVec.ofNat 64 i + 1#64=BitVec.ofNat 64 (i + 1):=by
    apply BitVec.eq_of_toNat_eq
    rw [BitVec.toNat_add,hc,show (1#64).toNat=1 from rfl,BitVec.toNat_ofNat]
   generalize hC:BitVec.ofNat 64 i=c at *
   have hI:(b + c / 8#64).toNat=b.toNat + i / 8:=by
    rw [BitVec.toNat_add,BitVec.toNat_udiv,hc,show (8#64).toNat=8 from rfl,Nat.mod_eq_of_lt Aa]
   (simp only [d0,w0,hI,hc,Qm,dg,seval])
   repeat refine sd ?_
   refine ⟨i + 1,by omega,by omega,?_⟩
   refine Aj.fr [0,1,2,3,4,5,6,7,8,9] [] hx Ax Ak ?_ ?_
   ·simp only [LY,seval]
   ·simp only [IX,seval]
    intro j hj
    rw [EY _ _ _ _ _ Aa]
    by_cases h1:j=b.toNat + i / 8
    ·rw [if_pos h1,if_pos h1];simp only [LY,seval]
    ·rw [if_neg h1,if_neg h1];simp only [LY,seval]
theorem NC (q:Nat) (qs:Nat→Dg)(ok:OkRH M) (f g:Nat→BitVec 64) (pc xt:BitVec 64) (hpc:¬ 8192#64≤pc) (w:BitVec 64) (hw:f pc.toNat=w) (hop:AT w=34) (h:Co w=true) (A b:BitVec 64) (hA0:g (pF w 48)=A) (hb0:g (pF w 44)=b) (h3:wi A 8#64=true) (h4:wi b 4#64=true)
 (l L:List (Dg × Pr)) (met met':Bool) (D:Dg) (hA:Af M 219 [.ptr 0 [],At (Pr.mk' (A6 fun j=>f (A.toNat + j)))] (Cu q qs l met) 4 (Q3 (dg D) (Cu q qs L met') 4)) :
 Af M 240 [.ptr 0 [],.ptr 3 []] (Cc f g pc false xt ++ Qj q qs l met) 7 (Q3 (.tup .fnil) (Cc (mS f b.toNat 4 D.at 32) g (pc + 1#64) false xt ++ Qj q qs L met') 7):=by
 have ha:A.toNat + 8≤8192:=B8 h3
 have hb:b.toNat + 4≤8192:=B8 h4
 have ha8:(A + 8#64).toNat=A.toNat + 8:=Abd
 have n8:A.toNat + 8 - A.toNat=8:=Aa
 have hle:A.toNat≤8184:=Aa
 refine Ac ok.m.k240 rfl fun x hx=>?_
 have hp:pc.toNat < 8192:=BM
 have a1:=Ai w 52
 have a2:=Ai w 48
 have a3:=Ai w 44
 refine es 2000 ?_;(simp only [YH,NL,NW,hpc,hw,seval])
 repeat refine sd ?_
 have zz:=Im;refine IM (As ok.m.rp w h) ?_
 (simp only [Jc,hop,hA0,hb0,seval])
 repeat refine sd ?_
 refine Ah (AW ok.m _ 8#64 Ak) ?_
 (simp only [h3,LZ,seval])
 refine Ah (AW ok.m _ 4#64 Ak) ?_
 (simp only [h4,ha8,n8,LZ,seval])
 repeat refine sd ?_
 have zz:=aq2 hle @At.eq_1;refine CI (Br ok.m 8 Ak (fun j=>f (A.toNat + j))) ?_
 (simp only [LZ,seval])
 have zz:=aq6 Z2 @RX.eq_1 @Jx.eq_1 @Eh.eq_1 Fq @C6;refine Fl [3,4,5,6] (hA) ?_
 (simp only [Z2,RX,Jx,Eh,dg,BA,seval])
 refine Ag (σ:=Nat) (fun i=>i≤32) (fun i=>fr 364 [(0,.ptr 0 []),(10,W b),(11,W (pc + 1#64)),(14,.ptr 7 []),(15,W (BitVec.ofNat 64 i))])
  (fun i=>[(0,Ba 1 2 pc false xt),(1,.ar 1 8192 fun j=>W (mS f b.toNat 4 D.at i j)),(2,.ar 1 16 fun j=>W (g j)),(6,.ar 32 q fun i=>dg (qs i)),(3,Eh q (.sl 4 [] 0 L.length 32) (.sl 5 [] 0 L.length 64) met'),(4,.ar 32 L.length fun i=>dg (rh L i)),(5,.ar 64 L.length fun i=>At (rp L i)),(7,dg D)]) (fun _=>8) (fun i=>32 - i) 0 Aa ?_ ?_
 ·refine Aj.fr [0,1,2,3,4,5,6,2103] [] hx Ax Ak ?_ ?_
  ·simp only [LY,seval]
  ·simp only [IX,Fa,seval]
 ·intro i hi
  refine es 2000 ?_
  have hc:(BitVec.ofNat 64 i).toNat=i:=HG
  by_cases h32:i=32
  ·subst h32
   have d0:(BitVec.ofNat 64 32 < 32#64)=False:=eq_false Ak
   (simp only [d0,Qm,seval])
   have zz:=aq2 UW @LM;exact Bg hx [0,1,2,3,4,5,6] ⟨rfl,rfl,rfl⟩
  ·have d0:(BitVec.ofNat 64 i < 32#64)=True:=eq_true Acp
   have w0:BitVec.ofNat 64 i + 1#64=BitVec.ofNat 64 (i + 1):=by
    apply BitVec.eq_of_toNat_eq
    rw [BitVec.toNat_add,hc,show (1#64).toNat=1 from rfl,BitVec.toNat_ofNat]
   generalize hC:BitVec.ofNat 64 i=c at *
   have hI:(b + c / 8#64).toNat=b.toNat + i / 8:=by
    rw [BitVec.toNat_add,BitVec.toNat_udiv,hc,show (8#64).toNat=8 from rfl,Nat.mod_eq_of_lt Aa]
   (simp only [d0,w0,hI,hc,Qm,dg,seval])
   repeat refine sd ?_
   refine ⟨i + 1,by omega,by omega,?_⟩
   refine Aj.fr [0,1,2,3,4,5,6,7] [] hx Ax Ak ?_ ?_
   ·simp only [LY,seval]
   ·simp only [IX,seval]
    intro j hj
    rw [EY _ _ _ _ _ Aa]
    by_cases h1:j=b.toNat + i / 8
    ·rw [if_pos h1,if_pos h1];simp only [LY,seval]
    ·rw [if_neg h1,if_neg h1];simp only [LY,seval]
variable {M:Seat}
def GR (f:Nat→BitVec 64) (a j:Nat):BitVec 64:=if j < 4 then f (a + j) else 0#64
def CO (q:Nat) (hs ps:V) (met:Bool):V:=.st 4 (.fcons 0 hs (.fcons 1 ps (.fcons 2 (.sl 7 [] 0 q 32) (.fcons 3 (.bool met) .fnil))))
def Jn (q:Nat) (qs:Nat→Dg) (l:List (Dg × Pr)) (met:Bool):Hp:=[(3,CO q (.sl 4 [] 0 l.length 32) (.sl 5 [] 0 l.length 64) met),(4,.ar 32 l.length fun i=>dg (rh l i)),(5,.ar 64 l.length fun i=>At (rp l i)),(7,.ar 32 q fun i=>dg (qs i))]
theorem Dg.at_ge (d:Dg) (j:Nat) (h:32≤j):d.at j=0#8:=by
 rw [Dg.at,List.getD_eq_getElem?_getD,List.getElem?_eq_none (by rw [d.h];exact h)];rfl
theorem Ow (ok:OkRH M) (f g:Nat→BitVec 64) (pc xt:BitVec 64) (hpc:¬ 8192#64≤pc) (w:BitVec 64) (hw:f pc.toNat=w) (hop:AT w=35) (h:Co w=true) (A b:BitVec 64) (hA0:g (pF w 48)=A) (hb0:g (pF w 44)=b) (h3:wi A 4#64=true) (h4:wi b 8#64=true)
 (l:List (Dg × Pr)) (met:Bool) (D:Dg) (hD:Dg.mk' (A6 fun j=>f (A.toNat + j))=D) (P:Pr) (hG:Af M 345 [.ptr 0 [],dg D] (GT l met) 3 (Q3 (Ao (At P) (.int .i64 14)) (Cu 1 (fun _=>D) l met) 4)) :
 Af M 240 [.ptr 0 [],.ptr 3 []] (Cc f g pc false xt ++ YI l met) 6 (Q3 (.tup .fnil) (Cc f g pc true 18446744073709551615#64 ++ Qj 1 (fun _=>D) l met) 7):=by
 have ha:A.toNat + 4≤8192:=B8 h3
 have hb:b.toNat + 8≤8192:=B8 h4
 have ha8:(A + 4#64).toNat=A.toNat + 4:=Ul
 have n8:A.toNat + 4 - A.toNat=4:=Aa
 have hle:A.toNat≤8188:=Aa
 refine Ac ok.m.k240 rfl fun x hx=>?_
 have hp:pc.toNat < 8192:=BM
 have a1:=Ai w 52
 have a2:=Ai w 48
 have a3:=Ai w 44
 refine es 2000 ?_;(simp only [YH,Jn,CO,hpc,hw,seval])
 repeat refine sd ?_
 have zz:=Im;refine IM (As ok.m.rp w h) ?_
 (simp only [Jc,hop,hA0,hb0,seval])
 repeat refine sd ?_
 refine Ah (AW ok.m _ 4#64 Ak) ?_
 (simp only [h3,LZ,seval])
 refine Ah (AW ok.m _ 8#64 Ak) ?_
 (simp only [h4,ha8,n8,LZ,seval])
 repeat refine sd ?_
 simp only [ite_self]
 refine Di (Br ok.m 8 Ak (GR f A.toNat)) ?_ Bx (by simp only [At,LX,implies_true]) ?_
 ·simp only [LY,seval]
  intro j hj
  simp only [GR]
  by_cases h1:j < 4
  ·rw [if_pos h1,if_pos h1];simp only [LY,seval]
  ·rw [if_neg h1,if_neg h1];simp only [LY,seval]
 (simp only [At,LZ,seval])
 have hQ:∀ j,j < 32→(Pr.mk' (A6 (GR f A.toNat))).at j=D.at j:=by
  intro j hj
  rw [← hD,Pr.at_mk' _ _ Aa,Dg.at_mk' _ _ hj,A6,A6,GR,if_pos Aa]
 generalize Pr.mk' (A6 (GR f A.toNat))=Q at *
 refine Ag (σ:=Nat) (fun i=>i≤32) (fun i=>fr 364 [(0,.ptr 0 []),(1,.ptr 3 []),(10,W b),(11,W (pc + 1#64)),(16,.ptr 6 []),(17,.ptr 7 []),(18,.int .i64 i)])
  (fun i=>[(0,Ba 1 2 pc false xt),(1,.ar 1 8192 fun j=>W (f j)),(2,.ar 1 16 fun j=>W (g j)),(3,BJ (.sl 4 [] 0 l.length 32) (.sl 5 [] 0 l.length 64) met),(4,.ar 32 l.length fun i=>dg (rh l i)),(5,.ar 64 l.length fun i=>At (rp l i)),(6,At Q),(7,.ar 1 32 fun j=>B (if j < i then D.at j else 0#8))]) (fun _=>8) (fun i=>32 - i) 0 Aa ?_ ?_
 ·refine Aj.fr [0,1,2,3,4,5,2182,2214] [] hx Ax Ak ?_ ?_
  ·simp only [LY,seval]
  ·simp only [IX,seval]
   intro j hj
   simp only [if_neg (show ¬ j < 0 by omega),LY,seval]
 ·intro i hi
  refine es 2000 ?_
  by_cases h32:i=32
  ·subst h32
   have d0:(((32:Nat):Int) < 32)=False:=eq_false Aa
   (simp only [d0,Lcc,seval])
   have hf:(fun j=>B (if j < 32 then D.at j else 0#8))=fun j=>B (D.at j):=by
    funext j
    by_cases hj:j < 32
    ·rw [if_pos hj]
    ·rw [if_neg hj,Dg.at_ge _ _ Aa]
   simp only [hf]
   have zz:=aq2 Vm PR;refine Fl [3,4,5] (hG) ?_
   (simp only [Vm,Gw,seval])
   have zz:=@Ba.eq_1;refine JO [0,1,2] [0] (Bq ok.m pc xt 18446744073709551615#64 false) ?_
   (simp only [Fj,seval])
   have zz:=aq3 UW @CO.eq_1 @LM;exact Bg hx [0,1,2,3,4,5,72] ⟨rfl,rfl,rfl⟩
  ·have d0:((i:Int) < 32)=True:=eq_true Aa
   have w0:IntKind.i64.wrap ((i:Int) + 1)=((i + 1:Nat):Int):=A9
   (simp only [d0,w0,Fq,LZ,seval])
   repeat refine sd ?_
   refine ⟨i + 1,by omega,by omega,?_⟩
   refine Aj.fr [0,1,2,3,4,5,6,7] [] hx Ax Ak ?_ ?_
   ·simp only [LY,seval]
   ·simp only [IX,seval]
    intro j hj
    by_cases h1:j=i
    ·subst h1
     rw [if_pos rfl,if_pos Aa,hQ j hj]
     simp only [LY,seval]
    ·rw [if_neg h1]
     by_cases h2:j < i
     ·rw [if_pos h2,if_pos Aa];simp only [LY,seval]
     ·rw [if_neg h2,if_neg Aa];simp only [LY,seval]
theorem P9 (q:Nat) (qs:Nat→Dg)(ok:OkRH M) (f g:Nat→BitVec 64) (pc xt:BitVec 64) (hpc:¬ 8192#64≤pc) (w:BitVec 64) (hw:f pc.toNat=w) (hop:AT w=35) (h:Co w=true) (A b:BitVec 64) (hA0:g (pF w 48)=A) (hb0:g (pF w 44)=b) (h3:wi A 4#64=true) (h4:wi b 8#64=true)
 (l:List (Dg × Pr)) (met:Bool) (D:Dg) (hD:Dg.mk' (A6 fun j=>f (A.toNat + j))=D) (P:Pr) (hG:Af M 345 [.ptr 0 [],dg D] (Cu q qs l met) 4 (Q3 (Ao (At P) (.int .i64 14)) (Cu q qs l met) 4)) :
 Af M 240 [.ptr 0 [],.ptr 3 []] (Cc f g pc false xt ++ Qj q qs l met) 7 (Q3 (.tup .fnil) (Cc f g pc true 18446744073709551615#64 ++ Qj q qs l met) 7):=by
 have ha:A.toNat + 4≤8192:=B8 h3
 have hb:b.toNat + 8≤8192:=B8 h4
 have ha8:(A + 4#64).toNat=A.toNat + 4:=Ul
 have n8:A.toNat + 4 - A.toNat=4:=Aa
 have hle:A.toNat≤8188:=Aa
 refine Ac ok.m.k240 rfl fun x hx=>?_
 have hp:pc.toNat < 8192:=BM
 have a1:=Ai w 52
 have a2:=Ai w 48
 have a3:=Ai w 44
 refine es 2000 ?_;(simp only [YH,Jn,CO,hpc,hw,seval])
 repeat refine sd ?_
 have zz:=Im;refine IM (As ok.m.rp w h) ?_
 (simp only [Jc,hop,hA0,hb0,seval])
 repeat refine sd ?_
 refine Ah (AW ok.m _ 4#64 Ak) ?_
 (simp only [h3,LZ,seval])
 refine Ah (AW ok.m _ 8#64 Ak) ?_
 (simp only [h4,ha8,n8,LZ,seval])
 repeat refine sd ?_
 simp only [ite_self]
 refine Di (Br ok.m 8 Ak (GR f A.toNat)) ?_ Bx (by simp only [At,LX,implies_true]) ?_
 ·simp only [LY,seval]
  intro j hj
  simp only [GR]
  by_cases h1:j < 4
  ·rw [if_pos h1,if_pos h1];simp only [LY,seval]
  ·rw [if_neg h1,if_neg h1];simp only [LY,seval]
 (simp only [At,LZ,seval])
 have hQ:∀ j,j < 32→(Pr.mk' (A6 (GR f A.toNat))).at j=D.at j:=by
  intro j hj
  rw [← hD,Pr.at_mk' _ _ Aa,Dg.at_mk' _ _ hj,A6,A6,GR,if_pos Aa]
 generalize Pr.mk' (A6 (GR f A.toNat))=Q at *
 refine Ag (σ:=Nat) (fun i=>i≤32) (fun i=>fr 364 [(0,.ptr 0 []),(1,.ptr 3 []),(10,W b),(11,W (pc + 1#64)),(16,.ptr 7 []),(17,.ptr 8 []),(18,.int .i64 i)])
  (fun i=>[(0,Ba 1 2 pc false xt),(1,.ar 1 8192 fun j=>W (f j)),(2,.ar 1 16 fun j=>W (g j)),(6,.ar 32 q fun i=>dg (qs i)),(3,Eh q (.sl 4 [] 0 l.length 32) (.sl 5 [] 0 l.length 64) met),(4,.ar 32 l.length fun i=>dg (rh l i)),(5,.ar 64 l.length fun i=>At (rp l i)),(7,At Q),(8,.ar 1 32 fun j=>B (if j < i then D.at j else 0#8))]) (fun _=>9) (fun i=>32 - i) 0 Aa ?_ ?_
 ·refine Aj.fr [0,1,2,3,4,5,6,2183,2215] [] hx Ax Ak ?_ ?_
  ·simp only [LY,seval]
  ·simp only [IX,seval]
   intro j hj
   simp only [if_neg (show ¬ j < 0 by omega),LY,seval]
 ·intro i hi
  refine es 2000 ?_
  by_cases h32:i=32
  ·subst h32
   have d0:(((32:Nat):Int) < 32)=False:=eq_false Aa
   (simp only [d0,Lcc,seval])
   have hf:(fun j=>B (if j < 32 then D.at j else 0#8))=fun j=>B (D.at j):=by
    funext j
    by_cases hj:j < 32
    ·rw [if_pos hj]
    ·rw [if_neg hj,Dg.at_ge _ _ Aa]
   simp only [hf]
   have zz:=aq2 Vm PR;refine Fl [3,4,5,6] (hG) ?_
   (simp only [Vm,Gw,seval])
   have zz:=@Ba.eq_1;refine JO [0,1,2] [0] (Bq ok.m pc xt 18446744073709551615#64 false) ?_
   (simp only [Fj,seval])
   have zz:=aq3 UW @CO.eq_1 @LM;exact Bg hx [0,1,2,3,4,5,6] ⟨rfl,rfl,rfl⟩
  ·have d0:((i:Int) < 32)=True:=eq_true Aa
   have w0:IntKind.i64.wrap ((i:Int) + 1)=((i + 1:Nat):Int):=A9
   (simp only [d0,w0,Fq,LZ,seval])
   repeat refine sd ?_
   refine ⟨i + 1,by omega,by omega,?_⟩
   refine Aj.fr [0,1,2,3,4,5,6,7,8] [] hx Ax Ak ?_ ?_
   ·simp only [LY,seval]
   ·simp only [IX,seval]
    intro j hj
    by_cases h1:j=i
    ·subst h1
     rw [if_pos rfl,if_pos Aa,hQ j hj]
     simp only [LY,seval]
    ·rw [if_neg h1]
     by_cases h2:j < i
     ·rw [if_pos h2,if_pos Aa];simp only [LY,seval]
     ·rw [if_neg h2,if_neg Aa];simp only [LY,seval]
theorem PG (q:Nat) (qs qs':Nat→Dg)(ok:OkRH M) (f g:Nat→BitVec 64) (pc xt:BitVec 64) (hpc:¬ 8192#64≤pc) (w:BitVec 64) (hw:f pc.toNat=w) (hop:AT w=35) (h:Co w=true) (A b:BitVec 64) (hA0:g (pF w 48)=A) (hb0:g (pF w 44)=b) (h3:wi A 4#64=true) (h4:wi b 8#64=true)
 (l:List (Dg × Pr)) (met:Bool) (D:Dg) (hD:Dg.mk' (A6 fun j=>f (A.toNat + j))=D) (P:Pr) (hG:Af M 345 [.ptr 0 [],dg D] (Cu q qs l met) 4 (Q3 (Ao (At P) (.int .i64 14)) (Ov (q + 1) qs' l met) 5)) :
 Af M 240 [.ptr 0 [],.ptr 3 []] (Cc f g pc false xt ++ Qj q qs l met) 7 (Q3 (.tup .fnil) (Cc f g pc true 18446744073709551615#64 ++ Jn (q + 1) qs' l met) 8):=by
 have ha:A.toNat + 4≤8192:=B8 h3
 have hb:b.toNat + 8≤8192:=B8 h4
 have ha8:(A + 4#64).toNat=A.toNat + 4:=Ul
 have n8:A.toNat + 4 - A.toNat=4:=Aa
 have hle:A.toNat≤8188:=Aa
 refine Ac ok.m.k240 rfl fun x hx=>?_
 have hp:pc.toNat < 8192:=BM
 have a1:=Ai w 52
 have a2:=Ai w 48
 have a3:=Ai w 44
 refine es 2000 ?_;(simp only [YH,Jn,CO,hpc,hw,seval])
 repeat refine sd ?_
 have zz:=Im;refine IM (As ok.m.rp w h) ?_
 (simp only [Jc,hop,hA0,hb0,seval])
 repeat refine sd ?_
 refine Ah (AW ok.m _ 4#64 Ak) ?_
 (simp only [h3,LZ,seval])
 refine Ah (AW ok.m _ 8#64 Ak) ?_
 (simp only [h4,ha8,n8,LZ,seval])
 repeat refine sd ?_
 simp only [ite_self]
 refine Di (Br ok.m 8 Ak (GR f A.toNat)) ?_ Bx (by simp only [At,LX,implies_true]) ?_
 ·simp only [LY,seval]
  intro j hj
  simp only [GR]
  by_cases h1:j < 4
  ·rw [if_pos h1,if_pos h1];simp only [LY,seval]
  ·rw [if_neg h1,if_neg h1];simp only [LY,seval]
 (simp only [At,LZ,seval])
 have hQ:∀ j,j < 32→(Pr.mk' (A6 (GR f A.toNat))).at j=D.at j:=by
  intro j hj
  rw [← hD,Pr.at_mk' _ _ Aa,Dg.at_mk' _ _ hj,A6,A6,GR,if_pos Aa]
 generalize Pr.mk' (A6 (GR f A.toNat))=Q at *
 refine Ag (σ:=Nat) (fun i=>i≤32) (fun i=>fr 364 [(0,.ptr 0 []),(1,.ptr 3 []),(10,W b),(11,W (pc + 1#64)),(16,.ptr 7 []),(17,.ptr 8 []),(18,.int .i64 i)])
  (fun i=>[(0,Ba 1 2 pc false xt),(1,.ar 1 8192 fun j=>W (f j)),(2,.ar 1 16 fun j=>W (g j)),(6,.ar 32 q fun i=>dg (qs i)),(3,Eh q (.sl 4 [] 0 l.length 32) (.sl 5 [] 0 l.length 64) met),(4,.ar 32 l.length fun i=>dg (rh l i)),(5,.ar 64 l.length fun i=>At (rp l i)),(7,At Q),(8,.ar 1 32 fun j=>B (if j < i then D.at j else 0#8))]) (fun _=>9) (fun i=>32 - i) 0 Aa ?_ ?_
 ·refine Aj.fr [0,1,2,3,4,5,6,2183,2215] [] hx Ax Ak ?_ ?_
  ·simp only [LY,seval]
  ·simp only [IX,seval]
   intro j hj
   simp only [if_neg (show ¬ j < 0 by omega),LY,seval]
 ·intro i hi
  refine es 2000 ?_
  by_cases h32:i=32
  ·subst h32
   have d0:(((32:Nat):Int) < 32)=False:=eq_false Aa
   (simp only [d0,Lcc,seval])
   have hf:(fun j=>B (if j < 32 then D.at j else 0#8))=fun j=>B (D.at j):=by
    funext j
    by_cases hj:j < 32
    ·rw [if_pos hj]
    ·rw [if_neg hj,Dg.at_ge _ _ Aa]
   simp only [hf]
   have zz:=aq2 Vm PR;refine Fl [3,4,5,6] (hG) ?_
   (simp only [Vm,Gw,seval])
   have zz:=@Ba.eq_1;refine JO [0,1,2] [0] (Bq ok.m pc xt 18446744073709551615#64 false) ?_
   (simp only [Fj,seval])
   have zz:=aq3 UW @CO.eq_1 @LM;exact Bg hx [0,1,2,3,4,5,6,73] ⟨rfl,rfl,rfl⟩
  ·have d0:((i:Int) < 32)=True:=eq_true Aa
   have w0:IntKind.i64.wrap ((i:Int) + 1)=((i + 1:Nat):Int):=A9
   (simp only [d0,w0,Fq,LZ,seval])
   repeat refine sd ?_
   refine ⟨i + 1,by omega,by omega,?_⟩
   refine Aj.fr [0,1,2,3,4,5,6,7,8] [] hx Ax Ak ?_ ?_
   ·simp only [LY,seval]
   ·simp only [IX,seval]
    intro j hj
    by_cases h1:j=i
    ·subst h1
     rw [if_pos rfl,if_pos Aa,hQ j hj]
     simp only [LY,seval]
    ·rw [if_neg h1]
     by_cases h2:j < i
     ·rw [if_pos h2,if_pos Aa];simp only [LY,seval]
     ·rw [if_neg h2,if_neg Aa];simp only [LY,seval]
end Mv
