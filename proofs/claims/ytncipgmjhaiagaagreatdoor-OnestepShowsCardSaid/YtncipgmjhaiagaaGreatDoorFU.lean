/- A part. -/
import Derived.Test.YtncipgmjhaiagaaGreatDoorFT
set_option linter.all false
set_option maxRecDepth 20000
set_option maxHeartbeats 8000000
namespace Mv
open Go
variable {M:Seat}
structure OkAc (M:Seat):Prop where
 r:OkRM M
 k107:Al M 107 Apu=true
 k243:Al M 243 Arn=true
theorem Apr (ok:OkAc M) (a n:BitVec 64) (hn:n=4#64 ∨ n=8#64):Af M 243 [W a,W n] [] 0 (Q3 (.bool (wi a n)) [] 0):=by
 rw [Alu a n hn]
 refine Ac ok.k243 rfl fun x hx=>?_
 by_cases h1:a < 8192#64 <;> by_cases h2:a + n≤8192#64
 all_goals
  simp only [h1,h2,decide_true,decide_false,Bool.and_true,Bool.and_false]
  refine es 2000 ?_;(simp only [Arn,Aro,h1,h2,LZ,seval])
  exact Aq.mkZ hx [] ⟨rfl,rfl,rfl⟩
theorem Arb (ok:OkAc M) (f g:Nat→BitVec 64) (pc xt:BitVec 64) :
 Af M 107 [.ptr 0 []] (Cc f g pc true xt) 3 (Q3 (Ao .nils (.int .i64 0)) (Cc f g pc true xt) 3):=by
 refine Ac ok.k107 rfl fun x hx=>?_
 refine es 2000 ?_;(simp only [Apu,Apt,Cc,Fj,seval])
 have zz:=@Ba.eq_1;exact Bg hx [0,1,2] ⟨rfl,rfl,rfl⟩
theorem Aqy (ok:OkAc M) (f g:Nat→BitVec 64) (pc xt:BitVec 64) (hpc:8192#64≤pc) :
 Af M 107 [.ptr 0 []] (Cc f g pc false xt) 3 (Q3 (Ao .nils (.int .i64 0)) (Cc f g pc false xt) 3):=by
 refine Ac ok.k107 rfl fun x hx=>?_
 refine es 2000 ?_;(simp only [Apu,Apt,Cc,Fj,eq_true hpc,seval])
 have zz:=@Ba.eq_1;exact Bg hx [0,1,2] ⟨rfl,rfl,rfl⟩
def ac1 (pc:BitVec 64):Hp:=[(3,.ar 1 1 fun j=>W (if j=0 then pc else 0#64))]
theorem Aq1 (ok:OkAc M) (f g:Nat→BitVec 64) (pc xt:BitVec 64) (hpc:¬ 8192#64≤pc) (w:BitVec 64) (hw:f pc.toNat=w) (h:Co w=false) :
 Af M 107 [.ptr 0 []] (Cc f g pc false xt) 3 (Q3 (Ao (.sl 3 [] 0 1 1) (.int .i64 1)) (Cc f g pc false xt ++ ac1 pc) 4):=by
 refine Ac ok.k107 rfl fun x hx=>?_
 have hp:pc.toNat < 8192:=BM
 refine es 2000 ?_;(simp only [Apu,Apt,Fj,Cc,eq_false hpc,hw,seval])
 repeat refine sd ?_
 have zz:=@BD.eq_1;refine IM (Jq ok.r.rp w h) ?_
 (simp only [BD,Fj,seval])
 have zz:=aq4 @Ba.eq_1 @ac1.eq_1 @Ao.eq_1 @JZ;exact Bg hx [0,1,2,275] ⟨rfl,rfl,rfl⟩
theorem Aq5 (ok:OkAc M) (f g:Nat→BitVec 64) (pc xt:BitVec 64) (hpc:¬ 8192#64≤pc) (w:BitVec 64) (hw:f pc.toNat=w) (h:Co w=true) (h27:¬ AT w=27) (h28:¬ AT w=28) (h34:¬ AT w=34) (h35:¬ AT w=35) :
 Af M 107 [.ptr 0 []] (Cc f g pc false xt) 3 (Q3 (Ao (.sl 3 [] 0 1 1) (.int .i64 1)) (Cc f g pc false xt ++ ac1 pc) 4):=by
 refine Ac ok.k107 rfl fun x hx=>?_
 have hp:pc.toNat < 8192:=BM
 have a2:=Ai w 48
 have a3:=Ai w 44
 have e1:((AT w:Int)=27)=False:=eq_false Aa
 have e2:((AT w:Int)=28)=False:=eq_false Aa
 have e3:((AT w:Int)=34)=False:=eq_false Aa
 have e4:((AT w:Int)=35)=False:=eq_false Aa
 refine es 2000 ?_;(simp only [Apu,Apt,Fj,Cc,eq_false hpc,hw,seval])
 repeat refine sd ?_
 have zz:=Im;refine IM (As ok.r.rp w h) ?_
 (simp only [Jc,e1,e2,e3,e4,seval])
 repeat refine sd ?_
 have zz:=aq4 @Ba.eq_1 @ac1.eq_1 @Ao.eq_1 @JZ;exact Bg hx [0,1,2,275] ⟨rfl,rfl,rfl⟩
theorem Aqd (ok:OkAc M) (f g:Nat→BitVec 64) (pc xt:BitVec 64) (hpc:¬ 8192#64≤pc) (w:BitVec 64) (hw:f pc.toNat=w) (hop:AT w=27) (h:Co w=true) (hx2:¬ 8192#64≤g (pF w 48) + BitVec.ofInt 64 (pN w)) :
 Af M 107 [.ptr 0 []] (Cc f g pc false xt) 3 (Q3 (Ao (.sl 3 [] 0 2 1) (.int .i64 2)) (Cc f g pc false xt ++ [(3,.ar 1 2 fun j=>W (if j=0 then pc else g (pF w 48) + BitVec.ofInt 64 (pN w)))]) 4):=by
 refine Ac ok.k107 rfl fun x hx=>?_
 have hp:pc.toNat < 8192:=BM
 have a2:=Ai w 48
 have a3:=Ai w 44
 have hlt:(g (pF w 48) + BitVec.ofInt 64 (pN w) < 8192#64)=True:=eq_true (by rw [BitVec.lt_def];rw [BitVec.le_def] at hx2;omega)
 refine es 2000 ?_;(simp only [Apu,Apt,Fj,Cc,eq_false hpc,hw,seval])
 repeat refine sd ?_
 have zz:=Im;refine IM (As ok.r.rp w h) ?_
 (simp only [Jc,hop,hlt,seval])
 repeat refine sd ?_
 refine ID hx [0,1,2,1891] (Ao (.sl 3 [] 0 2 1) (.int .i64 2)) (Cc f g pc false xt ++ [(3,.ar 1 2 fun j=>W (if j=0 then pc else g (pF w 48) + BitVec.ofInt 64 (pN w)))]) 4 ?_
 simp only [Cc,Ba,Vl,JZ,LY,seval]
 intro i hi
 have hi2:i=0 ∨ i=1:=Aa
 rcases hi2 with rfl | rfl <;> simp only [Nat.zero_lt_one,Nat.lt_irrefl,Nat.sub_self,CD,Nat.one_ne_zero,LY,seval]
theorem Apy (ok:OkAc M) (f g:Nat→BitVec 64) (pc xt:BitVec 64) (hpc:¬ 8192#64≤pc) (w:BitVec 64) (hw:f pc.toNat=w) (hop:AT w=27) (h:Co w=true) (hx2:8192#64≤g (pF w 48) + BitVec.ofInt 64 (pN w)) :
 Af M 107 [.ptr 0 []] (Cc f g pc false xt) 3 (Q3 (Ao (.sl 3 [] 0 1 1) (.int .i64 1)) (Cc f g pc false xt ++ ac1 pc) 4):=by
 refine Ac ok.k107 rfl fun x hx=>?_
 have hp:pc.toNat < 8192:=BM
 have a2:=Ai w 48
 have a3:=Ai w 44
 have hlt:(g (pF w 48) + BitVec.ofInt 64 (pN w) < 8192#64)=False:=eq_false (by rw [BitVec.lt_def];rw [BitVec.le_def] at hx2;omega)
 refine es 2000 ?_;(simp only [Apu,Apt,Fj,Cc,eq_false hpc,hw,seval])
 repeat refine sd ?_
 have zz:=Im;refine IM (As ok.r.rp w h) ?_
 (simp only [Jc,hop,hlt,seval])
 repeat refine sd ?_
 have zz:=aq4 @Ba.eq_1 @ac1.eq_1 @Ao.eq_1 @JZ;exact Bg hx [0,1,2,275] ⟨rfl,rfl,rfl⟩
theorem Ap9 (ok:OkAc M) (f g:Nat→BitVec 64) (pc xt:BitVec 64) (hpc:¬ 8192#64≤pc) (w:BitVec 64) (hw:f pc.toNat=w) (hop:AT w=28) (h:Co w=true) (hx2:¬ 8192#64≤g (pF w 48) + BitVec.ofInt 64 (pN w)) :
 Af M 107 [.ptr 0 []] (Cc f g pc false xt) 3 (Q3 (Ao (.sl 3 [] 0 2 1) (.int .i64 1)) (Cc f g pc false xt ++ [(3,.ar 1 2 fun j=>W (if j=0 then pc else g (pF w 48) + BitVec.ofInt 64 (pN w)))]) 4):=by
 refine Ac ok.k107 rfl fun x hx=>?_
 have hp:pc.toNat < 8192:=BM
 have a2:=Ai w 48
 have a3:=Ai w 44
 have hlt:(g (pF w 48) + BitVec.ofInt 64 (pN w) < 8192#64)=True:=eq_true (by rw [BitVec.lt_def];rw [BitVec.le_def] at hx2;omega)
 refine es 2000 ?_;(simp only [Apu,Apt,Fj,Cc,eq_false hpc,hw,seval])
 repeat refine sd ?_
 have zz:=Im;refine IM (As ok.r.rp w h) ?_
 (simp only [Jc,hop,hlt,seval])
 repeat refine sd ?_
 refine ID hx [0,1,2,1891] (Ao (.sl 3 [] 0 2 1) (.int .i64 1)) (Cc f g pc false xt ++ [(3,.ar 1 2 fun j=>W (if j=0 then pc else g (pF w 48) + BitVec.ofInt 64 (pN w)))]) 4 ?_
 simp only [Cc,Ba,Vl,JZ,LY,seval]
 intro i hi
 have hi2:i=0 ∨ i=1:=Aa
 rcases hi2 with rfl | rfl <;> simp only [Nat.zero_lt_one,Nat.lt_irrefl,Nat.sub_self,CD,Nat.one_ne_zero,LY,seval]
theorem Apw (ok:OkAc M) (f g:Nat→BitVec 64) (pc xt:BitVec 64) (hpc:¬ 8192#64≤pc) (w:BitVec 64) (hw:f pc.toNat=w) (hop:AT w=28) (h:Co w=true) (hx2:8192#64≤g (pF w 48) + BitVec.ofInt 64 (pN w)) :
 Af M 107 [.ptr 0 []] (Cc f g pc false xt) 3 (Q3 (Ao (.sl 3 [] 0 1 1) (.int .i64 1)) (Cc f g pc false xt ++ ac1 pc) 4):=by
 refine Ac ok.k107 rfl fun x hx=>?_
 have hp:pc.toNat < 8192:=BM
 have a2:=Ai w 48
 have a3:=Ai w 44
 have hlt:(g (pF w 48) + BitVec.ofInt 64 (pN w) < 8192#64)=False:=eq_false (by rw [BitVec.lt_def];rw [BitVec.le_def] at hx2;omega)
 refine es 2000 ?_;(simp only [Apu,Apt,Fj,Cc,eq_false hpc,hw,seval])
 repeat refine sd ?_
 have zz:=Im;refine IM (As ok.r.rp w h) ?_
 (simp only [Jc,hop,hlt,seval])
 repeat refine sd ?_
 have zz:=aq4 @Ba.eq_1 @ac1.eq_1 @Ao.eq_1 @JZ;exact Bg hx [0,1,2,275] ⟨rfl,rfl,rfl⟩
theorem Aqg (ok:OkAc M) (f g:Nat→BitVec 64) (pc xt:BitVec 64) (hpc:¬ 8192#64≤pc) (w:BitVec 64) (hw:f pc.toNat=w) (hop:AT w=34) (h:Co w=true) (hb:(wi (g (pF w 48)) 8#64 && wi (g (pF w 44)) 4#64)=false) :
 Af M 107 [.ptr 0 []] (Cc f g pc false xt) 3 (Q3 (Ao (.sl 3 [] 0 1 1) (.int .i64 1)) (Cc f g pc false xt ++ ac1 pc) 4):=by
 refine Ac ok.k107 rfl fun x hx=>?_
 have hp:pc.toNat < 8192:=BM
 have a2:=Ai w 48
 have a3:=Ai w 44
 have h1:=Apr ok (g (pF w 48)) 8#64 Ak
 have h2:=Apr ok (g (pF w 44)) 4#64 Ak
 cases e1:wi (g (pF w 48)) 8#64 with
 | false =>
   rw [e1] at h1
   refine es 2000 ?_;(simp only [Apu,Apt,Fj,Cc,eq_false hpc,hw,seval])
   repeat refine sd ?_
   have zz:=Im;refine IM (As ok.r.rp w h) ?_
   (simp only [Jc,hop,seval])
   repeat refine sd ?_
   refine Ah (h1) ?_
   (simp only [LZ,seval])
   have zz:=aq4 @Ba.eq_1 @ac1.eq_1 @Ao.eq_1 @JZ;exact Bg hx [0,1,2,275] ⟨rfl,rfl,rfl⟩
 | true =>
   have e2:wi (g (pF w 44)) 4#64=false:=by rw [e1] at hb;simpa using hb
   rw [e1] at h1
   rw [e2] at h2
   refine es 2000 ?_;(simp only [Apu,Apt,Fj,Cc,eq_false hpc,hw,seval])
   repeat refine sd ?_
   have zz:=Im;refine IM (As ok.r.rp w h) ?_
   (simp only [Jc,hop,seval])
   repeat refine sd ?_
   refine Ah (h1) ?_
   (simp only [LZ,seval])
   refine Ah (h2) ?_
   (simp only [LZ,seval])
   have zz:=aq4 @Ba.eq_1 @ac1.eq_1 @Ao.eq_1 @JZ;exact Bg hx [0,1,2,275] ⟨rfl,rfl,rfl⟩
def Ap6 (pc A B:BitVec 64) (j:Nat):BitVec 64:=if j=0 then pc else if j≤8 then A + BitVec.ofNat 64 (j - 1) else B + BitVec.ofNat 64 (j - 1 - 8)
theorem Aqk (ok:OkAc M) (f g:Nat→BitVec 64) (pc xt:BitVec 64) (hpc:¬ 8192#64≤pc) (w:BitVec 64) (hw:f pc.toNat=w) (hop:AT w=34) (h:Co w=true) (e1:wi (g (pF w 48)) 8#64=true) (e2:wi (g (pF w 44)) 4#64=true) :
 Af M 107 [.ptr 0 []] (Cc f g pc false xt) 3 (Q3 (Ao (.sl 3 [] 0 13 1) (.int .i64 9)) (Cc f g pc false xt ++ [(3,.ar 1 13 fun j=>W (Ap6 pc (g (pF w 48)) (g (pF w 44)) j))]) 4):=by
 refine Ac ok.k107 rfl fun x hx=>?_
 have hp:pc.toNat < 8192:=BM
 have a2:=Ai w 48
 have a3:=Ai w 44
 have h1:=Apr ok (g (pF w 48)) 8#64 Ak
 have h2:=Apr ok (g (pF w 44)) 4#64 Ak
 rw [e1] at h1
 rw [e2] at h2
 refine es 2000 ?_;(simp only [Apu,Apt,Fj,Cc,eq_false hpc,hw,seval])
 repeat refine sd ?_
 have zz:=Im;refine IM (As ok.r.rp w h) ?_
 (simp only [Jc,hop,seval])
 repeat refine sd ?_
 refine Ah (h1) ?_
 (simp only [LZ,seval])
 refine Ah (h2) ?_
 (simp only [LZ,seval])
 generalize g (pF w 48)=A at *
 generalize g (pF w 44)=B at *
 have hP0:∀ i,i < 8→Ap6 pc A B (1 + i)=A + BitVec.ofNat 64 i:=fun i hi=>by unfold Ap6;rw [if_neg Aa,if_pos Aa,show 1 + i - 1=i by omega]
 have hP1:∀ i,i < 4→Ap6 pc A B (1 + 8 + i)=B + BitVec.ofNat 64 i:=fun i hi=>by unfold Ap6;rw [if_neg Aa,if_neg Aa,show 1 + 8 + i - 1 - 8=i by omega]
 have hPz:Ap6 pc A B 0=pc:=if_pos rfl
 generalize Ap6 pc A B=P at *
 refine Ag (σ:=Nat) (fun i=>i≤8) (fun i=>fr 146 [(4,.sl 3 [] 0 (1 + i) 1),(8,W A),(9,W B),(10,W 8#64),(11,W 4#64),(12,W (BitVec.ofNat 64 i))]) (fun i=>Cc f g pc false xt ++ [(3,.ar 1 (1 + i) fun j=>W (P j))]) (fun _=>4) (fun i=>8 - i) 0 Aa ?_ ?_
 ·refine Aj.fr [0,1,2,275] [] hx Ax Ak ?_ ?_
  ·simp only [LY,seval]
  ·simp only [Cc,Ba,Vl,JZ,LY,seval]
   intro i hi
   obtain rfl:i=0:=Aa
   simp only [hPz,if_true,LY,seval]
 intro i hi
 refine es 2000 ?_
 by_cases hin:i=8
 ·subst hin
  (simp only [Cc,Fj,Vl,seval])
  refine Ag (σ:=Nat) (fun i=>i≤4) (fun i=>fr 146 [(4,.sl 3 [] 0 (1 + 8 + i) 1),(9,W B),(10,W 8#64),(11,W 4#64),(13,W (BitVec.ofNat 64 i))]) (fun i=>Cc f g pc false xt ++ [(3,.ar 1 (1 + 8 + i) fun j=>W (P j))]) (fun _=>4) (fun i=>4 - i) 0 Aa ?_ ?_
  ·refine Aj.fr [0,1,2,3] [] hx Ax Ak ?_ ?_
   ·simp only [LY,seval]
   ·simp only [Cc,Ba,Vl,LY,seval]
  intro i hi
  refine es 2000 ?_
  by_cases hin:i=4
  ·subst hin
   (simp only [Cc,Fj,Vl,seval])
   have zz:=aq3 @Ba.eq_1 @Cc.eq_1 @Ao.eq_1;exact Bg hx [0,1,2,3] ⟨rfl,rfl,rfl⟩
  have d0:(BitVec.ofNat 64 i < 4#64)=True:=eq_true (by rw [BitVec.lt_def,FT i Aa];show i < 4;omega)
  (simp only [d0,Cc,Fj,Vl,K2,seval])
  repeat refine sd ?_
  refine ⟨i + 1,by omega,by omega,?_⟩
  have hb:=hP1 i Aa
  refine Aj.fr [0,1,2,132] [] hx Ax Ak ?_ ?_
  ·simp only [LY,seval]
   omega
  ·simp only [Cc,Ba,Vl,JZ,LY,seval]
   refine ⟨by omega,fun j hj=>?_⟩
   by_cases hj1:j < 1 + 8 + i
   ·rw [if_pos Aa]
   ·obtain rfl:j=1 + 8 + i:=Aa
    rw [if_neg Aa,if_pos Aa,hb]
 have d0:(BitVec.ofNat 64 i < 8#64)=True:=eq_true (by rw [BitVec.lt_def,FT i Aa];show i < 8;omega)
 (simp only [d0,Cc,Fj,Vl,K2,seval])
 repeat refine sd ?_
 refine ⟨i + 1,by omega,by omega,?_⟩
 have hb:=hP0 i Aa
 refine Aj.fr [0,1,2,132] [] hx Ax Ak ?_ ?_
 ·simp only [LY,seval]
  omega
 ·simp only [Cc,Ba,Vl,JZ,LY,seval]
  refine ⟨by omega,fun j hj=>?_⟩
  by_cases hj1:j < 1 + i
  ·rw [if_pos Aa]
  ·obtain rfl:j=1 + i:=Aa
   rw [if_neg Aa,if_pos Aa,hb]
theorem Aqf (ok:OkAc M) (f g:Nat→BitVec 64) (pc xt:BitVec 64) (hpc:¬ 8192#64≤pc) (w:BitVec 64) (hw:f pc.toNat=w) (hop:AT w=35) (h:Co w=true) (hb:(wi (g (pF w 48)) 4#64 && wi (g (pF w 44)) 8#64)=false) :
 Af M 107 [.ptr 0 []] (Cc f g pc false xt) 3 (Q3 (Ao (.sl 3 [] 0 1 1) (.int .i64 1)) (Cc f g pc false xt ++ ac1 pc) 4):=by
 refine Ac ok.k107 rfl fun x hx=>?_
 have hp:pc.toNat < 8192:=BM
 have a2:=Ai w 48
 have a3:=Ai w 44
 have h1:=Apr ok (g (pF w 48)) 4#64 Ak
 have h2:=Apr ok (g (pF w 44)) 8#64 Ak
 cases e1:wi (g (pF w 48)) 4#64 with
 | false =>
   rw [e1] at h1
   refine es 2000 ?_;(simp only [Apu,Apt,Fj,Cc,eq_false hpc,hw,seval])
   repeat refine sd ?_
   have zz:=Im;refine IM (As ok.r.rp w h) ?_
   (simp only [Jc,hop,seval])
   repeat refine sd ?_
   refine Ah (h1) ?_
   (simp only [LZ,seval])
   have zz:=aq4 @Ba.eq_1 @ac1.eq_1 @Ao.eq_1 @JZ;exact Bg hx [0,1,2,275] ⟨rfl,rfl,rfl⟩
 | true =>
   have e2:wi (g (pF w 44)) 8#64=false:=by rw [e1] at hb;simpa using hb
   rw [e1] at h1
   rw [e2] at h2
   refine es 2000 ?_;(simp only [Apu,Apt,Fj,Cc,eq_false hpc,hw,seval])
   repeat refine sd ?_
   have zz:=Im;refine IM (As ok.r.rp w h) ?_
   (simp only [Jc,hop,seval])
   repeat refine sd ?_
   refine Ah (h1) ?_
   (simp only [LZ,seval])
   refine Ah (h2) ?_
   (simp only [LZ,seval])
   have zz:=aq4 @Ba.eq_1 @ac1.eq_1 @Ao.eq_1 @JZ;exact Bg hx [0,1,2,275] ⟨rfl,rfl,rfl⟩
def Ap5 (pc A B:BitVec 64) (j:Nat):BitVec 64:=if j=0 then pc else if j≤4 then A + BitVec.ofNat 64 (j - 1) else B + BitVec.ofNat 64 (j - 1 - 4)
theorem Aql (ok:OkAc M) (f g:Nat→BitVec 64) (pc xt:BitVec 64) (hpc:¬ 8192#64≤pc) (w:BitVec 64) (hw:f pc.toNat=w) (hop:AT w=35) (h:Co w=true) (e1:wi (g (pF w 48)) 4#64=true) (e2:wi (g (pF w 44)) 8#64=true) :
 Af M 107 [.ptr 0 []] (Cc f g pc false xt) 3 (Q3 (Ao (.sl 3 [] 0 13 1) (.int .i64 5)) (Cc f g pc false xt ++ [(3,.ar 1 13 fun j=>W (Ap5 pc (g (pF w 48)) (g (pF w 44)) j))]) 4):=by
 refine Ac ok.k107 rfl fun x hx=>?_
 have hp:pc.toNat < 8192:=BM
 have a2:=Ai w 48
 have a3:=Ai w 44
 have h1:=Apr ok (g (pF w 48)) 4#64 Ak
 have h2:=Apr ok (g (pF w 44)) 8#64 Ak
 rw [e1] at h1
 rw [e2] at h2
 refine es 2000 ?_;(simp only [Apu,Apt,Fj,Cc,eq_false hpc,hw,seval])
 repeat refine sd ?_
 have zz:=Im;refine IM (As ok.r.rp w h) ?_
 (simp only [Jc,hop,seval])
 repeat refine sd ?_
 refine Ah (h1) ?_
 (simp only [LZ,seval])
 refine Ah (h2) ?_
 (simp only [LZ,seval])
 generalize g (pF w 48)=A at *
 generalize g (pF w 44)=B at *
 have hP0:∀ i,i < 4→Ap5 pc A B (1 + i)=A + BitVec.ofNat 64 i:=fun i hi=>by unfold Ap5;rw [if_neg Aa,if_pos Aa,show 1 + i - 1=i by omega]
 have hP1:∀ i,i < 8→Ap5 pc A B (1 + 4 + i)=B + BitVec.ofNat 64 i:=fun i hi=>by unfold Ap5;rw [if_neg Aa,if_neg Aa,show 1 + 4 + i - 1 - 4=i by omega]
 have hPz:Ap5 pc A B 0=pc:=if_pos rfl
 generalize Ap5 pc A B=P at *
 refine Ag (σ:=Nat) (fun i=>i≤4) (fun i=>fr 146 [(4,.sl 3 [] 0 (1 + i) 1),(8,W A),(9,W B),(10,W 4#64),(11,W 8#64),(12,W (BitVec.ofNat 64 i))]) (fun i=>Cc f g pc false xt ++ [(3,.ar 1 (1 + i) fun j=>W (P j))]) (fun _=>4) (fun i=>4 - i) 0 Aa ?_ ?_
 ·refine Aj.fr [0,1,2,275] [] hx Ax Ak ?_ ?_
  ·simp only [LY,seval]
  ·simp only [Cc,Ba,Vl,JZ,LY,seval]
   intro i hi
   obtain rfl:i=0:=Aa
   simp only [hPz,if_true,LY,seval]
 intro i hi
 refine es 2000 ?_
 by_cases hin:i=4
 ·subst hin
  (simp only [Cc,Fj,Vl,seval])
  refine Ag (σ:=Nat) (fun i=>i≤8) (fun i=>fr 146 [(4,.sl 3 [] 0 (1 + 4 + i) 1),(9,W B),(10,W 4#64),(11,W 8#64),(13,W (BitVec.ofNat 64 i))]) (fun i=>Cc f g pc false xt ++ [(3,.ar 1 (1 + 4 + i) fun j=>W (P j))]) (fun _=>4) (fun i=>8 - i) 0 Aa ?_ ?_
  ·refine Aj.fr [0,1,2,3] [] hx Ax Ak ?_ ?_
   ·simp only [LY,seval]
   ·simp only [Cc,Ba,Vl,LY,seval]
  intro i hi
  refine es 2000 ?_
  by_cases hin:i=8
  ·subst hin
   (simp only [Cc,Fj,Vl,seval])
   have zz:=aq3 @Ba.eq_1 @Cc.eq_1 @Ao.eq_1;exact Bg hx [0,1,2,3] ⟨rfl,rfl,rfl⟩
  have d0:(BitVec.ofNat 64 i < 8#64)=True:=eq_true (by rw [BitVec.lt_def,FT i Aa];show i < 8;omega)
  (simp only [d0,Cc,Fj,Vl,K2,seval])
  repeat refine sd ?_
  refine ⟨i + 1,by omega,by omega,?_⟩
  have hb:=hP1 i Aa
  refine Aj.fr [0,1,2,132] [] hx Ax Ak ?_ ?_
  ·simp only [LY,seval]
   omega
  ·simp only [Cc,Ba,Vl,JZ,LY,seval]
   refine ⟨by omega,fun j hj=>?_⟩
   by_cases hj1:j < 1 + 4 + i
   ·rw [if_pos Aa]
   ·obtain rfl:j=1 + 4 + i:=Aa
    rw [if_neg Aa,if_pos Aa,hb]
 have d0:(BitVec.ofNat 64 i < 4#64)=True:=eq_true (by rw [BitVec.lt_def,FT i Aa];show i < 4;omega)
 (simp only [d0,Cc,Fj,Vl,K2,seval])
 repeat refine sd ?_
 refine ⟨i + 1,by omega,by omega,?_⟩
 have hb:=hP0 i Aa
 refine Aj.fr [0,1,2,132] [] hx Ax Ak ?_ ?_
 ·simp only [LY,seval]
  omega
 ·simp only [Cc,Ba,Vl,JZ,LY,seval]
  refine ⟨by omega,fun j hj=>?_⟩
  by_cases hj1:j < 1 + i
  ·rw [if_pos Aa]
  ·obtain rfl:j=1 + i:=Aa
   rw [if_neg Aa,if_pos Aa,hb]
def Mc.com (m:Mc):Dg:=Yo m.f m.g m.pc m.hl m.xt
def Ei (pres:List (Dg × Pr)) (m:Mc):Option Int × List Pf × Pr :=
 if m.hl=true then (none,[],Pr.zero) else if 8192#64≤m.pc then (none,[],Pr.zero)
 else ((nx (Fc pres) m.h ⟨m.f,[],Pr.zero⟩).2.1,(nx (Fc pres) m.h ⟨m.f,[],Pr.zero⟩).2.2.l,(nx (Fc pres) m.h ⟨m.f,[],Pr.zero⟩).2.2.pre)
theorem Mz {M:Seat} (ok:OkOs M) (m:Mc) (pres:List (Dg × Pr)) (q:Nat) :
 Af M 97 [.ptr 0 [],.ptr 1 []] [(0,m.v),(1,EA (.nils)),(2,Bv At Pr.zero pres)] 5
  (Q3 (TO m (Ei pres m).1 (Ei pres m).2.1 (Ei pres m).2.2) [(0,m.v),(1,EA (.nils)),(2,Bv At Pr.zero pres)] 5):=by
 obtain ⟨f,g,pc,hl,xt⟩:=m
 unfold Ei
 cases hl with
 | true=>rw [if_pos rfl];exact Qy ok f g pc xt pres q
 | false =>
   rw [if_neg Bu]
   by_cases hpc:8192#64≤pc
   ·rw [if_pos hpc];exact O9 ok f g pc xt hpc pres q
   ·rw [if_neg hpc]
    generalize hq:nx (Fc pres) (⟨f,g,pc,false,xt⟩:Mc).h ⟨f,[],Pr.zero⟩=r
    obtain ⟨h1,e,s1⟩:=r
    exact U6 ok f g pc xt hpc pres q h1 e s1 hq
theorem UY {M:Seat} (ok:OkOs M) (m:Mc) (pres:List (Dg × Pr)) (q:Nat) :
 Af M 97 [.ptr 0 [],.ptr 1 []] [(0,m.v),(1,EA (.sl 5 [] 0 q 32)),(2,Bv At Pr.zero pres)] 6
  (Q3 (TO m (Ei pres m).1 (Ei pres m).2.1 (Ei pres m).2.2) [(0,m.v),(1,EA (.sl 5 [] 0 q 32)),(2,Bv At Pr.zero pres)] 6):=by
 obtain ⟨f,g,pc,hl,xt⟩:=m
 unfold Ei
 cases hl with
 | true=>rw [if_pos rfl];exact QZ ok f g pc xt pres q
 | false =>
   rw [if_neg Bu]
   by_cases hpc:8192#64≤pc
   ·rw [if_pos hpc];exact OX ok f g pc xt hpc pres q
   ·rw [if_neg hpc]
    generalize hq:nx (Fc pres) (⟨f,g,pc,false,xt⟩:Mc).h ⟨f,[],Pr.zero⟩=r
    obtain ⟨h1,e,s1⟩:=r
    exact Uq ok f g pc xt hpc pres q h1 e s1 hq
theorem Ajg (pres:List (Dg × Pr)) (hp:JT pres) (m:Mc) (h:(Ei pres m).1=none):vfy m.com (Bm m.f 13 0) m.h (Ei pres m).2.1 (Ei pres m).2.2=((Tr pres m).com,none):=by
 obtain ⟨f,g,pc,hl,xt⟩:=m
 have hc:B2 (Bm f 13 0) (DV g pc hl xt)=(⟨f,g,pc,hl,xt⟩:Mc).com:=rfl
 unfold vfy
 rw [if_neg (fun h=>h hc)]
 unfold Ei at h ⊢
 unfold Tr
 dsimp only [Mc.h] at h ⊢
 cases hl with
 | true=>simp only [if_true,YJ];rfl
 | false =>
   simp only [TJ] at h ⊢
   by_cases hpc:8192#64≤pc
   ·simp only [hpc,if_true,YJ];rfl
   ·simp only [hpc,if_false] at h ⊢
    generalize hq:nx (Fc pres) ⟨g,pc,false,xt⟩ ⟨f,[],Pr.zero⟩=r at *
    obtain ⟨h1,e,s1⟩:=r
    have h:e=none:=h
    subst h
    have hF:=Aat pres hp ⟨g,pc,false,xt⟩ rfl hpc f Pr.zero h1 s1 hq []
    rw [List.append_nil] at hF
    dsimp only
    rw [hF]
    show YJ _ _=_
    rw [YJ,if_pos rfl]
    rfl
def YN (n:Nat) (s:Ps):Prop:=s.l.length=n∧∀ p ∈ s.l,p.p.length=13
theorem JF {n:Nat} {s:Ps} (h:YN n s) (f:Nat→BitVec 64) (g:Nat→BitVec 64) (a:BitVec 64) (pre:Pr):YN (n + 1) ⟨g,s.l ++ [Bf f a],pre⟩:=by
 refine ⟨by simp [h.1],fun p hp=>?_⟩
 rcases List.mem_append.1 hp with h1 | h1
 ·exact h.2 p h1
 ·rw [List.mem_singleton.1 h1];exact EW _ _
theorem Y4 (pres:List (Dg × Pr)) (a:BitVec 64):∀ (k i:Nat) (s:Ps) (l:List (BitVec 64)) (n:Nat),YN n s→(Jy (Fc pres) a k i s l).1=none∧YN (n + k) (Jy (Fc pres) a k i s l).2.1
 | 0,_,_,_,_,h=>⟨rfl,h⟩
 | k + 1, i, s, l, n, h => by
   have:=Y4 pres a k (i + 1) ⟨s.f,s.l ++ [Bf s.f (a + BitVec.ofNat 64 i)],s.pre⟩ (l ++ [s.f (a + BitVec.ofNat 64 i).toNat]) (n + 1) (JF h _ _ _ _)
   rw [show n + (k + 1)=n + 1 + k by omega]
   exact this
theorem Ade (pres:List (Dg × Pr)) (a:BitVec 64) (v:Nat→BitVec 64):∀ (k i:Nat) (s:Ps) (n:Nat),YN n s→(Ph (Fc pres) a v k i s).1=none∧YN (n + k) (Ph (Fc pres) a v k i s).2
 | 0,_,_,_,h=>⟨rfl,h⟩
 | k + 1, i, s, n, h => by
   have:=Ade pres a v k (i + 1) ⟨E9 s.f (a + BitVec.ofNat 64 i).toNat (v i),s.l ++ [Bf s.f (a + BitVec.ofNat 64 i)],s.pre⟩ (n + 1) (JF h _ _ _ _)
   rw [show n + (k + 1)=n + 1 + k by omega]
   exact this
def acW (f g:Nat→BitVec 64) (w:BitVec 64):Nat :=
 if isI w=false then 1
 else if AT w=27 ∨ AT w=28 then (if 8192#64≤g (pF w 48) + BitVec.ofInt 64 (pN w) then 1 else 2)
 else if AT w=34 then (if (wi (g (pF w 48)) 8#64 && wi (g (pF w 44)) 4#64)=false then 1 else 13)
 else if AT w=35 then (if (wi (g (pF w 48)) 4#64 && wi (g (pF w 44)) 8#64)=false then 1 else 13)
 else 1
def acN (m:Mc):Nat:=if m.hl=true then 0 else if 8192#64≤m.pc then 0 else acW m.f m.g (m.f m.pc.toNat)
def wfQ (p0:Pf) (n:Nat) (s:Ps):Prop:=∃ t,s.l=p0 :: t∧t.length + 1=n
theorem Ap1 {p0:Pf} {n:Nat} {s:Ps} (h:wfQ p0 n s) (f:Nat→BitVec 64) (g:Nat→BitVec 64) (a:BitVec 64) (pre:Pr):wfQ p0 (n + 1) ⟨g,s.l ++ [Bf f a],pre⟩:=by
 obtain ⟨t,h1,h2⟩:=h
 exact ⟨t ++ [Bf f a],by rw [h1];rfl,by simp;omega⟩
theorem Aq8 (pres:List (Dg × Pr)) (p0:Pf) (a:BitVec 64):∀ (k i:Nat) (s:Ps) (l:List (BitVec 64)) (n:Nat),wfQ p0 n s→(Jy (Fc pres) a k i s l).1=none∧wfQ p0 (n + k) (Jy (Fc pres) a k i s l).2.1
 | 0,_,_,_,_,h=>⟨rfl,h⟩
 | k + 1, i, s, l, n, h => by
   have:=Aq8 pres p0 a k (i + 1) ⟨s.f,s.l ++ [Bf s.f (a + BitVec.ofNat 64 i)],s.pre⟩ (l ++ [s.f (a + BitVec.ofNat 64 i).toNat]) (n + 1) (Ap1 h _ _ _ _)
   rw [show n + (k + 1)=n + 1 + k by omega]
   exact this
theorem Are (pres:List (Dg × Pr)) (p0:Pf) (a:BitVec 64) (v:Nat→BitVec 64):∀ (k i:Nat) (s:Ps) (n:Nat),wfQ p0 n s→(Ph (Fc pres) a v k i s).1=none∧wfQ p0 (n + k) (Ph (Fc pres) a v k i s).2
 | 0,_,_,_,h=>⟨rfl,h⟩
 | k + 1, i, s, n, h => by
   have:=Are pres p0 a v k (i + 1) ⟨E9 s.f (a + BitVec.ofNat 64 i).toNat (v i),s.l ++ [Bf s.f (a + BitVec.ofNat 64 i)],s.pre⟩ (n + 1) (Ap1 h _ _ _ _)
   rw [show n + (k + 1)=n + 1 + k by omega]
   exact this
theorem Aqw (pres:List (Dg × Pr)) (p0:Pf) (h:Hd) (s:Ps) (to:BitVec 64) (t:Nat) (p:Nat→BitVec 8) (n:Nat) (hw:wfQ p0 n s):(GL (Fc pres) h s to t p).2.1=none∧wfQ p0 (n + t) (GL (Fc pres) h s to t p).2.2:=by
 have:=Are pres p0 to (Vh p) t 0 s n hw
 unfold GL
 generalize Ph (Fc pres) to (Vh p) t 0 s=R at *
 obtain ⟨e,s'⟩:=R
 obtain ⟨rfl,h3⟩:=this
 exact ⟨rfl,h3⟩
theorem Arp (pres:List (Dg × Pr)) (p0:Pf) (op:Nat) (h:Hd) (s:Ps) (a b:BitVec 64) (hw:wfQ p0 1 s) (ho:op=34 ∨ op=35) (he:(MX (Fc pres) op h s a b).2.1=none) :
 wfQ p0 (if op=34 then (if (wi a 8#64 && wi b 4#64)=false then 1 else 13) else (if (wi a 4#64 && wi b 8#64)=false then 1 else 13)) (MX (Fc pres) op h s a b).2.2:=by
 rcases ho with rfl | rfl
 ·unfold MX at he ⊢
  simp only [show ¬ (34:Nat)=35 by decide,CD] at he ⊢
  by_cases hc:(wi a 8#64 && wi b 4#64)=false
  ·rw [if_pos hc,if_pos hc];exact hw
  ·rw [if_neg hc,if_neg hc]
   have:=Aq8 pres p0 a 8 0 s [] 1 hw
   generalize Jy (Fc pres) a 8 0 s []=R at *
   obtain ⟨e,s',l⟩:=R
   obtain ⟨rfl,h3⟩:=this
   exact (Aqw pres p0 h s' b 4 _ 9 h3).2
 ·unfold MX at he ⊢
  simp only [show ¬ (35:Nat)=34 by decide,CD] at he ⊢
  by_cases hc:(wi a 4#64 && wi b 8#64)=false
  ·rw [if_pos hc,if_pos hc];exact hw
  ·rw [if_neg hc] at he
   rw [if_neg hc,if_neg hc]
   have:=Aq8 pres p0 a 4 0 s [] 1 hw
   generalize Jy (Fc pres) a 4 0 s []=R at *
   obtain ⟨e,s',l⟩:=R
   obtain ⟨rfl,h3⟩:=this
   dsimp only at h3 he ⊢
   unfold QC at he ⊢
   cases hl:Dv (Dg.mk' (CS l)) pres with
   | none =>
     have hp:(Fc pres).pi s' (Dg.mk' (CS l))=(Pr.zero,some 14,⟨s'.f,s'.l,Pr.zero⟩):=by
      show OP pres s' _=_
      unfold OP;rw [hl]
     rw [hp] at he
     exact absurd he Bu
   | some p =>
     have hp:(Fc pres).pi s' (Dg.mk' (CS l))=(p,none,⟨s'.f,s'.l,p⟩):=by
      show OP pres s' _=_
      unfold OP;rw [hl]
     rw [hp]
     exact (Aqw pres p0 h ⟨s'.f,s'.l,p⟩ b 8 p.at 5 h3).2
theorem Arm (pres:List (Dg × Pr)) (p0:Pf) (h:Hd) (w:BitVec 64) (s:Ps) (hw:wfQ p0 1 s) (he:(Of (Fc pres) h w s).2.1=none):wfQ p0 (acW s.f h.g w) (Of (Fc pres) h w s).2.2:=by
 unfold acW
 by_cases q0:isI w=false
 ·rw [Of,if_pos q0,if_pos q0];exact hw
 obtain ⟨h35,-⟩:=(Nm w).1 (by simpa using q0)
 rw [Of,if_neg q0] at he
 rw [Of,if_neg q0,if_neg q0]
 by_cases q1:AT w=0
 ·rw [if_pos q1,if_neg Aa,if_neg Aa,if_neg Aa];exact hw
 rw [if_neg q1] at he
 rw [if_neg q1]
 by_cases q2:AT w < 26
 ·rw [if_pos q2,if_neg Aa,if_neg Aa,if_neg Aa];exact hw
 rw [if_neg q2] at he
 rw [if_neg q2]
 by_cases q3:AT w=26
 ·rw [if_pos q3,if_neg Aa,if_neg Aa,if_neg Aa];exact hw
 rw [if_neg q3] at he
 rw [if_neg q3]
 by_cases q4:AT w=27 ∨ AT w=28
 ·rw [if_pos q4,if_pos q4]
  by_cases hwh:8192#64≤h.g (pF w 48) + BitVec.ofInt 64 (pN w)
  ·rw [if_pos hwh,if_pos hwh];exact hw
  ·rw [if_neg hwh,if_neg hwh]
   by_cases q5:AT w=27
   ·rw [if_pos q5];exact Ap1 hw _ _ _ _
   ·rw [if_neg q5];exact Ap1 hw _ _ _ _
 rw [if_neg q4] at he
 rw [if_neg q4,if_neg q4]
 by_cases q7:AT w < 34
 ·rw [if_pos q7,if_neg Aa,if_neg Aa];exact hw
 rw [if_neg q7] at he
 rw [if_neg q7]
 have:=Arp pres p0 (AT w) h s (h.g (pF w 48)) (h.g (pF w 44)) hw Aa he
 by_cases q8:AT w=34
 ·rw [if_pos q8] at this ⊢;exact this
 ·rw [if_neg q8] at this ⊢;rw [if_pos Aa];exact this
theorem Arh (pres:List (Dg × Pr)) (m:Mc) (he:(Ei pres m).1=none):(Ei pres m).2.1.length=acN m∧(0 < acN m→((Ei pres m).2.1.getD 0 default).v=m.f m.pc.toNat):=by
 obtain ⟨f,g,pc,hl,xt⟩:=m
 unfold Ei acN at *
 dsimp only [Mc.h] at he ⊢
 cases hl with
 | true=>simp
 | false =>
   simp only [TJ] at he ⊢
   by_cases hpc:8192#64≤pc
   ·simp [hpc]
   ·simp only [hpc,if_false] at he ⊢
    have e:nx (Fc pres) ⟨g,pc,false,xt⟩ ⟨f,[],Pr.zero⟩=Of (Fc pres) ⟨g,pc,false,xt⟩ (f pc.toNat) ⟨f,[Bf f pc],Pr.zero⟩:=rfl
    rw [e] at he ⊢
    obtain ⟨t,h1,h2⟩:=Arm pres (Bf f pc) ⟨g,pc,false,xt⟩ (f pc.toNat) ⟨f,[Bf f pc],Pr.zero⟩ ⟨[],rfl,rfl⟩ he
    dsimp only at h2
    rw [h1]
    exact ⟨by rw [List.length_cons];exact h2,fun _=>rfl⟩
theorem Arq {M:Seat} (ok:OkAc M) (m:Mc) :
 (acN m=0∧Af M 107 [.ptr 0 []] (Fx m) 3 (Q3 (Ao .nils (.int .i64 0)) (Fx m) 3)) ∨
 (0 < acN m∧∃ (c:Int) (P:Nat→BitVec 64),P 0=m.pc∧m.pc.toNat < 8192∧Af M 107 [.ptr 0 []] (Fx m) 3 (Q3 (Ao (.sl 3 [] 0 (acN m) 1) (.int .i64 c)) (Fx m ++ [(3,.ar 1 (acN m) fun j=>W (P j))]) 4)):=by
 obtain ⟨f,g,pc,hl,xt⟩:=m
 unfold Fx
 cases hl with
 | true=>exact .inl ⟨if_pos rfl,Arb ok f g pc xt⟩
 | false =>
   by_cases hpc:8192#64≤pc
   ·exact .inl ⟨by rw [acN,if_neg Bu,if_pos hpc],Aqy ok f g pc xt hpc⟩
   refine .inr ?_
   have hp:pc.toNat < 8192:=BM
   have eN:acN ⟨f,g,pc,false,xt⟩=acW f g (f pc.toNat):=by rw [acN,if_neg Bu,if_neg hpc]
   rw [eN]
   dsimp only
   have one:acW f g (f pc.toNat)=1→Af M 107 [.ptr 0 []] (Cc f g pc false xt) 3 (Q3 (Ao (.sl 3 [] 0 1 1) (.int .i64 1)) (Cc f g pc false xt ++ ac1 pc) 4)→0 < acW f g (f pc.toNat)∧∃ (c:Int) (P:Nat→BitVec 64),P 0=pc∧pc.toNat < 8192∧Af M 107 [.ptr 0 []] (Cc f g pc false xt) 3 (Q3 (Ao (.sl 3 [] 0 (acW f g (f pc.toNat)) 1) (.int .i64 c)) (Cc f g pc false xt ++ [(3,.ar 1 (acW f g (f pc.toNat)) fun j=>W (P j))]) 4):=fun h1 h2=>by
    rw [h1];exact ⟨Nat.one_pos,1,fun j=>if j=0 then pc else 0#64,rfl,hp,h2⟩
   cases hi:Co (f pc.toNat) with
   | false =>
     refine one ?_ (Aq1 ok f g pc xt hpc _ rfl hi)
     rw [acW,if_pos]
     cases hq:isI (f pc.toNat) with
     | false=>rfl
     | true=>simp only [Co,decide_eq_false_iff_not] at hi;exact absurd ((Nm _).1 hq) hi
   | true =>
     have hi':=hi
     simp only [Co,decide_eq_true_eq] at hi'
     have q0:¬ isI (f pc.toNat)=false:=by rw [(Nm _).2 hi'];simp
     by_cases q27:AT (f pc.toNat)=27
     ·by_cases hwh:8192#64≤g (pF (f pc.toNat) 48) + BitVec.ofInt 64 (pN (f pc.toNat))
      ·exact one (by rw [acW,if_neg q0,if_pos (.inl q27),if_pos hwh]) (Apy ok f g pc xt hpc _ rfl q27 hi hwh)
      ·rw [show acW f g (f pc.toNat)=2 by rw [acW,if_neg q0,if_pos (.inl q27),if_neg hwh]]
       exact ⟨Nat.two_pos,2,_,rfl,hp,Aqd ok f g pc xt hpc _ rfl q27 hi hwh⟩
     by_cases q28:AT (f pc.toNat)=28
     ·by_cases hwh:8192#64≤g (pF (f pc.toNat) 48) + BitVec.ofInt 64 (pN (f pc.toNat))
      ·exact one (by rw [acW,if_neg q0,if_pos (.inr q28),if_pos hwh]) (Apw ok f g pc xt hpc _ rfl q28 hi hwh)
      ·rw [show acW f g (f pc.toNat)=2 by rw [acW,if_neg q0,if_pos (.inr q28),if_neg hwh]]
       exact ⟨Nat.two_pos,1,_,rfl,hp,Ap9 ok f g pc xt hpc _ rfl q28 hi hwh⟩
     have qn:¬ (AT (f pc.toNat)=27 ∨ AT (f pc.toNat)=28):=Aa
     by_cases q34:AT (f pc.toNat)=34
     ·cases hb:(wi (g (pF (f pc.toNat) 48)) 8#64 && wi (g (pF (f pc.toNat) 44)) 4#64) with
      | false=>exact one (by rw [acW,if_neg q0,if_neg qn,if_pos q34,if_pos hb]) (Aqg ok f g pc xt hpc _ rfl q34 hi hb)
      | true =>
        rw [show acW f g (f pc.toNat)=13 by rw [acW,if_neg q0,if_neg qn,if_pos q34,if_neg (by simp [hb])]]
        simp only [Bool.and_eq_true] at hb
        exact ⟨by omega,9,_,rfl,hp,Aqk ok f g pc xt hpc _ rfl q34 hi hb.1 hb.2⟩
     by_cases q35:AT (f pc.toNat)=35
     ·cases hb:(wi (g (pF (f pc.toNat) 48)) 4#64 && wi (g (pF (f pc.toNat) 44)) 8#64) with
      | false=>exact one (by rw [acW,if_neg q0,if_neg qn,if_neg q34,if_pos q35,if_pos hb]) (Aqf ok f g pc xt hpc _ rfl q35 hi hb)
      | true =>
        rw [show acW f g (f pc.toNat)=13 by rw [acW,if_neg q0,if_neg qn,if_neg q34,if_pos q35,if_neg (by simp [hb])]]
        simp only [Bool.and_eq_true] at hb
        exact ⟨by omega,5,_,rfl,hp,Aql ok f g pc xt hpc _ rfl q35 hi hb.1 hb.2⟩
     exact one (by rw [acW,if_neg q0,if_neg qn,if_neg q34,if_neg q35]) (Aq5 ok f g pc xt hpc _ rfl hi q27 q28 q34 q35)
end Mv
