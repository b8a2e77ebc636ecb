/- A part. -/
import Derived.Test.YtlfkjfonpacelaaGreatDoorFA
import Derived.Test.YtlfkjfonpacelaaGreatDoorFC
set_option linter.all false
set_option maxRecDepth 20000
set_option maxHeartbeats 4000000
namespace Mv
open Go
variable {M:Seat}
theorem K4 (ok:OkV M) (okP:OkP M) (f g:Nat→BitVec 64) (pc xt:BitVec 64) (hpc:¬ 8192#64≤pc) (w:BitVec 64) (hw:f pc.toNat=w) (op:Nat) (h1:1≤op) (h25:op≤25) (hop:BS w=op) (h2:w >>> 32 &&& 255#64=0#64) :
 ∃ v,Af M 70 [.ptr 0 [],.ptr 1 []] [(0,mach f g pc false xt)] 2 (Q3 .nili [(0,mach f (Ig g (pF w 52) v) (pc + 1#64) false xt)] 2):=by
 obtain ⟨v,hv⟩:=XH okP op h1 h25 (g (pF w 48)) (g (pF w 44)) (g (pF w 40))
 refine ⟨v,Ab ok.k70 rfl fun x hx=>?_⟩
 have hp:pc.toNat < 8192:=Gy
 have a1:=Ao w 52
 have a2:=Ao w 48
 have a3:=Ao w 44
 have a4:=Ao w 40
 have d1:((op:Int)=0)=False:=eq_false Aa
 have d2:((op:Int) < 26)=True:=eq_true Aa
 refine es 2000 ?_;(simp only [Lcb,hpc,hw,seval])
 repeat refine sd ?_
 have zz:=@Bn.eq_1;refine Ng (A6 ok w Aa h2) ?_
 (simp only [He,hop,d1,d2,seval])
 repeat refine sd ?_
 refine BC (hv) ?_
 (simp only [BV,seval])
 repeat refine sd ?_
 have zz:=Bc @mach.eq_1 Q5;exact Bz hx [0,1] ⟨rfl,rfl,rfl⟩
def wi (a n:BitVec 64):Bool:=decide (a≤8192#64) && decide (n≤8192#64 - a)
theorem KK (ok:OkO M) (f g:Nat→BitVec 64) (pc xt:BitVec 64) (a b:BitVec 64) (h:(wi a 8#64 && wi b 4#64)=false) :
 Af M 217 [.ptr 0 [],.ptr 1 [],.int .i64 34,W a,W b] [(0,mach f g pc false xt)] 2 (Q3 (.bool false) [(0,mach f g pc true A8)] 2):=by
 refine Ab ok.k217 rfl fun x hx=>?_
 cases h1:wi a 8#64 with
 | false =>
   unfold wi at h1
   refine es 2000 ?_;(simp only [Ns,NW,C7,seval])
   refine Ai (Bl ok a 8#64) ?_
   (simp only [h1,LZ,seval])
   have zz:=@mach.eq_1;refine FA [0] (B9 ok.toOkV f g pc false xt A8) ?_
   (simp only [C7,seval])
   have zz:=@mach.eq_1;exact Bz hx [0,1] ⟨rfl,rfl,rfl⟩
 | true =>
   rw [h1,Bool.true_and] at h
   unfold wi at h1 h
   refine es 2000 ?_;(simp only [Ns,NW,C7,seval])
   refine Ai (Bl ok a 8#64) ?_
   (simp only [h1,LZ,seval])
   refine Ai (Bl ok b 4#64) ?_
   (simp only [h,LZ,seval])
   have zz:=@mach.eq_1;refine FA [0] (B9 ok.toOkV f g pc false xt A8) ?_
   (simp only [C7,seval])
   have zz:=@mach.eq_1;exact Bz hx [0,1] ⟨rfl,rfl,rfl⟩
theorem Fy (ok:OkO M) (f g:Nat→BitVec 64) (pc xt:BitVec 64) (hpc:¬ 8192#64≤pc) (w:BitVec 64) (hw:f pc.toNat=w) (hop:BS w=34) (h2:w >>> 32 &&& 255#64=0#64) (h:(wi (g (pF w 48)) 8#64 && wi (g (pF w 44)) 4#64)=false) :
 Af M 70 [.ptr 0 [],.ptr 1 []] [(0,mach f g pc false xt)] 2 (Q3 .nili [(0,mach f g pc true A8)] 2):=by
 refine Ab ok.k70 rfl fun x hx=>?_
 have hp:pc.toNat < 8192:=Gy
 have a1:=Ao w 52
 have a2:=Ao w 48
 have a3:=Ao w 44
 refine es 2000 ?_;(simp only [Lcb,hpc,hw,seval])
 repeat refine sd ?_
 have zz:=@Bn.eq_1;refine Ng (A6 ok.toOkV w Aa h2) ?_
 (simp only [He,hop,seval])
 repeat refine sd ?_
 have zz:=@mach.eq_1;refine obY [0,1] [0] (KK ok f g pc xt _ _ h) ?_
 (simp only [C7,seval])
 repeat refine sd ?_
 have zz:=@mach.eq_1;exact Bz hx [0,1] ⟨rfl,rfl,rfl⟩
theorem KT (ok:OkO M) (f g:Nat→BitVec 64) (pc xt:BitVec 64) (a b:BitVec 64) (h:(wi a 4#64 && wi b 8#64)=false) :
 Af M 217 [.ptr 0 [],.ptr 1 [],.int .i64 35,W a,W b] [(0,mach f g pc false xt)] 2 (Q3 (.bool false) [(0,mach f g pc true A8)] 2):=by
 refine Ab ok.k217 rfl fun x hx=>?_
 cases h1:wi a 4#64 with
 | false =>
   unfold wi at h1
   refine es 2000 ?_;(simp only [Ns,NW,C7,seval])
   refine Ai (Bl ok a 4#64) ?_
   (simp only [h1,LZ,seval])
   have zz:=@mach.eq_1;refine FA [0] (B9 ok.toOkV f g pc false xt A8) ?_
   (simp only [C7,seval])
   have zz:=@mach.eq_1;exact Bz hx [0,1] ⟨rfl,rfl,rfl⟩
 | true =>
   rw [h1,Bool.true_and] at h
   unfold wi at h1 h
   refine es 2000 ?_;(simp only [Ns,NW,C7,seval])
   refine Ai (Bl ok a 4#64) ?_
   (simp only [h1,LZ,seval])
   refine Ai (Bl ok b 8#64) ?_
   (simp only [h,LZ,seval])
   have zz:=@mach.eq_1;refine FA [0] (B9 ok.toOkV f g pc false xt A8) ?_
   (simp only [C7,seval])
   have zz:=@mach.eq_1;exact Bz hx [0,1] ⟨rfl,rfl,rfl⟩
theorem F0 (ok:OkO M) (f g:Nat→BitVec 64) (pc xt:BitVec 64) (hpc:¬ 8192#64≤pc) (w:BitVec 64) (hw:f pc.toNat=w) (hop:BS w=35) (h2:w >>> 32 &&& 255#64=0#64) (h:(wi (g (pF w 48)) 4#64 && wi (g (pF w 44)) 8#64)=false) :
 Af M 70 [.ptr 0 [],.ptr 1 []] [(0,mach f g pc false xt)] 2 (Q3 .nili [(0,mach f g pc true A8)] 2):=by
 refine Ab ok.k70 rfl fun x hx=>?_
 have hp:pc.toNat < 8192:=Gy
 have a1:=Ao w 52
 have a2:=Ao w 48
 have a3:=Ao w 44
 refine es 2000 ?_;(simp only [Lcb,hpc,hw,seval])
 repeat refine sd ?_
 have zz:=@Bn.eq_1;refine Ng (A6 ok.toOkV w Aa h2) ?_
 (simp only [He,hop,seval])
 repeat refine sd ?_
 have zz:=@mach.eq_1;refine obY [0,1] [0] (KT ok f g pc xt _ _ h) ?_
 (simp only [C7,seval])
 repeat refine sd ?_
 have zz:=@mach.eq_1;exact Bz hx [0,1] ⟨rfl,rfl,rfl⟩
def Pc (m:Mc):Prop:=m.hl=false∧¬ 8192#64≤m.pc∧m.f m.pc.toNat >>> 32 &&& 255#64=0#64 ∧
 ((BS (m.f m.pc.toNat)=34∧(wi (m.g (pF (m.f m.pc.toNat) 48)) 8#64 && wi (m.g (pF (m.f m.pc.toNat) 44)) 4#64)=true) ∨ (BS (m.f m.pc.toNat)=35∧(wi (m.g (pF (m.f m.pc.toNat) 48)) 4#64 && wi (m.g (pF (m.f m.pc.toNat) 44)) 8#64)=true))
theorem Ahs (op:Nat) (f g:Nat→BitVec 64) (pc xt:BitVec 64) (d a:Nat) (to:BitVec 64):∃ m:Mc,Qu op f g pc xt d a to=m.v:=by
 unfold Qu
 repeat' split
 all_goals exact ⟨⟨_,_,_,_,_⟩,rfl⟩
theorem W4 (ok:OkO M) (okP:OkP M) (m:Mc) (h:¬ Pc m):∃ m',Iq M m m':=by
 obtain ⟨f,g,pc,hl,xt⟩:=m
 unfold Iq
 cases hl with
 | true=>exact ⟨⟨f,g,pc,true,xt⟩,DK ok.toOkV f g pc xt⟩
 | false =>
   show ∃ m':Mc,Af M 70 [.ptr 0 [],.ptr 1 []] [(0,mach f g pc false xt)] 2 (Q3 .nili [(0,m'.v)] 2)
   by_cases hpc:8192#64≤pc
   ·exact ⟨⟨f,g,pc,true,A8⟩,HS ok.toOkV f g pc xt hpc⟩
   ·by_cases hn:BS (f pc.toNat)≤35∧f pc.toNat >>> 32 &&& 255#64=0#64
    ·obtain ⟨h35,h2⟩:=hn
     have hj:∀ op,(Af M 70 [.ptr 0 [],.ptr 1 []] [(0,mach f g pc false xt)] 2 (Q3 .nili [(0,Qu op f g pc xt (pF (f pc.toNat) 52) (pF (f pc.toNat) 48) (BitVec.ofInt 64 (pN (f pc.toNat))))] 2)) →
      ∃ m':Mc,Af M 70 [.ptr 0 [],.ptr 1 []] [(0,mach f g pc false xt)] 2 (Q3 .nili [(0,m'.v)] 2):=fun op hr=>by
      obtain ⟨m',hm⟩:=Ahs op f g pc xt (pF (f pc.toNat) 52) (pF (f pc.toNat) 48) (BitVec.ofInt 64 (pN (f pc.toNat)))
      rw [hm] at hr
      exact ⟨m',hr⟩
     by_cases q0:BS (f pc.toNat)=0
     ·exact ⟨⟨f,g,pc,true,_⟩,EA ok.toOkV f g pc xt hpc _ rfl q0 h2⟩
     by_cases q1:BS (f pc.toNat)≤25
     ·obtain ⟨v,hv⟩:=K4 ok.toOkV okP f g pc xt hpc _ rfl (BS (f pc.toNat)) Aa q1 rfl h2
      exact ⟨⟨f,_,_,false,xt⟩,hv⟩
     by_cases q2:BS (f pc.toNat)=26
     ·exact ⟨⟨f,_,_,false,xt⟩,IG ok.toOkV f g pc xt hpc _ rfl q2 h2⟩
     by_cases q3:BS (f pc.toNat)=27
     ·by_cases hwh:8192#64≤g (pF (f pc.toNat) 48) + BitVec.ofInt 64 (pN (f pc.toNat))
      ·exact ⟨⟨f,g,pc,true,A8⟩,Ei ok.toOkV f g pc xt hpc _ rfl q3 h2 _ rfl hwh⟩
      ·exact ⟨⟨f,_,_,false,xt⟩,G9 ok.toOkV f g pc xt hpc _ rfl q3 h2 _ rfl hwh⟩
     by_cases q4:BS (f pc.toNat)=28
     ·by_cases hwh:8192#64≤g (pF (f pc.toNat) 48) + BitVec.ofInt 64 (pN (f pc.toNat))
      ·exact ⟨⟨f,g,pc,true,A8⟩,DP ok.toOkV f g pc xt hpc _ rfl q4 h2 _ rfl hwh⟩
      ·exact ⟨⟨_,g,_,false,xt⟩,FI ok.toOkV f g pc xt hpc _ rfl q4 h2 _ rfl hwh⟩
     by_cases q5:BS (f pc.toNat)=29
     ·exact hj 29 (Ct ok.toOkV 29 Aj f g pc xt hpc _ rfl q5 h2)
     by_cases q6:BS (f pc.toNat)=30
     ·exact hj 30 (Ct ok.toOkV 30 Aj f g pc xt hpc _ rfl q6 h2)
     by_cases q7:BS (f pc.toNat)=31
     ·exact hj 31 (Ct ok.toOkV 31 Aj f g pc xt hpc _ rfl q7 h2)
     by_cases q8:BS (f pc.toNat)=32
     ·exact hj 32 (Ct ok.toOkV 32 Aj f g pc xt hpc _ rfl q8 h2)
     by_cases q9:BS (f pc.toNat)=33
     ·exact hj 33 (Ct ok.toOkV 33 Aj f g pc xt hpc _ rfl q9 h2)
     by_cases q10:BS (f pc.toNat)=34
     ·exact ⟨⟨f,g,pc,true,A8⟩,Fy ok f g pc xt hpc _ rfl q10 h2 (by
       cases hb:(wi (g (pF (f pc.toNat) 48)) 8#64 && wi (g (pF (f pc.toNat) 44)) 4#64) with
       | false=>rfl
       | true=>exact absurd ⟨rfl,hpc,h2,.inl ⟨q10,hb⟩⟩ h)⟩
     have q11:BS (f pc.toNat)=35:=Aa
     exact ⟨⟨f,g,pc,true,A8⟩,F0 ok f g pc xt hpc _ rfl q11 h2 (by
      cases hb:(wi (g (pF (f pc.toNat) 48)) 4#64 && wi (g (pF (f pc.toNat) 44)) 8#64) with
      | false=>rfl
      | true=>exact absurd ⟨rfl,hpc,h2,.inr ⟨q11,hb⟩⟩ h)⟩
    ·exact ⟨⟨f,g,pc,true,A8⟩,HF ok.toOkV f g pc xt hpc _ rfl hn⟩
theorem G6 {M:Seat} (okA:OkM M) (ok:OkO M) (s:WS) (l:List (Dg × Bool)) (f g:Nat→BitVec 64) (pc xt:BitVec 64) (hpc:¬ 8192#64≤pc) (w:BitVec 64) (hw:f pc.toNat=w) (hop:BS w=34) (h2:w >>> 32 &&& 255#64=0#64)
 (ha:(g (pF w 48)).toNat + 8≤8192) (hb:(g (pF w 44)).toNat + 4≤8192) :
 Af M 70 [.ptr 5 [],.ptr 0 []] (AF s .nils l ++ [(5,mach f g pc false xt)]) 6
  (Q3 .nili (AF (s.add (Pr.mk' (Bb fun j=>f ((g (pF w 48)).toNat + j)))) .nils l ++ [(5,mach (fun j=>if (g (pF w 44)).toNat≤j∧j < (g (pF w 44)).toNat + 4 then II (fun i=>(Cf (Pr.mk' (Bb fun j=>f ((g (pF w 48)).toNat + j))).at).at (8 * (j - (g (pF w 44)).toNat) + i)) 8 else f j) g (pc + 1#64) false xt)]) 6):=by
 refine Ab ok.k70 rfl fun x hx=>?_
 have hp:pc.toNat < 8192:=Gy
 have a1:=Ao w 52
 have a2:=Ao w 48
 have a3:=Ao w 44
 have hO:=NX okA ok s l f g pc xt _ _ ha hb
 generalize s.add (Pr.mk' (Bb fun j=>f ((g (pF w 48)).toNat + j)))=s' at *
 generalize Cf (Pr.mk' (Bb fun j=>f ((g (pF w 48)).toNat + j))).at=D at *
 generalize (fun j=>if (g (pF w 44)).toNat≤j∧j < (g (pF w 44)).toNat + 4 then II (fun i=>D.at (8 * (j - (g (pF w 44)).toNat) + i)) 8 else f j)=F at *
 refine es 2000 ?_;(simp only [OQ,Qz,ID,hpc,hw,LZ,seval])
 repeat refine sd ?_
 have zz:=@Bn.eq_1;refine Ng (A6 ok.toOkV w Aa h2) ?_
 (simp only [He,hop,seval])
 repeat refine sd ?_
 have zz:=F5 ID @Ay @DW @Ce;refine QN [0,1,2,3,4,5] (hO) ?_
 (simp only [Ge,Am,seval])
 repeat refine sd ?_
 have zz:=Bc @Ay @Ce;exact Bz hx [0,1,2,3,4,5] ⟨rfl,rfl,rfl⟩
theorem Lj {M:Seat} (n:Nat) (q:Nat→Dg) (okA:OkM M) (ok:OkO M) (w:WS) (l:List (Dg × Bool)) (f g:Nat→BitVec 64) (pc xt:BitVec 64) (a b:BitVec 64) (ha:a.toNat + 8≤8192) (hb:b.toNat + 4≤8192) :
 Af M 217 [.ptr 5 [],.ptr 0 [],.int .i64 34,W a,W b] (AF w (.sl 6 [] 0 n 32) l ++ [(5,mach f g pc false xt),(6,.ar 32 n fun i=>dg (q i))]) 7
  (Q3 (.bool true) (AF (w.add (Pr.mk' (Bb fun j=>f (a.toNat + j)))) (.sl 6 [] 0 n 32) l ++ [(5,mach (fun j=>if b.toNat≤j∧j < b.toNat + 4 then II (fun i=>(Cf (Pr.mk' (Bb fun j=>f (a.toNat + j))).at).at (8 * (j - b.toNat) + i)) 8 else f j) g pc false xt),(6,.ar 32 n fun i=>dg (q i))]) 7):=by
 refine Ab ok.k217 rfl fun x hx=>?_
 have h1:(decide (a≤8192#64) && decide (8#64≤8192#64 - a))=true:=by
  have:a.toNat≤8192:=Aa
  simp only [Lao,decide_eq_true_eq];omega
 have h2:(decide (b≤8192#64) && decide (4#64≤8192#64 - b))=true:=by
  have:b.toNat≤8192:=Aa
  simp only [Lao,decide_eq_true_eq];omega
 refine es 2000 ?_;(simp only [Ns,NW,Ge,seval])
 refine Ai (Bl ok a 8#64) ?_
 (simp only [h1,LZ,seval])
 refine Ai (Bl ok b 4#64) ?_
 (simp only [h2,LZ,seval])
 have e8:(a + 8#64).toNat=a.toNat + 8:=Ana
 rw [e8,Nat.add_sub_cancel_left]
 repeat refine sd ?_
 refine Au ?_
 refine es 2000 ?_
 (simp only [BA,seval])
 repeat refine sd ?_
 refine Er (D3 okA ok (f (a.toNat + 0))) ?_
 (simp only [BA,seval])
 repeat refine sd ?_
 have w1:IntKind.i64.wrap 1=1:=Aj
 rw [w1]
 refine An (σ:=Nat) (fun i=>1≤i∧i≤8) (fun i=>fr 94 [(0,.ptr 5 []),(1,.ptr 0 []),(2,.int .i64 34),(4,W b),(12,W 4#64),(13,.sl 7 [] 0 (8 * i) 1),(43,.sl 5 [Stp.f 0] a.toNat 8 1),(44,.int .i64 8),(45,.int .i64 i)])
  (fun i=>AF w (.sl 6 [] 0 n 32) l ++ [(5,mach f g pc false xt),(6,.ar 32 n fun i=>dg (q i)),(7,.ar 1 (8 * i) fun j=>B (Bb (fun j=>f (a.toNat + j)) j))]) (fun _=>8) (fun i=>8 - i) 1 Aa ?_ ?_
 ·refine Ak.fr [0,1,2,3,4,5,6,519] [] hx AQ Aj ?_ ?_
  ·simp only [LY,seval]
  ·simp only [ID,DN,seval]
   intro i hi
   have q1:i / 8=0:=Aa
   have q2:i % 8=i:=Aa
   simp only [Bb,q1,q2,Nat.add_zero]
 ·rintro i ⟨hi1,hi⟩
  refine es 2000 ?_
  by_cases h8:i=8
  ·subst h8
   (simp only [Ge,seval])
   repeat refine sd ?_
   have hP:∀ j,j < 64→(Pr.mk' (Bb fun j=>f (a.toNat + j))).at j=Bb (fun j=>f (a.toNat + j)) j:=fun j hj=>Pr.at_mk' _ _ hj
   generalize Pr.mk' (Bb fun j=>f (a.toNat + j))=P at *
   have hA:Af M 212 [.ptr 0 [],A9 P] _ _ _:=Uz okA ok.toOkS w P n
   generalize hw':w.add P=w' at *
   clear hw'
   generalize Cf P.at=D at *
   refine UE [0,1,2,3,4,6] [0,1,2,3] (hA) (by constructor <;> (try simp only [F7,Jl,A9,Cm,seval]) <;> first | exact q1 | (exact fun j hj=>(hP j hj).symm)) (by simp only [F7,Jl,A9,Ce,LX]) ?_
   (simp only [Dq,F7,Jl,Am,seval])
   refine An (σ:=Nat) (fun i=>i≤4) (fun i=>fr 94 [(0,.ptr 5 []),(4,W b),(16,.sl 8 [] 0 32 1),(77,W 4#64),(78,W (BitVec.ofNat 64 i))])
    (fun i=>AF w' (.sl 6 [] 0 n 32) l ++ [(5,mach (fun j=>if b.toNat≤j∧j < b.toNat + i then II (fun i=>D.at (8 * (j - b.toNat) + i)) 8 else f j) g pc false xt),(6,.ar 32 n fun i=>dg (q i)),(8,dg D)]) (fun _=>9) (fun i=>4 - i) 0 Aa ?_ ?_
   ·refine Ak.fr [0,1,2,3,4,5,6,7,200] [] hx AQ Aj ?_ ?_
    ·simp only [LY,seval]
    ·simp only [ID,DN,seval]
     exact fun i _=>(if_neg Aa).symm
   ·intro i hi
    refine es 2000 ?_
    by_cases h4:i=4
    ·subst h4
     (simp only [Ge,seval])
     have zz:=Laa;exact Bz hx [0,1,2,3,4,5,6] ⟨rfl,rfl,rfl⟩
    ·have t1:(BitVec.ofNat 64 i).toNat=i:=R1
     have d0:(BitVec.ofNat 64 i < 4#64)=True:=eq_true (by rw [BitVec.lt_def,t1];show i < 4;omega)
     have t2:(8#64 * BitVec.ofNat 64 i).toNat=8 * i:=RQ
     have t3:(b + BitVec.ofNat 64 i).toNat=b.toNat + i:=US
     have t4:BitVec.ofNat 64 i + 1#64=BitVec.ofNat 64 (i + 1):=UV
     (simp only [d0,t2,t3,t4,Ge,seval])
     repeat refine sd ?_
     refine Zh (Dy ok (32 - 8 * i) Aa (fun j=>D.at (8 * i + j))) (by (try simp only [dg,Cm,seval]) <;> first | exact q1 | ((show 8 * i + (32 - 8 * i)≤32;omega))) (by simp only [dg,Ce,LX]) ?_
     (simp only [t2,t3,t4,BA,seval])
     repeat refine sd ?_
     refine ⟨i + 1,by omega,by omega,?_⟩
     refine Ak.fr [0,1,2,3,4,5,6,7,8] [] hx AQ Aj ?_ ?_
     ·simp only [LY,seval]
     ·simp only [DN,seval]
      intro q hq
      by_cases e:q=b.toNat + i
      ·subst e
       rw [if_pos rfl,if_pos Aa,Nat.add_sub_cancel_left];simp only [W,LY,seval]
      ·rw [if_neg e]
       by_cases e2:b.toNat≤q∧q < b.toNat + i
       ·rw [if_pos Aa,if_pos e2];simp only [W,LY,seval]
       ·rw [if_neg Aa,if_neg e2];simp only [W,LY,seval]
  ·have d0:((i:Int) < 8)=True:=eq_true Aa
   have w0:IntKind.i64.wrap ((i:Int) + 1)=((i + 1:Nat):Int):=Bw
   have n0:(0:Int)≤(i:Int):=Aa
   (simp only [d0,w0,Ge,seval])
   repeat refine sd ?_
   have zz:=@Ce;refine FA [7] (D4 okA ok (8 * i) Aa (Bb fun j=>f (a.toNat + j)) (f (a.toNat + i))) ?_
   (simp only [BA,w0,seval])
   repeat refine sd ?_
   refine ⟨i + 1,by omega,by omega,by omega,?_⟩
   have e88:8 * (i + 1)=8 * i + 8:=Aa
   rw [e88]
   refine Ak.fr [0,1,2,3,4,5,6,104] [] hx AQ Aj ?_ ?_
   ·simp only [LY,seval]
   ·simp only [DN,seval]
    intro q hq
    by_cases e:q < 8 * i
    ·rw [if_pos e]
    ·have e1:q / 8=i:=Aa
     have e2:q % 8=q - 8 * i:=Aa
     rw [if_neg e,Bb,e1,e2]
theorem FJ {M:Seat} (n:Nat) (q:Nat→Dg) (okA:OkM M) (ok:OkO M) (s:WS) (l:List (Dg × Bool)) (f g:Nat→BitVec 64) (pc xt:BitVec 64) (hpc:¬ 8192#64≤pc) (w:BitVec 64) (hw:f pc.toNat=w) (hop:BS w=34) (h2:w >>> 32 &&& 255#64=0#64)
 (ha:(g (pF w 48)).toNat + 8≤8192) (hb:(g (pF w 44)).toNat + 4≤8192) :
 Af M 70 [.ptr 5 [],.ptr 0 []] (AF s (.sl 6 [] 0 n 32) l ++ [(5,mach f g pc false xt),(6,.ar 32 n fun i=>dg (q i))]) 7
  (Q3 .nili (AF (s.add (Pr.mk' (Bb fun j=>f ((g (pF w 48)).toNat + j)))) (.sl 6 [] 0 n 32) l ++ [(5,mach (fun j=>if (g (pF w 44)).toNat≤j∧j < (g (pF w 44)).toNat + 4 then II (fun i=>(Cf (Pr.mk' (Bb fun j=>f ((g (pF w 48)).toNat + j))).at).at (8 * (j - (g (pF w 44)).toNat) + i)) 8 else f j) g (pc + 1#64) false xt),(6,.ar 32 n fun i=>dg (q i))]) 7):=by
 refine Ab ok.k70 rfl fun x hx=>?_
 have hp:pc.toNat < 8192:=Gy
 have a1:=Ao w 52
 have a2:=Ao w 48
 have a3:=Ao w 44
 have hO:=Lj n q okA ok s l f g pc xt _ _ ha hb
 generalize s.add (Pr.mk' (Bb fun j=>f ((g (pF w 48)).toNat + j)))=s' at *
 generalize Cf (Pr.mk' (Bb fun j=>f ((g (pF w 48)).toNat + j))).at=D at *
 generalize (fun j=>if (g (pF w 44)).toNat≤j∧j < (g (pF w 44)).toNat + 4 then II (fun i=>D.at (8 * (j - (g (pF w 44)).toNat) + i)) 8 else f j)=F at *
 refine es 2000 ?_;(simp only [OQ,Qz,ID,hpc,hw,LZ,seval])
 repeat refine sd ?_
 have zz:=@Bn.eq_1;refine Ng (A6 ok.toOkV w Aa h2) ?_
 (simp only [He,hop,seval])
 repeat refine sd ?_
 have zz:=Bc ID EZ;refine QN [0,1,2,3,4,5,6] (hO) ?_
 (simp only [Ge,Am,seval])
 repeat refine sd ?_
 have zz:=Laa;exact Bz hx [0,1,2,3,4,5,6] ⟨rfl,rfl,rfl⟩
variable {M:Seat}
def Dh:Option Pr→V
 | some p=>Ah (A9 p) .nili
 | none=>Ah (A9 Pr.zero) (.ifc 74 (.int .i64 14))
theorem Hl (ok:OkO M) (w:WS) (l:List (Dg × Bool)) (h:Dg) (o:Option Pr) (ho:Dt h w.pres=o) (hn:Dt h l=none ∨ Dt h l=some false) :
 Af M 328 [.ptr 0 [],dg h] (AF w .nils l) 5 (Q3 (Dh o) (AF w (.sl 5 [] 0 1 32) (CW h true l) ++ [(5,.ar 32 1 fun _=>dg h)]) 6):=by
 have hsv:∀ l:List (Dg × Bool),Bd V.bool false l=BD l:=fun _=>rfl
 refine Ab ok.k328 rfl fun x hx=>?_
 cases o <;> rcases hn with hn | hn
 all_goals refine es 2000 ?_;(simp only [TI,TX,AF,Jl,BD,ho,hn,BA,seval])
 all_goals refine Ap.mk hx [0,1,2,3,4,773] [] (Dh _) (AF w (.sl 5 [] 0 1 32) (CW h true l) ++ [(5,.ar 32 1 fun _=>dg h)]) 6 Aj (by simp only [SB,Dq,V8,seval]) (by simp only [SB,Dh,Dq,V8,seval];simp only [Vw,Cm,seval];try exact fun _ _=>rfl) ?_ ⟨rfl,rfl,rfl⟩
 all_goals simp only [Jj,hsv,Ay,Cm,seval]
 all_goals intro i hi
 all_goals obtain rfl:i=0:=Aa
 all_goals rw [if_pos rfl]
 all_goals simp only [dg,LY,seval]
theorem Hi (ok:OkO M) (w:WS) (n:Nat) (hn40:n < 1099511627776) (q:Nat→Dg) (l:List (Dg × Bool)) (h:Dg) (o:Option Pr) (ho:Dt h w.pres=o) (hn:Dt h l=none ∨ Dt h l=some false) :
 Af M 328 [.ptr 0 [],dg h] (AF w (.sl 5 [] 0 n 32) l ++ [(5,.ar 32 n fun i=>dg (q i))]) 6 (Q3 (Dh o) (AF w (.sl 6 [] 0 (n + 1) 32) (CW h true l) ++ [(6,.ar 32 (n + 1) fun i=>dg (if i < n then q i else h))]) 7):=by
 have hsv:∀ l:List (Dg × Bool),Bd V.bool false l=BD l:=fun _=>rfl
 refine Ab ok.k328 rfl fun x hx=>?_
 cases o <;> rcases hn with hn | hn
 all_goals refine es 2000 ?_;(simp only [TI,TX,Jj,BD,ho,hn,BA,seval])
 all_goals repeat refine sd ?_
 all_goals refine Ap.mk hx [0,1,2,3,4,5,774] [] (Dh _) (AF w (.sl 6 [] 0 (n + 1) 32) (CW h true l) ++ [(6,.ar 32 (n + 1) fun i=>dg (if i < n then q i else h))]) 7 Aj (by simp only [SB,Dq,V8,seval]) (by simp only [SB,Dh,Dq,V8,seval];simp only [Vw,Cm,seval];try exact fun _ _=>rfl) ?_ ⟨rfl,rfl,rfl⟩
 all_goals simp only [Jj,hsv,Ay,Cm,seval]
 all_goals intro i hi
 all_goals by_cases hin:i < n
 all_goals try (rw [if_pos hin,if_pos hin];simp only [dg,LY,seval];done)
 all_goals (rw [if_neg hin,if_neg hin,if_pos Aa];simp only [dg,LY,seval])
theorem Hh (ok:OkO M) (w:WS)  (l:List (Dg × Bool)) (h:Dg) (o:Option Pr) (ho:Dt h w.pres=o) (hn:Dt h l=some true) :
 Af M 328 [.ptr 0 [],dg h] (AF w .nils l) 5 (Q3 (Dh o) (AF w .nils l) 5):=by
 have hsv:∀ l:List (Dg × Bool),Bd V.bool false l=BD l:=fun _=>rfl
 refine Ab ok.k328 rfl fun x hx=>?_
 cases o
 all_goals refine es 2000 ?_;(simp only [TI,TX,Jj,BD,ho,hn,BA,seval])
 all_goals refine Ap.mk hx [0,1,2,3,4] [] (Dh _) (AF w .nils l) 5 Aj (by simp only [SB,Dq,V8,seval]) (by simp only [SB,Dh,Dq,V8,seval];simp only [Vw,Cm,seval];try exact fun _ _=>rfl) ?_ ⟨rfl,rfl,rfl⟩
 all_goals simp only [Jj,hsv,DN,seval]
theorem H4 (ok:OkO M) (w:WS) (n:Nat) (q:Nat→Dg) (l:List (Dg × Bool)) (h:Dg) (o:Option Pr) (ho:Dt h w.pres=o) (hn:Dt h l=some true) :
 Af M 328 [.ptr 0 [],dg h] (AF w (.sl 5 [] 0 n 32) l ++ [(5,.ar 32 n fun i=>dg (q i))]) 6 (Q3 (Dh o) (AF w (.sl 5 [] 0 n 32) l ++ [(5,.ar 32 n fun i=>dg (q i))]) 6):=by
 have hsv:∀ l:List (Dg × Bool),Bd V.bool false l=BD l:=fun _=>rfl
 refine Ab ok.k328 rfl fun x hx=>?_
 cases o
 all_goals refine es 2000 ?_;(simp only [TI,TX,Jj,BD,ho,hn,BA,seval])
 all_goals refine Ap.mk hx [0,1,2,3,4,5] [] (Dh _) (AF w (.sl 5 [] 0 n 32) l ++ [(5,.ar 32 n fun i=>dg (q i))]) 6 Aj (by simp only [SB,Dq,V8,seval]) (by simp only [SB,Dh,Dq,V8,seval];simp only [Vw,Cm,seval];try exact fun _ _=>rfl) ?_ ⟨rfl,rfl,rfl⟩
 all_goals simp only [Jj,hsv,DN,seval]
end Mv
