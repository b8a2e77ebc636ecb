/- A part. -/
import Derived.Test.YtlfkjfonpacelaaGreatDoorFH
set_option linter.all false
set_option maxRecDepth 20000
set_option maxHeartbeats 4000000
namespace Mv
open Go
variable {M:Seat}
theorem DY (i:Nat) (hi:i < 18446744073709551616):(BitVec.ofNat 64 i).toNat=i:=R1
theorem JS (i:Nat):BitVec.ofNat 64 i + 1#64=BitVec.ofNat 64 (i + 1):=by apply BitVec.eq_of_toNat_eq;rw [BitVec.toNat_add,BitVec.toNat_ofNat,BitVec.toNat_ofNat,BitVec.toNat_ofNat];omega
theorem RH (i n:Nat) (hi:i < 18446744073709551616) (hn:n < 18446744073709551616):(BitVec.ofNat 64 i < BitVec.ofNat 64 n)=(i < n):=by rw [BitVec.lt_def,DY i hi,DY n hn]
theorem JI (b:BitVec 64) (i:Nat) (h:b.toNat + i < 8192):¬ 8192#64≤b + BitVec.ofNat 64 i:=by
 rw [BitVec.le_def,BitVec.toNat_add,DY i Aa]
 show ¬ 8192≤_
 omega
def Am9:LC:=(.seq (sr [mt 79 13,
 mU 80 0] (.block 2 (.loop (sr [ak 81 .lss 80 79] (.seq (EQ 81 2) (.seq (.block 3 (sr [mt 82 80,mt 22 82] (.seq (.regd [⟨4,0,mt 87 18⟩,⟨5,0,mt 88 22⟩,⟨6,2,aV 89 .mul 8 88⟩,⟨7,7,A1 90 (.slsl 1 (.t 87) (some (.t 89)) none)⟩,⟨8,15,kl 91 308 [(.t 90)]⟩,⟨0,0,mt 83 1⟩,⟨1,0,mt 84 4⟩,⟨2,0,mt 85 22⟩,⟨3,192,ak 86 .add 84 85⟩,⟨9,32,A1 92 (.mkmth 1 (.t 83))⟩,⟨10,544,A1 93 (.nilm 1 [422,426] (.t 92))⟩,⟨11,1568,mt 94 83⟩,⟨12,4095,⟨(some 95),.dyn (.c (.fcons 1 .junk .fnil)) [(.t 94),(.t 86),(.t 91)],none⟩⟩,⟨13,8191,mt 23 95⟩]) (sr [mt 96 23,A1 97 (.eq true true (.iface [74]) (.t 96) (.c .nili))] (.cond (.t 97) (sr [la 98 19 5,mt 99 23,sb 19 10 98,mt 11 99] .ret) .skip))))) (.reg [aU 100 .add 80 1,mt 80 100]))))))) (sr [fa 101 16 5,lb 102 1 101,
  aU 103 .add 102 1,fa 104 16 5,sb 1 104 103] (sr [la 105 19 5,sb 19 10 105,mn 11] .ret)))
theorem Ol (ok:OkQ M) (I:MemI M) (g:Nat→BitVec 64) (pc:BitVec 64) (xt:BitVec 64) (b:BitVec 64) (t:Nat) (ht:t≤8) (hb:b.toNat + t≤8192) (p:Nat→BitVec 8) (s0:I.σ) (hL0:I.len s0≤50) (x:Ctx) (hx:x.k=I.kk) :
 AK M x (Ap M x [.cell 10 true 19,.tmp 11] (Q3 (Ah (Lx I.mm ⟨g,pc,false,xt⟩ s0 b t p).1.v (Cr (Lx I.mm ⟨g,pc,false,xt⟩ s0 b t p).2.1)) (I.E (Lx I.mm ⟨g,pc,false,xt⟩ s0 b t p).2.2 I.kk) (I.kk + 1))) [.code Am9] 21
  (fr 106 [(1,.ifc I.t (.ptr 0 [])),(4,W b),(5,.ptr 17 []),(10,.ptr 18 []),(11,.nili),(13,W (BitVec.ofNat 64 t)),(18,.sl 19 [] 0 (8 * t) 1)])
  ((17,AP g pc false xt) :: (18,AP (fun _=>0#64) 0#64 false 0#64) :: (19,.ar 1 (8 * t) fun j=>B (p j)) :: I.E s0 20):=by
 have hk:=I.hk
 refine es 2000 ?_
 (simp only [Am9,LZ,seval])
 refine An (σ:=Nat × I.σ) (fun q=>q.1≤t∧I.len q.2≤50 + q.1∧Zk I.mm b (YY p) (t - q.1) q.1 q.2=Zk I.mm b (YY p) t 0 s0) (fun q=>fr 106 [(1,.ifc I.t (.ptr 0 [])),(4,W b),(5,.ptr 17 []),(10,.ptr 18 []),(11,.nili),(18,.sl 19 [] 0 (8 * t) 1),(79,W (BitVec.ofNat 64 t)),(80,W (BitVec.ofNat 64 q.1))])
  (fun q=>(17,AP g pc false xt) :: (18,AP (fun _=>0#64) 0#64 false 0#64) :: (19,.ar 1 (8 * t) fun j=>B (p j)) :: I.E q.2 20) (fun _=>21) (fun q=>t - q.1) (0,s0) ⟨Nat.zero_le _,hL0,rfl⟩ ?_ ?_
 ·refine Ak.frK [0,1,2,3,4,5,6,7,8,9,10,11,12,13,14,15,16,17,18,19,20] Aa AQ Aj ?_ ?_
  ·simp only [LY,seval]
  ·simp only [Za,seval]
   exact I.sm [_,_,_] (n:=10000) BF BF BF
 ·rintro ⟨i,s⟩ ⟨hi,hLi,hw⟩
  dsimp only at hi hw hLi ⊢
  have hL:I.len s≤100:=Aa
  refine es 2000 ?_
  have e1:=RH i t Aa Aa
  by_cases h4:i=t
  ·subst h4
   rw [Nat.sub_self,Zk] at hw
   simp only [Lx,← hw]
   have d0:=eq_false (Nat.lt_irrefl i)
   (simp only [e1,d0,E7,seval])
   exact I.ret [_,_,_] (q:=I.kk) ⟨by omega,by omega⟩ hx Aj BF ⟨rfl,rfl,rfl⟩ (by (simp only [F2,seval])) (by (simp only [Lbs,seval]))
  ·have hit:i < t:=Nat.lt_of_le_of_ne hi h4
   have t1:=DY i Aa
   have t2:(8#64 * BitVec.ofNat 64 i).toNat=8 * i:=RQ
   have t4:=JS i
   have hlt:=JI b i Aa
   have d0:=eq_true hit
   rw [show t - i=(t - (i + 1)) + 1 by omega,Zk] at hw
   (simp only [e1,d0,t2,t4,E7,seval])
   repeat refine sd ?_
   refine Zh (Dy ok.ok (8 * t - 8 * i) Aa (fun j=>p (8 * i + j))) (by (try simp only [dg,Cm,seval]) <;> first | exact q1 | ((show 8 * i + (8 * t - 8 * i)≤8 * t;omega))) (by simp only [dg,Ce,LX]) ?_
   have hw2:II (fun j=>p (8 * i + j)) 8=YY p i:=rfl
   (simp only [t2,t4,hw2,I.nil_in,I.idsE,LZ,seval])
   cases he:(I.mm.wr s (b + BitVec.ofNat 64 i) (YY p i)).1 with
   | some e =>
     rw [he] at hw
     simp only [Lx,← hw]
     refine I.opyW [_,_,_] hL hlt Aj BF ?_
     (simp only [he,AE,List.nil_append,I.idsE,E7,seval])
     exact I.ret [_,_,_] (q:=I.kk) ⟨by omega,by omega⟩ hx Aj BF ⟨rfl,rfl,rfl⟩ (by (simp only [F2,seval])) (by (simp only [Lbs,seval]))
   | none =>
     rw [he] at hw
     refine I.opyW [_,_,_] hL hlt Aj BF ?_
     (simp only [he,Bm,List.nil_append,I.idsE,t4,LZ,seval])
     refine ⟨(i + 1,(I.mm.wr s (b + BitVec.ofNat 64 i) (YY p i)).2),by omega,(by have:=I.lw s (b + BitVec.ofNat 64 i) (YY p i);show I.len (I.mm.wr s (b + BitVec.ofNat 64 i) (YY p i)).2≤50 + (i + 1);omega),hw,by omega,?_⟩
     refine Ak.frK [0,1,2,3,4,5,6,7,8,9,10,11,12,13,14,15,16,17,18,19,485] Aa AQ Aj ?_ ?_
     ·simp only [LY,seval]
     ·simp only [Za,seval]
      exact I.sm [_,_,_] (n:=10000) BF BF BF
def Ab7:LC:=(sr [A1 18 (.mv (.c .nils))] (.seq (sr [mt 58 2,aI 59 .eql 58 34] (.cond (.t 59) (sr [mt 60 14,kl 61 319 [(.t 60)],
  aB 19 32,sb 32 19 61] (.reg [A1 62 (.slarr 32 1 (.t 19) none none),mt 18 62])) (.seq (.regd [⟨0,0,mt 64 1⟩,⟨1,0,mt 65 14⟩,⟨2,2,A1 66 (.s2a 32 1 (.t 65))⟩,⟨3,6,la 67 32 66⟩,⟨4,1,A1 68 (.mkmth 2 (.t 64))⟩,⟨5,17,A1 69 (.nilm 2 [422,426] (.t 68))⟩,⟨6,49,mt 70 64⟩,⟨7,127,⟨(some 71),.dyn (.c (.fcons 2 .junk .fnil)) [(.t 70),(.t 67)],none⟩⟩,⟨8,255,mt 63 71⟩,⟨9,511,ee 72 63 0⟩,⟨11,0,aB 20 64⟩,⟨12,2047,sb 64 20 72⟩,⟨10,511,ee 73 63 1⟩,⟨13,8191,mt 21 73⟩]) (.seq (sr [mt 74 21,A1 75 (.eq true true (.iface [74]) (.t 74) (.c .nili))] (.cond (.t 75) (sr [la 76 19 5,mt 77 21,sb 19 10 76,mt 11 77] .ret) .skip)) (.reg [A1 78 (.slarr 64 1 (.t 20) none none),mt 18 78]))))) (.seq (sr [mt 79 13,
  mU 80 0] (.block 2 (.loop (sr [ak 81 .lss 80 79] (.seq (EQ 81 2) (.seq (.block 3 (sr [mt 82 80,mt 22 82] (.seq (.regd [⟨4,0,mt 87 18⟩,⟨5,0,mt 88 22⟩,⟨6,2,aV 89 .mul 8 88⟩,⟨7,7,A1 90 (.slsl 1 (.t 87) (some (.t 89)) none)⟩,⟨8,15,kl 91 308 [(.t 90)]⟩,⟨0,0,mt 83 1⟩,⟨1,0,mt 84 4⟩,⟨2,0,mt 85 22⟩,⟨3,192,ak 86 .add 84 85⟩,⟨9,32,A1 92 (.mkmth 1 (.t 83))⟩,⟨10,544,A1 93 (.nilm 1 [422,426] (.t 92))⟩,⟨11,1568,mt 94 83⟩,⟨12,4095,⟨(some 95),.dyn (.c (.fcons 1 .junk .fnil)) [(.t 94),(.t 86),(.t 91)],none⟩⟩,⟨13,8191,mt 23 95⟩]) (sr [mt 96 23,A1 97 (.eq true true (.iface [74]) (.t 96) (.c .nili))] (.cond (.t 97) (sr [la 98 19 5,mt 99 23,sb 19 10 98,mt 11 99] .ret) .skip))))) (.reg [aU 100 .add 80 1,mt 80 100]))))))) (sr [fa 101 16 5,lb 102 1 101,
  aU 103 .add 102 1,fa 104 16 5,sb 1 104 103] (sr [la 105 19 5,sb 19 10 105,mn 11] .ret)))))
theorem R3 (ok:OkQ M) (I:MemI M) (g:Nat→BitVec 64) (pc:BitVec 64) (xt:BitVec 64) (b:BitVec 64) (hb:b.toNat + 4≤8192) (s:I.σ) (hL:I.len s≤50) (l:List (BitVec 64)) (hl:l.length=8) (q:Hd × Option Int × I.σ)
 (hq:Lx I.mm ⟨g,pc,false,xt⟩ s b 4 (Cf (Pr.mk' (DB l)).at).at=q) (x:Ctx) (hx:x.k=I.kk) :
 AK M x (Ap M x [.cell 10 true 19,.tmp 11] (Q3 (Ah q.1.v (Cr q.2.1)) (I.E q.2.2 I.kk) (I.kk + 1))) [.code Ab7] 21
  (fr 106 [(1,.ifc I.t (.ptr 0 [])),(2,.int .i64 34),(4,W b),(5,.ptr 17 []),(10,.ptr 18 []),(11,.nili),(13,W 4#64),(14,.sl 19 [] 0 64 1)])
  ((17,AP g pc false xt) :: (18,AP (fun _=>0#64) 0#64 false 0#64) :: (19,.ar 1 64 fun j=>B (DB l j)) :: I.E s 20):=by
 have hP:∀ j,j < 64→(Pr.mk' (DB l)).at j=DB l j:=fun j hj=>Pr.at_mk' _ _ hj
 generalize Pr.mk' (DB l)=P at *
 subst hq
 refine es 9 ?_
 (simp only [Ab7,E7,seval])
 refine cpK (GP ok.okA ok.ok.toOkH P.at) (by (try simp only [dg,LY,seval]) <;> first | exact q1 | (exact fun j hj=>(hP j hj).symm)) (by simp only [dg,LX]) ?_
 generalize Cf P.at=D at *
 (simp only [BA,seval])
 refine AK.weak _ _ _ ?_ (Ol ok I g pc xt b 4 Aa hb D.at s hL x hx)
 refine Ak.frK [0,1,2,3,4,5,6,7,8,9,10,11,12,13,14,15,16,17,18,101,20] G8 AQ Aj ?_ ?_
 ·simp only [LY,seval]
 ·simp only [Za,dg,seval]
  exact I.sm [_,_,_,_] (n:=10000) BF BF BF
theorem QC (ok:OkQ M) (I:MemI M) (g:Nat→BitVec 64) (pc:BitVec 64) (xt:BitVec 64) (b:BitVec 64) (hb:b.toNat + 8≤8192) (s:I.σ) (hL:I.len s≤50) (l:List (BitVec 64)) (hl:l.length=4) (q:Hd × Option Int × I.σ)
 (hq:Ab4 I.mm ⟨g,pc,false,xt⟩ s b (Dg.mk' (DB l))=q) (x:Ctx) (hx:x.k=I.kk) :
 AK M x (Ap M x [.cell 10 true 19,.tmp 11] (Q3 (Ah q.1.v (Cr q.2.1)) (I.E q.2.2 I.kk) (I.kk + 1))) [.code Ab7] 21
  (fr 106 [(1,.ifc I.t (.ptr 0 [])),(2,.int .i64 35),(4,W b),(5,.ptr 17 []),(10,.ptr 18 []),(11,.nili),(13,W 8#64),(14,.sl 19 [] 0 32 1)])
  ((17,AP g pc false xt) :: (18,AP (fun _=>0#64) 0#64 false 0#64) :: (19,.ar 1 32 fun j=>B (DB l j)) :: I.E s 20):=by
 have hP:∀ j,j < 32→(Dg.mk' (DB l)).at j=DB l j:=fun j hj=>Dg.at_mk' _ _ hj
 generalize Dg.mk' (DB l)=D at *
 rw [Ab4] at hq
 refine es 14 ?_
 (simp only [Ab7,E7,I.nil_in,I.idsE,seval])
 refine I.opyP [_,_,_] (h:=D) (fun H m z=>?_) Aj BF ?_
 ·simp only [Bk,dg,LY,seval]
  exact fun j hj=>by rw [hP j hj]
 ·generalize hr:I.mm.pi s D=r at *
  obtain ⟨p,e,s'⟩:=r
  cases e with
  | some e =>
    dsimp only at hq
    subst hq
    (simp only [AE,BV,List.nil_append,I.idsE,A9,seval])
    refine es 20 ?_
    (simp only [E7,seval])
    exact I.ret [_,_,_,_] (q:=I.kk) ⟨by have:=I.hk;omega,by have:=I.hk;omega⟩ hx Aj BF ⟨rfl,rfl,rfl⟩ (by (simp only [F2,seval])) (by (simp only [Lbs,seval]))
  | none =>
    dsimp only at hq
    subst hq
    (simp only [Jq,I.idsE,A9,seval])
    refine AK.weak _ _ _ ?_ (Ol ok I g pc xt b 8 Aa hb p.at s' (by have:=I.lp s D;rw [hr] at this;exact Nat.le_trans this hL) x hx)
    refine Ak.frK [0,1,2,3,4,5,6,7,8,9,10,11,12,13,14,15,16,17,18,229,20] G8 AQ Aj ?_ ?_
    ·simp only [LY,seval]
    ·simp only [Za,dg,seval]
     exact I.sm [_,_,_,_] (n:=10000) BF BF BF
theorem OA (ok:OkQ M) (I:MemI M) (g:Nat→BitVec 64) (pc:BitVec 64) (xt:BitVec 64) (a b:BitVec 64) (s:I.σ) (h:(wi a 8#64 && wi b 4#64)=false) :
 Af M 348 [AP g pc false xt,.ifc I.t (.ptr 0 []),.int .i64 34,W a,W b] (I.E s I.k0) I.kk (Q3 (Ah (AP g pc true A8) .nili) (I.E s I.k0) (I.kk + 1)):=by
 refine Ab ok.okN.k348 rfl fun x hx=>?_
 refine AK.up (N':=32) G8 ?_
 cases h1:wi a 8#64 with
 | false =>
   refine es 2000 ?_;(simp only [QY,Rw,E7,seval])
   refine Ai (Br ok.okN a 8#64) ?_
   (simp only [h1,LZ,seval])
   have zz:=@AP.eq_1;refine CV (B0 ok.okN g pc false xt A8) ?_
   (simp only [E7,seval])
   exact I.retU [_,_] (n:=10000) hx BF ⟨rfl,rfl,rfl⟩ (by (simp only [F2,seval])) (by (simp only [F2,seval,LY]))
 | true =>
   rw [h1,Bool.true_and] at h
   refine es 2000 ?_;(simp only [QY,Rw,E7,seval])
   refine Ai (Br ok.okN a 8#64) ?_
   (simp only [h1,LZ,seval])
   refine Ai (Br ok.okN b 4#64) ?_
   (simp only [h,LZ,seval])
   have zz:=@AP.eq_1;refine CV (B0 ok.okN g pc false xt A8) ?_
   (simp only [E7,seval])
   exact I.retU [_,_] (n:=10000) hx BF ⟨rfl,rfl,rfl⟩ (by (simp only [F2,seval])) (by (simp only [F2,seval,LY]))
theorem RY (ok:OkQ M) (I:MemI M) (g:Nat→BitVec 64) (pc:BitVec 64) (xt:BitVec 64) (a b:BitVec 64) (s0:I.σ) (hL0:I.len s0≤1) (h1:wi a 8#64=true) (h2:wi b 4#64=true) (q:Hd × Option Int × I.σ) (hq:Re I.mm 34 ⟨g,pc,false,xt⟩ s0 a b=q) :
 Af M 348 [AP g pc false xt,.ifc I.t (.ptr 0 []),.int .i64 34,W a,W b] (I.E s0 I.k0) I.kk (Q3 (Ah q.1.v (Cr q.2.1)) (I.E q.2.2 I.kk) (I.kk + 1)):=by
 have hk:=I.hk
 have ha:=DO h1
 have hb:=DO h2
 simp only [Re,h1,h2,Bool.and_self,Bool.true_eq_false,C2,seval] at hq
 refine Ab ok.okN.k348 rfl fun x hx=>?_
 refine AK.up (N':=32) Aa ?_
 refine es 2000 ?_;(simp only [QY,Rw,E7,seval])
 refine Ai (Br ok.okN a 8#64) ?_
 (simp only [h1,LZ,seval])
 refine Ai (Br ok.okN b 4#64) ?_
 (simp only [h2,LZ,seval])
 refine Au ?_
 refine es 2000 ?_
 (simp only [LZ,seval])
 have hlt0:=JI a 0 (by have:(8#64:BitVec 64).toNat=8:=rfl;omega)
 generalize hR:Qv I.mm a 8 0 s0 []=R at hq
 rw [Qv] at hR
 refine I.dynRk [_,_] Aa hlt0 BF ?_
 cases he:(I.mm.rd s0 (a + BitVec.ofNat 64 0)).2.1 with
 | some e =>
   rw [he] at hR
   subst hR
   dsimp only at hq
   subst hq
   (simp only [he,AE,Lbw,seval])
   exact I.ret [_,_] (q:=I.kk) ⟨by omega,by omega⟩ hx Aj BF ⟨rfl,rfl,rfl⟩ (by (simp only [F2,seval])) (by (simp only [Lbs,seval]))
 | none =>
   rw [he] at hR
   dsimp only at hR
   have hL1:=I.lr s0 (a + BitVec.ofNat 64 0)
   generalize hs1:(I.mm.rd s0 (a + BitVec.ofNat 64 0)).2.2=s1 at *
   generalize hw0:(I.mm.rd s0 (a + BitVec.ofNat 64 0)).1=w0 at *
   (simp only [he,Jq,AP,seval])
   refine Er (D3 ok.okA ok.ok w0) ?_
   (simp only [LZ,seval])
   refine An (σ:=Nat × I.σ × List (BitVec 64)) (fun q=>(1≤q.1∧q.1≤8)∧I.len q.2.1≤1 + q.1∧q.2.2.length=q.1∧Qv I.mm a (8 - q.1) q.1 q.2.1 q.2.2=R)
    (fun q=>fr 106 [(1,.ifc I.t (.ptr 0 [])),(2,.int .i64 34),(3,W a),(4,W b),(5,.ptr 17 []),(10,.ptr 18 []),(11,.nili),(13,W 4#64),(14,.sl 19 [] 0 (8 * q.1) 1),(38,W 8#64),(39,W (BitVec.ofNat 64 q.1))])
    (fun q=>(17,AP g pc false xt) :: (18,AP (fun _=>0#64) 0#64 false 0#64) :: (19,.ar 1 (8 * q.1) fun j=>B (DB q.2.2 j)) :: I.E q.2.1 20) (fun _=>21) (fun q=>8 - q.1) (1,s1,[w0]) ⟨⟨by omega,by omega⟩,by show I.len s1≤1 + 1;omega,rfl,hR⟩ ?_ ?_
   ·refine Ak.frK [0,1,2,3,4,5,6,7,8,9,10,11,12,13,14,15,16,32,48,624,464] Aa AQ Aj ?_ ?_
    ·simp only [LY,seval]
    ·simp only [Za,seval]
     refine ⟨fun i hi=>?_,I.sm [_,_,_] (n:=10000) BF BF BF⟩
     have q1:i / 8=0:=Aa
     have q2:i % 8=i:=Aa
     simp only [DB,Bb,q1,q2]
     rfl
   ·rintro ⟨i,s,l⟩ ⟨⟨hi1,hi⟩,hLi,hl,hw⟩
    dsimp only at hi1 hi hl hw hLi ⊢
    have hL:I.len s≤100:=Aa
    have e1:=RH i 8 Aa Aa
    by_cases h8:i=8
    ·subst h8
     have d0:=eq_false (Nat.lt_irrefl 8)
     rw [Nat.sub_self,Qv] at hw
     subst hw
     dsimp only at hq
     refine es 5 ?_
     (simp only [e1,d0,E7,seval])
     refine AK.weak _ _ _ ?_ (R3 ok I g pc xt b hb s Aa l hl q hq x hx)
     refine Ak.frK [0,1,2,3,4,5,6,7,8,9,10,11,12,13,14,15,16,17,18,19,20] Aa AQ Aj ?_ ?_
     ·simp only [LY,seval]
     ·simp only [Za,seval]
      exact I.sm [_,_,_] (n:=10000) BF BF BF
    ·have hit:i < 8:=Nat.lt_of_le_of_ne hi h8
     have t4:=JS i
     have hlt:=JI a i (by have:(8#64:BitVec 64).toNat=8:=rfl;omega)
     have d0:=eq_true hit
     rw [show 8 - i=(8 - (i + 1)) + 1 by omega,Qv] at hw
     refine es 2000 ?_
     (simp only [e1,d0,E7,seval])
     have hL2:=I.lr s (a + BitVec.ofNat 64 i)
     refine I.dynR [_,_,_] hL hlt Aj BF ?_
     cases he2:(I.mm.rd s (a + BitVec.ofNat 64 i)).2.1 with
     | some e =>
       rw [he2] at hw
       subst hw
       dsimp only at hq
       subst hq
       (simp only [he2,AE,Lbw,seval])
       exact I.ret [_,_,_] (q:=I.kk) ⟨by omega,by omega⟩ hx Aj BF ⟨rfl,rfl,rfl⟩ (by (simp only [F2,seval])) (by (simp only [Lbs,seval]))
     | none =>
       rw [he2] at hw
       (simp only [he2,Jq,AP,seval])
       dsimp only at hw
       generalize (I.mm.rd s (a + BitVec.ofNat 64 i)).2.2=s2 at *
       generalize (I.mm.rd s (a + BitVec.ofNat 64 i)).1=w2 at *
       have zz:=@Ce;refine FA [19] (D4 ok.okA ok.ok (8 * i) Aa (DB l) w2) ?_
       (simp only [I.hdelE,t4,LZ,seval])
       refine ⟨(i + 1,s2,l ++ [w2]),by omega,by show i + 1≤8;omega,by show I.len s2≤1 + (i + 1);omega,by simp [hl],hw,by omega,?_⟩
       dsimp only
       rw [show 8 * (i + 1)=8 * i + 8 by omega]
       refine Ak.frK [0,1,2,3,4,5,6,7,8,9,10,11,12,13,14,15,16,17,18,293,133] Aa AQ Aj ?_ ?_
       ·simp only [LY,seval]
       ·simp only [Za,seval]
        refine ⟨fun j hj=>?_,I.sm [_,_,_] (n:=10000) BF BF BF⟩
        rw [DB,Bb,DB,Bb]
        by_cases e:j < 8 * i
        ·rw [if_pos e,List.getD_eq_getElem?_getD,List.getD_eq_getElem?_getD,List.getElem?_append_left Aa]
        ·have e1:j / 8=i:=Aa
         have e2:j % 8=j - 8 * i:=Aa
         rw [if_neg e,e1,e2,List.getD_eq_getElem?_getD,List.getElem?_append_right Aa,hl,Nat.sub_self]
         rfl
theorem OH (ok:OkQ M) (I:MemI M) (g:Nat→BitVec 64) (pc:BitVec 64) (xt:BitVec 64) (a b:BitVec 64) (s:I.σ) (h:(wi a 4#64 && wi b 8#64)=false) :
 Af M 348 [AP g pc false xt,.ifc I.t (.ptr 0 []),.int .i64 35,W a,W b] (I.E s I.k0) I.kk (Q3 (Ah (AP g pc true A8) .nili) (I.E s I.k0) (I.kk + 1)):=by
 refine Ab ok.okN.k348 rfl fun x hx=>?_
 refine AK.up (N':=32) G8 ?_
 cases h1:wi a 4#64 with
 | false =>
   refine es 2000 ?_;(simp only [QY,Rw,E7,seval])
   refine Ai (Br ok.okN a 4#64) ?_
   (simp only [h1,LZ,seval])
   have zz:=@AP.eq_1;refine CV (B0 ok.okN g pc false xt A8) ?_
   (simp only [E7,seval])
   exact I.retU [_,_] (n:=10000) hx BF ⟨rfl,rfl,rfl⟩ (by (simp only [F2,seval])) (by (simp only [F2,seval,LY]))
 | true =>
   rw [h1,Bool.true_and] at h
   refine es 2000 ?_;(simp only [QY,Rw,E7,seval])
   refine Ai (Br ok.okN a 4#64) ?_
   (simp only [h1,LZ,seval])
   refine Ai (Br ok.okN b 8#64) ?_
   (simp only [h,LZ,seval])
   have zz:=@AP.eq_1;refine CV (B0 ok.okN g pc false xt A8) ?_
   (simp only [E7,seval])
   exact I.retU [_,_] (n:=10000) hx BF ⟨rfl,rfl,rfl⟩ (by (simp only [F2,seval])) (by (simp only [F2,seval,LY]))
theorem RF (ok:OkQ M) (I:MemI M) (g:Nat→BitVec 64) (pc:BitVec 64) (xt:BitVec 64) (a b:BitVec 64) (s0:I.σ) (hL0:I.len s0≤1) (h1:wi a 4#64=true) (h2:wi b 8#64=true) (q:Hd × Option Int × I.σ) (hq:Re I.mm 35 ⟨g,pc,false,xt⟩ s0 a b=q) :
 Af M 348 [AP g pc false xt,.ifc I.t (.ptr 0 []),.int .i64 35,W a,W b] (I.E s0 I.k0) I.kk (Q3 (Ah q.1.v (Cr q.2.1)) (I.E q.2.2 I.kk) (I.kk + 1)):=by
 have hk:=I.hk
 have ha:=DO h1
 have hb:=DO h2
 simp only [Re,h1,h2,Bool.and_self,Bool.true_eq_false,C2,seval] at hq
 refine Ab ok.okN.k348 rfl fun x hx=>?_
 refine AK.up (N':=32) Aa ?_
 refine es 2000 ?_;(simp only [QY,Rw,E7,seval])
 refine Ai (Br ok.okN a 4#64) ?_
 (simp only [h1,LZ,seval])
 refine Ai (Br ok.okN b 8#64) ?_
 (simp only [h2,LZ,seval])
 refine Au ?_
 refine es 2000 ?_
 (simp only [LZ,seval])
 have hlt0:=JI a 0 (by have:(4#64:BitVec 64).toNat=4:=rfl;omega)
 generalize hR:Qv I.mm a 4 0 s0 []=R at hq
 rw [Qv] at hR
 refine I.dynRk [_,_] Aa hlt0 BF ?_
 cases he:(I.mm.rd s0 (a + BitVec.ofNat 64 0)).2.1 with
 | some e =>
   rw [he] at hR
   subst hR
   dsimp only at hq
   subst hq
   (simp only [he,AE,Lbw,seval])
   exact I.ret [_,_] (q:=I.kk) ⟨by omega,by omega⟩ hx Aj BF ⟨rfl,rfl,rfl⟩ (by (simp only [F2,seval])) (by (simp only [Lbs,seval]))
 | none =>
   rw [he] at hR
   dsimp only at hR
   have hL1:=I.lr s0 (a + BitVec.ofNat 64 0)
   generalize hs1:(I.mm.rd s0 (a + BitVec.ofNat 64 0)).2.2=s1 at *
   generalize hw0:(I.mm.rd s0 (a + BitVec.ofNat 64 0)).1=w0 at *
   (simp only [he,Jq,AP,seval])
   refine Er (D3 ok.okA ok.ok w0) ?_
   (simp only [LZ,seval])
   refine An (σ:=Nat × I.σ × List (BitVec 64)) (fun q=>(1≤q.1∧q.1≤4)∧I.len q.2.1≤1 + q.1∧q.2.2.length=q.1∧Qv I.mm a (4 - q.1) q.1 q.2.1 q.2.2=R)
    (fun q=>fr 106 [(1,.ifc I.t (.ptr 0 [])),(2,.int .i64 35),(3,W a),(4,W b),(5,.ptr 17 []),(10,.ptr 18 []),(11,.nili),(13,W 8#64),(14,.sl 19 [] 0 (8 * q.1) 1),(38,W 4#64),(39,W (BitVec.ofNat 64 q.1))])
    (fun q=>(17,AP g pc false xt) :: (18,AP (fun _=>0#64) 0#64 false 0#64) :: (19,.ar 1 (8 * q.1) fun j=>B (DB q.2.2 j)) :: I.E q.2.1 20) (fun _=>21) (fun q=>4 - q.1) (1,s1,[w0]) ⟨⟨by omega,by omega⟩,by show I.len s1≤1 + 1;omega,rfl,hR⟩ ?_ ?_
   ·refine Ak.frK [0,1,2,3,4,5,6,7,8,9,10,11,12,13,14,15,16,32,48,656,496] Aa AQ Aj ?_ ?_
    ·simp only [LY,seval]
    ·simp only [Za,seval]
     refine ⟨fun i hi=>?_,I.sm [_,_,_] (n:=10000) BF BF BF⟩
     have q1:i / 8=0:=Aa
     have q2:i % 8=i:=Aa
     simp only [DB,Bb,q1,q2]
     rfl
   ·rintro ⟨i,s,l⟩ ⟨⟨hi1,hi⟩,hLi,hl,hw⟩
    dsimp only at hi1 hi hl hw hLi ⊢
    have hL:I.len s≤100:=Aa
    have e1:=RH i 4 Aa Aa
    by_cases h8:i=4
    ·subst h8
     have d0:=eq_false (Nat.lt_irrefl 4)
     rw [Nat.sub_self,Qv] at hw
     subst hw
     dsimp only at hq
     refine es 5 ?_
     (simp only [e1,d0,E7,seval])
     refine AK.weak _ _ _ ?_ (QC ok I g pc xt b hb s Aa l hl q hq x hx)
     refine Ak.frK [0,1,2,3,4,5,6,7,8,9,10,11,12,13,14,15,16,17,18,19,20] Aa AQ Aj ?_ ?_
     ·simp only [LY,seval]
     ·simp only [Za,seval]
      exact I.sm [_,_,_] (n:=10000) BF BF BF
    ·have hit:i < 4:=Nat.lt_of_le_of_ne hi h8
     have t4:=JS i
     have hlt:=JI a i (by have:(4#64:BitVec 64).toNat=4:=rfl;omega)
     have d0:=eq_true hit
     rw [show 4 - i=(4 - (i + 1)) + 1 by omega,Qv] at hw
     refine es 2000 ?_
     (simp only [e1,d0,E7,seval])
     have hL2:=I.lr s (a + BitVec.ofNat 64 i)
     refine I.dynR [_,_,_] hL hlt Aj BF ?_
     cases he2:(I.mm.rd s (a + BitVec.ofNat 64 i)).2.1 with
     | some e =>
       rw [he2] at hw
       subst hw
       dsimp only at hq
       subst hq
       (simp only [he2,AE,Lbw,seval])
       exact I.ret [_,_,_] (q:=I.kk) ⟨by omega,by omega⟩ hx Aj BF ⟨rfl,rfl,rfl⟩ (by (simp only [F2,seval])) (by (simp only [Lbs,seval]))
     | none =>
       rw [he2] at hw
       (simp only [he2,Jq,AP,seval])
       dsimp only at hw
       generalize (I.mm.rd s (a + BitVec.ofNat 64 i)).2.2=s2 at *
       generalize (I.mm.rd s (a + BitVec.ofNat 64 i)).1=w2 at *
       have zz:=@Ce;refine FA [19] (D4 ok.okA ok.ok (8 * i) Aa (DB l) w2) ?_
       (simp only [I.hdelE,t4,LZ,seval])
       refine ⟨(i + 1,s2,l ++ [w2]),by omega,by show i + 1≤4;omega,by show I.len s2≤1 + (i + 1);omega,by simp [hl],hw,by omega,?_⟩
       dsimp only
       rw [show 8 * (i + 1)=8 * i + 8 by omega]
       refine Ak.frK [0,1,2,3,4,5,6,7,8,9,10,11,12,13,14,15,16,17,18,293,133] Aa AQ Aj ?_ ?_
       ·simp only [LY,seval]
       ·simp only [Za,seval]
        refine ⟨fun j hj=>?_,I.sm [_,_,_] (n:=10000) BF BF BF⟩
        rw [DB,Bb,DB,Bb]
        by_cases e:j < 8 * i
        ·rw [if_pos e,List.getD_eq_getElem?_getD,List.getD_eq_getElem?_getD,List.getElem?_append_left Aa]
        ·have e1:j / 8=i:=Aa
         have e2:j % 8=j - 8 * i:=Aa
         rw [if_neg e,e1,e2,List.getD_eq_getElem?_getD,List.getElem?_append_right Aa,hl,Nat.sub_self]
         rfl
variable {M:Seat}
theorem ND (e:Option Int):G2 (Cr e)=True:=by cases e <;> simp [G2,Cr,V.solid]
theorem NQ (e:Option Int) (i:Nat) (r:V):Jg (Cr e) i r = .fcons i (Cr e) r:=by cases e <;> rfl
theorem SV {g:Nat→BitVec 64} {pc xt:BitVec 64} {hl:Bool} {t:Nat} {op:Int} {a b:BitVec 64}:KF [AP g pc hl xt,.ifc t (.ptr 0 []),.int .i64 op,W a,W b] [AP g pc hl xt,.ifc t (.ptr 0 []),.int .i64 op,W a,W b]:=fun H m z h=>by
 simp only [Bh,Bk,Ar,AP,W,h,and_self,implies_true]
theorem Adw (g:Nat→BitVec 64) (pc xt:BitVec 64) (hl:Bool) (e:Option Int):KO (Ah (AP g pc hl xt) (Cr e)):=fun m=>by simp only [Ah,V.ren,AP,W,J2]
theorem Ls (ok:OkQ M) (I:MemI M) (g:Nat→BitVec 64) (pc:BitVec 64) (xt:BitVec 64) (s:I.σ) (hz:I.Z s) (hpc:¬ 8192#64≤pc) (w:BitVec 64) (hw:(I.mm.rd s pc).1=w) (he:(I.mm.rd s pc).2.1=none) (s1:I.σ) (hs:(I.mm.rd s pc).2.2=s1) (hop:BS w=34) (h2:w >>> 32 &&& 255#64=0#64) (h:(wi (g (pF w 48)) 8#64 && wi (g (pF w 44)) 4#64)=false) :
 Af M 241 [AP g pc false xt,.ifc I.t (.ptr 0 [])] (I.E0 s) I.k0 (Q3 (Ah (AP g pc true A8) (Cr (none))) (I.E (s1) I.k0) (I.k0 + 1)):=by
 refine Ab ok.okN.k241 rfl fun x hx=>?_
 refine AK.up (N':=32) G8 ?_
 have a1:=Ao w 52
 have a2:=Ao w 48
 have a3:=Ao w 44
 have a4:=Ao w 40
 have hL:I.len s1≤100:=FU
 refine es 2000 ?_;(simp only [Oi,I.hdel0,hpc,seval])
 refine I.dynR0 [_,_] hz hpc BF ?_
 rw [hw,he,hs]
 (simp only [Jq,seval])
 have zz:=@Bn.eq_1;refine CV (A6 ok.ok.toOkV w Aa h2) ?_
 (simp only [He,hop,I.idsE,seval])
 repeat refine sd ?_
 refine ⟨_,_,I.cu [_,_] (OA ok I g pc xt _ _ s1 h) SV (fun m=>rfl) G8 (Fb BF) ⟨rfl,rfl⟩,?_⟩
 (simp only [Lbw,I.idsE,seval])
 exact I.ret [_,_] (q:=I.k0) ⟨Nat.le_refl _,by have:=I.hk;omega⟩ hx Aj BF ⟨rfl,rfl,rfl⟩ (by (simp only [F2,seval])) (by (simp only [Sl,seval]))
theorem NC (ok:OkQ M) (I:MemI M) (g:Nat→BitVec 64) (pc:BitVec 64) (xt:BitVec 64) (s:I.σ) (hz:I.Z s) (hpc:¬ 8192#64≤pc) (w:BitVec 64) (hw:(I.mm.rd s pc).1=w) (he:(I.mm.rd s pc).2.1=none) (s1:I.σ) (hs:(I.mm.rd s pc).2.2=s1) (hop:BS w=34) (h2:w >>> 32 &&& 255#64=0#64) (h3:wi (g (pF w 48)) 8#64=true) (h4:wi (g (pF w 44)) 4#64=true) (q:Hd × Option Int × I.σ) (hq:Re I.mm 34 ⟨g,pc,false,xt⟩ s1 (g (pF w 48)) (g (pF w 44))=q) :
 Af M 241 [AP g pc false xt,.ifc I.t (.ptr 0 [])] (I.E0 s) I.k0 (Q3 (Ah (q.1.v) (Cr (q.2.1))) (I.E (q.2.2) I.k0) (I.k0 + 1)):=by
 refine Ab ok.okN.k241 rfl fun x hx=>?_
 refine AK.up (N':=32) G8 ?_
 have a1:=Ao w 52
 have a2:=Ao w 48
 have a3:=Ao w 44
 have a4:=Ao w 40
 have hL:I.len s1≤100:=FU
 obtain ⟨⟨g1,pc1,hl1,xt1⟩,e1,s2⟩:=q
 have hL1:I.len s1≤1:=FU
 refine es 2000 ?_;(simp only [Oi,I.hdel0,hpc,seval])
 refine I.dynR0 [_,_] hz hpc BF ?_
 rw [hw,he,hs]
 (simp only [Jq,seval])
 have zz:=@Bn.eq_1;refine CV (A6 ok.ok.toOkV w Aa h2) ?_
 (simp only [He,hop,I.idsE,seval])
 repeat refine sd ?_
 refine ⟨_,_,I.ck [_,_] (RY ok I g pc xt _ _ s1 hL1 h3 h4 _ hq) SV (Adw _ _ _ _ _) G8 (Fb BF) ⟨rfl,rfl⟩,?_⟩
 (simp only [Lbw,Hd.v,I.idsE,seval])
 repeat refine sd ?_
 have hE:∀ H m z,Ar H m z (Cr e1) (Cr e1):=fun H m z=>Wd e1 H m z
 exact I.ret [_,_] (q:=I.k0) ⟨Nat.le_refl _,by have:=I.hk;omega⟩ hx Aj BF ⟨rfl,rfl,rfl⟩ (by (simp only [F2,hE,ND,NQ,seval])) (by (simp only [Sl,hE,ND,NQ,seval]))
theorem Lw (ok:OkQ M) (I:MemI M) (g:Nat→BitVec 64) (pc:BitVec 64) (xt:BitVec 64) (s:I.σ) (hz:I.Z s) (hpc:¬ 8192#64≤pc) (w:BitVec 64) (hw:(I.mm.rd s pc).1=w) (he:(I.mm.rd s pc).2.1=none) (s1:I.σ) (hs:(I.mm.rd s pc).2.2=s1) (hop:BS w=35) (h2:w >>> 32 &&& 255#64=0#64) (h:(wi (g (pF w 48)) 4#64 && wi (g (pF w 44)) 8#64)=false) :
 Af M 241 [AP g pc false xt,.ifc I.t (.ptr 0 [])] (I.E0 s) I.k0 (Q3 (Ah (AP g pc true A8) (Cr (none))) (I.E (s1) I.k0) (I.k0 + 1)):=by
 refine Ab ok.okN.k241 rfl fun x hx=>?_
 refine AK.up (N':=32) G8 ?_
 have a1:=Ao w 52
 have a2:=Ao w 48
 have a3:=Ao w 44
 have a4:=Ao w 40
 have hL:I.len s1≤100:=FU
 refine es 2000 ?_;(simp only [Oi,I.hdel0,hpc,seval])
 refine I.dynR0 [_,_] hz hpc BF ?_
 rw [hw,he,hs]
 (simp only [Jq,seval])
 have zz:=@Bn.eq_1;refine CV (A6 ok.ok.toOkV w Aa h2) ?_
 (simp only [He,hop,I.idsE,seval])
 repeat refine sd ?_
 refine ⟨_,_,I.cu [_,_] (OH ok I g pc xt _ _ s1 h) SV (fun m=>rfl) G8 (Fb BF) ⟨rfl,rfl⟩,?_⟩
 (simp only [Lbw,I.idsE,seval])
 exact I.ret [_,_] (q:=I.k0) ⟨Nat.le_refl _,by have:=I.hk;omega⟩ hx Aj BF ⟨rfl,rfl,rfl⟩ (by (simp only [F2,seval])) (by (simp only [Sl,seval]))
theorem NK (ok:OkQ M) (I:MemI M) (g:Nat→BitVec 64) (pc:BitVec 64) (xt:BitVec 64) (s:I.σ) (hz:I.Z s) (hpc:¬ 8192#64≤pc) (w:BitVec 64) (hw:(I.mm.rd s pc).1=w) (he:(I.mm.rd s pc).2.1=none) (s1:I.σ) (hs:(I.mm.rd s pc).2.2=s1) (hop:BS w=35) (h2:w >>> 32 &&& 255#64=0#64) (h3:wi (g (pF w 48)) 4#64=true) (h4:wi (g (pF w 44)) 8#64=true) (q:Hd × Option Int × I.σ) (hq:Re I.mm 35 ⟨g,pc,false,xt⟩ s1 (g (pF w 48)) (g (pF w 44))=q) :
 Af M 241 [AP g pc false xt,.ifc I.t (.ptr 0 [])] (I.E0 s) I.k0 (Q3 (Ah (q.1.v) (Cr (q.2.1))) (I.E (q.2.2) I.k0) (I.k0 + 1)):=by
 refine Ab ok.okN.k241 rfl fun x hx=>?_
 refine AK.up (N':=32) G8 ?_
 have a1:=Ao w 52
 have a2:=Ao w 48
 have a3:=Ao w 44
 have a4:=Ao w 40
 have hL:I.len s1≤100:=FU
 obtain ⟨⟨g1,pc1,hl1,xt1⟩,e1,s2⟩:=q
 have hL1:I.len s1≤1:=FU
 refine es 2000 ?_;(simp only [Oi,I.hdel0,hpc,seval])
 refine I.dynR0 [_,_] hz hpc BF ?_
 rw [hw,he,hs]
 (simp only [Jq,seval])
 have zz:=@Bn.eq_1;refine CV (A6 ok.ok.toOkV w Aa h2) ?_
 (simp only [He,hop,I.idsE,seval])
 repeat refine sd ?_
 refine ⟨_,_,I.ck [_,_] (RF ok I g pc xt _ _ s1 hL1 h3 h4 _ hq) SV (Adw _ _ _ _ _) G8 (Fb BF) ⟨rfl,rfl⟩,?_⟩
 (simp only [Lbw,Hd.v,I.idsE,seval])
 repeat refine sd ?_
 have hE:∀ H m z,Ar H m z (Cr e1) (Cr e1):=fun H m z=>Wd e1 H m z
 exact I.ret [_,_] (q:=I.k0) ⟨Nat.le_refl _,by have:=I.hk;omega⟩ hx Aj BF ⟨rfl,rfl,rfl⟩ (by (simp only [F2,hE,ND,NQ,seval])) (by (simp only [Sl,hE,ND,NQ,seval]))
end Mv
