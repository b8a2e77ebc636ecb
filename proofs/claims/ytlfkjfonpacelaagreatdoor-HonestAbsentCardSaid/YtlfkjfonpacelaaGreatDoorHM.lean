/- A part. -/
import Derived.Test.YtlfkjfonpacelaaGreatDoorHL
set_option linter.all false
set_option maxRecDepth 20000
set_option maxHeartbeats 8000000
namespace Mv
open Go
def Av (pts:V) (d:Int) (kn pm:V):V:=.st 4 (.fcons 0 pts (.fcons 1 (.int .i64 d) (.fcons 2 kn (.fcons 3 pm .fnil))))
structure OkHp (M:Seat):Prop where
 m:OkM M
 k312:Ar M 312 Pp=true
 k363:Ar M 363 Ahp=true
theorem SA (p:Nat→BitVec 64):(Vm p).length=32:=by simp [Vm]
theorem Ym (p:Nat→BitVec 64) (j:Nat) (hj:j < 32):(Vm p).getD j Dg.zero=CF (p j):=by
 simp [Vm,List.getD,hj]
theorem Rh {M:Seat} (ok:OkHp M) (p:Nat→BitVec 64) (n:Nat) (d:Int) (l:List (Nat→BitVec 64)) (i:Nat) (h:G6 p l=some i) :
 Ae M 363 [.ptr 0 [],Gx p] [(0,Av (.sl 2 [] 0 n 3) d (.map 3) (.map 1)),(1,DI l)] 4 (Q3 (dg (PL p)) [(0,Av (.sl 2 [] 0 n 3) d (.map 3) (.map 1)),(1,DI l)] 4):=by
 refine Ab ok.k363 rfl fun x hx=>?_
 have hl:=fun z hh H=>Uy z hh l p H i h
 refine es 2000 ?_;(simp only [Ahp,Aff,Av,E2,M2,Qv,hl,B7,seval])
 repeat refine sd ?_
 have zz:=CX @Av.eq_1 @Ak @dg.eq_1;exact Bu hx [0,1,2,3] ⟨rfl,rfl,rfl⟩
theorem Rg {M:Seat} (ok:OkHp M) (p:Nat→BitVec 64) (n:Nat) (d:Int) (l:List (Nat→BitVec 64)) (h:G6 p l=none) :
 Ae M 363 [.ptr 0 [],Gx p] [(0,Av (.sl 2 [] 0 n 3) d (.map 3) (.map 1)),(1,DI l)] 4 (Q3 (dg (PL p)) [(0,Av (.sl 2 [] 0 n 3) d (.map 3) (.map 1)),(1,DI (l ++ [p]))] 4):=by
 refine Ab ok.k363 rfl fun x hx=>?_
 have hl:=fun z hh H=>T2 z hh l p H h
 have hu:=fun hh id H=>Yj hh l p id H h
 have hR:=Ge ok.m 5 Am (Vm p) (by simp [Vm])
 rw [show Gi (Vm p) 5 0=PL p from rfl] at hR
 have zq:V.ar 1 32 (fun _=>B 0#8)=dg Dg.zero:=by simp only [dg,Dg.at_zero];rfl
 refine es 2000 ?_;(simp only [Ahp,Aff,Av,E2,M2,Qv,hl,B7,seval])
 repeat refine sd ?_
 refine An (σ:=Nat) (fun i=>i≤32) (fun i=>fr 44 [(0,.ptr 0 []),(3,.ptr 4 []),(4,.ptr 5 []),(5,.ptr 6 []),(7,.ptr 7 []),(21,.ar 1 32 fun j=>W (p j)),(22,.int .i64 i)])
  (fun i=>[(0,Av (.sl 2 [] 0 n 3) d (.map 3) (.map 1)),(1,DI l),(4,Gx p),(5,dg Dg.zero),(6,dg Dg.zero),(7,.ar 32 32 fun j=>dg (if j < i then CF (p j) else Dg.zero))]) (fun _=>8) (fun i=>32 - i) 0 Aa ?_ ?_
 ·refine Ao.fr [0,1,2,3,4,20,164,452] [] hx AX Am ?_ ?_
  ·simp only [Gx,Int.natCast_zero,LY,seval]
  ·simp only [Av,Ak,Gx,dg,Dg.at_zero,Nat.not_lt_zero,if_false,LY,seval]
 ·intro i hi
  refine es 2000 ?_
  by_cases h32:i=32
  ·subst h32
   have d0:(((32:Nat):Int) < 32)=False:=eq_false Aa
   (simp only [d0,Av,LZ,seval])
   refine cpK (hR) (by (try simp only [row,SA,Iu,dg,LY,seval]) <;> first | exact q1 | (intro j hj q _;rw [if_pos hj,Ym p j hj])) (by simp only [row,SA,Iu,dg,LX]) ?_
   (simp only [Cj,Av,E2,M2,Qv,hu,seval])
   repeat refine sd ?_
   have zz:=CX @Av.eq_1 @Ak @dg.eq_1;exact Bu hx [0,1,2,3] ⟨rfl,rfl,rfl⟩
  ·have d0:((i:Int) < 32)=True:=eq_true Aa
   have d1:(0≤(i:Int))=True:=eq_true Aa
   have w3:IntKind.i64.wrap ((i:Int) + 1)=((i + 1:Nat):Int):=Br
   have hP:=T1 ok.k312 (fun j=>if j < i then CF (p j) else Dg.zero) i Aa (if_neg (Nat.lt_irrefl _)) (p i)
   (simp only [d0,d1,Av,B7,seval])
   repeat refine sd ?_
   have zz:=@dg.eq_1;refine G2 [7] (hP) ?_
   (simp only [w3,Av,LZ,seval])
   repeat refine sd ?_
   refine ⟨i + 1,by omega,by omega,?_⟩
   refine Ao.fr [0,1,2,3,4,5,6,7] [] hx AX Am ?_ ?_
   ·simp only [LY,seval]
   ·simp only [Av,Ak,Gx,dg,LY,seval]
    intro j hj q _
    by_cases h1:j=i
    ·rw [if_pos h1,if_pos Aa,h1]
    ·rw [if_neg h1]
     by_cases h2:j < i
     ·rw [if_pos h2,if_pos Aa]
     ·rw [if_neg h2,if_neg Aa]
theorem Mn {M:Seat} (ok:OkHp M) (p:Nat→BitVec 64) (n:Nat) (d:Int) (l:List (Nat→BitVec 64)) :
 Ae M 363 [.ptr 0 [],Gx p] [(0,Av (.sl 2 [] 0 n 3) d (.map 3) (.map 1)),(1,DI l)] 4 (Q3 (dg (PL p)) [(0,Av (.sl 2 [] 0 n 3) d (.map 3) (.map 1)),(1,DI (Ag2 l p))] 4):=by
 unfold Ag2
 cases h:G6 p l with
 | none=>exact Rg ok p n d l h
 | some i=>exact Rh ok p n d l i h
def TM (f:Nat→BitVec 64) (i j:Nat):BitVec 64:=f (32 * i + j)
def oK (f:Nat→BitVec 64) (l:List (Nat→BitVec 64)):Nat→List (Nat→BitVec 64)
 | 0=>l
 | i + 1=>Ag2 (oK f l i) (TM f i)
theorem NJ (f:Nat→BitVec 64) (i:Nat):∀ h q,2 ^ h * (q + 1)≤32→i < 256→Gi (Vm (TM f i)) h q=BV f h (2 ^ (5 - h) * i + q)
 | 0, q, hq, hi => by
   rw [Rf,Ym _ _ Aa,BV,if_pos Aa];rfl
 | h + 1, q, hq, hi => by
   have e:2 ^ (h + 1)=2 * 2 ^ h:=by rw [Nat.pow_succ];omega
   have h5:h + 1≤5:=by
    refine Classical.byContradiction fun hc=>?_
    have:2 ^ 6≤2 ^ (h + 1):=Nat.pow_le_pow_right Am Aa
    have:2 ^ (h + 1) * 1≤2 ^ (h + 1) * (q + 1):=Nat.mul_le_mul_left _ Aa
    omega
   have e2:2 ^ (5 - h)=2 * 2 ^ (5 - (h + 1)):=by rw [show 5 - h=(5 - (h + 1)) + 1 by omega,Nat.pow_succ];omega
   have e3:2 ^ (h + 1) * (q + 1)=2 ^ h * (2 * q + 2):=Akl
   have e4:2 ^ h * (2 * q + 1)≤2 ^ h * (2 * q + 2):=Nat.mul_le_mul_left _ Aa
   have e6:2 ^ h * (2 * q + 1 + 1)=2 ^ h * (2 * q + 2):=rfl
   rw [Ij,NJ f i h (2 * q) Aa hi,NJ f i h (2 * q + 1) Aa hi,BV,e2]
   generalize 2 ^ (5 - (h + 1))=c
   have e5:2 * (c * i + q)=2 * c * i + 2 * q:=by rw [Nat.mul_add,Nat.mul_assoc]
   rw [e5,Nat.add_assoc]
theorem Jk (f:Nat→BitVec 64) (i:Nat) (hi:i < 256):PL (TM f i)=BV f 5 i:=by
 have:=NJ f i 5 0 Am hi
 simpa [PL] using this
def rtL (f:Nat→BitVec 64):List Dg:=(List.range 256).map fun i=>BV f 5 i
theorem FN (f:Nat→BitVec 64):(rtL f).length=256:=by simp [rtL]
theorem RF (f:Nat→BitVec 64) (j:Nat) (hj:j < 256):(rtL f).getD j Dg.zero=BV f 5 j:=by
 simp [rtL,List.getD,hj]
theorem Je (f:Nat→BitVec 64):∀ h q,2 ^ h * (q + 1)≤256→Gi (rtL f) h q=BV f (5 + h) q
 | 0,q,hq=>by rw [Rf,RF _ _ Aa]
 | h + 1, q, hq => by
   have e:2 ^ (h + 1)=2 * 2 ^ h:=by rw [Nat.pow_succ];omega
   have e3:2 ^ (h + 1) * (q + 1)=2 ^ h * (2 * q + 2):=Akl
   have e4:2 ^ h * (2 * q + 1)≤2 ^ h * (2 * q + 2):=Nat.mul_le_mul_left _ Aa
   have e6:2 ^ h * (2 * q + 1 + 1)=2 ^ h * (2 * q + 2):=rfl
   rw [Ij,Je f h (2 * q) Aa,Je f h (2 * q + 1) Aa]
   rfl
structure OkHo (M:Seat):Prop where
 p:OkHp M
 d:OkD M
 k274:Ar M 274 Aeu=true
theorem Sp {M:Seat} (ok:OkHo M) (f g:Nat→BitVec 64) (pc:BitVec 64) (hl:Bool) (xt:BitVec 64) (n:Nat) (d:Int) (l:List (Nat→BitVec 64)) :
 Ae M 274 [.ptr 0 [],.ptr 4 []] [(0,Av (.sl 2 [] 0 n 3) d (.map 3) (.map 1)),(1,DI l),(4,mach f g pc hl xt)] 5 (Q3 (Ag (dg (BX (BV f 13 0) (Ea g pc hl xt))) .nili) [(0,Av (.sl 2 [] 0 n 3) d (.map 3) (.map 1)),(1,DI (oK f l 256)),(4,mach f g pc hl xt)] 5):=by
 have hP:=fun i=>Mn ok.p (TM f i) n d (oK f l i)
 have hR:=Ge ok.p.m 8 Am (rtL f) (by rw [FN];decide)
 rw [Je f 8 0 Am] at hR
 have hH:=E7 ok.d f g pc hl xt
 have hJ:=Mk ok.p.m ok.d (BV f (5 + 8) 0) g pc hl xt
 simp only [mach,By] at hH hJ
 refine Ab ok.k274 rfl fun x hx=>?_
 refine es 2000 ?_;(simp only [Aeu,Ac9,Av,C7,seval])
 have w32:IntKind.i64.wrap 32=32:=rfl
 have hP0:=hP 0
 have e00:∀ j,TM f 0 j=f (0 + j):=fun j=>by rw [TM,Nat.mul_zero]
 refine Aj ?_
 refine es 2000 ?_
 (simp only [w32,Av,C7,seval])
 repeat refine sd ?_
 have zz:=W7 @Av.eq_1 @Gx.eq_1 @TM.eq_1 @oK.eq_1 @oK.eq_2 Nat.mul_zero @Nat.zero_add @Ak;refine Co [0,1,2,3] [0,1] (hP0) ?_
 (simp only [Av,A5,w32,B7,seval])
 repeat refine sd ?_
 refine An (σ:=Nat) (fun i=>1≤i∧i≤256) (fun i=>fr 44 [(0,.ptr 0 []),(1,.ptr 4 []),(4,.ptr 5 []),(5,.nili),(6,.sl 6 [] 0 i 32),(7,.int .i64 ((32 * i:Nat):Int))])
  (fun i=>[(0,Av (.sl 2 [] 0 n 3) d (.map 3) (.map 1)),(1,DI (oK f l i)),(4,mach f g pc hl xt),(5,dg Dg.zero),(6,.ar 32 i fun j=>dg (BV f 5 j))]) (fun _=>7) (fun i=>256 - i) 1 ⟨by omega,by omega⟩ ?_ ?_
 ·refine Ao.fr [0,1,2,3,4,5,309] [] hx AX Am ?_ ?_
  ·simp only [Nat.mul_one,seval,Int.cast_ofNat_Int,LY,reduceCtorEq]
  ·simp only [Av,oK,Ak,mach,Jk f 0 Am,dg,Dg.at_zero,LY,seval]
   intro j hj
   obtain rfl:j=0:=Aa
   simp only [if_true,LY,seval]
 ·rintro i ⟨h1,hi⟩
  refine es 2000 ?_
  by_cases h256:i=256
  ·subst h256
   have d0:(((32 * 256:Nat):Int) < 8192)=False:=eq_false Aa
   (simp only [d0,Av,C7,seval])
   refine cpK (hR) (by (try simp only [row,FN,Iu,dg,LY,seval]) <;> first | exact q1 | (intro j hj q _;rw [RF f j hj])) (by simp only [row,FN,Iu,dg,LX]) ?_
   (simp only [BU,Av,mach,seval])
   have zz:=EX @dg.eq_1 @A7.eq_1 @A7.eq_2 @A7.eq_3 @A7.eq_4 @A7.eq_5 @A7.eq_6 @A7.eq_7 @A7.eq_8 @A7.eq_9 @A7.eq_10 @A7.eq_11;refine DJ (hH) ?_
   (simp only [BU,Av,mach,seval])
   have zz:=@dg.eq_1;refine DJ (hJ) ?_
   (simp only [Av,C7,seval])
   have zz:=EH @Av.eq_1 @Ak @dg.eq_1 @Ag.eq_1;exact Bu hx [0,1,2,3,4] ⟨rfl,rfl,rfl⟩
  ·have d0:(((32 * i:Nat):Int) < 8192)=True:=eq_true Aa
   have d1:(0≤((32 * i:Nat):Int))=True:=eq_true Aa
   have w3:IntKind.i64.wrap (((32 * i:Nat):Int) + 32)=((32 * (i + 1):Nat):Int):=Br
   have hPi:=hP i
   (simp only [d0,d1,w3,Av,C7,seval])
   repeat refine sd ?_
   have zz:=EH @Av.eq_1 @Gx.eq_1 @TM.eq_1 @Ak;refine Co [0,1,2,3] [0,1] (hPi) ?_
   (simp only [w3,Av,A5,B7,seval])
   repeat refine sd ?_
   refine ⟨i + 1,by omega,by omega,by omega,?_⟩
   refine Ao.fr [0,1,2,3,4,5,247] [] hx AX Am ?_ ?_
   ·simp only [LY,seval]
   ·simp only [Av,oK,Ak,mach,Jk f i Aa,dg,LY,seval]
    intro j hj
    by_cases hji:j < i
    ·simp only [hji,if_true,LY,seval]
    ·obtain rfl:j=i:=Aa
     simp only [Nat.lt_irrefl,Nat.sub_self,C8,LY,seval]
def Mc.com (m:Mc):Dg:=Apn m.f m.g m.pc m.hl m.xt
def UI (pres:List (Dg × Pr)) (m:Mc):Option Int × List Pf × Pr :=
 if m.hl=true then (none,[],Pr.zero) else if 8192#64≤m.pc then (none,[],Pr.zero)
 else ((nx (Ns pres) m.h ⟨m.f,[],Pr.zero⟩).2.1,(nx (Ns pres) m.h ⟨m.f,[],Pr.zero⟩).2.2.l,(nx (Ns pres) m.h ⟨m.f,[],Pr.zero⟩).2.2.pre)
theorem UE {M:Seat} (ok:OkOs M) (m:Mc) (pres:List (Dg × Pr)) (q:Nat) :
 Ae M 97 [.ptr 0 [],.ptr 1 []] [(0,m.v),(1,OU (.nils)),(2,Bv AF Pr.zero pres)] 5
  (Q3 (pvR m (UI pres m).1 (UI pres m).2.1 (UI pres m).2.2) [(0,m.v),(1,OU (.nils)),(2,Bv AF Pr.zero pres)] 5):=by
 obtain ⟨f,g,pc,hl,xt⟩:=m
 unfold UI
 cases hl with
 | true=>rw [if_pos rfl];exact Qz ok f g pc xt pres q
 | false =>
   rw [if_neg BD]
   by_cases hpc:8192#64≤pc
   ·rw [if_pos hpc];exact Pi ok f g pc xt hpc pres q
   ·rw [if_neg hpc]
    generalize hq:nx (Ns pres) (⟨f,g,pc,false,xt⟩:Mc).h ⟨f,[],Pr.zero⟩=r
    obtain ⟨h1,e,s1⟩:=r
    exact Tz ok f g pc xt hpc pres q h1 e s1 hq
def B0:Mc:=⟨fun _=>0#64,fun _=>0#64,0#64,false,0#64⟩
def BO:Mc:=⟨fun _=>0#64,fun _=>0#64,0#64,true,0#64⟩
theorem Aor:isI 0#64=true:=Am
theorem Al0:BP 0#64=0:=Am
theorem nx0 (pres:List (Dg × Pr)):nx (Ns pres) B0.h ⟨B0.f,[],Pr.zero⟩=(BO.h,none,⟨B0.f,[Cg B0.f 0#64],Pr.zero⟩):=by
 show M5 (Ns pres) B0.h 0#64 ⟨B0.f,[Cg B0.f 0#64],Pr.zero⟩=_
 rw [M5,if_neg (by rw [Aor];simp),if_pos Al0]
 rfl
theorem Amg (pres:List (Dg × Pr)):UI pres B0=(none,[Cg B0.f 0#64],Pr.zero):=by
 rw [UI,if_neg (by simp [B0]),if_neg Am,nx0]
def CN (a b c:Nat):V:=.st 4 (.fcons 0 (.map a) (.fcons 1 (.ptr b []) (.fcons 2 (.map c) (.fcons 3 .nils .fnil))))
def B2 (at':BitVec 64) (mp sp:Nat):V:=.st 3 (.fcons 0 (W at') (.fcons 1 (.ptr mp []) (.fcons 2 (.ptr sp []) .fnil)))
def TB:V:=.mp 0 (fun _=>W 0#64) (fun _=>dg Dg.zero)
theorem ZL (H:Hp) (m z:List Nat) (ks vs:Nat→V):At H m z (DI []) (.mp 0 ks vs)=True:=by
 simp only [DI,At,List.length_nil,Nat.not_lt_zero,false_implies,implies_true,and_self]
theorem Abw (H:Hp) (m z:List Nat) (ks vs:Nat→V):At H m z TB (.mp 0 ks vs)=True:=by
 simp only [TB,At,Nat.not_lt_zero,false_implies,implies_true,and_self]
structure OkHn (M:Seat):Prop where
 o:OkHo M
 p:OkPr M
 k152:Ar M 152 An5=true
theorem J2 {M:Seat} (ok:OkHn M) (f g:Nat→BitVec 64) (pc:BitVec 64) (hl:Bool) (xt:BitVec 64) (pres:List (Dg × Pr)) (d:Int) (hd:1≤d∧d≤20) :
 Ae M 152 [.ptr 0 [],.ptr 1 [],.int .i64 d] [(0,mach f g pc hl xt),(1,CN 2 3 4),(2,Bv AF Pr.zero pres)] 5 (Q3 (Ag (.ptr 5 []) .nili) [(0,mach f g pc hl xt),(1,CN 2 3 4),(2,Bv AF Pr.zero pres),(5,Av (.sl 6 [] 0 1 3) d (.map 7) (.map 8)),(6,.ar 3 1 fun _=>B2 0#64 9 10),(7,TB),(8,DI []),(9,mach f g pc hl xt),(10,CN 11 3 12),(11,Bv AF Pr.zero pres),(12,BW [])] 13):=by
 have h1:(d < 1)=False:=eq_false Aa
 have h2:(20 < d)=False:=eq_false Aa
 have hC:=DR ok.o.p.m f g pc hl xt
 have hS:=Ey ok.p 0 pres
 refine Ab ok.k152 rfl fun x hx=>?_
 refine es 2000 ?_;(simp only [An5,Amf,h1,h2,C7,CN,seval])
 have zz:=@mach.eq_1;refine PW (hC) ?_
 (simp only [C7,CN,seval])
 have zz:=@Cn;refine Co [1,2,3,4] [1,2] (hS) ?_
 (simp only [CN,A3,B7,seval])
 refine Aq.mk hx [0,1,2,3,4,469,389,421,437,277,309,310,311] [] (Ag (.ptr 5 []) .nili) _ 13 Am (by (simp only [Db,seval])) (by simp only [LV,Ag,LY,seval]) ?_ ⟨rfl,rfl,rfl⟩
 simp only [Av,B2,mach,CN,ZL,Abw,Ba,CB,seval]
 intro j hj
 obtain rfl:j=0:=Aa
 simp only [if_true,LY,seval]
theorem UC {M:Seat} (ok:OkV M):Ae M 71 [.ptr 0 [],.ptr 1 [],.int .i64 1] [(0,B0.v)] 2 (Q3 (Ag (.int .i64 1) .nili) [(0,BO.v)] 2):=by
 have hS:=Eu ok B0.f B0.g B0.pc B0.xt Am 0#64 rfl Al0 Am
 have h:=Xs ok (fun i=>if i=0 then B0 else BO) 1 1 Am Am (fun i hi=>by
  obtain rfl:i=0:=Aa
  exact ⟨rfl,hS⟩) (.inl rfl)
 exact h
variable {M:Seat}
structure OkHr (M:Seat):Prop where
 n:OkHn M
 v:OkV M
 k275:Ar M 275 O4=true
def pt2 (j:Nat):V:=if j=0 then B2 0#64 4 5 else B2 1#64 10 11
theorem Pg (ok:OkHr M) (pres:List (Dg × Pr)) (d:Int) :
 Ae M 275 [.ptr 0 [],W 1#64] [(0,Av (.sl 2 [] 0 1 3) d (.map 3) (.map 1)),(2,.ar 3 1 fun _=>B2 0#64 4 5),(4,B0.v),(5,CN 6 7 8),(6,Bv AF Pr.zero pres)] 9
  (Q3 (B2 1#64 10 11) [(0,Av (.sl 9 [] 0 2 3) d (.map 3) (.map 1)),(4,B0.v),(5,CN 6 7 8),(6,Bv AF Pr.zero pres),(9,.ar 3 2 pt2),(10,BO.v),(11,CN 12 7 13),(12,Bv AF Pr.zero pres),(13,BW [])] 14):=by
 have hC:=DR ok.n.o.p.m B0.f B0.g B0.pc B0.hl B0.xt
 have hS:=Ey ok.n.p 0 pres
 have hR:=UC ok.v
 have z1:IntKind.i64.wrap 1=1:=rfl
 simp only [Mc.v,B0,BO,mach] at hC hR
 refine Ab ok.k275 rfl fun x hx=>?_
 refine es 2000 ?_;(simp only [O4,Qr,Av,B2,CN,Mc.v,B0,C7,seval])
 refine Aj ?_
 refine es 2000 ?_
 (simp only [Av,B2,CN,Mc.v,B0,C7,seval])
 repeat refine sd ?_
 refine Aj ?_
 refine es 2000 ?_
 (simp only [z1,Av,B2,CN,Mc.v,B0,C7,seval])
 repeat refine sd ?_
 have zz:=@mach.eq_1;refine ofY (hC) ?_
 (simp only [Av,B2,CN,C7,seval])
 have zz:=@Cn;refine KI [5,6,7,8] [5,6] (hS) ?_
 (simp only [Av,B2,CN,A3,B7,seval])
 have zz:=@mach.eq_1;refine Co [921,969] [921] (hR) ?_
 (simp only [Cj,Av,B2,CN,seval])
 refine Aq.mk hx [0,1,2,3,4,5,6,7,8,1769,921,969,970,971] [] (B2 1#64 10 11) _ 14 Am (by (simp only [Db,seval])) (by simp only [PH,B2,seval]) ?_ ⟨rfl,rfl,rfl⟩
 simp only [BO,Ba,CB,seval]
 intro j hj
 rcases (show j=0 ∨ j=1 by omega) with rfl | rfl <;> simp only [pt2,B2,Nat.one_ne_zero,Nat.lt_irrefl,Nat.sub_self,Nat.zero_lt_one,C8,LY,seval]
theorem P3 (ok:OkHr M) (d:Int) :
 Ae M 275 [.ptr 0 [],W 0#64] [(0,Av (.sl 2 [] 0 2 3) d (.map 3) (.map 1)),(2,.ar 3 2 fun j=>if j=0 then B2 0#64 4 5 else B2 1#64 6 7),(6,BO.v)] 8
  (Q3 (B2 0#64 4 5) [(0,Av (.sl 2 [] 0 2 3) d (.map 3) (.map 1)),(2,.ar 3 2 fun j=>if j=0 then B2 0#64 4 5 else B2 1#64 6 7),(6,BO.v)] 8):=by
 have z1:IntKind.i64.wrap 1=1:=rfl
 have z2:IntKind.i64.wrap 2=2:=rfl
 refine Ab ok.k275 rfl fun x hx=>?_
 refine es 2000 ?_;(simp only [O4,Qr,Av,B2,CN,Mc.v,BO,C7,seval])
 refine Aj ?_
 refine es 2000 ?_
 (simp only [z1,Av,B2,Mc.v,BO,C7,seval])
 repeat refine sd ?_
 refine Aj ?_
 refine es 2000 ?_
 (simp only [z1,z2,Av,B2,Mc.v,BO,C7,seval])
 repeat refine sd ?_
 refine Aj ?_
 refine es 2000 ?_
 (simp only [z1,z2,Av,B2,Mc.v,BO,C7,seval])
 repeat refine sd ?_
 refine Aq.mk hx [0,1,2,3,4,5,6,7] [] (B2 0#64 4 5) _ 8 Am (by (simp only [Db,seval])) (by simp only [PH,B2,seval]) ?_ ⟨rfl,rfl,rfl⟩
 simp only [LY,seval]
 intro j hj
 rcases (show j=0 ∨ j=1 by omega) with rfl | rfl <;> simp only [Nat.one_ne_zero,C8,LY,seval]
theorem NU (ok:OkHr M) (d:Int) :
 Ae M 275 [.ptr 0 [],W 1#64] [(0,Av (.sl 2 [] 0 2 3) d (.map 3) (.map 1)),(2,.ar 3 2 fun j=>if j=0 then B2 0#64 4 5 else B2 1#64 6 7),(6,BO.v)] 8
  (Q3 (B2 1#64 6 7) [(0,Av (.sl 2 [] 0 2 3) d (.map 3) (.map 1)),(2,.ar 3 2 fun j=>if j=0 then B2 0#64 4 5 else B2 1#64 6 7),(6,BO.v)] 8):=by
 have z1:IntKind.i64.wrap 1=1:=rfl
 have z2:IntKind.i64.wrap 2=2:=rfl
 refine Ab ok.k275 rfl fun x hx=>?_
 refine es 2000 ?_;(simp only [O4,Qr,Av,B2,CN,Mc.v,BO,C7,seval])
 refine Aj ?_
 refine es 2000 ?_
 (simp only [z1,Av,B2,Mc.v,BO,C7,seval])
 repeat refine sd ?_
 refine Aj ?_
 refine es 2000 ?_
 (simp only [z1,z2,Av,B2,Mc.v,BO,C7,seval])
 repeat refine sd ?_
 refine Aj ?_
 refine es 2000 ?_
 (simp only [z1,z2,Av,B2,Mc.v,BO,C7,seval])
 repeat refine sd ?_
 refine Aq.mk hx [0,1,2,3,4,5,6,7] [] (B2 1#64 6 7) _ 8 Am (by (simp only [Db,seval])) (by simp only [PH,B2,seval]) ?_ ⟨rfl,rfl,rfl⟩
 simp only [LY,seval]
 intro j hj
 rcases (show j=0 ∨ j=1 by omega) with rfl | rfl <;> simp only [Nat.one_ne_zero,C8,LY,seval]
theorem NY (ok:OkHr M) (d:Int) :
 Ae M 275 [.ptr 0 [],W 2#64] [(0,Av (.sl 2 [] 0 2 3) d (.map 3) (.map 1)),(2,.ar 3 2 fun j=>if j=0 then B2 0#64 4 5 else B2 1#64 6 7),(6,BO.v)] 8
  (Q3 (B2 1#64 6 7) [(0,Av (.sl 2 [] 0 2 3) d (.map 3) (.map 1)),(2,.ar 3 2 fun j=>if j=0 then B2 0#64 4 5 else B2 1#64 6 7),(6,BO.v)] 8):=by
 have z1:IntKind.i64.wrap 1=1:=rfl
 have z2:IntKind.i64.wrap 2=2:=rfl
 refine Ab ok.k275 rfl fun x hx=>?_
 refine es 2000 ?_;(simp only [O4,Qr,Av,B2,CN,Mc.v,BO,C7,seval])
 refine Aj ?_
 refine es 2000 ?_
 (simp only [z1,Av,B2,Mc.v,BO,C7,seval])
 repeat refine sd ?_
 refine Aj ?_
 refine es 2000 ?_
 (simp only [z1,z2,Av,B2,Mc.v,BO,C7,seval])
 repeat refine sd ?_
 refine Aj ?_
 refine es 2000 ?_
 (simp only [z1,z2,Av,B2,Mc.v,BO,C7,seval])
 repeat refine sd ?_
 refine Aq.mk hx [0,1,2,3,4,5,6,7] [] (B2 1#64 6 7) _ 8 Am (by (simp only [Db,seval])) (by simp only [PH,B2,seval]) ?_ ⟨rfl,rfl,rfl⟩
 simp only [LY,seval]
 intro j hj
 rcases (show j=0 ∨ j=1 by omega) with rfl | rfl <;> simp only [Nat.one_ne_zero,C8,LY,seval]
variable {M:Seat}
def KG (h:Dg):V:=.mp 1 (fun _=>W 1#64) (fun _=>dg h)
theorem Uo (z:Z) (hh:Bool) (k:BitVec 64) (H:Hp):CJ .int z true hh TB (W k) H=⟨hh=true,.tup (.fcons 0 (z.v 0) (.fcons 1 (.bool false) .fnil)),H⟩:=by
 simp [CJ,TB,GQ,AL,W,V.solid]
theorem L4 (z:Z) (hh:Bool) (h:Dg) (H:Hp):CJ .int z true hh (KG h) (W 1#64) H=⟨hh=true,.tup (.fcons 0 (dg h) (.fcons 1 (.bool true) .fnil)),H⟩:=by
 simp [CJ,KG,GQ,AL,AP,W,V.solid]
theorem Wz (hh:Bool) (h:Dg) (id:Nat) (H:Hp):Gn .int hh TB (W 1#64) (dg h) id H=⟨hh=true,.tup .fnil,Cs H id (.mp 1 (fun j=>if j=0 then W 1#64 else W 0#64) (fun j=>if j=0 then dg h else dg Dg.zero))⟩:=by
 simp only [Gn,TB,GQ,Df,Nat.not_lt_zero,false_implies,implies_true,and_true,Option.getD_none,AL,W,Nat.zero_add]
 rw [show (V.int IntKind.u64 ((1#64:BitVec 64).toNat:Int)).solid=true from rfl]
 simp only [N9]
 rfl
theorem Bw (m:List Nat) (c:Prop) [Decidable c] (a b:V):V.ren m (if c then a else b)=if c then V.ren m a else V.ren m b:=by split <;> rfl
structure OkHa (M:Seat):Prop where
 r:OkHr M
 k153:Ar M 153 Aa6=true
 k154:Ar M 154 Nk=true
def hL:List (Nat→BitVec 64):=oK B0.f [] 256
theorem PO (ok:OkHa M) (d:Int) :
 Ae M 153 [.ptr 0 []] [(0,Av (.sl 2 [] 0 1 3) d (.map 3) (.map 1)),(1,DI []),(2,.ar 3 1 fun _=>B2 0#64 4 5),(4,B0.v)] 6
  (Q3 (Ag (dg B0.com) .nili) [(0,Av (.sl 2 [] 0 1 3) d (.map 3) (.map 1)),(1,DI hL),(2,.ar 3 1 fun _=>B2 0#64 4 5),(4,B0.v)] 6):=by
 have hO:=Sp ok.r.n.o B0.f B0.g B0.pc B0.hl B0.xt 1 d []
 rw [show BX (BV B0.f 13 0) (Ea B0.g B0.pc B0.hl B0.xt)=B0.com from rfl,show oK B0.f [] 256=hL from rfl] at hO
 generalize B0.com=C0 at *
 generalize hL=l0 at *
 simp only [Mc.v,B0,mach] at hO
 refine Ab ok.k153 rfl fun x hx=>?_
 refine es 2000 ?_;(simp only [Aa6,Ah9,Av,B2,Mc.v,B0,C7,seval])
 repeat refine sd ?_
 have zz:=Bo @Av.eq_1 @Ak;refine Co [0,1,2,3,4] [0,1,4] (hO) ?_
 (simp only [Cj,Av,A5,seval])
 have zz:=W7 @Ag.eq_1 @Av.eq_1 @B2.eq_1 @Mc.v.eq_1 @B0.eq_1 @mach.eq_1 @Ak @dg.eq_1;exact Bu hx [0,1,2,3,4,5] ⟨rfl,rfl,rfl⟩
theorem UH (ok:OkHa M) (pres:List (Dg × Pr)) (l:List (Nat→BitVec 64)) :
 Ae M 154 [.ptr 0 [],W 0#64] [(0,Av (.sl 2 [] 0 1 3) 1 (.map 3) (.map 1)),(1,DI l),(2,.ar 3 1 fun _=>B2 0#64 4 5),(3,TB),(4,B0.v),(5,CN 6 7 8),(6,Bv AF Pr.zero pres)] 9
  (Q3 (Ag (dg BO.com) .nili) [(0,Av (.sl 9 [] 0 2 3) 1 (.map 3) (.map 1)),(1,DI (oK BO.f l 256)),(3,KG BO.com),(4,B0.v),(5,CN 6 7 8),(6,Bv AF Pr.zero pres),(9,.ar 3 2 pt2),(10,BO.v),(11,CN 12 7 13),(12,Bv AF Pr.zero pres),(13,BW [])] 14):=by
 have hR:=Pg ok.r pres 1
 have hO:=Sp ok.r.n.o BO.f BO.g BO.pc BO.hl BO.xt 2 1 l
 rw [show BX (BV BO.f 13 0) (Ea BO.g BO.pc BO.hl BO.xt)=BO.com from rfl] at hO
 have hk0:=fun z hh k H=>Uo z hh k H
 have hku:=fun hh id H=>Wz hh BO.com id H
 generalize BO.com=C1 at *
 generalize oK BO.f l 256=l1 at *
 simp only [Mc.v,B0,BO,mach] at hO hR
 have hpt:pt2=fun j=>if j=0 then B2 0#64 4 5 else B2 1#64 10 11:=funext fun _=>rfl
 rw [hpt] at hR ⊢
 refine Ab ok.k154 rfl fun x hx=>?_
 refine es 2000 ?_;(simp only [Nk,O2,Av,B2,Mc.v,B0,C7,seval])
 have zz:=EH @Av.eq_1 @B2.eq_1 @CN.eq_1 @Cn;refine Co [0,1,2,3,4,5,6,7,8] [0,2,4,5,6] (hR) ?_
 (simp only [Av,B2,CN,A3,hk0,B7,seval])
 repeat refine sd ?_
 simp only [Bw,B2,LN,LP,V.ren,AM,A4,BL,BQ,seval]
 have zz:=Bo @Av.eq_1 @Ak;refine Co [0,1,265,3,266] [0,1,266] (hO) ?_
 (simp only [Cj,Av,B2,CN,A5,hku,seval])
 repeat refine sd ?_
 refine Aq.mk hx [0,1,2,3,4,5,6,7,8,265,266,267,268,269] [] (Ag (dg C1) .nili) _ 14 Am (by (simp only [Db,seval])) (by simp only [LV,BU,seval,LY]) ?_ ⟨rfl,rfl,rfl⟩
 simp only [BO,KG,Ak,Ez,seval]
 refine ⟨fun i hi=>?_,fun j hj=>?_⟩
 ·obtain rfl:i=0:=Aa
  simp only [if_true,LY,seval]
 ·rcases (show j=0 ∨ j=1 by omega) with rfl | rfl <;> simp only [Nat.one_ne_zero,C8,LY,seval]
def hB (pres:List (Dg × Pr)) (l:List (Nat→BitVec 64)):Hp:=[(0,Av (.sl 2 [] 0 2 3) 1 (.map 3) (.map 1)),(1,DI l),(2,.ar 3 2 fun j=>if j=0 then B2 0#64 4 5 else B2 1#64 6 7),(3,KG BO.com),(4,B0.v),(5,CN 8 9 10),(6,BO.v),(7,CN 11 9 12),(8,Bv AF Pr.zero pres),(10,BW []),(11,Bv AF Pr.zero pres),(12,BW [])]
theorem RD (ok:OkHa M) (pres:List (Dg × Pr)) (l:List (Nat→BitVec 64)) :
 Ae M 154 [.ptr 0 [],W 0#64] (hB pres l) 13 (Q3 (Ag (dg BO.com) .nili) (hB pres l) 13):=by
 have hR:=NU ok.r 1
 have hk:=fun z hh H=>L4 z hh BO.com H
 unfold hB
 generalize BO.com=C1 at *
 simp only [Mc.v,BO,mach] at hR
 refine Ab ok.k154 rfl fun x hx=>?_
 refine es 2000 ?_;(simp only [Nk,O2,Av,B2,CN,Mc.v,B0,BO,C7,seval])
 refine Ji [0,1,2,3,4,5,6,7] [0,2,6] (hR) (by constructor <;> (try simp only [Av,B2,LY,seval]) <;> first | exact q1 | (intro j hj;rcases (show j=0 ∨ j=1 by omega) with rfl | rfl <;> simp only [Nat.one_ne_zero,C8,LY,seval])) ?_
 (simp only [Av,B2,hk,Bw,B7,seval])
 repeat refine sd ?_
 refine Aq.mk hx [0,1,2,3,4,5,6,7,8,9,10,11,12] [] (Ag (dg C1) .nili) _ 13 Am (by (simp only [Db,seval])) (by simp only [LV,BU,dg,seval,LY]) ?_ ⟨rfl,rfl,rfl⟩
 simp only [KG,Ez,Bw,Ak,seval]
 intro j hj
 rcases (show j=0 ∨ j=1 by omega) with rfl | rfl <;> simp only [Nat.one_ne_zero,C8,LN,LP,V.ren,AM,A4,BL,BQ,seval,LY]
theorem K7 (ok:OkHa M) (pres:List (Dg × Pr)) (l:List (Nat→BitVec 64)) :
 Ae M 154 [.ptr 0 [],W 1#64] (hB pres l) 13 (Q3 (Ag (dg BO.com) .nili) (hB pres l) 13):=by
 have hR:=NY ok.r 1
 have hk:=fun z hh H=>L4 z hh BO.com H
 unfold hB
 generalize BO.com=C1 at *
 simp only [Mc.v,BO,mach] at hR
 refine Ab ok.k154 rfl fun x hx=>?_
 refine es 2000 ?_;(simp only [Nk,O2,Av,B2,CN,Mc.v,B0,BO,C7,seval])
 refine Ji [0,1,2,3,4,5,6,7] [0,2,6] (hR) (by constructor <;> (try simp only [Av,B2,LY,seval]) <;> first | exact q1 | (intro j hj;rcases (show j=0 ∨ j=1 by omega) with rfl | rfl <;> simp only [Nat.one_ne_zero,C8,LY,seval])) ?_
 (simp only [Av,B2,hk,Bw,B7,seval])
 repeat refine sd ?_
 refine Aq.mk hx [0,1,2,3,4,5,6,7,8,9,10,11,12] [] (Ag (dg C1) .nili) _ 13 Am (by (simp only [Db,seval])) (by simp only [LV,BU,dg,seval,LY]) ?_ ⟨rfl,rfl,rfl⟩
 simp only [KG,Ez,Bw,Ak,seval]
 intro j hj
 rcases (show j=0 ∨ j=1 by omega) with rfl | rfl <;> simp only [Nat.one_ne_zero,C8,LN,LP,V.ren,AM,A4,BL,BQ,seval,LY]
end Mv
