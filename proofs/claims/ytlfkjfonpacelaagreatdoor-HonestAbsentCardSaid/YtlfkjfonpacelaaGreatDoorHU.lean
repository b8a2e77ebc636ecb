/- A part. -/
import Derived.Test.YtlfkjfonpacelaaGreatDoorHT
set_option linter.all false
set_option maxRecDepth 20000
set_option maxHeartbeats 8000000
namespace Mv
open Go
def QC (t g l:V) (vs:V) (now:BitVec 64):V:=.st 5 (.fcons 0 t (.fcons 1 g (.fcons 2 l (.fcons 3 vs (.fcons 4 (W now) .fnil)))))
structure OkBg (M:Seat):Prop where
 s:OkAs M
 i:OkHi M
 pI:OkI M
 k77:Ar M 77 f77=true
 k121:Ar M 121 Anr=true
 k253:Ar M 253 Zg=true
 g:OkMv M
theorem Lz:∀ n,C3 (EC n).pres
 | 0=>fun h p hk=>by simp [EC,DM] at hk
 | n + 1=>by rw [EC];exact GP _ _ (Lz n)
theorem Wm (H:Hp) (m z:List Nat) (cm:BitVec 64→Dg) (ks vs:Nat→V):At H m z (Ik cm []) (.mp 0 ks vs)=True:=by
 simp only [Ik,At,List.length_nil,Nat.not_lt_zero,false_implies,implies_true,and_self]
noncomputable def UW (m0:Mc) (p0:List (Dg × Pr)) (d:Nat) (bv:Nat→BitVec 64) (sv:BitVec 64) (i:Nat) (t:Tr):Hp :=
 [(0,QC (.ptr 1 []) .nilp (.ptr 7 []) (if i=0 then .nils else .sl 8 [] 0 i 32) 0#64),(1,Av (.sl 3 [] 0 t.n 3) d (.map 4) (.map 2)),(2,DI t.l),(3,.ar 3 t.n fun j=>Cm 5 (t.ps j)),(4,Ik (FH m0 p0) t.knl),(5,Aw 6 t.w.a t.w.b t.w.met),(6,Bv AF Pr.zero t.w.ever),(7,AA bv sv 0#64 .nils 0#64)] ++ (if i=0 then [] else [(8,.ar 32 i fun j=>dg (FH m0 p0 (BitVec.ofNat 64 (j + 1))))])
theorem DL (m:List Nat) (h:m[4]?=some 5) (P:Pt):(Cm 4 P).ren m=Cm 5 P:=Jb 4 5 m h P
theorem DO (H:Hp) (m z:List Nat) (h:m[4]?=some 5) (P:Pt):At H m z (Cm 4 P) (Cm 5 P)=True:=eq_true (Dy H m z 4 5 h P)
theorem ED (H:Hp) (m z:List Nat) (h:m[5]?=some 5) (P:Pt):At H m z (Cm 5 P) (Cm 5 P)=True:=eq_true (Dy H m z 5 5 h P)
theorem Afo {M:Seat} (k253:Ar M 253 Zg=true) (n:Nat) (f:Nat→Dg) (i:Nat) (hi:i < 1000):∃ D:Dg,
 Ae M 253 [.ptr 0 [],.int .i64 i] [(0,.st 5 (.fcons 0 (.ptr 2 []) (.fcons 1 .nilp (.fcons 2 (.ptr 3 []) (.fcons 3 (.sl 1 [] 0 n 32) (.fcons 4 (W 0#64) .fnil)))))),(1,.ar 32 n fun j=>dg (f j))] 4
  (Q3 (dg D) [(0,.st 5 (.fcons 0 (.ptr 2 []) (.fcons 1 .nilp (.fcons 2 (.ptr 3 []) (.fcons 3 (.sl 1 [] 0 n 32) (.fcons 4 (W 0#64) .fnil)))))),(1,.ar 32 n fun j=>dg (f j))] 4):=by
 have d0:(0≤(i:Int))=True:=eq_true Aa
 by_cases h:i < n
 ·have d1:((i:Int) < (n:Int))=True:=eq_true Aa
  refine ⟨f i,?_⟩
  refine Ab k253 rfl fun x hx=>?_
  refine es 2000 ?_;(simp only [Zg,Aem,d0,d1,LZ,seval])
  refine ⟨by omega,?_⟩
  have zz:=@dg.eq_1;exact Bu hx [0,1,2,3] ⟨rfl,rfl,rfl⟩
 ·have d1:((i:Int) < (n:Int))=False:=eq_false Aa
  refine ⟨Dg.mk' fun j=>if j=0 then BitVec.ofNat 8 i else if j=1 then 3#8 else 0#8,?_⟩
  refine Ab k253 rfl fun x hx=>?_
  refine es 2000 ?_;(simp only [Zg,Aem,d0,d1,LZ,seval])
  refine Aq.mk hx [0,1,2,3] [] (dg (Dg.mk' fun j=>if j=0 then BitVec.ofNat 8 i else if j=1 then 3#8 else 0#8)) _ 4 Am (by (simp only [Db,seval])) ?_ ?_ ⟨rfl,rfl,rfl⟩
  ·simp only [PH,dg,seval]
   intro j hj
   rw [Dg.at_mk' _ _ hj]
   by_cases h1:j=1
   ·subst h1;rw [if_pos rfl,if_neg Am,if_pos rfl];simp [At,B]
   ·rw [if_neg h1]
    by_cases h0:j=0
    ·subst h0;simp [At,B]
    ·simp [At,B,h0,h1]
  ·simp only [dg,LY,seval]
def gB (d:Nat) (st fi:Dg) (bv:Nat→BitVec 64) (sv:BitVec 64):Gs:=Gs.new d 5000#64 0#64 st fi 1 0#64 bv sv 0#64 0#64
noncomputable def mkH (m0:Mc) (p0:List (Dg × Pr)) (d:Nat) (now:BitVec 64) (t:Tr) (G:Gs):Hp :=
 [(0,QC (.ptr 1 []) (.ptr 7 []) (.ptr 9 []) (.sl 11 [] 0 (2 ^ d) 32) now),(1,Av (.sl 3 [] 0 t.n 3) d (.map 4) (.map 2)),(2,DI t.l),(3,.ar 3 t.n fun j=>Cm 5 (t.ps j)),(4,Ik (FH m0 p0) t.knl),(5,Aw 6 t.w.a t.w.b t.w.met),(6,Bv AF Pr.zero t.w.ever),
  (7,AB G.D G.l G.g G.s (.ptr 9 []) (.sl 8 [] 0 G.n 42)),(8,AJ G.n G.c),(9,AA G.b G.i G.o (.sl 10 [] 0 G.n 2) G.k),(10,Be G.n G.v G.gv),(11,.ar 32 (2 ^ d) fun j=>dg (FH m0 p0 (BitVec.ofNat 64 (j + 1))))]
theorem QW {M:Seat} (ok:OkBg M) (v:V) (hvv:∀ H m z,Bl H m z v v) (m0:Mc) (w0:WS) (bv:Nat→BitVec 64) (sv:BitVec 64) (d:Nat) (hd:1≤d∧d≤4) (root:Int)
 (hW:Ae M 151 [v] [] 0 (Q3 (.ptr 0 []) [(0,mach m0.f m0.g m0.pc m0.hl m0.xt)] 1)) (hN:Ae M 68 [] [] 0 (Q3 (.ptr 0 []) (AK w0 .nils []) 5)) (hPk:C3 w0.pres) (hbv:¬ bv 1 < 1#64)
 (hRi:Ae M 156 [W 1000#64] [] 0 (Q3 (.ptr 0 []) [(0,AA bv sv 0#64 .nils 0#64)] 1)) :
 Ae M 121 [v,.int .i64 d,.int .i64 root] [] 0 (fun r H' k'=>r = .ptr 0 []∧k'=12∧∃ (t:Tr) (st fi:Dg),t.n≤17∧Pts m0 w0.pres t.n t.ps∧H'=mkH m0 w0.pres d 0#64 t (gB d st fi bv sv)):=by
 have hT:=J2 ok.i.v.a.r.n m0.f m0.g m0.pc m0.hl m0.xt w0.pres d Aa
 simp only [AK,NL] at hN
 simp only [AA] at hRi
 simp only [CN,Av,B2] at hT
 have hD:(BitVec.ofInt 64 (d:Int)).toNat=d:=by rw [BitVec.ofInt_natCast,BitVec.toNat_ofNat];omega
 refine Ab ok.k121 rfl fun x hx=>?_
 refine es 2000 ?_;(simp only [Anr,Akv,LZ,seval])
 refine DG (hW) ?_ (hus:=⟨hvv _ _ _,trivial⟩) (hn:=by simp only [mach,LX,implies_true])
 (simp only [B7,BC,seval])
 have zz:=CX @Cn @Ba @FT;refine PW (hN) ?_
 (simp only [B7,A3,seval])
 refine DG (hRi) ?_
 (simp only [B7,seval])
 have zz:=CX @mach.eq_1 @Cn @Ba;refine Co [32,48,49,50,52] [32,48,49] (hT) ?_
 (simp only [Cj,BC,A5,A3,TB,S6,hD,seval])
 refine An (σ:=Nat × Tr) (fun s=>s.1≤2 ^ d∧s.2.n≤s.1 + 1∧Pts m0 w0.pres s.2.n s.2.ps) (fun s=>fr 123 [(1,.int .i64 d),(2,.int .i64 root),(9,.ptr 7 []),(10,.ptr 1 []),(12,.ptr 0 []),(53,W (1#64 <<< d)),(54,W (BitVec.ofNat 64 s.1))])
  (fun s=>UW m0 w0.pres d bv sv s.1 s.2) (fun _=>9) (fun s=>2 ^ d - s.1) (0,⟨1,fun _=>⟨0#64,m0,w0.pres,[],0,fun _=>Dg.zero⟩,w0,[],[]⟩) ⟨Nat.zero_le _,Nat.le_refl _,⟨Nat.zero_lt_one,rfl,fun j _=>by show 0 < 536870912;decide,fun j _=>rfl,fun j _=>hPk⟩⟩ ?_ ?_
 ·refine Ao.fr [576,336,339,337,338,50,51,96] [340,341,342,343] hx AX Am ?_ ?_
  ·simp only [LY,seval]
  ·simp only [UW,QC,Av,Aw,AA,if_true,List.append_nil,Ak,Wm,CB,seval]
   intro j _
   exact N3 (P:=⟨0#64,m0,w0.pres,[],0,fun _=>Dg.zero⟩) rfl rfl rfl rfl rfl rfl rfl rfl rfl rfl rfl (by simp only [At])
 ·rintro ⟨i,t⟩ ⟨hi,hn,hp⟩
  dsimp only at hi hn hp ⊢
  have h24:2 ^ d≤2 ^ 4:=Nat.pow_le_pow_right Am hd.2
  have eS:(1#64 <<< d).toNat=2 ^ d:=by
   rw [BitVec.toNat_shiftLeft,Nat.shiftLeft_eq,Nat.mod_eq_of_lt]
   ·show 1 * 2 ^ d=_;omega
   ·show 1 * 2 ^ d < 18446744073709551616;omega
  have ei:(BitVec.ofNat 64 i).toNat=i:=by rw [BitVec.toNat_ofNat];omega
  refine es 2000 ?_
  by_cases hin:i=2 ^ d
  ·have d0:(BitVec.ofNat 64 i < 1#64 <<< d)=False:=eq_false (by rw [BitVec.lt_def,ei,eS];omega)
   have hi0:(i=0)=False:=eq_false (by have:=Nat.two_pow_pos d;omega)
   have e0:UW m0 w0.pres d bv sv i t=[(0,.st 5 (.fcons 0 (.ptr 1 []) (.fcons 1 .nilp (.fcons 2 (.ptr 7 []) (.fcons 3 (.sl 8 [] 0 i 32) (.fcons 4 (W 0#64) .fnil)))))),(1,.st 4 (.fcons 0 (.sl 3 [] 0 t.n 3) (.fcons 1 (.int .i64 d) (.fcons 2 (.map 4) (.fcons 3 (.map 2) .fnil))))),(2,DI t.l),(3,.ar 3 t.n fun j=>Cm 5 (t.ps j)),(4,Ik (FH m0 w0.pres) t.knl),(5,.st 130 (.fcons 0 (.map 6) (.fcons 1 (AF t.w.a) (.fcons 65 (AF t.w.b) (.fcons 129 (.bool t.w.met) .fnil))))),(6,Bv AF Pr.zero t.w.ever),(7,.st 12 (.fcons 0 (.ar 1 8 fun j=>W (bv j)) (.fcons 8 (W sv) (.fcons 9 (W 0#64) (.fcons 10 .nils (.fcons 11 (W 0#64) .fnil)))))),(8,.ar 32 i fun j=>dg (FH m0 w0.pres (BitVec.ofNat 64 (j + 1))))]:=by
    simp only [UW,hi0,if_false,QC,Av,Aw,AA,CH]
   rw [e0]
   have hpos:=Nat.two_pow_pos d
   have hS:=NM ok.s t.n hp.pos t.ps d t.l
   generalize oK (t.ps 0).m.f t.l 256=l2 at hS
   generalize (t.ps 0).m.com=st at hS
   have hRu:=IE ok.i d 5000#64 st
   have wm:IntKind.i64.wrap ((i:Int) - 1)=((i - 1:Nat):Int):=Br
   have hG:=fun fi=>JA ok.g d 5000#64 0#64 st fi 1 0#64 bv sv 0#64 0#64 Aa ⟨by decide,by decide,by decide⟩ Am Am hbv
   simp only [Av] at hS
   simp only [AH,Ah,AA,AB,Be,AJ,AU,Cl.v,RK] at hRu hG
   by_cases hr:0≤root
   ·obtain ⟨rn,rfl⟩:∃ rn:Nat,root=rn:=⟨root.toNat,by omega⟩
    have wr:((rn:Int).tmod 20)=((rn % 20:Nat):Int):=rfl
    obtain ⟨fi,hV⟩:=Afo ok.k253 i (fun j=>FH m0 w0.pres (BitVec.ofNat 64 (j + 1))) (rn % 20) Aa
    have hG:=hG fi
    (simp only [d0,LZ,seval])
    have zz:=Bo @Ak @DO;refine Co [1,2,3,4,5,6] [1,2,3] (hS) ?_
    (simp only [Cj,A5,DL,AC,wm,seval])
    repeat refine sd ?_
    (simp only [hr,wr,LZ,seval])
    repeat refine sd ?_
    refine Ji [0,8,1,7] [0,8] (hV) (by constructor <;> (try simp only [LY,seval]) <;> exact q1) ?_
    (simp only [B7,AC,seval])
    refine Bh (hRu) ?_
    (simp only [LZ,seval])
    refine onK [7] [7] (hG) (by constructor <;> (try simp only [LY,seval]) <;> exact q1) ?_
    (simp only [Cj,AC,seval])
    refine Aq.mk hx [0,1,2,3,4,5,6,970,971,7,969,8] [] (.ptr 0 []) (mkH m0 w0.pres d 0#64 ⟨t.n,t.ps,t.w,l2,t.knl⟩ (gB d st fi bv sv)) 12 Am (by (simp only [Db,seval])) (by simp only [PH,seval]) ?_ ⟨rfl,rfl,⟨t.n,t.ps,t.w,l2,t.knl⟩,st,fi,by show t.n≤17;omega,hp,rfl⟩
    simp only [mkH,gB,Gs.new,QC,Av,Aw,AB,AH,Ah,AJ,AA,Be,AU,Cl.v,RK,hin,Ak,A8,ED,CB,dg,seval]
   ·generalize hfi:FH m0 w0.pres (BitVec.ofNat 64 (i - 1 + 1))=fi
    have hG:=hG fi
    (simp only [d0,LZ,seval])
    have zz:=Bo @Ak @DO;refine Co [1,2,3,4,5,6] [1,2,3] (hS) ?_
    (simp only [Cj,A5,DL,AC,wm,seval])
    repeat refine sd ?_
    (simp only [hr,hfi,LZ,seval])
    refine Bh (hRu) ?_
    (simp only [LZ,seval])
    refine onK [7] [7] (hG) (by constructor <;> (try simp only [LY,seval]) <;> exact q1) ?_
    (simp only [Cj,AC,seval])
    refine Aq.mk hx [0,1,2,3,4,5,6,890,891,7,889,8] [] (.ptr 0 []) (mkH m0 w0.pres d 0#64 ⟨t.n,t.ps,t.w,l2,t.knl⟩ (gB d st fi bv sv)) 12 Am (by (simp only [Db,seval])) (by simp only [PH,seval]) ?_ ⟨rfl,rfl,⟨t.n,t.ps,t.w,l2,t.knl⟩,st,fi,by show t.n≤17;omega,hp,rfl⟩
    simp only [mkH,gB,Gs.new,QC,Av,Aw,AB,AH,Ah,AJ,AA,Be,AU,Cl.v,RK,hin,Ak,A8,ED,CB,dg,seval]
  have d0:(BitVec.ofNat 64 i < 1#64 <<< d)=True:=eq_true (by rw [BitVec.lt_def,ei,eS];omega)
  have e1:BitVec.ofNat 64 i + 1#64=BitVec.ofNat 64 (i + 1):=by
   apply BitVec.eq_of_toNat_eq
   rw [BitVec.toNat_add,ei,BitVec.toNat_ofNat];show (i + 1) % 18446744073709551616=_;rfl
  obtain ⟨t',h1,h2,hA⟩:=SY ok.s.a t Aa hp d Aa (BitVec.ofNat 64 i) (by rw [ei];omega)
  rw [e1] at hA
  simp only [Tr.H,Tr.H6,Av,Aw] at hA
  have hs1:(i + 1=0)=False:=eq_false Aa
  by_cases hi0:i=0
  ·have e0:UW m0 w0.pres d bv sv i t=[(0,.st 5 (.fcons 0 (.ptr 1 []) (.fcons 1 .nilp (.fcons 2 (.ptr 7 []) (.fcons 3 (.nils) (.fcons 4 (W 0#64) .fnil)))))),(1,.st 4 (.fcons 0 (.sl 3 [] 0 t.n 3) (.fcons 1 (.int .i64 d) (.fcons 2 (.map 4) (.fcons 3 (.map 2) .fnil))))),(2,DI t.l),(3,.ar 3 t.n fun j=>Cm 5 (t.ps j)),(4,Ik (FH m0 w0.pres) t.knl),(5,.st 130 (.fcons 0 (.map 6) (.fcons 1 (AF t.w.a) (.fcons 65 (AF t.w.b) (.fcons 129 (.bool t.w.met) .fnil))))),(6,Bv AF Pr.zero t.w.ever),(7,.st 12 (.fcons 0 (.ar 1 8 fun j=>W (bv j)) (.fcons 8 (W sv) (.fcons 9 (W 0#64) (.fcons 10 .nils (.fcons 11 (W 0#64) .fnil))))))]:=by
    simp only [UW,hi0,if_true,QC,Av,Aw,AA,List.append_nil]
   rw [e0]
   rcases hA with hA | hA
   ·(simp only [d0,LZ,seval])
    have zz:=EH @Ak @A8 @DO @Cn;refine Co [1,2,3,4,5,6] [1,2,3,4,5,6] (hA) ?_
    (simp only [Cj,A5,Bb,DL,AC,e1,seval])
    refine ⟨(i + 1,t'),by show i + 1≤2 ^ d;omega,by show t'.n≤i + 1 + 1;omega,h2,by show 2 ^ d - (i + 1) < 2 ^ d - i;omega,?_⟩
    refine Ao.fr [0,1,2,3,4,5,6,7,505] [] hx AX Am ?_ ?_
    ·simp only [LY,seval]
    ·simp only [UW,hs1,if_false,QC,Av,Aw,AA,CH,Ak,A8,ED,CB,seval]
     refine ⟨hi0,hi0,fun j hj=>?_⟩
     obtain rfl:j=0:=Aa
     rw [if_pos rfl,hi0];exact (AN _ _ _ _ _).mpr rfl
   ·(simp only [d0,LZ,seval])
    have zz:=EH @Ak @A8 @DO @Cn;refine Co [1,2,3,4,5,6] [1,2,3,4,5,6] (hA) ?_
    (simp only [Cj,A5,Bb,DL,AC,e1,seval])
    refine ⟨(i + 1,t'),by show i + 1≤2 ^ d;omega,by show t'.n≤i + 1 + 1;omega,h2,by show 2 ^ d - (i + 1) < 2 ^ d - i;omega,?_⟩
    refine Ao.fr [0,1,2,89,4,5,6,7,505] [] hx AX Am ?_ ?_
    ·simp only [LY,seval]
    ·simp only [UW,hs1,if_false,QC,Av,Aw,AA,CH,Ak,A8,ED,CB,seval]
     refine ⟨hi0,hi0,fun j hj=>?_⟩
     obtain rfl:j=0:=Aa
     rw [if_pos rfl,hi0];exact (AN _ _ _ _ _).mpr rfl
  ·have hi0':(i=0)=False:=eq_false hi0
   have e0:UW m0 w0.pres d bv sv i t=[(0,.st 5 (.fcons 0 (.ptr 1 []) (.fcons 1 .nilp (.fcons 2 (.ptr 7 []) (.fcons 3 (.sl 8 [] 0 i 32) (.fcons 4 (W 0#64) .fnil)))))),(1,.st 4 (.fcons 0 (.sl 3 [] 0 t.n 3) (.fcons 1 (.int .i64 d) (.fcons 2 (.map 4) (.fcons 3 (.map 2) .fnil))))),(2,DI t.l),(3,.ar 3 t.n fun j=>Cm 5 (t.ps j)),(4,Ik (FH m0 w0.pres) t.knl),(5,.st 130 (.fcons 0 (.map 6) (.fcons 1 (AF t.w.a) (.fcons 65 (AF t.w.b) (.fcons 129 (.bool t.w.met) .fnil))))),(6,Bv AF Pr.zero t.w.ever),(7,.st 12 (.fcons 0 (.ar 1 8 fun j=>W (bv j)) (.fcons 8 (W sv) (.fcons 9 (W 0#64) (.fcons 10 .nils (.fcons 11 (W 0#64) .fnil)))))),(8,.ar 32 i fun j=>dg (FH m0 w0.pres (BitVec.ofNat 64 (j + 1))))]:=by
    simp only [UW,hi0',if_false,QC,Av,Aw,AA,CH]
   rw [e0]
   rcases hA with hA | hA
   ·(simp only [d0,LZ,seval])
    have zz:=EH @Ak @A8 @DO @Cn;refine Co [1,2,3,4,5,6] [1,2,3,4,5,6] (hA) ?_
    (simp only [Cj,A5,Bb,DL,AC,e1,seval])
    refine ⟨by omega,?_⟩
    refine ⟨(i + 1,t'),by show i + 1≤2 ^ d;omega,by show t'.n≤i + 1 + 1;omega,h2,by show 2 ^ d - (i + 1) < 2 ^ d - i;omega,?_⟩
    refine Ao.fr [0,1,2,3,4,5,6,7,505] [] hx AX Am ?_ ?_
    ·simp only [LY,seval]
    ·simp only [UW,hs1,if_false,QC,Av,Aw,AA,CH,Ak,A8,ED,CB,seval]
     intro j hj
     by_cases hj1:j < i
     ·rw [if_pos hj1];exact (AN _ _ _ _ _).mpr rfl
     ·obtain rfl:j=i:=Aa
      rw [if_neg hj1,if_pos Aa];exact (AN _ _ _ _ _).mpr rfl
   ·(simp only [d0,LZ,seval])
    have zz:=EH @Ak @A8 @DO @Cn;refine Co [1,2,3,4,5,6] [1,2,3,4,5,6] (hA) ?_
    (simp only [Cj,A5,Bb,DL,AC,e1,seval])
    refine ⟨by omega,?_⟩
    refine ⟨(i + 1,t'),by show i + 1≤2 ^ d;omega,by show t'.n≤i + 1 + 1;omega,h2,by show 2 ^ d - (i + 1) < 2 ^ d - i;omega,?_⟩
    refine Ao.fr [0,1,2,89,4,5,6,7,505] [] hx AX Am ?_ ?_
    ·simp only [LY,seval]
    ·simp only [UW,hs1,if_false,QC,Av,Aw,AA,CH,Ak,A8,ED,CB,seval]
     intro j hj
     by_cases hj1:j < i
     ·rw [if_pos hj1];exact (AN _ _ _ _ _).mpr rfl
     ·obtain rfl:j=i:=Aa
      rw [if_neg hj1,if_pos Aa];exact (AN _ _ _ _ _).mpr rfl
variable {M:Seat}
def Gs.T (G:Gs):Hp:=[(6,AB G.D G.l G.g G.s (.ptr 8 []) (.sl 7 [] 0 G.n 42)),(7,AJ G.n G.c),(8,AA G.b G.i G.o (.sl 9 [] 0 G.n 2) G.k),(9,Be G.n G.v G.gv)]
def Tr.Hp (t:Tr) (d:Nat) (cm:BitVec 64→Dg) (p:Nat):Hp:=[(0,Av (.sl p [] 0 t.n 3) d (.map 3) (.map 1)),(1,DI t.l),(3,Ik cm t.knl),(4,Aw 5 t.w.a t.w.b t.w.met),(5,Bv AF Pr.zero t.w.ever),(p,.ar 3 t.n fun j=>Cm 4 (t.ps j))]
def DQ (rt:Bool) (G:Gs):Hp:=[(10,.st 5 (.fcons 0 (.ptr 6 []) (.fcons 1 (.ptr 0 []) (.fcons 2 (.sl 11 [] 0 1 42) (.fcons 3 (.sl 12 [] 0 1 1) (.fcons 4 (.int .i64 (if rt then 0 else 1)) .fnil)))))),(11,AJ 1 G.c),(12,.ar 1 1 fun _=>.bool rt)]
theorem IB (ok:OkHv M) (k359:Ar M 359 IV=true) (t t':Tr) (d:Nat) (hd:1≤d∧d≤4) (cm:BitVec 64→Dg) (G:Gs) (hD:G.D=d) (hn:G.n=1) (hp:(G.c 0).pos=1#64) (C:Dg) (hrt:C=(G.c 0).val)
 (hA:Ae M 154 [.ptr 0 [],W (BitVec.ofNat 64 (2 ^ d - 1))] (t.H d cm) 6 (Q3 (Ag (dg C) .nili) (t'.H d cm) 6)) :
 Ae M 254 [.ptr 6 [],.ptr 0 []] (t.H d cm ++ G.T) 10 (Q3 (Ag (.ptr 10 []) .nili) (t'.H d cm ++ G.T ++ DQ true G) 13):=by
 have hRu:=CW ok.g G.D G.l G.g G.s G.n
 have hLn:=Dw ok.g G.D G.l G.g G.s G.n
 have hC0:=B5 ok.g G.D G.l G.g G.s G.n G.c 0 Aa
 have hT:=Cd ok.g.t.s.v.g.p k359 (D:=d) (k:=0) (i:=0) Aa Aa Am
 rw [show pw 0 0=1#64 by decide,show BitVec.ofNat 64 (LI d 0 0)=BitVec.ofNat 64 (2 ^ d - 1) by unfold LI;simp] at hT
 rw [hD,hn] at hRu hLn hC0
 unfold Tr.H Gs.T at *
 simp only [Av,Aw] at hA
 refine Ab ok.k254 rfl fun x hx=>?_
 refine es 2000 ?_;(simp only [Qg,Q6,hD,hn,AB,AH,Ah,AJ,Cl.v,AA,Be,AU,Av,Aw,CH,LZ,seval])
 have z1:IntKind.i64.wrap 1=1:=rfl
 have zz:=EH @AB.eq_1 @AH.eq_1 @Ah.eq_1 @dg.eq_1;refine KI [6,7,8] [6] (hRu) ?_
 (simp only [AB,AH,Ah,AJ,Cl.v,AA,Be,AU,Av,B7,seval])
 have zz:=EH @AB.eq_1 @AH.eq_1 @Ah.eq_1 @dg.eq_1;refine Co [6,7,8] [6] (hLn) ?_
 (simp only [AB,AH,Ah,AJ,Cl.v,AA,Be,AU,Av,B7,seval])
 refine Aj ?_
 refine es 2000 ?_
 (simp only [AB,AH,Ah,AJ,Cl.v,AA,Be,AU,Av,LZ,seval])
 have zz:=Va @AB.eq_1 @AH.eq_1 @Ah.eq_1 @AJ.eq_1 @Cl.v.eq_1 @dg.eq_1;refine Co [6,7,8] [6,7] (hC0) ?_
 (simp only [Cj,hp,AB,AH,Ah,AJ,Cl.v,AA,Be,AU,Av,seval])
 refine Bh (hT) ?_
 (simp only [BU,AB,AH,Ah,AJ,Cl.v,AA,Be,AU,Av,seval])
 have zz:=GE @Ak @A8 @AD @Cn @dg.eq_1;refine Co [0,1,2,3,4,5] [0,1,2,3,4,5] (hA) ?_
 (simp only [Cj,A5,Bb,Bi,AC,z1,hrt,decide_true,decide_false,Nat.testBit,List.map_nil,List.map_cons,CH,AB,AH,Ah,AJ,Cl.v,AA,Be,AU,Av,seval])
 repeat refine sd ?_
 refine Aj ?_
 refine es 2000 ?_
 (simp only [z1,AB,AH,Ah,AJ,Cl.v,AA,Be,AU,Av,LZ,seval])
 refine Aq.mk hx [0,1,2,3,4,5,6,7,8,9,490,1850,2010] [] (Ag (.ptr 10 []) .nili) (t'.H d cm ++ G.T ++ DQ true G) 13 Am (by (simp only [Db,seval])) (by simp only [LV,BU,seval,LY]) ?_ ⟨rfl,by simp only [Tr.H,Tr.Hp,Gs.T,DQ,hD,hn,AB,AH,Ah,AJ,Cl.v,AA,Be,AU,Av,Aw,E4,CH],rfl⟩
 simp only [Tr.H,Tr.Hp,Gs.T,DQ,hD,hn,AB,AH,Ah,AJ,Cl.v,AA,Be,AU,Av,Aw,Ak,A8,AD,CB,dg,E4,CH,seval]
 refine ⟨fun j hj=>?_,fun j hj=>?_⟩
 ·obtain rfl:j=0:=Aa
  simp only [if_true,hp,LY,seval]
 ·rw [if_pos Aa]
theorem IA (ok:OkHv M) (k359:Ar M 359 IV=true) (t t':Tr) (d:Nat) (hd:1≤d∧d≤4) (cm:BitVec 64→Dg) (G:Gs) (hD:G.D=d) (hn:G.n=1) (hp:(G.c 0).pos=1#64) (C:Dg) (hrt:¬ C=(G.c 0).val)
 (hA:Ae M 154 [.ptr 0 [],W (BitVec.ofNat 64 (2 ^ d - 1))] (t.H d cm) 6 (Q3 (Ag (dg C) .nili) (t'.H d cm) 6)) :
 Ae M 254 [.ptr 6 [],.ptr 0 []] (t.H d cm ++ G.T) 10 (Q3 (Ag (.ptr 10 []) .nili) (t'.H d cm ++ G.T ++ DQ false G) 13):=by
 have hRu:=CW ok.g G.D G.l G.g G.s G.n
 have hLn:=Dw ok.g G.D G.l G.g G.s G.n
 have hC0:=B5 ok.g G.D G.l G.g G.s G.n G.c 0 Aa
 have hT:=Cd ok.g.t.s.v.g.p k359 (D:=d) (k:=0) (i:=0) Aa Aa Am
 rw [show pw 0 0=1#64 by decide,show BitVec.ofNat 64 (LI d 0 0)=BitVec.ofNat 64 (2 ^ d - 1) by unfold LI;simp] at hT
 rw [hD,hn] at hRu hLn hC0
 unfold Tr.H Gs.T at *
 simp only [Av,Aw] at hA
 refine Ab ok.k254 rfl fun x hx=>?_
 refine es 2000 ?_;(simp only [Qg,Q6,hD,hn,AB,AH,Ah,AJ,Cl.v,AA,Be,AU,Av,Aw,CH,LZ,seval])
 have z1:IntKind.i64.wrap 1=1:=rfl
 have zz:=EH @AB.eq_1 @AH.eq_1 @Ah.eq_1 @dg.eq_1;refine KI [6,7,8] [6] (hRu) ?_
 (simp only [AB,AH,Ah,AJ,Cl.v,AA,Be,AU,Av,B7,seval])
 have zz:=EH @AB.eq_1 @AH.eq_1 @Ah.eq_1 @dg.eq_1;refine Co [6,7,8] [6] (hLn) ?_
 (simp only [AB,AH,Ah,AJ,Cl.v,AA,Be,AU,Av,B7,seval])
 refine Aj ?_
 refine es 2000 ?_
 (simp only [AB,AH,Ah,AJ,Cl.v,AA,Be,AU,Av,LZ,seval])
 have zz:=Va @AB.eq_1 @AH.eq_1 @Ah.eq_1 @AJ.eq_1 @Cl.v.eq_1 @dg.eq_1;refine Co [6,7,8] [6,7] (hC0) ?_
 (simp only [Cj,hp,AB,AH,Ah,AJ,Cl.v,AA,Be,AU,Av,seval])
 refine Bh (hT) ?_
 (simp only [BU,AB,AH,Ah,AJ,Cl.v,AA,Be,AU,Av,seval])
 have zz:=GE @Ak @A8 @AD @Cn @dg.eq_1;refine Co [0,1,2,3,4,5] [0,1,2,3,4,5] (hA) ?_
 (simp only [Cj,A5,Bb,Bi,AC,z1,hrt,decide_true,decide_false,Nat.testBit,List.map_nil,List.map_cons,CH,AB,AH,Ah,AJ,Cl.v,AA,Be,AU,Av,seval])
 repeat refine sd ?_
 refine Aj ?_
 refine es 2000 ?_
 (simp only [z1,AB,AH,Ah,AJ,Cl.v,AA,Be,AU,Av,LZ,seval])
 refine Aq.mk hx [0,1,2,3,4,5,6,7,8,9,490,1850,2010] [] (Ag (.ptr 10 []) .nili) (t'.H d cm ++ G.T ++ DQ false G) 13 Am (by (simp only [Db,seval])) (by simp only [LV,BU,seval,LY]) ?_ ⟨rfl,by simp only [Tr.H,Tr.Hp,Gs.T,DQ,hD,hn,AB,AH,Ah,AJ,Cl.v,AA,Be,AU,Av,Aw,E4,CH],rfl⟩
 simp only [Tr.H,Tr.Hp,Gs.T,DQ,hD,hn,AB,AH,Ah,AJ,Cl.v,AA,Be,AU,Av,Aw,Ak,A8,AD,CB,dg,E4,CH,seval]
 refine ⟨fun j hj=>?_,fun j hj=>?_⟩
 ·obtain rfl:j=0:=Aa
  simp only [if_true,hp,LY,seval]
 ·rw [if_pos Aa]
theorem I1 (ok:OkHv M) (k359:Ar M 359 IV=true) (t t':Tr) (d:Nat) (hd:1≤d∧d≤4) (cm:BitVec 64→Dg) (G:Gs) (hD:G.D=d) (hn:G.n=1) (hp:(G.c 0).pos=1#64) (C:Dg) (hrt:C=(G.c 0).val)
 (hA:Ae M 154 [.ptr 0 [],W (BitVec.ofNat 64 (2 ^ d - 1))] (t.H d cm) 6 (Q3 (Ag (dg C) .nili) (t'.H6 d cm) 7)) :
 Ae M 254 [.ptr 6 [],.ptr 0 []] (t.H d cm ++ G.T) 10 (Q3 (Ag (.ptr 10 []) .nili) (t'.Hp d cm 13 ++ G.T ++ DQ true G) 14):=by
 have hRu:=CW ok.g G.D G.l G.g G.s G.n
 have hLn:=Dw ok.g G.D G.l G.g G.s G.n
 have hC0:=B5 ok.g G.D G.l G.g G.s G.n G.c 0 Aa
 have hT:=Cd ok.g.t.s.v.g.p k359 (D:=d) (k:=0) (i:=0) Aa Aa Am
 rw [show pw 0 0=1#64 by decide,show BitVec.ofNat 64 (LI d 0 0)=BitVec.ofNat 64 (2 ^ d - 1) by unfold LI;simp] at hT
 rw [hD,hn] at hRu hLn hC0
 unfold Tr.H Gs.T at *
 unfold Tr.H6 at *
 simp only [Av,Aw] at hA
 refine Ab ok.k254 rfl fun x hx=>?_
 refine es 2000 ?_;(simp only [Qg,Q6,hD,hn,AB,AH,Ah,AJ,Cl.v,AA,Be,AU,Av,Aw,CH,LZ,seval])
 have z1:IntKind.i64.wrap 1=1:=rfl
 have zz:=EH @AB.eq_1 @AH.eq_1 @Ah.eq_1 @dg.eq_1;refine KI [6,7,8] [6] (hRu) ?_
 (simp only [AB,AH,Ah,AJ,Cl.v,AA,Be,AU,Av,B7,seval])
 have zz:=EH @AB.eq_1 @AH.eq_1 @Ah.eq_1 @dg.eq_1;refine Co [6,7,8] [6] (hLn) ?_
 (simp only [AB,AH,Ah,AJ,Cl.v,AA,Be,AU,Av,B7,seval])
 refine Aj ?_
 refine es 2000 ?_
 (simp only [AB,AH,Ah,AJ,Cl.v,AA,Be,AU,Av,LZ,seval])
 have zz:=Va @AB.eq_1 @AH.eq_1 @Ah.eq_1 @AJ.eq_1 @Cl.v.eq_1 @dg.eq_1;refine Co [6,7,8] [6,7] (hC0) ?_
 (simp only [Cj,hp,AB,AH,Ah,AJ,Cl.v,AA,Be,AU,Av,seval])
 refine Bh (hT) ?_
 (simp only [BU,AB,AH,Ah,AJ,Cl.v,AA,Be,AU,Av,seval])
 have zz:=GE @Ak @A8 @AD @Cn @dg.eq_1;refine Co [0,1,2,3,4,5] [0,1,2,3,4,5] (hA) ?_
 (simp only [Cj,A5,Bb,Bi,AC,z1,hrt,decide_true,decide_false,Nat.testBit,List.map_nil,List.map_cons,CH,AB,AH,Ah,AJ,Cl.v,AA,Be,AU,Av,seval])
 repeat refine sd ?_
 refine Aj ?_
 refine es 2000 ?_
 (simp only [z1,AB,AH,Ah,AJ,Cl.v,AA,Be,AU,Av,LZ,seval])
 refine Aq.mk hx [0,1,2,3,4,5,6,7,8,9,490,1850,2010,1210] [] (Ag (.ptr 10 []) .nili) (t'.Hp d cm 13 ++ G.T ++ DQ true G) 14 Am (by (simp only [Db,seval])) (by simp only [LV,BU,seval,LY]) ?_ ⟨rfl,by simp only [Tr.H,Tr.Hp,Gs.T,DQ,hD,hn,AB,AH,Ah,AJ,Cl.v,AA,Be,AU,Av,Aw,E4,CH],rfl⟩
 simp only [Tr.H,Tr.Hp,Gs.T,DQ,hD,hn,AB,AH,Ah,AJ,Cl.v,AA,Be,AU,Av,Aw,Ak,A8,AD,CB,dg,E4,CH,seval]
 refine ⟨fun j hj=>?_,fun j hj=>?_⟩
 ·obtain rfl:j=0:=Aa
  simp only [if_true,hp,LY,seval]
 ·rw [if_pos Aa]
theorem ID (ok:OkHv M) (k359:Ar M 359 IV=true) (t t':Tr) (d:Nat) (hd:1≤d∧d≤4) (cm:BitVec 64→Dg) (G:Gs) (hD:G.D=d) (hn:G.n=1) (hp:(G.c 0).pos=1#64) (C:Dg) (hrt:¬ C=(G.c 0).val)
 (hA:Ae M 154 [.ptr 0 [],W (BitVec.ofNat 64 (2 ^ d - 1))] (t.H d cm) 6 (Q3 (Ag (dg C) .nili) (t'.H6 d cm) 7)) :
 Ae M 254 [.ptr 6 [],.ptr 0 []] (t.H d cm ++ G.T) 10 (Q3 (Ag (.ptr 10 []) .nili) (t'.Hp d cm 13 ++ G.T ++ DQ false G) 14):=by
 have hRu:=CW ok.g G.D G.l G.g G.s G.n
 have hLn:=Dw ok.g G.D G.l G.g G.s G.n
 have hC0:=B5 ok.g G.D G.l G.g G.s G.n G.c 0 Aa
 have hT:=Cd ok.g.t.s.v.g.p k359 (D:=d) (k:=0) (i:=0) Aa Aa Am
 rw [show pw 0 0=1#64 by decide,show BitVec.ofNat 64 (LI d 0 0)=BitVec.ofNat 64 (2 ^ d - 1) by unfold LI;simp] at hT
 rw [hD,hn] at hRu hLn hC0
 unfold Tr.H Gs.T at *
 unfold Tr.H6 at *
 simp only [Av,Aw] at hA
 refine Ab ok.k254 rfl fun x hx=>?_
 refine es 2000 ?_;(simp only [Qg,Q6,hD,hn,AB,AH,Ah,AJ,Cl.v,AA,Be,AU,Av,Aw,CH,LZ,seval])
 have z1:IntKind.i64.wrap 1=1:=rfl
 have zz:=EH @AB.eq_1 @AH.eq_1 @Ah.eq_1 @dg.eq_1;refine KI [6,7,8] [6] (hRu) ?_
 (simp only [AB,AH,Ah,AJ,Cl.v,AA,Be,AU,Av,B7,seval])
 have zz:=EH @AB.eq_1 @AH.eq_1 @Ah.eq_1 @dg.eq_1;refine Co [6,7,8] [6] (hLn) ?_
 (simp only [AB,AH,Ah,AJ,Cl.v,AA,Be,AU,Av,B7,seval])
 refine Aj ?_
 refine es 2000 ?_
 (simp only [AB,AH,Ah,AJ,Cl.v,AA,Be,AU,Av,LZ,seval])
 have zz:=Va @AB.eq_1 @AH.eq_1 @Ah.eq_1 @AJ.eq_1 @Cl.v.eq_1 @dg.eq_1;refine Co [6,7,8] [6,7] (hC0) ?_
 (simp only [Cj,hp,AB,AH,Ah,AJ,Cl.v,AA,Be,AU,Av,seval])
 refine Bh (hT) ?_
 (simp only [BU,AB,AH,Ah,AJ,Cl.v,AA,Be,AU,Av,seval])
 have zz:=GE @Ak @A8 @AD @Cn @dg.eq_1;refine Co [0,1,2,3,4,5] [0,1,2,3,4,5] (hA) ?_
 (simp only [Cj,A5,Bb,Bi,AC,z1,hrt,decide_true,decide_false,Nat.testBit,List.map_nil,List.map_cons,CH,AB,AH,Ah,AJ,Cl.v,AA,Be,AU,Av,seval])
 repeat refine sd ?_
 refine Aj ?_
 refine es 2000 ?_
 (simp only [z1,AB,AH,Ah,AJ,Cl.v,AA,Be,AU,Av,LZ,seval])
 refine Aq.mk hx [0,1,2,3,4,5,6,7,8,9,490,1850,2010,1210] [] (Ag (.ptr 10 []) .nili) (t'.Hp d cm 13 ++ G.T ++ DQ false G) 14 Am (by (simp only [Db,seval])) (by simp only [LV,BU,seval,LY]) ?_ ⟨rfl,by simp only [Tr.H,Tr.Hp,Gs.T,DQ,hD,hn,AB,AH,Ah,AJ,Cl.v,AA,Be,AU,Av,Aw,E4,CH],rfl⟩
 simp only [Tr.H,Tr.Hp,Gs.T,DQ,hD,hn,AB,AH,Ah,AJ,Cl.v,AA,Be,AU,Av,Aw,Ak,A8,AD,CB,dg,E4,CH,seval]
 refine ⟨fun j hj=>?_,fun j hj=>?_⟩
 ·obtain rfl:j=0:=Aa
  simp only [if_true,hp,LY,seval]
 ·rw [if_pos Aa]
end Mv
