/- A part. -/
import Derived.Test.YtlfkjfonpacelaaGreatDoorJS
set_option linter.all false
set_option maxRecDepth 20000
set_option maxHeartbeats 16000000
namespace Mv
open Go
def Cl.pz (c:Cl):Cl:=⟨c.par,c.pos,c.val,0,0,0#64,0#64,c.st,c.rs,false,0⟩
theorem Wl {M:Seat} (ok:OkGr M) (k164:Ar M 164 Afg=true) (d:Int) (l g:BitVec 64) (s:Dg) (n:Nat) (c:Nat→Cl) (a:Nat) (ha:a < n) :
 Ae M 164 [.ptr 0 [],.int .i64 a] [(0,As d l g s (.ptr 2 []) (.sl 1 [] 0 n 42)),(1,Au n c)] 3 (Q3 ((c a).v) [(0,As d l g s (.ptr 2 []) (.sl 1 [] 0 n 42)),(1,Au n c)] 3):=by
 have hCl:=CS ok d l g s n c a ha;refine Ab k164 rfl fun x hx=>?_;refine eX ?_;simp only [Afg,Apn,As,Av,Ad,Au,Cl.v,LZ,seval];have zz:=Gb @c9 @c8 @b9 @f7 @b8 @b7;refine By [0,1,2] [0,1] (hCl) ?_;simp only [Cz,As,Av,Ad,Au,Cl.v,seval];have zz:=@b7;exact AI hx [0,1,2] ⟨rfl,rfl,rfl⟩
def pgH (G:Gs) (now:BitVec 64) (nv:Nat):Hp:=[(0,Do (.ptr 5 []) (.ptr 1 []) (.ptr 3 []) (.sl 6 [] 0 nv 32) now),(1,As G.D G.l G.g G.s (.ptr 3 []) (.sl 2 [] 0 G.n 42)),(2,Au G.n G.c)]
theorem Rh {M:Seat} (ok:OkGr M) (k164:Ar M 164 Afg=true) (k162:Ar M 162 Aoj=true) (G:Gs) (hG:G.ok) (now:BitVec 64) (nv:Nat) :
 Ae M 162 [.ptr 0 []] (pgH G now nv) 7 (Q3 (.ptr 7 []) (pgH G now nv ++ [(7,CB G.D 0#64 0#64 Dg.zero (.sl 8 [] 0 G.n 43) (.ptr 9 [])),(8,C3 G.n fun j=>(G.c j).pz)]) 10):=by
 have hn0:=hG.n0;have hn64:=hG.w.hn;have hRu:=EW ok G.D G.l G.g G.s G.n;have hLn:=E4 ok G.D G.l G.g G.s G.n;refine Ab k162 rfl fun x hx=>?_;refine eX ?_;simp only [Aoj,Asn,pgH,Do,As,Av,Ad,Au,Cl.v,LZ,seval];have zz:=D0 @c9 @c8 @b9 @b7;refine By [1,2,3] [1] (hRu) ?_;simp only [As,Av,Ad,Au,Cl.v,Bn,seval];have zz:=D0 @c9 @c8 @b9 @b7;refine By [1,2,3] [1] (hLn) ?_;simp only [As,Av,Ad,Au,Cl.v,Bn,seval];refine Am (σ:=Nat) (fun i=>i≤G.n) (fun i=>fr 63 [(0,.ptr 0 []),(3,.ptr 7 []),(23,.int .i64 G.n),(24,.int .i64 i)]) (fun i=>pgH G now nv ++ [(7,CB G.D 0#64 0#64 Dg.zero (if i=0 then .nils else .sl 8 [] 0 i 43) (.ptr 9 []))] ++ (if i=0 then [] else [(8,C3 i fun j=>(G.c j).pz)])) (fun _=>10) (fun i=>G.n - i) 0 Aa ?_ ?_
 ·refine Ak.fr [0,1,2,3,4,5,6,167,160,135] [] hx AG Al ?_ ?_
  ·simp only [Int.natCast_zero,LY,seval]
  ·simp only [pgH,Do,As,Av,Ad,Au,Cl.v,CB,if_true,B3,dg,Dg.at_zero,LY,seval]
 ·intro i hi;by_cases hin:i=G.n
  ·subst hin;have d0:((G.n:Int) < (G.n:Int))=False:=eq_false Aa;have hz:(G.n=0)=False:=eq_false Aa;refine eX ?_;simp only [d0,hz,pgH,Do,As,Av,Ad,Au,Cl.v,CB,C3,Cl.d,Cl.pz,if_false,B3,LZ,seval];have zz:=Em @CB.eq_1 @C3.eq_1 @Cl.d.eq_1 @Cl.pz.eq_1 @b7;exact AI hx [0,1,2,3,4,5,6,7,8,9] ⟨rfl,rfl,rfl⟩
  have d0:((i:Int) < (G.n:Int))=True:=eq_true Aa;have wI:IntKind.i64.wrap ((i:Int) + 1)=((i + 1:Nat):Int):=AW;have hs1:(i + 1=0)=False:=eq_false Aa;have hm:=Wl ok k164 G.D G.l G.g G.s G.n G.c i Aa;obtain ⟨k,q,hk,hq,hpos⟩:=hG.w.pls i Aa;have hD:=hG.w.hD;have eD:Gg (G.c i).pos=k:=by rw [hpos,BR Aa hq]
  have hP:=Bv ok.t.s.v.g.p (show k≤24 by omega) hq;rw [← hpos] at hP;refine eX ?_;by_cases h0:i=0
  ·have h0':=eq_true h0;simp only [d0,h0',pgH,Do,As,Av,Ad,Au,Cl.v,CB,C3,Cl.d,Cl.pz,if_true,List.append_nil,B3,LZ,seval];have zz:=Gb @c9 @c8 @b9 @f7 @b8 @b7;refine By [1,2,3] [1,2] (hm) ?_;simp only [As,Av,Ad,Au,Cl.v,Bn,seval];refine Aj (hP) ?_;simp only [B0,wI,Nat.testBit,LZ,seval];refine ⟨i + 1,by omega,by omega,?_⟩;refine Ak.fr [0,1,2,3,4,5,6,7,970,9] [] hx AG Al ?_ ?_
   ·simp only [LY,seval]
   ·simp only [hs1,if_false,As,Av,Ad,Au,Cl.v,dg,Dg.at_zero,LY,seval];refine ⟨h0,h0,fun j hj=>?_⟩;obtain rfl:j=i:=Aa;simp only [h0',if_true,eD,dg,LY,seval]
  ·have h0':=eq_false h0;simp only [d0,h0',pgH,Do,As,Av,Ad,Au,Cl.v,CB,C3,Cl.d,Cl.pz,if_false,B3,LZ,seval];have zz:=Gb @c9 @c8 @b9 @f7 @b8 @b7;refine By [1,2,3] [1,2] (hm) ?_;simp only [As,Av,Ad,Au,Cl.v,Bn,seval];refine Aj (hP) ?_;simp only [B0,wI,Nat.testBit,LZ,seval];refine ⟨by omega,i + 1,by omega,by omega,?_⟩;refine Ak.fr [0,1,2,3,4,5,6,7,970,9] [] hx AG Al ?_ ?_
   ·simp only [LY,seval]
   ·simp only [hs1,if_false,As,Av,Ad,Au,Cl.v,dg,Dg.at_zero,LY,seval];intro j hj;by_cases hji:j < i
    ·simp only [hji,if_true,dg,LY,seval]
    ·obtain rfl:j=i:=Aa;simp only [Nat.sub_self,hji,B4,eD,dg,LY,seval]
theorem Aju (c:Bool) (g:Nat→BitVec 64) (pc:BitVec 64) (b:Bool) (xt:BitVec 64):AR c (ES.st (ES.cons 0 16 true (ES.ar 16 1 false ES.int) (ES.cons 16 1 false ES.int (ES.cons 17 1 false ES.bool (ES.cons 18 1 false ES.int ES.nil))))) (.st 19 (.fcons 0 (.ar 1 16 fun j=>W (g j)) (.fcons 16 (W pc) (.fcons 17 (.bool b) (.fcons 18 (W xt) .fnil))))) (.st 19 (.fcons 0 (.ar 1 16 fun j=>W (g j)) (.fcons 16 (W pc) (.fcons 17 (.bool b) (.fcons 18 (W xt) .fnil)))))=True:=by
 simp [AR,W,V.fget,V.fhas];refine ⟨⟨⟨rfl,rfl,rfl⟩,fun _ _=>rfl⟩,⟨rfl,rfl,rfl⟩,⟨rfl,rfl,rfl⟩,rfl,rfl,rfl⟩
theorem Akx (g:Nat→BitVec 64) (pc:BitVec 64) (b:Bool) (xt:BitVec 64):AX (ES.st (ES.cons 0 16 true (ES.ar 16 1 false ES.int) (ES.cons 16 1 false ES.int (ES.cons 17 1 false ES.bool (ES.cons 18 1 false ES.int ES.nil))))) (.st 19 (.fcons 0 (.ar 1 16 fun j=>W (g j)) (.fcons 16 (W pc) (.fcons 17 (.bool b) (.fcons 18 (W xt) .fnil))))) (.st 19 (.fcons 0 (.ar 1 16 fun j=>W (g j)) (.fcons 16 (W pc) (.fcons 17 (.bool b) (.fcons 18 (W xt) .fnil)))))=true:=by
 simp [AX,W,V.fget,V.fhas]
def Tr.wi (t:Tr) (w:WS):Tr:=⟨t.n,t.ps,w,t.l,t.knl⟩
theorem Sr {M:Seat} (ok:OkT M) (s:SM) (hs:s.n=0) (hp:Cx s.w.pres) (n:Nat) (hn:n < 549755813888) :
 ∃ (k:Nat) (s':SM),k≤n∧(s'.m.hl=true ∨ k=n)∧(s'.m,s'.w.pres)=xs s.m s.w.pres k∧Cx s'.w.pres∧s'.n≤k ∧
  Ae M 71 [.ptr 5 [],.ptr 0 [],.int .i64 n] (Nh s) 6 (Q3 (Ai (.int .i64 k) .nili) (QU s') (QZ s')):=by
 obtain ⟨k,h1,h2,h3⟩:=Vo (fun j=>(QA ok s j).m.hl=true) n;obtain ⟨q1,q2,q3⟩:=K4 ok s hs k Aa;exact ⟨k,QA ok s k,h1,h3,q2,q3 hp,q1,NM ok.ok.k71 (QA ok s) hs n k h1 hn (fun i hi=>Ail ok s hs i Aa) h2 h3⟩
theorem ZP (pres:List (Dg × Pr)) (m:Mc) (c:Int) (he:(CJ pres m).1=some c):Dj pres m=⟨m.f,m.g,m.pc,true,EQ⟩:=by
 obtain ⟨f,g,pc,hl,xt⟩:=m;unfold CJ at he;cases hl with
 | true=>simp at he
 | false =>
   dsimp only [Mc.h] at he;simp only [To] at he;by_cases hpc:8192#64≤pc
   ·simp [hpc] at he
   ·simp only [hpc,if_false] at he;rw [Dj,if_neg B9,if_neg hpc,Acb];dsimp only [Mc.h];rw [he]
theorem Ads (pres:List (Dg × Pr)) (m:Mc) (h:m.hl=true):(CJ pres m).1=none:=by unfold CJ;rw [if_pos h]
theorem Acz {m0:Mc} {p0:List (Dg × Pr)} {n k:Nat} (hk:k≤n) (hh:(xs m0 p0 k).1.hl=true ∨ k=n) (hb:¬ ((xs m0 p0 k).1.hl=true∧(xs m0 p0 k).1.xt=EQ)) (i:Nat) (hi:i < n):(CJ (xs m0 p0 i).2 (xs m0 p0 i).1).1=none:=by
 by_cases hik:i < k
 ·cases he:(CJ (xs m0 p0 i).2 (xs m0 p0 i).1).1 with
  | none=>rfl
  | some c =>
    exfalso;have h1:=ZP _ _ c he;have h2:(xs m0 p0 (i + 1)).1.hl=true∧(xs m0 p0 (i + 1)).1.xt=EQ:=by
     show (Dj (xs m0 p0 i).2 (xs m0 p0 i).1).hl=true∧(Dj (xs m0 p0 i).2 (xs m0 p0 i).1).xt=EQ;rw [h1];exact ⟨rfl,rfl⟩
    have h3:=Qa (m:=m0) (p:=p0) (i + 1) h2.1 (k - (i + 1));rw [show i + 1 + (k - (i + 1))=k by omega] at h3;rw [h3] at hb;exact hb h2
 ·rcases hh with hh | hh
  ·have h3:=Qa (m:=m0) (p:=p0) k hh (i - k);rw [show k + (i - k)=i by omega] at h3;rw [h3];exact Ads _ _ hh
  ·omega
theorem RA {M:Seat} (ok:OkT M) (k159:Ar M 159 Aj7=true) (v:V) (hvv:∀ H m z,Bz H m z v v) (m0:Mc) (w0:WS) (d:Nat) (hd:1≤d∧d≤4)
 (hW:Ae M 151 [v] [] 0 (Q3 (.ptr 0 []) [(0,mach m0.f m0.g m0.pc m0.hl m0.xt)] 1)) (hN:Ae M 68 [] [] 0 (Q3 (.ptr 0 []) (AS w0 .nils []) 5)) (hPk:Cx w0.pres) :
 ∃ b:Bool,Ae M 159 [v,.int .i64 d] [] 0 (Q3 (.bool b) [] 0)∧(b=true→∀ i,i < 2 ^ d→(CJ (xs m0 w0.pres i).2 (xs m0 w0.pres i).1).1=none):=by
 have h16:2 ^ d≤2 ^ 4:=Nat.pow_le_pow_right Al hd.2;obtain ⟨k,s',k1,k2,k3,k4,k5,hR⟩:=Sr ok ⟨w0,[],0,fun _=>Dg.zero,m0⟩ rfl hPk (2 ^ d) Aa;have e3:s'.m=(xs m0 w0.pres k).1:=by rw [← k3]
 have hpl:=fun hb=>Acz (m0:=m0) (p0:=w0.pres) k1 (by rw [← e3];exact k2) hb;rw [← e3] at hpl
 refine ⟨!(s'.m.hl && decide (s'.m.xt=EQ)),?_,fun hb=>hpl (by
  rintro ⟨h1,h2⟩;rw [h1,decide_eq_true h2] at hb
  cases hb)⟩
 have hv:∀ m:Mc,m.v=mach m.f m.g m.pc m.hl m.xt:=fun _=>rfl;have eS:IntKind.i64.wrap (1 * (2:Int) ^ min d 64)=((2 ^ d:Nat):Int):=by
  rw [show min d 64=d by omega,show (1 * (2:Int) ^ d)=((2 ^ d:Nat):Int) by simp];exact Bu Aa
 have hD:(BitVec.ofInt 64 (d:Int)).toNat=d:=Akc;simp only [AS,MW] at hN;refine Ab k159 rfl fun x hx=>?_;refine eX ?_;simp only [Aj7,Aqw,LZ,seval];refine DY (hW) ?_ (hus:=⟨hvv _ _ _,trivial⟩) (hn:=by simp only [mach,LX,implies_true]);simp only [Bn,Be,seval];have zz:=Cv @Cg @Bf @Fu;refine Jp (hN) ?_;simp only [Bn,A3,hD,eS,seval];by_cases hz:s'.n=0
 ·rw [show QU s'=Nh s' from if_pos hz,show QZ s'=6 from if_pos hz] at hR;simp only [Nh,Sh,AS,MW,hv,Ze,Acj] at hR;have zz:=AY @c7 G9;refine GY [48,49,50,51,52,32] (hR) ?_;cases hhl:s'.m.hl
  ·simp only [Cz,mach,A3,hhl,seval];exact Ap.mkZ hx [] ⟨rfl,rfl,rfl⟩
  ·by_cases hxt:s'.m.xt=EQ
   ·simp only [Cz,mach,A3,hhl,hxt,seval];exact Ap.mkZ hx [] ⟨rfl,rfl,rfl⟩
   ·simp only [Cz,mach,A3,hhl,hxt,seval];exact Ap.mkZ hx [] ⟨rfl,rfl,rfl⟩
 ·rw [show QU s'=Sh 6 s' from if_neg hz,show QZ s'=7 from if_neg hz] at hR;simp only [Nh,Sh,AS,MW,hv,Ze,Acj] at hR;have zz:=AY @c7 G9;refine GY [48,49,50,51,52,32] (hR) ?_;cases hhl:s'.m.hl
  ·simp only [Cz,mach,A3,hhl,seval];exact Ap.mkZ hx [] ⟨rfl,rfl,rfl⟩
  ·by_cases hxt:s'.m.xt=EQ
   ·simp only [Cz,mach,A3,hhl,hxt,seval];exact Ap.mkZ hx [] ⟨rfl,rfl,rfl⟩
   ·simp only [Cz,mach,A3,hhl,hxt,seval];exact Ap.mkZ hx [] ⟨rfl,rfl,rfl⟩
theorem TV {M:Seat} (ok:OkBg M) (v:V) (hvv:∀ H m z,Bz H m z v v) (m0:Mc) (w0:WS) (bv:Nat→BitVec 64) (sv:BitVec 64) (d:Nat) (hd:1≤d∧d≤4) (root:Int)
 (hW:Ae M 151 [v] [] 0 (Q3 (.ptr 0 []) [(0,mach m0.f m0.g m0.pc m0.hl m0.xt)] 1)) (hN:Ae M 68 [] [] 0 (Q3 (.ptr 0 []) (AS w0 .nils []) 5)) (hPk:Cx w0.pres) (hbv:¬ bv 1 < 1#64)
 (hRi:Ae M 156 [W 1000#64] [] 0 (Q3 (.ptr 0 []) [(0,A6 bv sv 0#64 .nils 0#64)] 1)) :
 Ae M 121 [v,.int .i64 d,.int .i64 root] [] 0 (fun r H' k'=>r = .ptr 0 []∧k'=12∧∃ (t:Tr) (st fi:Dg),Full m0 w0.pres d t∧H'=DF m0 w0.pres d 0#64 t (gB d st fi bv sv)):=by
 have hT:=K7 ok.i.v.a.r.n m0.f m0.g m0.pc m0.hl m0.xt w0.pres d Aa;simp only [AS,MW] at hN;simp only [A6] at hRi;simp only [Dn,Aw,BM] at hT;have hD:(BitVec.ofInt 64 (d:Int)).toNat=d:=Akc;refine Ab ok.k121 rfl fun x hx=>?_;refine eX ?_;simp only [Aqh,Ari,LZ,seval];refine DY (hW) ?_ (hus:=⟨hvv _ _ _,trivial⟩) (hn:=by simp only [mach,LX,implies_true]);simp only [Bn,Be,seval];have zz:=Cv @Cg @Bf @Fu;refine Jp (hN) ?_;simp only [Bn,A3,seval];refine DY (hRi) ?_;simp only [Bn,seval];have zz:=Cv @c7 @Cg @Bf;refine By [32,48,49,50,52] [32,48,49] (hT) ?_;simp only [Cz,Be,AE,A3,VZ,UF,hD,seval];refine Am (σ:=Nat × Tr) (fun s=>s.1≤2 ^ d∧s.2.n≤s.1 + 1∧Pts m0 w0.pres s.2.n s.2.ps∧∀ j:BitVec 64,1≤j.toNat→j.toNat≤s.1→P1 s.2 j) (fun s=>fr 123 [(1,.int .i64 d),(2,.int .i64 root),(9,.ptr 7 []),(10,.ptr 1 []),(12,.ptr 0 []),(53,W (1#64 <<< d)),(54,W (BitVec.ofNat 64 s.1))])
  (fun s=>X3 m0 w0.pres d bv sv s.1 s.2) (fun _=>9) (fun s=>2 ^ d - s.1) (0,⟨1,fun _=>⟨0#64,m0,w0.pres,[],0,fun _=>Dg.zero⟩,w0,[],[]⟩) ⟨Nat.zero_le _,Nat.le_refl _,⟨Nat.zero_lt_one,rfl,fun j _=>by show 0 < 536870912;decide,fun j _=>rfl,fun j _=>hPk⟩,fun j h1 h2=>absurd h2 (by show ¬ j.toNat≤0;omega)⟩ ?_ ?_
 ·refine Ak.fr [576,336,339,337,338,50,51,96] [340,341,342,343] hx AG Al ?_ ?_
  ·simp only [LY,seval]
  ·simp only [X3,Do,Aw,Aq,A6,if_true,List.append_nil,Ah,Zt,BI,seval];intro j _;exact O2 (P:=⟨0#64,m0,w0.pres,[],0,fun _=>Dg.zero⟩) rfl rfl rfl rfl rfl rfl rfl rfl rfl rfl rfl (by simp only [Ay])
 ·rintro ⟨i,t⟩ ⟨hi,hn,hp,hcv⟩;dsimp only at hi hn hp hcv ⊢;have h24:2 ^ d≤2 ^ 4:=Nat.pow_le_pow_right Al hd.2;have eS:(1#64 <<< d).toNat=2 ^ d:=by
   rw [BitVec.toNat_shiftLeft,Nat.shiftLeft_eq,Nat.mod_eq_of_lt]
   ·show 1 * 2 ^ d=_;omega
   ·show 1 * 2 ^ d < 18446744073709551616;omega
  have ei:(BitVec.ofNat 64 i).toNat=i:=Oo;refine eX ?_;by_cases hin:i=2 ^ d
  ·have d0:(BitVec.ofNat 64 i < 1#64 <<< d)=False:=eq_false (by rw [BitVec.lt_def,ei,eS];omega);have hi0:(i=0)=False:=eq_false (by have:=Nat.two_pow_pos d;omega);have e0:X3 m0 w0.pres d bv sv i t=[(0,.st 5 (.fcons 0 (.ptr 1 []) (.fcons 1 .nilp (.fcons 2 (.ptr 7 []) (.fcons 3 (.sl 8 [] 0 i 32) (.fcons 4 (W 0#64) .fnil)))))),(1,.st 4 (.fcons 0 (.sl 3 [] 0 t.n 3) (.fcons 1 (.int .i64 d) (.fcons 2 (.map 4) (.fcons 3 (.map 2) .fnil))))),(2,Et t.l),(3,.ar 3 t.n fun j=>C5 5 (t.ps j)),(4,IS (Ct m0 w0.pres) t.knl),(5,.st 130 (.fcons 0 (.map 6) (.fcons 1 (AL t.w.a) (.fcons 65 (AL t.w.b) (.fcons 129 (.bool t.w.met) .fnil))))),(6,BG AL Pr.zero t.w.ever),(7,.st 12 (.fcons 0 (.ar 1 8 fun j=>W (bv j)) (.fcons 8 (W sv) (.fcons 9 (W 0#64) (.fcons 10 .nils (.fcons 11 (W 0#64) .fnil)))))),(8,.ar 32 i fun j=>dg (Ct m0 w0.pres (BitVec.ofNat 64 (j + 1))))]:=by
    simp only [X3,hi0,if_false,Do,Aw,Aq,A6,B3]
   rw [e0];have hpos:=Nat.two_pow_pos d;have hS:=QT ok.s t.n hp.pos t.ps d t.l;generalize oK (t.ps 0).m.f t.l 256=l2 at hS;generalize (t.ps 0).m.com=st at hS;have hRu:=JZ ok.i d 5000#64 st;have wm:IntKind.i64.wrap ((i:Int) - 1)=((i - 1:Nat):Int):=AW;have hG:=fun fi=>Mh ok.g d 5000#64 0#64 st fi 1 0#64 bv sv 0#64 0#64 Aa ⟨by decide,by decide,by decide⟩ Al Al hbv;simp only [Aw] at hS;simp only [Av,Ad,A6,As,AQ,Au,AM,Cl.v,clF] at hRu hG;by_cases hr:0≤root
   ·obtain ⟨rn,rfl⟩:∃ rn:Nat,root=rn:=⟨root.toNat,by omega⟩
    have wr:((rn:Int).tmod 20)=((rn % 20:Nat):Int):=rfl;obtain ⟨fi,hV⟩:=An3 ok.k253 i (fun j=>Ct m0 w0.pres (BitVec.ofNat 64 (j + 1))) (rn % 20) Aa;have hG:=hG fi;simp only [d0,LZ,seval];have zz:=AY @Ah @Cp;refine By [1,2,3,4,5,6] [1,2,3] (hS) ?_;simp only [Cz,AE,C4,Bt,wm,seval];repeat refine sd ?_
    simp only [hr,wr,LZ,seval];repeat refine sd ?_
    refine RZ [0,8,1,7] [0,8] (hV) (by constructor <;> (try simp only [LY,seval]) <;> exact q1) ?_;simp only [Bn,Bt,seval];refine AO (hRu) ?_;simp only [LZ,seval];refine onK [7] [7] (hG) (by constructor <;> (try simp only [LY,seval]) <;> exact q1) ?_;simp only [Cz,Bt,seval];refine Ap.mk hx [0,1,2,3,4,5,6,970,971,7,969,8] [] (.ptr 0 []) (DF m0 w0.pres d 0#64 ⟨t.n,t.ps,t.w,l2,t.knl⟩ (gB d st fi bv sv)) 12 Al (by (simp only [Di,seval])) (by simp only [KR,seval]) ?_ ⟨rfl,rfl,⟨t.n,t.ps,t.w,l2,t.knl⟩,st,fi,⟨hp,by show t.n≤17;omega,fun j q1 q2=>⟨(hcv j q1 Aa).1,(hcv j q1 Aa).2⟩⟩,rfl⟩;simp only [DF,gB,Gs.new,Do,Aw,Aq,As,Av,Ad,Au,A6,AQ,AM,Cl.v,clF,hin,Ah,Ao,AH,BI,dg,seval]
   ·generalize hfi:Ct m0 w0.pres (BitVec.ofNat 64 (i - 1 + 1))=fi;have hG:=hG fi;simp only [d0,LZ,seval];have zz:=AY @Ah @Cp;refine By [1,2,3,4,5,6] [1,2,3] (hS) ?_;simp only [Cz,AE,C4,Bt,wm,seval];repeat refine sd ?_
    simp only [hr,hfi,LZ,seval];refine AO (hRu) ?_;simp only [LZ,seval];refine onK [7] [7] (hG) (by constructor <;> (try simp only [LY,seval]) <;> exact q1) ?_;simp only [Cz,Bt,seval];refine Ap.mk hx [0,1,2,3,4,5,6,890,891,7,889,8] [] (.ptr 0 []) (DF m0 w0.pres d 0#64 ⟨t.n,t.ps,t.w,l2,t.knl⟩ (gB d st fi bv sv)) 12 Al (by (simp only [Di,seval])) (by simp only [KR,seval]) ?_ ⟨rfl,rfl,⟨t.n,t.ps,t.w,l2,t.knl⟩,st,fi,⟨hp,by show t.n≤17;omega,fun j q1 q2=>⟨(hcv j q1 Aa).1,(hcv j q1 Aa).2⟩⟩,rfl⟩;simp only [DF,gB,Gs.new,Do,Aw,Aq,As,Av,Ad,Au,A6,AQ,AM,Cl.v,clF,hin,Ah,Ao,AH,BI,dg,seval]
  have d0:(BitVec.ofNat 64 i < 1#64 <<< d)=True:=eq_true (by rw [BitVec.lt_def,ei,eS];omega);have e1:BitVec.ofNat 64 i + 1#64=BitVec.ofNat 64 (i + 1):=by
   apply BitVec.eq_of_toNat_eq;rw [BitVec.toNat_add,ei,BitVec.toNat_ofNat];show (i + 1) % 18446744073709551616=_;rfl
  obtain ⟨t',h1,h2,g1,g2,hA⟩:=Ajb ok.s.a t Aa hp d Aa (BitVec.ofNat 64 i) (by rw [ei];omega);rw [e1] at g1;have g3:∀ j:BitVec 64,1≤j.toNat→j.toNat≤i + 1→P1 t' j:=by
   intro j q1 q2;by_cases hj:j.toNat≤i
   ·exact g2 j (hcv j q1 hj)
   ·have:j=BitVec.ofNat 64 (i + 1):=by apply BitVec.eq_of_toNat_eq;rw [BitVec.toNat_ofNat];omega
    rw [this];exact g1
  rw [e1] at hA;simp only [Tr.H,Tr.H6,Aw,Aq] at hA;have hs1:(i + 1=0)=False:=eq_false Aa;by_cases hi0:i=0
  ·have e0:X3 m0 w0.pres d bv sv i t=[(0,.st 5 (.fcons 0 (.ptr 1 []) (.fcons 1 .nilp (.fcons 2 (.ptr 7 []) (.fcons 3 (.nils) (.fcons 4 (W 0#64) .fnil)))))),(1,.st 4 (.fcons 0 (.sl 3 [] 0 t.n 3) (.fcons 1 (.int .i64 d) (.fcons 2 (.map 4) (.fcons 3 (.map 2) .fnil))))),(2,Et t.l),(3,.ar 3 t.n fun j=>C5 5 (t.ps j)),(4,IS (Ct m0 w0.pres) t.knl),(5,.st 130 (.fcons 0 (.map 6) (.fcons 1 (AL t.w.a) (.fcons 65 (AL t.w.b) (.fcons 129 (.bool t.w.met) .fnil))))),(6,BG AL Pr.zero t.w.ever),(7,.st 12 (.fcons 0 (.ar 1 8 fun j=>W (bv j)) (.fcons 8 (W sv) (.fcons 9 (W 0#64) (.fcons 10 .nils (.fcons 11 (W 0#64) .fnil))))))]:=by
    simp only [X3,hi0,if_true,Do,Aw,Aq,A6,List.append_nil]
   rw [e0];rcases hA with hA | hA
   ·simp only [d0,LZ,seval];have zz:=D0 @Ah @Ao @Cp @Cg;refine By [1,2,3,4,5,6] [1,2,3,4,5,6] (hA) ?_;simp only [Cz,AE,B7,C4,Bt,e1,seval];refine ⟨(i + 1,t'),by show i + 1≤2 ^ d;omega,by show t'.n≤i + 1 + 1;omega,h2,g3,by show 2 ^ d - (i + 1) < 2 ^ d - i;omega,?_⟩;refine Ak.fr [0,1,2,3,4,5,6,7,505] [] hx AG Al ?_ ?_
    ·simp only [LY,seval]
    ·simp only [X3,hs1,if_false,Do,Aw,Aq,A6,B3,Ah,Ao,AH,BI,seval];refine ⟨hi0,hi0,fun j hj=>?_⟩;obtain rfl:j=0:=Aa;rw [if_pos rfl,hi0];exact (AJ _ _ _ _ _).mpr rfl
   ·simp only [d0,LZ,seval];have zz:=D0 @Ah @Ao @Cp @Cg;refine By [1,2,3,4,5,6] [1,2,3,4,5,6] (hA) ?_;simp only [Cz,AE,B7,C4,Bt,e1,seval];refine ⟨(i + 1,t'),by show i + 1≤2 ^ d;omega,by show t'.n≤i + 1 + 1;omega,h2,g3,by show 2 ^ d - (i + 1) < 2 ^ d - i;omega,?_⟩;refine Ak.fr [0,1,2,89,4,5,6,7,505] [] hx AG Al ?_ ?_
    ·simp only [LY,seval]
    ·simp only [X3,hs1,if_false,Do,Aw,Aq,A6,B3,Ah,Ao,AH,BI,seval];refine ⟨hi0,hi0,fun j hj=>?_⟩;obtain rfl:j=0:=Aa;rw [if_pos rfl,hi0];exact (AJ _ _ _ _ _).mpr rfl
  ·have hi0':(i=0)=False:=eq_false hi0;have e0:X3 m0 w0.pres d bv sv i t=[(0,.st 5 (.fcons 0 (.ptr 1 []) (.fcons 1 .nilp (.fcons 2 (.ptr 7 []) (.fcons 3 (.sl 8 [] 0 i 32) (.fcons 4 (W 0#64) .fnil)))))),(1,.st 4 (.fcons 0 (.sl 3 [] 0 t.n 3) (.fcons 1 (.int .i64 d) (.fcons 2 (.map 4) (.fcons 3 (.map 2) .fnil))))),(2,Et t.l),(3,.ar 3 t.n fun j=>C5 5 (t.ps j)),(4,IS (Ct m0 w0.pres) t.knl),(5,.st 130 (.fcons 0 (.map 6) (.fcons 1 (AL t.w.a) (.fcons 65 (AL t.w.b) (.fcons 129 (.bool t.w.met) .fnil))))),(6,BG AL Pr.zero t.w.ever),(7,.st 12 (.fcons 0 (.ar 1 8 fun j=>W (bv j)) (.fcons 8 (W sv) (.fcons 9 (W 0#64) (.fcons 10 .nils (.fcons 11 (W 0#64) .fnil)))))),(8,.ar 32 i fun j=>dg (Ct m0 w0.pres (BitVec.ofNat 64 (j + 1))))]:=by
    simp only [X3,hi0',if_false,Do,Aw,Aq,A6,B3]
   rw [e0];rcases hA with hA | hA
   ·simp only [d0,LZ,seval];have zz:=D0 @Ah @Ao @Cp @Cg;refine By [1,2,3,4,5,6] [1,2,3,4,5,6] (hA) ?_;simp only [Cz,AE,B7,C4,Bt,e1,seval];refine ⟨by omega,?_⟩;refine ⟨(i + 1,t'),by show i + 1≤2 ^ d;omega,by show t'.n≤i + 1 + 1;omega,h2,g3,by show 2 ^ d - (i + 1) < 2 ^ d - i;omega,?_⟩;refine Ak.fr [0,1,2,3,4,5,6,7,505] [] hx AG Al ?_ ?_
    ·simp only [LY,seval]
    ·simp only [X3,hs1,if_false,Do,Aw,Aq,A6,B3,Ah,Ao,AH,BI,seval];intro j hj;by_cases hj1:j < i
     ·rw [if_pos hj1];exact (AJ _ _ _ _ _).mpr rfl
     ·obtain rfl:j=i:=Aa;rw [if_neg hj1,if_pos Aa];exact (AJ _ _ _ _ _).mpr rfl
   ·simp only [d0,LZ,seval];have zz:=D0 @Ah @Ao @Cp @Cg;refine By [1,2,3,4,5,6] [1,2,3,4,5,6] (hA) ?_;simp only [Cz,AE,B7,C4,Bt,e1,seval];refine ⟨by omega,?_⟩;refine ⟨(i + 1,t'),by show i + 1≤2 ^ d;omega,by show t'.n≤i + 1 + 1;omega,h2,g3,by show 2 ^ d - (i + 1) < 2 ^ d - i;omega,?_⟩;refine Ak.fr [0,1,2,89,4,5,6,7,505] [] hx AG Al ?_ ?_
    ·simp only [LY,seval]
    ·simp only [X3,hs1,if_false,Do,Aw,Aq,A6,B3,Ah,Ao,AH,BI,seval];intro j hj;by_cases hj1:j < i
     ·rw [if_pos hj1];exact (AJ _ _ _ _ _).mpr rfl
     ·obtain rfl:j=i:=Aa;rw [if_neg hj1,if_pos Aa];exact (AJ _ _ _ _ _).mpr rfl
structure Oh where
 cl:Int
 vl:Int
 pl:Int
 df:Bool
 st:Bool
 wt:BitVec 64
instance:Inhabited Oh:=⟨⟨0,0,0,false,false,0⟩⟩
def Oh.v (o:Oh):V:=.st 6 (.fcons 0 (.int .i64 o.cl) (.fcons 1 (.int .i64 o.vl) (.fcons 2 (.int .i64 o.pl) (.fcons 3 (.bool o.df) (.fcons 4 (.bool o.st) (.fcons 5 (W o.wt) .fnil))))))
def mhV (n:Nat) (now:BitVec 64):V:=.st 5 (.fcons 0 (.ptr 2 []) (.fcons 1 (.ptr 3 []) (.fcons 2 (.ptr 4 []) (.fcons 3 (.sl 1 [] 0 n 32) (.fcons 4 (W now) .fnil)))))
theorem Ah8 {M:Seat} (k253:Ar M 253 R8=true) (n:Nat) (f:Nat→Dg) (now:BitVec 64) (i:Int):∃ D:Dg,
 Ae M 253 [.ptr 0 [],.int .i64 i] [(0,mhV n now),(1,.ar 32 n fun j=>dg (f j))] 5 (Q3 (dg D) [(0,mhV n now),(1,.ar 32 n fun j=>dg (f j))] 5):=by
 have hnot:¬ (0≤i∧i < (n:Int))→∃ D:Dg,Ae M 253 [.ptr 0 [],.int .i64 i] [(0,mhV n now),(1,.ar 32 n fun j=>dg (f j))] 5 (Q3 (dg D) [(0,mhV n now),(1,.ar 32 n fun j=>dg (f j))] 5):=by
  intro hn;have hd:(0≤i)=False ∨ (0≤i)=True∧(i < (n:Int))=False:=by
   by_cases h0:0≤i
   ·exact .inr ⟨eq_true h0,eq_false (fun h=>hn ⟨h0,h⟩)⟩
   ·exact .inl (eq_false h0)
  refine ⟨Dg.mk' fun j=>if j=0 then BitVec.ofInt 8 i else if j=1 then 3#8 else 0#8,?_⟩;refine Ab k253 rfl fun x hx=>?_;rcases hd with hd | hd;all_goals
   refine eX ?_;simp only [R8,Y6,mhV,hd,LZ,seval];refine Ap.mk hx [0,1,2,3,4] [] (dg (Dg.mk' fun j=>if j=0 then BitVec.ofInt 8 i else if j=1 then 3#8 else 0#8)) _ 5 Al (by (simp only [Di,seval])) ?_ ?_ ⟨rfl,rfl,rfl⟩
   ·simp only [KR,dg,seval];intro j hj;rw [Dg.at_mk' _ _ hj];by_cases h1:j=1
    ·subst h1;rw [if_pos rfl,if_neg Al,if_pos rfl];simp [Ay,B]
    ·rw [if_neg h1];by_cases h0:j=0
     ·subst h0;simp [Ay,B]
     ·simp [Ay,B,h0,h1]
   ·simp only [dg,LY,seval]
 by_cases h:0≤i∧i < (n:Int)
 ·obtain ⟨m,rfl⟩:∃ m:Nat,i=m:=⟨i.toNat,by omega⟩
  have d0:=eq_true h.1;have d1:=eq_true h.2;refine ⟨f m,?_⟩;refine Ab k253 rfl fun x hx=>?_;refine eX ?_;simp only [R8,Y6,mhV,d0,d1,LZ,seval];repeat refine sd ?_
  have zz:=@b7;exact AI hx [0,1,2,3,4] ⟨rfl,rfl,rfl⟩
 ·exact hnot h
structure OkOt (M:Seat):Prop where
 g:OkGr M
 n:OkGN M
 s:OkOs M
 p:OkPt M
 k253:Ar M 253 R8=true
 k161:Ar M 161 Abx=true
noncomputable def Amk (m0:Mc) (p0:List (Dg × Pr)) (d:Nat) (now:BitVec 64) (t:Tr) (G:Gs):Hp :=
 [(0,Do (.ptr 1 []) (.ptr 7 []) (.ptr 9 []) (.sl 11 [] 0 (2 ^ d) 32) now),(1,Aw (.sl 3 [] 0 t.n 3) d (.map 4) (.map 2)),(2,Et t.l),(3,.ar 3 t.n fun j=>C5 5 (t.ps j)),(4,IS (Ct m0 p0) t.knl),(5,Aq 6 t.w.a t.w.b t.w.met),(6,BG AL Pr.zero t.w.ever),
  (7,As G.D G.l G.g G.s (.ptr 9 []) (.sl 12 [] 0 G.n 42)),(9,A6 G.b G.i G.o (.sl 13 [] 0 G.n 2) G.k),(11,.ar 32 (2 ^ d) fun j=>dg (Ct m0 p0 (BitVec.ofNat 64 (j + 1)))),(12,Au G.n G.c),(13,AQ G.n G.v G.gv)]
theorem m7 (n:Int):∃ p:Nat,p < 7∧(BitVec.ofInt 64 n % 7#64).toInt=(p:Int):=by
 have h:(BitVec.ofInt 64 n % 7#64).toNat < 7:=by rw [BitVec.toNat_umod];exact Nat.mod_lt _ Al
 refine ⟨_,h,?_⟩;rw [BitVec.toInt_eq_toNat_of_lt Aa]
theorem mN (c:Int) (n:Nat) (h0:0 < n) (hn:n≤64):∃ p:Nat,p < n∧(BitVec.ofInt 64 c % BitVec.ofInt 64 (n:Int)).toInt=(p:Int)∧(BitVec.ofInt 64 c % BitVec.ofInt 64 (n:Int))=BitVec.ofNat 64 p:=by
 have e:(BitVec.ofInt 64 (n:Int)).toNat=n:=Akc;have h:(BitVec.ofInt 64 c % BitVec.ofInt 64 (n:Int)).toNat < n:=by rw [BitVec.toNat_umod,e];exact Nat.mod_lt _ h0
 refine ⟨_,h,?_,by rw [BitVec.ofNat_toNat,BitVec.setWidth_eq]⟩;rw [BitVec.toInt_eq_toNat_of_lt Aa]
theorem IT {n:Nat} (h0:0 < n) (hn:n≤64):¬ BitVec.ofInt 64 (n:Int)=0#64:=by
 intro h;have:=congrArg BitVec.toNat h;rw [BitVec.ofInt_natCast,BitVec.toNat_ofNat] at this;have e:(0#64:BitVec 64).toNat=0:=rfl;omega
theorem Aks {G:Gs} (h:Tre G) (a pl:Int):Tre (G.tT a pl):=by
 refine Qk h rfl rfl fun j=>?_;dsimp only [Gs.tT];by_cases hj:j=a.toNat
 ·subst hj;simp only [if_true,and_self]
 ·simp only [hj,if_false,and_self]
theorem Ahe {G:Gs} (h:Tre G) (a:Nat):Tre (G.rsv a):=by
 refine Qk h rfl rfl fun j=>?_;dsimp only [Gs.rsv,Gs.rsC];by_cases hj:j=a
 ·subst hj;simp only [if_true,and_self]
 ·simp only [hj,if_false,and_self]
theorem Abi {M:Seat} (ok:OkOt M) {m0:Mc} {p0:List (Dg × Pr)} (t:Tr) (d:Nat) (hd:1≤d∧d≤4) (hF:Full m0 p0 d t) (G:Gs) (hG:G.ok) (hD:G.D=d) (T:Tre G) (hpl:∀ i,i < 2 ^ d→(CJ (xs m0 p0 i).2 (xs m0 p0 i).1).1=none) (o:Oh) (now:BitVec 64) :
 ∃ G':Gs,G'.ok∧G'.D=d∧Tre G' ∧
  (Ae M 161 [.ptr 0 [],o.v] (DF m0 p0 d now t G) 12 (Q3 (.tup .fnil) (DF m0 p0 d (now + o.wt % 20#64) t G') 12) ∨
   Ae M 161 [.ptr 0 [],o.v] (DF m0 p0 d now t G) 12 (Q3 (.tup .fnil) (Amk m0 p0 d (now + o.wt % 20#64) t G') 14)):=by
 have h16:2 ^ d≤2 ^ 4:=Nat.pow_le_pow_right Al hd.2;have hn0:=hG.n0;have hn64:=hG.w.hn;have hLn:=E4 ok.g G.D G.l G.g G.s G.n;obtain ⟨p,hp,ep,ep2⟩:=mN o.cl G.n hn0 hn64;obtain ⟨pl,hpl7,epl⟩:=m7 o.pl;have w1:IntKind.i64.wrap (1 + (pl:Int))=((1 + pl:Nat):Int):=AW;have nz:((G.n:Int)=0)=False:=eq_false Aa;generalize hnow:now + o.wt % 20#64=now' at *
 cases hst:o.st with
 | true =>
   obtain ⟨vi,hvi,evi,evi2⟩:=mN o.vl (2 ^ d) (Nat.two_pow_pos d) Aa;have hA:=GQ ok.p t d hF Aa (BitVec.ofNat 64 vi) (by rw [BitVec.toNat_ofNat];omega);rw [show (BitVec.ofNat 64 vi).toNat=vi by rw [BitVec.toNat_ofNat];omega,TC (hpl vi hvi)] at hA;obtain ⟨R,h,Lp,P,hSp⟩:∃ R h Lp P,X6 m0 p0 vi=DG R h Lp P:=⟨_,_,_,_,rfl⟩
   rw [hSp] at hA;have hS2:=S1 ok.g G hG.w (fun C=>vfy C R h Lp P) R h Lp P (fun C=>Rx ok.s C R h Lp P) p o.df ((1 + pl:Nat):Int) now';simp only [tH,Aw,Aq] at hA;simp only [Gs.H] at hS2;have en:BitVec.ofInt 64 ((2 ^ d:Nat):Int)=BitVec.ofNat 64 (2 ^ d):=BitVec.ofInt_natCast _ _;cases he:G.tE (fun C=>vfy C R h Lp P) p o.df ((1 + pl:Nat):Int) now' with
   | none =>
     refine ⟨_,At0 hG he,hD,Aks T _ _,.inl ?_⟩;have hSt:=hS2.2 he;simp only [DG,Hd.v,Ba,As,Av,Ad,Au,Cl.v,A6,AQ,AM,Gs.H] at hSt;refine Ab ok.k161 rfl fun x hx=>?_;refine eX ?_;simp only [Abx,Y9,DF,Do,As,Av,Ad,Au,Cl.v,A6,AQ,AM,Aw,Aq,Oh.v,hst,LZ,seval];repeat refine sd ?_
     simp only [hnow,Bn,seval];have zz:=D0 @c9 @c8 @b9 @b7;refine By [7,8,9] [7] (hLn) ?_;simp only [nz,As,Av,Ad,Bn,seval];have zz:=D0 @c9 @c8 @b9 @b7;refine G6 [7,8,9] [7] (hLn) ?_;simp only [ep,epl,w1,As,Av,Ad,Bn,seval];repeat refine sd ?_
     refine ⟨IT hn0 hn64,IT (Nat.two_pow_pos d) Aa,?_⟩;rw [evi2];have zz:=Em @g8 @j5 @Cg @Cp @b7;refine G6 [1,2,3,4,5,6] [1,3,5,6] (hA) ?_;simp only [Je,Aw,Aq,C4,DG,Hd.v,Ba,seval];have zz:=AY Jq @b7;refine G6 [7,8,9,10] [7,8,9,10] (hSt) ?_;simp only [Bn,As,Av,Ad,Au,Cl.v,A6,AQ,AM,seval];have zz:=Em @Ah @Ao @AH @Cg @b7;exact AI hx [0,1,2,3,4,5,6,7,8,9,10,11] ⟨rfl,rfl,rfl⟩
   | some e =>
     refine ⟨G,hG,hD,T,.inl ?_⟩;have hSt:=hS2.1 e he;simp only [DG,Hd.v,Ba,As,Av,Ad,Au,Cl.v,A6,AQ,AM,Gs.H,Ex,B3] at hSt;refine Ab ok.k161 rfl fun x hx=>?_;refine eX ?_;simp only [Abx,Y9,DF,Do,As,Av,Ad,Au,Cl.v,A6,AQ,AM,Aw,Aq,Oh.v,hst,LZ,seval];repeat refine sd ?_
     simp only [hnow,Bn,seval];have zz:=D0 @c9 @c8 @b9 @b7;refine By [7,8,9] [7] (hLn) ?_;simp only [nz,As,Av,Ad,Bn,seval];have zz:=D0 @c9 @c8 @b9 @b7;refine G6 [7,8,9] [7] (hLn) ?_;simp only [ep,epl,w1,As,Av,Ad,Bn,seval];repeat refine sd ?_
     refine ⟨IT hn0 hn64,IT (Nat.two_pow_pos d) Aa,?_⟩;rw [evi2];have zz:=Em @g8 @j5 @Cg @Cp @b7;refine G6 [1,2,3,4,5,6] [1,3,5,6] (hA) ?_;simp only [Je,Aw,Aq,C4,DG,Hd.v,Ba,seval];have zz:=AY Jq @b7;refine G6 [7,8,9,10] [7,8,9,10] (hSt) ?_;simp only [Bn,As,Av,Ad,Au,Cl.v,A6,AQ,AM,Ex,seval];have zz:=Em @Ah @Ao @AH @Cg @b7;exact AI hx [0,1,2,3,4,5,6,7,8,9,10,11] ⟨rfl,rfl,rfl⟩
 | false =>
   have hCl:=CS ok.g G.D G.l G.g G.s G.n G.c p hp;obtain ⟨k,q,hk,hq,hpos⟩:=hG.w.pls p hp;have hD20:=hG.w.hD;have hP:=Bv ok.g.t.s.v.g.p (show k≤24 by omega) hq;rw [← hpos] at hP;obtain ⟨C,hV⟩:=Ah8 ok.k253 (2 ^ d) (fun j=>Ct m0 p0 (BitVec.ofNat 64 (j + 1))) now' o.vl;have hB:=Jw ok.n ((k + 1:Nat):Int);have wk:IntKind.i64.wrap ((k:Int) + 1)=((k + 1:Nat):Int):=AW;generalize (if ((k + 1:Nat):Int) < 0 then 0#64 else BitVec.ofInt 64 ((k + 1:Nat):Int) + 1#64)=bd at hB;simp only [mhV] at hV;cases he:G.mE p o.df C ((1 + pl:Nat):Int) bd now' with
   | none =>
     refine ⟨_,Ao7 hG he,hD,Ak0 hG T he,.inr ?_⟩;have hM:=JG ok.g G hG.w p o.df C ((1 + pl:Nat):Int) bd now' he;simp only [Gs.H,Gs.H2,As,Av,Ad,Au,Cl.v,A6,AQ,AM] at hM;refine Ab ok.k161 rfl fun x hx=>?_;refine eX ?_;simp only [Abx,Y9,DF,Do,As,Av,Ad,Au,Cl.v,A6,AQ,AM,Aw,Aq,Oh.v,hst,LZ,seval];repeat refine sd ?_
     simp only [hnow,Bn,seval];have zz:=D0 @c9 @c8 @b9 @b7;refine By [7,8,9] [7] (hLn) ?_;simp only [nz,As,Av,Ad,Bn,seval];have zz:=D0 @c9 @c8 @b9 @b7;refine G6 [7,8,9] [7] (hLn) ?_;simp only [ep,epl,w1,As,Av,Ad,Bn,seval];repeat refine sd ?_
     refine ⟨IT hn0 hn64,?_⟩;have zz:=Gb @c9 @c8 @b9 @f7 @b8 @b7;refine By [7,8,9] [7,8] (hCl) ?_;simp only [Cz,As,Av,Ad,Au,Cl.v,seval];refine Aj (hP) ?_;simp only [B0,wk,Bn,seval];have zz:=@b7;refine G6 [0,11,1,7,9] [0,11] (hV) ?_;simp only [wk,Bn,Bt,seval];refine AO (hB) ?_;simp only [Bn,seval];have zz:=@b7;refine G6 [7,8,9,10] [7,8,9,10] (hM) ?_;simp only [Cz,As,Av,Ad,Au,Cl.v,A6,AQ,AM,Ex,seval];have zz:=AY (Fd @Amk.eq_1 @Do.eq_1 @c9 @c8 @b9 @f7 @b8 @j4 @l7 @j8 @g8 @j5 @Ah @Ao @AH @Cg) (@b7);exact AI hx [0,1,2,3,4,5,6,7,8,9,10,11,1980,1981] ⟨rfl,rfl,rfl⟩
   | some e =>
     refine ⟨G,hG,hD,T,.inl ?_⟩;have hM:=PQ ok.g G hG.w p o.df C ((1 + pl:Nat):Int) bd now' e he;simp only [Gs.H,As,Av,Ad,Au,Cl.v,A6,AQ,AM,Ex,B3] at hM;refine Ab ok.k161 rfl fun x hx=>?_;refine eX ?_;simp only [Abx,Y9,DF,Do,As,Av,Ad,Au,Cl.v,A6,AQ,AM,Aw,Aq,Oh.v,hst,LZ,seval];repeat refine sd ?_
     simp only [hnow,Bn,seval];have zz:=D0 @c9 @c8 @b9 @b7;refine By [7,8,9] [7] (hLn) ?_;simp only [nz,As,Av,Ad,Bn,seval];have zz:=D0 @c9 @c8 @b9 @b7;refine G6 [7,8,9] [7] (hLn) ?_;simp only [ep,epl,w1,As,Av,Ad,Bn,seval];repeat refine sd ?_
     refine ⟨IT hn0 hn64,?_⟩;have zz:=Gb @c9 @c8 @b9 @f7 @b8 @b7;refine By [7,8,9] [7,8] (hCl) ?_;simp only [Cz,As,Av,Ad,Au,Cl.v,seval];refine Aj (hP) ?_;simp only [B0,wk,Bn,seval];have zz:=@b7;refine G6 [0,11,1,7,9] [0,11] (hV) ?_;simp only [wk,Bn,Bt,seval];refine AO (hB) ?_;simp only [Bn,seval];have zz:=@b7;refine G6 [7,8,9,10] [7,8,9,10] (hM) ?_;simp only [Cz,As,Av,Ad,Au,Cl.v,A6,AQ,AM,Ex,seval];have zz:=Em @Ah @Ao @AH @Cg @b7;exact AI hx [0,1,2,3,4,5,6,7,8,9,10,11] ⟨rfl,rfl,rfl⟩
end Mv
