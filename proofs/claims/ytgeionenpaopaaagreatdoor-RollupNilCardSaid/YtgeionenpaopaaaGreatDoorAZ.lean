/- A part. -/
import Derived.Test.YtgeionenpaopaaaGreatDoorAY
set_option linter.all false
set_option maxRecDepth 20000
set_option maxHeartbeats 16000000
namespace Mv
open Go
variable {M:Seat}
structure OkLd (M:Seat):Prop where
 k222:Ar M 222 Axm=true
 k223:Ar M 223 Aya=true
 k250:Ar M 250 Ayt=true
 k258:Ar M 258 Axs=true
 k355:Ar M 355 Axp=true
def F1 (b:Nat→BitVec 64) (i o:BitVec 64) (bs:V) (k:BitVec 64):V:=.st 12 (.fcons 0 (.ar 1 8 fun j=>W (b j)) (.fcons 8 (W i) (.fcons 9 (W o) (.fcons 10 bs (.fcons 11 (W k) .fnil)))))
theorem Asf (ok:OkLd M):As M 222 [] [] 0 (Q3 (.ptr 0 []) [(0,F1 (fun _=>0#64) 0#64 0#64 .nils 0#64)] 1):=by
 refine Ac ok.k222 rfl fun x hx=>?_;refine eX ?_;simp only [Axm,Az5,LZ,seval];refine Ay.mk hx [32] [] (.ptr 0 []) [(0,F1 (fun _=>0#64) 0#64 0#64 .nils 0#64)] 1 Ab (by (simp only [Dz,F1,seval])) (by simp only [LV,F1,LY,seval]) (by simp only [F1,LY,seval]) ⟨rfl,rfl,rfl⟩
theorem Ard (ok:OkLd M) (p:Nat) (hp:p < 8):As M 258 [.ptr 0 [],.int .i64 p] [] 1 (Q3 .nili [] 1):=by
 refine Ac ok.k258 rfl fun x hx=>?_;have e0:((p:Int) < 0)=False:=eq_false Aa;have e1:((8:Int)≤(p:Int))=False:=eq_false Aa;refine eX ?_;simp only [Axs,Az6,e0,e1,LZ,seval];exact Ay.mkZ hx [0] ⟨rfl,rfl,rfl⟩
theorem Atj (ok:OkLd M) (b:Nat→BitVec 64) (i o:BitVec 64) (k:BitVec 64) (p:Nat) (hp:p < 8) (v:BitVec 64) (h1:¬ 281474976710656#64 < v) (h2:¬ 281474976710656#64 < i + v) :
 As M 223 [.ptr 0 [],.int .i64 p,W v] [(0,F1 b i o .nils k)] 1 (Q3 .nili [(0,F1 (fun j=>if j=p then b p + v else b j) (i + v) o .nils k)] 1):=by
 refine Ac ok.k223 rfl fun x hx=>?_;have e0:((p:Int) < 0)=False:=eq_false Aa;have e1:((p:Int) < 8)=True:=eq_true Aa;have e2:(0≤(p:Int))=True:=eq_true Aa;refine eX ?_;simp only [Aya,A0c,F1,LZ,seval];refine cbK [0] [] (Ard ok p hp) (by constructor <;> (try simp only [LY,seval]) <;> exact q1) (by simp only [LX]) ?_;simp only [F1,h1,h2,e0,e1,e2,LZ,seval];repeat refine sd ?_
 refine Ay.mk hx [0] [] .nili [(0,F1 (fun j=>if j=p then b p + v else b j) (i + v) o .nils k)] 1 Ab (by (simp only [Dz,F1,seval])) (by simp only [LV,F1,LY,seval]) ?_ ⟨rfl,rfl,rfl⟩;simp only [F1,LY,seval];intro j hj;by_cases h:j=p <;> simp only [h,Dh,LY,seval]
def bnV (v:BitVec 64) (g:Bool):V:=.st 2 (.fcons 0 (W v) (.fcons 1 (.bool g) .fnil))
theorem At0 (ok:OkLd M) (b:Nat→BitVec 64) (i o:BitVec 64) (bs:V) (n:Nat) (hbs:(bs = .nils∧n=1) ∨ ∃ m,bs = .sl 1 [] 0 m 2∧n=2) (k:BitVec 64) (p:Nat) (hp:p < 8) (v:BitVec 64) (h1:¬ b p < v) :
 As M 355 [.ptr 0 [],.int .i64 p,W v] [(0,F1 b i o bs k)] n (Q3 .nili [(0,F1 (fun j=>if j=p then b p - v else b j) i o bs k)] n):=by
 refine Ac ok.k355 rfl fun x hx=>?_;have e0:((p:Int) < 0)=False:=eq_false Aa;have e1:((p:Int) < 8)=True:=eq_true Aa;have e2:(0≤(p:Int))=True:=eq_true Aa;rcases hbs with ⟨rfl,rfl⟩ | ⟨m,rfl,rfl⟩
 all_goals
  refine eX ?_;simp only [Axp,A0l,F1,LZ,seval];refine cbK [0] [] (Ard ok p hp) (by constructor <;> (try simp only [LY,seval]) <;> exact q1) (by simp only [LX]) ?_;simp only [F1,h1,e0,e1,e2,LZ,seval];repeat refine sd ?_
 ·refine Ay.mk hx [0] [] .nili [(0,F1 (fun j=>if j=p then b p - v else b j) i o .nils k)] 1 Ab (by (simp only [Dz,F1,seval])) (by simp only [LV,F1,LY,seval]) ?_ ⟨rfl,rfl,rfl⟩;simp only [F1,LY,seval];intro j hj;by_cases h:j=p <;> simp only [h,Dh,LY,seval]
 ·refine Ay.mk hx [0,1] [] .nili [(0,F1 (fun j=>if j=p then b p - v else b j) i o (.sl 1 [] 0 m 2) k)] 2 Ab (by (simp only [Dz,F1,seval])) (by simp only [LV,F1,LY,seval]) ?_ ⟨rfl,rfl,rfl⟩;simp only [F1,LY,seval];intro j hj;by_cases h:j=p <;> simp only [h,Dh,LY,seval]
theorem As6 (ok:OkLd M) (b:Nat→BitVec 64) (i o:BitVec 64) (k:BitVec 64) (p:Nat) (hp:p < 8) (v:BitVec 64) (h1:¬ b p < v) :
 As M 250 [.ptr 0 [],.int .i64 p,W v] [(0,F1 b i o .nils k)] 1 (Q3 (AP (.int .i64 0) .nili) [(0,F1 (fun j=>if j=p then b p - v else b j) i o (.sl 1 [] 0 1 2) (k + v)),(1,.ar 2 1 fun _=>bnV v false)] 2):=by
 refine Ac ok.k250 rfl fun x hx=>?_;have z0:IntKind.i64.wrap 0=0:=rfl;refine eX ?_;simp only [Ayt,A0k,F1,LZ,seval];have zz:=@F1.eq_1;refine cbY [0] [0] (At0 ok b i o .nils 1 (.inl ⟨rfl,rfl⟩) k p hp v h1) ?_;simp only [F1,z0,LZ,seval];refine Ay.mk hx [0,369] [] (AP (.int .i64 0) .nili) [(0,F1 (fun j=>if j=p then b p - v else b j) i o (.sl 1 [] 0 1 2) (k + v)),(1,.ar 2 1 fun _=>bnV v false)] 2 Ab (by (simp only [Dz,F1,seval])) (by simp only [LV,F1,AP,LY,seval]) ?_ ⟨rfl,rfl,rfl⟩;simp only [F1,bnV,LY,seval];intro j hj;obtain rfl:j=0:=Aa;simp only [if_true,LY,seval]
def c3:=@F1.eq_1
end Mv
namespace Mv
open Go
def c76:LC:=(sr [mU 12 0,mn 13] (.seq (sr [mt 17 0,aI 18 .lss 17 0,mt 19 18,mg 20 19 false 0,A2 21 19 false (.ari .gtr (.t 20) (cI 35)),
  FB 22 19 21,mt 23 22,mg 24 23 false 5,mg 25 23 false 5,A2 26 23 false (.conv .i32 (.t 25)),A2 27 23 false (.conv .i64 (.t 26)),A2 28 23 false (.ari .neq (.t 24) (.t 27)),
  FB 29 23 28] (.cond (.t 29) (sr [A1 30 (.mkif 74 (cI 2)),
  mU 12 0,mt 13 30] .ret) .skip)) (sr [mt 31 0,
  Ea 32 .u64 31,mt 14 32] (.seq (sr [mt 33 1,mt 34 2,mt 35 3,mt 36 4,A1 37 (.bsl 1 4 zI [(.i 1 0,1,(.t 33)),(.i 1 1,1,(.t 34)),(.i 1 2,1,(.t 35)),(.i 1 3,1,(.t 36))]),
  lN 38 0 37,
  mI 39 0] (.block 0 (.loop (sr [ak 40 .lss 39 38] (.seq (Fy 40 0) (.seq (.block 1 (sr [ia 41 1 37 39,lb 42 1 41,mt 16 42] (.seq (sr [mt 43 16,aI 44 .lss 43 0,mt 45 44,mg 46 45 false 16,A2 47 45 false (.ari .gtr (.t 46) (cI 15)),
  FB 48 45 47] (.cond (.t 48) (sr [A1 49 (.mkif 74 (cI 2)),
  mU 12 0,mt 13 49] .ret) .skip)) (.reg [mt 50 14,
  aU 51 .shl 50 4,mt 52 16,
  Ea 53 .u64 52,ak 54 .or 51 53,mt 14 54])))) (.reg [aI 55 .add 39 1,mt 39 55]))))))) (sr [mt 56 14,
  aU 57 .shl 56 40,mt 58 5,
  Ea 59 .u32 58,
  Ea 60 .u64 59,ak 61 .or 57 60,mt 12 61,mn 13] .ret)))))
def f76:LF:=⟨c76,6,0,62,[.tmp 12,.tmp 13]⟩
def gmV (d:Int) (l g:BitVec 64) (s:Dg) (ld cs:V):V:=.st 37 (.fcons 0 (ruV d l g s) (.fcons 35 ld (.fcons 36 cs .fnil)))
variable {M:Seat}
structure OkH (M:Seat):Prop where
 k319:Ar M 319 Ah1=true
 k418:Ar M 418 Aiu=true
 k419:Ar M 419 Ajc=true
 k420:Ar M 420 Ajj=true
def Jz (p:Nat→BitVec 8) (j:Nat):BitVec 8:=if j < 64 then p j else if j=64 then 1 else if j=135 then 128 else 0
def Ha (s:List (BitVec 64)) (rest:V):V:=.st 26 (.fcons 0 (.ar 1 25 (ws s)) (.fcons 25 rest .fnil))
def zst:List (BitVec 64):=List.replicate 25 0
theorem Agh (j:Nat):zst.getD j 0=0:=by
 simp only [zst,List.getD,List.getElem?_replicate];split <;> rfl
def I8 (p:Nat→BitVec 8):Dg:=dig (N2 zst (Jz p))
theorem TQ (ok:OkH M):As M 418 [] [] 0 (Q3 (.ptr 0 []) [(0,Ha zst .nils)] 1):=by
 refine Ac ok.k418 rfl fun x hx=>?_;refine eX ?_;simp only [Aiu,Ao2,LZ,seval];refine Vf hx [32] (.ptr 0 []) ([(0,Ha zst .nils)]) 1 ?_;simp only [Ha,LY,seval];exact fun i _=>(Agh i).symm
theorem Tl (ok:OkH M) (s:List (BitVec 64)) (p:Nat→BitVec 8) :
 As M 419 [.ptr 0 [],.lst 1 64 (fun j=>B (p j))] [(0,Ha s .nils)] 1 (Q3 .nili [(0,Ha s (.sl 1 [] 0 64 1)),(1,.ar 1 64 (fun j=>B (p j)))] 2):=by
 refine Ac ok.k419 rfl fun x hx=>?_;refine eX ?_;simp only [Ajc,Anp,Ha,LZ,seval];refine AJ ?_;refine eX ?_;simp only [LZ,seval];refine Vf hx [0,145] (.nili) ([(0,Ha s (.sl 1 [] 0 64 1)),(1,.ar 1 64 (fun j=>B (p j)))]) 2 ?_;simp only [Ha,LY,seval]
theorem Vh (okA:OkM M) (ok:OkH M) (s:List (BitVec 64)) (p:Nat→BitVec 8) :
 As M 420 [.imm (Ha s (.lst 1 64 (fun j=>B (p j))))] [] 0 (Q3 (AP (dg (dig (N2 s (Jz p)))) .nili) [] 0):=by
 refine Ac ok.k420 rfl fun x hx=>?_;have m1:min 64 136=64:=rfl;have m2:∀ i:Nat,(0≤i)=True:=fun i=>eq_true (Nat.zero_le i);refine eX ?_;simp only [Ajj,Api,Ha,m1,m2,LZ,seval];refine cpK (GF okA s (Jz p)) (by (try simp only [Lz,LY,seval]) <;> first | exact q1 | ((intro j hj;simp only [Jz];repeat' split <;> first | omega | rfl | simp_all | (subst_vars;rfl)))) (by simp only [Lz,LX]) ?_;simp only [LZ,seval];refine Ap (I2 okA (N2 s (Jz p))) ?_;simp only [LZ,seval];refine Ay.mk hx [] [] (AP (dg (dig (N2 s (Jz p)))) .nili) [] 0 Ab (by (simp only [Dz,seval])) (by (try simp only [DK,seval]) <;> exact q2) trivial ⟨rfl,rfl,rfl⟩
theorem Rg (okA:OkM M) (ok:OkH M) (p:Nat→BitVec 8) :
 As M 319 [.lst 1 64 (fun j=>B (p j))] [] 0 (Q3 (dg (I8 p)) [] 0):=by
 refine Ac ok.k319 rfl fun x hx=>?_;refine eX ?_;simp only [Ah1,Apk,LZ,seval];have zz:=@Ha.eq_1;refine cfY (TQ ok) ?_;simp only [Ha,LZ,seval];have zz:=@Ha.eq_1;refine cmY [16] (Tl ok zst p) ?_;simp only [Ha,LZ,seval];have zz:=@Ha.eq_1;refine IQ (Vh okA ok zst p) ?_;simp only [EM,seval];refine Ay.mk hx [] [] (dg (dig (N2 zst (Jz p)))) [] 0 Ab (by (simp only [Dz,seval])) (by (try simp only [DK,seval]) <;> exact q2) trivial ⟨rfl,rfl,rfl⟩
end Mv
namespace Mv
open Go
structure OkS (M:Seat):Prop extends OkH M where
structure WS where
 pres:List (Dg × Pr)
 ever:List (Dg × Pr)
 a:Pr
 b:Pr
 met:Bool
def WS.kin (w:WS) (h:Dg) (p:Pr):WS:=match lkp h w.ever with
 | none=>{ w with ever:=Iz h p w.ever }
 | some q=>if ¬ q=p∧w.met=false then { w with a:=q,b:=p,met:=true } else w
def WS.add (w:WS) (p:Pr):WS:=({ w with pres:=Iz (I8 p.at) p w.pres }:WS).kin (I8 p.at) p
structure OkV (M:Seat):Prop extends OkS M where
structure Mc where
 f:Nat→BitVec 64
 g:Nat→BitVec 64
 pc:BitVec 64
 hl:Bool
 xt:BitVec 64
def Mc.v (m:Mc):V:=AL m.f m.g m.pc m.hl m.xt
structure OkI (M:Seat):Prop extends OkV M where
 k76:Ar M 76 f76=true
def Bn (op:Int) (d a b c:Nat) (n:Int):BitVec 64 :=
 (((((BitVec.ofInt 64 op <<< 4 ||| BitVec.ofInt 64 d) <<< 4 ||| BitVec.ofInt 64 a) <<< 4 ||| BitVec.ofInt 64 b) <<< 4 ||| BitVec.ofInt 64 c) <<< 40) ||| BitVec.ofInt 64 (IntKind.u32.wrap n)
theorem Gr {M:Seat} (ok:OkI M) (op:Int) (d a b c:Nat) (n:Int) (hd:d < 16) (ha:a < 16) (hb:b < 16) (hc:c < 16) (h1:0≤op∧op≤35) (h2:-2147483648≤n∧n < 2147483648) :
 As M 76 [.int .i64 op,.int .i64 d,.int .i64 a,.int .i64 b,.int .i64 c,.int .i64 n] [] 0 (Q3 (AP (W (Bn op d a b c n)) .nili) [] 0):=by
 refine Ac ok.k76 rfl fun x hx=>?_;have l1:∀ q:Nat,q < 16→(((q:Int) < 0)=False):=fun q _=>eq_false Aa;have l2:∀ q:Nat,q < 16→((15:Int) < (q:Int))=False:=fun q h=>eq_false Aa;have w1:IntKind.i64.wrap 1=1:=rfl;have w2:IntKind.i64.wrap 2=2:=rfl;have w3:IntKind.i64.wrap 3=3:=rfl;have w4:IntKind.i64.wrap 4=4:=rfl;have e1:(op < 0)=False:=eq_false Aa;have e2:((35:Int) < op)=False:=eq_false Aa;have e3:IntKind.i64.wrap (IntKind.i32.wrap n)=n:=by
  have:IntKind.i32.wrap n=n:=by
   have e:IntKind.i32.wrap n=if n % 4294967296 ≥ 2147483648 then n % 4294967296 - 4294967296 else n % 4294967296:=Q0;rw [e];split <;> omega
  rw [this,AR Aa]
 refine eX ?_;simp only [f76,c76,e1,e2,e3,LZ,seval];refine AJ ?_;refine eX ?_;simp only [l1 d hd,l2 d hd,w1,w2,w3,w4,LZ,seval];repeat refine sd ?_
 refine AJ ?_;refine eX ?_;simp only [l1 a ha,l2 a ha,w1,w2,w3,w4,LZ,seval];repeat refine sd ?_
 refine AJ ?_;refine eX ?_;simp only [l1 b hb,l2 b hb,w1,w2,w3,w4,LZ,seval];repeat refine sd ?_
 refine AJ ?_;refine eX ?_;simp only [l1 c hc,l2 c hc,w1,w2,w3,w4,LZ,seval];repeat refine sd ?_
 refine AJ ?_;refine eX ?_;simp only [LZ,seval];have zz:=@Bn.eq_1;exact DD hx [] ⟨rfl,rfl,rfl⟩
structure In where
 op:Int
 d:Int
 a:Int
 b:Int
 c:Int
 n:Int
 raw:BitVec 64
instance:Inhabited In:=⟨⟨0,0,0,0,0,0,0#64⟩⟩
def G7 (n:Nat) (u:Nat→BitVec 64) (j:Nat):BitVec 64:=if j < n then u j else 0#64
theorem Ky {M:Seat} (okA:OkM M) (n:Nat) (hn:n≤8192) (u:Nat→BitVec 64):As M 74 [.lst 1 n (fun j=>W (u j))] [] 0 (Q3 (AP (.ptr 0 []) .nili) [(0,AL (G7 n u) (fun _=>0#64) 0#64 false 0#64)] 1):=by
 refine Ac okA.k74 rfl fun x hx=>?_;have e0:((8192:Int) < (n:Int))=False:=eq_false Aa;have m1:min n 8192=n:=Aa;have m2:∀ i:Nat,(0≤i)=True:=fun i=>eq_true (Nat.zero_le i);refine eX ?_;simp only [f74,c74,e0,m1,m2,LZ,seval];have zz:=Jr @b9 @G7.eq_1 @R4;exact DD hx [96] ⟨rfl,rfl,rfl⟩
structure OkW (M:Seat):Prop extends OkI M where
def i32 (n:Int):Int:=if n % 4294967296 ≥ 2147483648 then n % 4294967296 - 4294967296 else n % 4294967296
structure OkO (M:Seat):Prop extends OkW M where
 k308:Ar M 308 Ayn=true
def wrd (p:Nat→BitVec 8):Nat→BitVec 64
 | 0=>0
 | k + 1=>(wrd p k <<< (8#64).toNat) ||| (p k).setWidth 64
theorem D4 {M:Seat} (ok:OkO M) (n:Nat) (hn:8≤n) (p:Nat→BitVec 8):As M 308 [.lst 1 n (fun j=>B (p j))] [] 0 (Q3 (W (wrd p 8)) [] 0):=by
 refine Ac ok.k308 rfl fun x hx=>?_;refine eX ?_;simp only [Ayn,Azz,AW,seval];repeat refine sd ?_
 refine Au (σ:=Nat) (fun i=>i≤8) (fun i=>fr 20 [(7,.lst 1 8 fun j=>B (p j)),(8,.int .i64 8),(9,.int .i64 i),(3,W (wrd p i))]) (fun _=>[]) (fun _=>0) (fun i=>8 - i) 0 Aa ?_ ?_
 ·refine Av.fr [] [] hx Bg Ab ?_ ?_
  ·simp only [wrd,LY,seval]
  ·trivial
 ·intro i hi;refine eX ?_;by_cases h8:i=8
  ·subst h8;simp only [LZ,seval];exact Ay.mkZ hx [] ⟨rfl,rfl,rfl⟩
  ·have d0:((i:Int) < 8)=True:=eq_true Aa;have w0:IntKind.i64.wrap ((i:Int) + 1)=((i + 1:Nat):Int):=B7;simp only [d0,w0,LZ,seval];repeat refine sd ?_
   refine ⟨i + 1,by omega,by omega,?_⟩;refine Av.fr [] [] hx Bg Ab ?_ ?_
   ·simp only [wrd,LY,seval]
   ·trivial
def byW (w:BitVec 64) (j:Nat):BitVec 8:=(w >>> (56 - 8 * j)).setWidth 8
structure OkTc (M:Seat):Prop where
 m:OkM M
 h:OkH M
 o:OkO M
 k281:Ar M 281 Ayu=true
 k182:Ar M 182 Ayp=true
theorem wzN:IntKind.i64.wrap 0=0∧IntKind.i64.wrap 1=1∧IntKind.i64.wrap 2=2∧IntKind.i64.wrap 3=3∧IntKind.i64.wrap 4=4∧IntKind.i64.wrap 5=5∧IntKind.i64.wrap 6=6∧IntKind.i64.wrap 7=7∧IntKind.i64.wrap 8=8∧IntKind.i64.wrap 16=16∧IntKind.i64.wrap 24=24:=⟨rfl,rfl,rfl,rfl,rfl,rfl,rfl,rfl,rfl,rfl,rfl⟩
def txZ:Dg:=Ajh (Ajh (Ajh (I8 fun _=>0#8) (I8 fun _=>0#8)) (Ajh (I8 fun _=>0#8) (I8 fun _=>0#8))) (Ajh (Ajh (I8 fun _=>0#8) (I8 fun _=>0#8)) (Ajh (I8 fun _=>0#8) (I8 fun _=>0#8)))
theorem Ark {M:Seat} (ok:OkTc M):As M 281 [.nils] [] 0 (Q3 (AP (dg txZ) .nili) [] 0):=by
 have hS:=Rg ok.m ok.h (fun _=>0#8);unfold txZ;generalize I8 (fun _=>0#8)=e at *
 have hP:=fun a b=>Ti ok.m a b;refine Ac ok.k281 rfl fun x hx=>?_;refine eX ?_;simp only [Ayu,Az7,LZ,seval];refine Au (σ:=Nat) (fun i=>i≤8) (fun i=>fr 55 [(0,.nils),(2,.ptr 0 []),(3,.nili),(4,.ptr 1 []),(14,.int .i64 i)]) (fun i=>[(0,dg Dg.zero),(1,.ar 32 8 fun j=>dg (if j < i then e else Dg.zero))]) (fun _=>2) (fun i=>8 - i) 0 (Nat.zero_le _) ?_ ?_
 ·refine Av.fr [0,80] [] hx Bg Ab ?_ ?_
  ·simp only [LY,seval]
  ·simp only [dg,Nat.not_lt_zero,if_false,LY,seval]
 intro i hs;refine eX ?_;by_cases h8:i=8
 ·subst h8;simp only [LZ,seval];have wz:=wzN;refine AJ ?_;refine eX ?_;simp only [wz,LZ,seval];refine AJ ?_;refine eX ?_;simp only [wz,LZ,seval];repeat refine sd ?_
  have zz:=@a6;refine opY (hP e e) ?_;simp only [wz,LZ,seval];repeat refine sd ?_
  refine AJ ?_;refine eX ?_;simp only [wz,LZ,seval];repeat refine sd ?_
  have zz:=@a6;refine opY (hP e e) ?_;simp only [wz,LZ,seval];repeat refine sd ?_
  refine AJ ?_;refine eX ?_;simp only [wz,LZ,seval];repeat refine sd ?_
  have zz:=@a6;refine opY (hP e e) ?_;simp only [wz,LZ,seval];repeat refine sd ?_
  refine AJ ?_;refine eX ?_;simp only [wz,LZ,seval];repeat refine sd ?_
  have zz:=@a6;refine opY (hP e e) ?_;simp only [wz,LZ,seval];repeat refine sd ?_
  refine AJ ?_;refine eX ?_;simp only [wz,LZ,seval];refine AJ ?_;refine eX ?_;simp only [wz,LZ,seval];refine AJ ?_;refine eX ?_;simp only [wz,LZ,seval];repeat refine sd ?_
  have zz:=@a6;refine opY (hP (Ajh e e) (Ajh e e)) ?_;simp only [wz,LZ,seval];repeat refine sd ?_
  refine AJ ?_;refine eX ?_;simp only [wz,LZ,seval];repeat refine sd ?_
  have zz:=@a6;refine opY (hP (Ajh e e) (Ajh e e)) ?_;simp only [wz,LZ,seval];repeat refine sd ?_
  refine AJ ?_;refine eX ?_;simp only [wz,LZ,seval];refine AJ ?_;refine eX ?_;simp only [wz,LZ,seval];refine AJ ?_;refine eX ?_;simp only [wz,LZ,seval];repeat refine sd ?_
  have zz:=@a6;refine opY (hP (Ajh (Ajh e e) (Ajh e e)) (Ajh (Ajh e e) (Ajh e e))) ?_;simp only [wz,LZ,seval];repeat refine sd ?_
  refine AJ ?_;refine eX ?_;simp only [wz,LZ,seval];refine AJ ?_;refine eX ?_;simp only [wz,LZ,seval];have zz:=BK @b5 @a6;exact DD hx [] ⟨rfl,rfl,rfl⟩
 have d0:((i:Int) < 8)=True:=eq_true Aa;have d1:((i:Int) < 0)=False:=eq_false Aa;simp only [d0,d1,LZ,seval];have zz:=@a6;refine IQ (hS) ?_;simp only [d0,d1,LZ,seval];have wi:IntKind.i64.wrap ((i:Int) + 1)=((i + 1:Nat):Int):=B7;refine ⟨by omega,by omega,i + 1,by omega,by omega,?_⟩;refine Av.fr [0,1] [] hx Bg Ab ?_ ?_
 ·simp only [wi,LY,seval]
 ·simp only [LY,seval];intro j hj;by_cases hq:j=i
  ·rw [if_pos hq,if_pos Aa];simp only [dg,LY,seval]
  ·by_cases h2:j < i
   ·rw [if_neg hq,if_pos Aa,if_pos h2];simp only [dg,LY,seval]
   ·rw [if_neg hq,if_neg Aa,if_neg h2];simp only [dg,LY,seval]
theorem Axc {H:Hp} {m z:List Nat} {a:BitVec 64} {u:V} (h:u=W a):Aw H m z (W a) u:=by rw [h,Aft]
def inW (a b c:Dg) (j:Nat):BitVec 64:=wrd (fun t=>(if j < 4 then a else if j < 8 then b else c).at (8 * (j % 4) + t)) 8
theorem As1 {M:Seat} (ok:OkTc M) (a b c:Dg):As M 182 [dg a,dg b,dg c] [] 0 (Q3 (.sl 0 [] 0 12 1) [(0,.ar 1 12 fun j=>W (inW a b c j))] 1):=by
 refine Ac ok.k182 rfl fun x hx=>?_;have wz:=wzN;refine eX ?_;simp only [Ayp,Az8,LZ,seval];refine AJ ?_;refine eX ?_;simp only [wz,Ac0,LZ,seval];refine AJ ?_;refine eX ?_;simp only [wz,Ac0,LZ,seval];repeat refine sd ?_
 have zz:=@a6;refine IQ (D4 ok.o 32 Ab (fun j=>a.at (0 + j))) ?_;simp only [wz,Ac0,LZ,seval];repeat refine sd ?_
 refine AJ ?_;refine eX ?_;simp only [wz,Ac0,LZ,seval];repeat refine sd ?_
 have zz:=@a6;refine IQ (D4 ok.o 24 Ab (fun j=>a.at (8 + j))) ?_;simp only [wz,Ac0,LZ,seval];repeat refine sd ?_
 refine AJ ?_;refine eX ?_;simp only [wz,Ac0,LZ,seval];repeat refine sd ?_
 have zz:=@a6;refine IQ (D4 ok.o 16 Ab (fun j=>a.at (16 + j))) ?_;simp only [wz,Ac0,LZ,seval];repeat refine sd ?_
 refine AJ ?_;refine eX ?_;simp only [wz,Ac0,LZ,seval];repeat refine sd ?_
 have zz:=@a6;refine IQ (D4 ok.o 8 Ab (fun j=>a.at (24 + j))) ?_;simp only [wz,Ac0,LZ,seval];repeat refine sd ?_
 refine AJ ?_;refine eX ?_;simp only [wz,Ac0,LZ,seval];refine AJ ?_;refine eX ?_;simp only [wz,Ac0,LZ,seval];refine AJ ?_;refine eX ?_;simp only [wz,Ac0,LZ,seval];repeat refine sd ?_
 have zz:=@a6;refine IQ (D4 ok.o 32 Ab (fun j=>b.at (0 + j))) ?_;simp only [wz,Ac0,LZ,seval];repeat refine sd ?_
 refine AJ ?_;refine eX ?_;simp only [wz,Ac0,LZ,seval];repeat refine sd ?_
 have zz:=@a6;refine IQ (D4 ok.o 24 Ab (fun j=>b.at (8 + j))) ?_;simp only [wz,Ac0,LZ,seval];repeat refine sd ?_
 refine AJ ?_;refine eX ?_;simp only [wz,Ac0,LZ,seval];repeat refine sd ?_
 have zz:=@a6;refine IQ (D4 ok.o 16 Ab (fun j=>b.at (16 + j))) ?_;simp only [wz,Ac0,LZ,seval];repeat refine sd ?_
 refine AJ ?_;refine eX ?_;simp only [wz,Ac0,LZ,seval];repeat refine sd ?_
 have zz:=@a6;refine IQ (D4 ok.o 8 Ab (fun j=>b.at (24 + j))) ?_;simp only [wz,Ac0,LZ,seval];repeat refine sd ?_
 refine AJ ?_;refine eX ?_;simp only [wz,Ac0,LZ,seval];refine AJ ?_;refine eX ?_;simp only [wz,Ac0,LZ,seval];refine AJ ?_;refine eX ?_;simp only [wz,Ac0,LZ,seval];repeat refine sd ?_
 have zz:=@a6;refine IQ (D4 ok.o 32 Ab (fun j=>c.at (0 + j))) ?_;simp only [wz,Ac0,LZ,seval];repeat refine sd ?_
 refine AJ ?_;refine eX ?_;simp only [wz,Ac0,LZ,seval];repeat refine sd ?_
 have zz:=@a6;refine IQ (D4 ok.o 24 Ab (fun j=>c.at (8 + j))) ?_;simp only [wz,Ac0,LZ,seval];repeat refine sd ?_
 refine AJ ?_;refine eX ?_;simp only [wz,Ac0,LZ,seval];repeat refine sd ?_
 have zz:=@a6;refine IQ (D4 ok.o 16 Ab (fun j=>c.at (16 + j))) ?_;simp only [wz,Ac0,LZ,seval];repeat refine sd ?_
 refine AJ ?_;refine eX ?_;simp only [wz,Ac0,LZ,seval];repeat refine sd ?_
 have zz:=@a6;refine IQ (D4 ok.o 8 Ab (fun j=>c.at (24 + j))) ?_;simp only [wz,Ac0,LZ,seval];repeat refine sd ?_
 refine AJ ?_;refine eX ?_;simp only [wz,Ac0,LZ,seval];refine AJ ?_;refine eX ?_;simp only [wz,Ac0,LZ,seval];refine Ay.mk hx [2992] [] (.sl 0 [] 0 12 1) [(0,.ar 1 12 fun j=>W (inW a b c j))] 1 Ab (by (simp only [Dz,seval])) (by simp only [DK,seval]) ?_ ⟨rfl,rfl,rfl⟩;simp only [LY,seval];intro j hj;have h12:j=0 ∨ j=1 ∨ j=2 ∨ j=3 ∨ j=4 ∨ j=5 ∨ j=6 ∨ j=7 ∨ j=8 ∨ j=9 ∨ j=10 ∨ j=11:=Aa;rcases h12 with rfl | rfl | rfl | rfl | rfl | rfl | rfl | rfl | rfl | rfl | rfl | rfl <;> exact Axc (by simp [inW])
end Mv
