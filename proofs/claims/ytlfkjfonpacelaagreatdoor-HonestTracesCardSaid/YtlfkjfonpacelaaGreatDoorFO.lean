/- A part. -/
import Derived.Test.YtlfkjfonpacelaaGreatDoorFN
set_option linter.all false
set_option maxRecDepth 20000
set_option maxHeartbeats 8000000
namespace Mv
open Go
structure OkGN (M:Seat):Prop where
 k110:Av M 110 Amy=true
 k111:Av M 111 Aj2=true
 k112:Av M 112 Akk=true
 k117:Av M 117 Ame=true
 k119:Av M 119 Aml=true
 k120:Av M 120 Anj=true
 k246:Av M 246 Ajt=true
structure Cl where
 par:Int
 pos:BitVec 64
 val:Dg
 pl:Int
 bond:Int
 us:BitVec 64
 at':BitVec 64
 st:Bool
 rs:Bool
 co:Bool
 by':Int
def AJ (u a:BitVec 64):V:=.st 2 (.fcons 0 (W u) (.fcons 1 (W a) .fnil))
def Cl.v (c:Cl):V:=.st 42 (.fcons 0 (.int .i64 c.par) (.fcons 1 (W c.pos) (.fcons 2 (dg c.val) (.fcons 34 (.int .i64 c.pl) (.fcons 35 (.int .i64 c.bond) (.fcons 36 (AJ c.us c.at') (.fcons 38 (.bool c.st) (.fcons 39 (.bool c.rs) (.fcons 40 (.bool c.co) (.fcons 41 (.int .i64 c.by') .fnil))))))))))
def Cl.zero:Cl:=⟨0,0#64,Dg.zero,0,0,0#64,0#64,false,false,false,0⟩
def Dc (d:Int) (l g:BitVec 64) (s:Dg):V:=.st 35 (.fcons 0 (.int .i64 d) (.fcons 1 (AJ l g) (.fcons 3 (dg s) .fnil)))
abbrev er (n:Int):V:=.ifc 74 (.int .i64 n)
theorem Mq {M:Seat} (ok:OkGN M) (d:Int):Af M 120 [.int .i64 d] [] 0 (Q3 (W (if d < 0 then 0#64 else BitVec.ofInt 64 d + 1#64)) [] 0):=by
 refine Ab ok.k120 rfl fun x hx=>?_
 by_cases h:d < 0
 all_goals
  simp only [h,C2]
  refine es 2000 ?_;(simp only [Anj,Aj7,h,LZ,seval])
  exact Ap.mkZ hx [] ⟨rfl,rfl,rfl⟩
def stZ:V:=.st 116 (.fcons 0 (dg Dg.zero) (.fcons 32 (.st 19 (.fcons 0 (.ar 1 16 fun _=>W 0#64) (.fcons 16 (W 0#64) (.fcons 17 (.bool false) (.fcons 18 (W 0#64) .fnil))))) (.fcons 51 .nils (.fcons 52 (.ar 1 64 fun _=>B 0#8) .fnil))))
variable {M:Seat}
structure OkLd (M:Seat):Prop where
 k222:Av M 222 Amg=true
 k223:Av M 223 Ao8=true
 k250:Av M 250 Ah9=true
 k258:Av M 258 An8=true
 k355:Av M 355 Aoy=true
def BM (b:Nat→BitVec 64) (i o:BitVec 64) (bs:V) (k:BitVec 64):V:=.st 12 (.fcons 0 (.ar 1 8 fun j=>W (b j)) (.fcons 8 (W i) (.fcons 9 (W o) (.fcons 10 bs (.fcons 11 (W k) .fnil)))))
theorem Ot (ok:OkLd M):Af M 222 [] [] 0 (Q3 (.ptr 0 []) [(0,BM (fun _=>0#64) 0#64 0#64 .nils 0#64)] 1):=by
 refine Ab ok.k222 rfl fun x hx=>?_
 refine es 2000 ?_;(simp only [Amg,Aln,LZ,seval])
 refine Ap.mk hx [32] [] (.ptr 0 []) [(0,BM (fun _=>0#64) 0#64 0#64 .nils 0#64)] 1 Aj (by (simp only [DS,BM,seval])) (by simp only [LV,BM,LY,seval]) (by simp only [BM,LY,seval]) ⟨rfl,rfl,rfl⟩
theorem KB (ok:OkLd M) (p:Nat) (hp:p < 8):Af M 258 [.ptr 0 [],.int .i64 p] [] 1 (Q3 .nili [] 1):=by
 refine Ab ok.k258 rfl fun x hx=>?_
 have e0:((p:Int) < 0)=False:=eq_false Aa
 have e1:((8:Int)≤(p:Int))=False:=eq_false Aa
 refine es 2000 ?_;(simp only [An8,Ake,e0,e1,LZ,seval])
 exact Ap.mkZ hx [0] ⟨rfl,rfl,rfl⟩
theorem QM (ok:OkLd M) (b:Nat→BitVec 64) (i o:BitVec 64) (k:BitVec 64) (p:Nat) (hp:p < 8) (v:BitVec 64) (h1:¬ 281474976710656#64 < v) (h2:¬ 281474976710656#64 < i + v) :
 Af M 223 [.ptr 0 [],.int .i64 p,W v] [(0,BM b i o .nils k)] 1 (Q3 .nili [(0,BM (fun j=>if j=p then b p + v else b j) (i + v) o .nils k)] 1):=by
 refine Ab ok.k223 rfl fun x hx=>?_
 have e0:((p:Int) < 0)=False:=eq_false Aa
 have e1:((p:Int) < 8)=True:=eq_true Aa
 have e2:(0≤(p:Int))=True:=eq_true Aa
 refine es 2000 ?_;(simp only [Ao8,Anq,BM,LZ,seval])
 refine UE [0] [] (KB ok p hp) (by constructor <;> (try simp only [LY,seval]) <;> exact q1) (by simp only [LX]) ?_
 (simp only [BM,h1,h2,e0,e1,e2,LZ,seval])
 repeat refine sd ?_
 refine Ap.mk hx [0] [] .nili [(0,BM (fun j=>if j=p then b p + v else b j) (i + v) o .nils k)] 1 Aj (by (simp only [DS,BM,seval])) (by simp only [LV,BM,LY,seval]) ?_ ⟨rfl,rfl,rfl⟩
 simp only [BM,LY,seval]
 intro j hj
 by_cases h:j=p <;> simp only [h,C2,LY,seval]
def Eo (v:BitVec 64) (g:Bool):V:=.st 2 (.fcons 0 (W v) (.fcons 1 (.bool g) .fnil))
theorem Mx (ok:OkLd M) (b:Nat→BitVec 64) (i o:BitVec 64) (bs:V) (n:Nat) (hbs:(bs = .nils∧n=1) ∨ ∃ m,bs = .sl 1 [] 0 m 2∧n=2) (k:BitVec 64) (p:Nat) (hp:p < 8) (v:BitVec 64) (h1:¬ b p < v) :
 Af M 355 [.ptr 0 [],.int .i64 p,W v] [(0,BM b i o bs k)] n (Q3 .nili [(0,BM (fun j=>if j=p then b p - v else b j) i o bs k)] n):=by
 refine Ab ok.k355 rfl fun x hx=>?_
 have e0:((p:Int) < 0)=False:=eq_false Aa
 have e1:((p:Int) < 8)=True:=eq_true Aa
 have e2:(0≤(p:Int))=True:=eq_true Aa
 rcases hbs with ⟨rfl,rfl⟩ | ⟨m,rfl,rfl⟩
 all_goals
  refine es 2000 ?_;(simp only [Aoy,Ao0,BM,LZ,seval])
  refine UE [0] [] (KB ok p hp) (by constructor <;> (try simp only [LY,seval]) <;> exact q1) (by simp only [LX]) ?_
  (simp only [BM,h1,e0,e1,e2,LZ,seval])
  repeat refine sd ?_
 ·refine Ap.mk hx [0] [] .nili [(0,BM (fun j=>if j=p then b p - v else b j) i o .nils k)] 1 Aj (by (simp only [DS,BM,seval])) (by simp only [LV,BM,LY,seval]) ?_ ⟨rfl,rfl,rfl⟩
  simp only [BM,LY,seval]
  intro j hj
  by_cases h:j=p <;> simp only [h,C2,LY,seval]
 ·refine Ap.mk hx [0,1] [] .nili [(0,BM (fun j=>if j=p then b p - v else b j) i o (.sl 1 [] 0 m 2) k)] 2 Aj (by (simp only [DS,BM,seval])) (by simp only [LV,BM,LY,seval]) ?_ ⟨rfl,rfl,rfl⟩
  simp only [BM,LY,seval]
  intro j hj
  by_cases h:j=p <;> simp only [h,C2,LY,seval]
theorem RP (ok:OkLd M) (b:Nat→BitVec 64) (i o:BitVec 64) (k:BitVec 64) (p:Nat) (hp:p < 8) (v:BitVec 64) (h1:¬ b p < v) :
 Af M 250 [.ptr 0 [],.int .i64 p,W v] [(0,BM b i o .nils k)] 1 (Q3 (Ah (.int .i64 0) .nili) [(0,BM (fun j=>if j=p then b p - v else b j) i o (.sl 1 [] 0 1 2) (k + v)),(1,.ar 2 1 fun _=>Eo v false)] 2):=by
 refine Ab ok.k250 rfl fun x hx=>?_
 have z0:IntKind.i64.wrap 0=0:=rfl
 refine es 2000 ?_;(simp only [Ah9,Af1,BM,LZ,seval])
 have zz:=@BM.eq_1;refine Zg [0] [0] (Mx ok b i o .nils 1 (.inl ⟨rfl,rfl⟩) k p hp v h1) ?_
 (simp only [BM,z0,LZ,seval])
 refine Ap.mk hx [0,369] [] (Ah (.int .i64 0) .nili) [(0,BM (fun j=>if j=p then b p - v else b j) i o (.sl 1 [] 0 1 2) (k + v)),(1,.ar 2 1 fun _=>Eo v false)] 2 Aj (by (simp only [DS,BM,seval])) (by simp only [LV,BM,Ah,LY,seval]) ?_ ⟨rfl,rfl,rfl⟩
 simp only [BM,Eo,LY,seval]
 intro j hj
 obtain rfl:j=0:=Aa
 simp only [if_true,LY,seval]
theorem Rr (ok:OkLd M) (b:Nat→BitVec 64) (i o:BitVec 64) (k:BitVec 64) (p:Nat) (hp:p < 8) (v:BitVec 64) (h1:¬ b p < v) (m:Nat) (hm:m < 1000) (f:Nat→V) (hf:∀ j,∃ u g,f j=Eo u g) :
 Af M 250 [.ptr 0 [],.int .i64 p,W v] [(0,BM b i o (.sl 1 [] 0 m 2) k),(1,.ar 2 m f)] 2 (Q3 (Ah (.int .i64 m) .nili) [(0,BM (fun j=>if j=p then b p - v else b j) i o (.sl 2 [] 0 (m + 1) 2) (k + v)),(2,.ar 2 (m + 1) fun j=>if j < m then f j else Eo v false)] 3):=by
 refine Ab ok.k250 rfl fun x hx=>?_
 have z0:IntKind.i64.wrap ((m + 1:Nat) - 1:Int)=(m:Int):=Bw
 have z1:((65536:Int)≤(m:Int))=False:=eq_false Aa
 refine es 2000 ?_;(simp only [Ah9,Af1,BM,LZ,seval])
 have zz:=@BM.eq_1;refine Zg [0,1] [0] (Mx ok b i o (.sl 1 [] 0 m 2) 2 (.inr ⟨m,rfl,rfl⟩) k p hp v h1) ?_
 (simp only [BM,z0,z1,LZ,seval])
 repeat refine sd ?_
 refine Ap.mk hx [0,1,370] [] (Ah (.int .i64 m) .nili) [(0,BM (fun j=>if j=p then b p - v else b j) i o (.sl 2 [] 0 (m + 1) 2) (k + v)),(2,.ar 2 (m + 1) fun j=>if j < m then f j else Eo v false)] 3 Aj (by (simp only [DS,BM,seval])) (by simp only [LV,BM,Ah,LY,seval]) ?_ ⟨rfl,rfl,rfl⟩
 simp only [BM,Eo,LY,seval]
 intro j hj
 by_cases h:j < m
 ·obtain ⟨u,g,e⟩:=hf j
  rw [if_pos h,if_pos h,e];simp only [Eo,LY,seval]
 ·rw [if_neg h,if_neg h,if_pos Aa];simp only [LY,seval]
def VV (v:BitVec 64):Nat→BitVec 64
 | 0=>0#64
 | n + 1=>VV v n + v
def Jm (v:BitVec 64) (n j:Nat):BitVec 64:=if j < n then v else 0#64
structure OkPo (M:Seat):Prop where
 p:OkP M
 k130:Av M 130 Ae0=true
 k131:Av M 131 Amr=true
 k132:Av M 132 Al6=true
 k260:Av M 260 Al9=true
theorem IB {M:Seat} (ok:OkPo M):Af M 130 [W 1#64] [] 0 (Q3 (CI (.int .i64 0) (W 0#64) .nili) [] 0):=by
 have h:=GI ok.p 1#64
 rw [show CZ 1#64=1 by decide] at h
 refine Ab ok.k130 rfl fun x hx=>?_
 have z0:IntKind.i64.wrap 0=0:=rfl
 refine es 2000 ?_;(simp only [Ae0,Ael,LZ,seval])
 refine Ai (h) ?_
 (simp only [z0,Lbp,seval])
 have zz:=@CI.eq_1;exact Bz hx [] ⟨rfl,rfl,rfl⟩
def Akr:LC:=(sr [mU 4 0,mn 5] (sr [mt 10 0,kl 11 130 [(.t 10)],mt 9 11,ee 12 9 0,ee 13 9 1,ee 14 9 2,mt 6 12,mt 7 13,mt 8 14] (.seq (.block 0 (sr [mt 16 8,A1 17 (.eq true true (.iface [74]) (.t 16) (.c .nili)),mt 15 17] (.cond (.t 15) (sr [mt 18 8,
  mU 4 0,mt 5 18] .ret) (sr [mt 20 1,mt 21 6,ak 22 .lss 20 21,mt 23 22,mg 24 23 false 1,A2 25 23 false (.ari .gtr (.t 24) (cI 24)),
  DG 26 23 25,mt 19 26] (.cond (.t 19) (sr [A1 27 (.mkif 74 (cI 2)),
  mU 4 0,mt 5 27] .ret) .skip))))) (sr [mt 28 7,
  aU 29 .add 28 1,mt 30 1,mt 31 6,ak 32 .sub 30 31,ak 33 .shl 29 32,
  aU 34 .sub 33 1,mt 4 34,mn 5] .ret))))
def TY:LF:=⟨Akr,2,0,35,[.tmp 4,.tmp 5]⟩
variable {M:Seat}
def pw (k i:Nat):BitVec 64:=BitVec.ofNat 64 (2 ^ k + i)
theorem p24 {k:Nat} (hk:k≤24):1≤2 ^ k∧2 ^ k≤16777216:=⟨Nat.one_le_two_pow,Nat.pow_le_pow_right Aj hk⟩
theorem NE {k i:Nat} (hk:k≤24) (hi:i < 2 ^ k):(pw k i).toNat=2 ^ k + i:=by
 have:=p24 hk
 rw [pw,BitVec.toNat_ofNat];omega
theorem Pi {k i:Nat} (hk:k≤24) (hi:i < 2 ^ k):CZ (pw k i)=k + 1:=by
 have hn:=NE hk hi
 have hp:=p24 hk
 have h0:pw k i ≠ 0#64:=by
  intro h
  rw [h] at hn
  simp at hn
  omega
 obtain ⟨hl,hr⟩:=Kg (pw k i)
 obtain ⟨h1,h2,h3⟩:=hr h0
 rw [hn] at h2 h3
 have e:2 ^ (k + 1)=2 * 2 ^ k:=by rw [Nat.pow_succ];omega
 rcases Nat.lt_trichotomy (CZ (pw k i)) (k + 1) with h | h | h
 ·have:=Nat.pow_le_pow_right (n:=2) Aj (show CZ (pw k i)≤k by omega)
  omega
 ·exact h
 ·have:=Nat.pow_le_pow_right (n:=2) Aj (show k + 1≤CZ (pw k i) - 1 by omega)
  omega
theorem sh1 (k:Nat):1#64 <<< k=BitVec.ofNat 64 (2 ^ k):=by
 apply BitVec.eq_of_toNat_eq
 rw [BitVec.toNat_shiftLeft,BitVec.toNat_ofNat,BitVec.toNat_ofNat,Nat.shiftLeft_eq]
 simp
theorem Air {k i:Nat} (hk:k≤24) (hi:i < 2 ^ k):pw k i - 1#64 <<< k=BitVec.ofNat 64 i:=by
 have hp:=p24 hk
 rw [sh1]
 apply BitVec.eq_of_toNat_eq
 rw [BitVec.toNat_sub,NE hk hi,BitVec.toNat_ofNat,BitVec.toNat_ofNat]
 omega
theorem Db (ok:OkPo M) {k i:Nat} (hk:k≤24) (hi:i < 2 ^ k):Af M 130 [W (pw k i)] [] 0 (Q3 (CI (.int .i64 k) (W (BitVec.ofNat 64 i)) .nili) [] 0):=by
 have h:=GI ok.p (pw k i)
 have hn:=NE hk hi
 have hp:=p24 hk
 rw [Pi hk hi] at h
 refine Ab ok.k130 rfl fun x hx=>?_
 have e0:(pw k i=0#64)=False:=eq_false fun h=>by rw [h] at hn;simp at hn;omega
 have e1:(33554432#64≤pw k i)=False:=eq_false fun h=>by rw [BitVec.le_def,hn] at h;simp at h;omega
 have z0:IntKind.i64.wrap (((k + 1:Nat):Int) - 1)=(k:Int):=Bw
 have z1:0≤(k:Int):=Aa
 refine es 2000 ?_;(simp only [Ae0,Ael,e0,e1,LZ,seval])
 refine Ai (h) ?_
 (simp only [z0,z1,Air hk hi,LZ,seval])
 have zz:=@CI.eq_1;exact Bz hx [] ⟨rfl,rfl,rfl⟩
theorem M8 (ok:OkPo M) {k i:Nat} (hk:k≤24) (hi:i < 2 ^ k):Af M 260 [.int .i64 k,W (BitVec.ofNat 64 i)] [] 0 (Q3 (Ah (W (pw k i)) .nili) [] 0):=by
 have hp:=p24 hk
 refine Ab ok.k260 rfl fun x hx=>?_
 have e0:((k:Int) < 0)=False:=eq_false Aa
 have e1:(24 < (k:Int))=False:=eq_false Aa
 have z1:0≤(k:Int):=Aa
 have e2:(1#64 <<< k≤BitVec.ofNat 64 i)=False:=eq_false fun h=>by
  rw [sh1,BitVec.le_def,BitVec.toNat_ofNat,BitVec.toNat_ofNat] at h
  omega
 have e3:1#64 <<< k + BitVec.ofNat 64 i=pw k i:=by
  rw [sh1,pw,BitVec.ofNat_add]
 refine es 2000 ?_;(simp only [Al9,Akg,e0,e1,e2,z1,LZ,seval])
 have zz:=Bc @Ah.eq_1 e3;exact Bz hx [] ⟨rfl,rfl,rfl⟩
theorem Ad4 (i:Nat):2#64 * BitVec.ofNat 64 i=BitVec.ofNat 64 (2 * i):=by rw [BitVec.ofNat_mul]
theorem Agp (i:Nat):BitVec.ofNat 64 (2 * i) + 2#64=BitVec.ofNat 64 (2 * i + 2):=by rw [BitVec.ofNat_add]
theorem IV (ok:OkPo M) {k i:Nat} (hk:k < 24) (hi:i < 2 ^ k):Af M 131 [W (pw k i)] [] 0 (Q3 (Ah (W (pw (k + 1) (2 * i))) .nili) [] 0):=by
 have hM:=M8 ok (k:=k + 1) (i:=2 * i) Aa (by rw [Nat.pow_succ];omega)
 refine Ab ok.k131 rfl fun x hx=>?_
 have z1:IntKind.i64.wrap ((k:Int) + 1)=((k + 1:Nat):Int):=Bw
 refine es 2000 ?_;(simp only [Amr,Aj8,LZ,seval])
 refine Ai (Db ok (Nat.le_of_lt hk) hi) ?_
 (simp only [CI,z1,Ad4,LZ,seval])
 refine Ai (hM) ?_
 (simp only [BV,seval])
 have zz:=@Ah.eq_1;exact Bz hx [] ⟨rfl,rfl,rfl⟩
theorem OS (ok:OkPo M) {k i:Nat} (hk:k < 24) (hi:i + 1 < 2 ^ k):Af M 132 [W (pw k i)] [] 0 (Q3 (Ah (W (pw (k + 1) (2 * i + 2))) .nili) [] 0):=by
 have hp:=p24 (Nat.le_of_lt hk)
 have hM:=M8 ok (k:=k + 1) (i:=2 * i + 2) Aa (by rw [Nat.pow_succ];omega)
 refine Ab ok.k132 rfl fun x hx=>?_
 have e0:((k:Int)=24)=False:=eq_false Aa
 have z1:0≤(k:Int):=Aa
 have z2:IntKind.i64.wrap ((k:Int) + 1)=((k + 1:Nat):Int):=Bw
 have e1:(BitVec.ofNat 64 i=1#64 <<< k - 1#64)=False:=eq_false (by
  rw [sh1]
  intro h
  have h:=congrArg BitVec.toNat h
  rw [BitVec.toNat_sub,BitVec.toNat_ofNat,BitVec.toNat_ofNat] at h
  simp at h
  omega)
 refine es 2000 ?_;(simp only [Al6,Aof,LZ,seval])
 refine Ai (Db ok (Nat.le_of_lt hk) (show i < 2 ^ k by omega)) ?_
 (simp only [CI,e0,z1,e1,z2,Ad4,Agp,LZ,seval])
 refine Ai (hM) ?_
 (simp only [BV,seval])
 have zz:=@Ah.eq_1;exact Bz hx [] ⟨rfl,rfl,rfl⟩
def trI (D k i:Nat):Nat:=(i + 1) * 2 ^ (D - k) - 1
theorem Fg (ok:OkPo M) (k359:Av M 359 TY=true) {D k i:Nat} (hD:D≤24) (hk:k≤D) (hi:i < 2 ^ k):Af M 359 [W (pw k i),.int .i64 D] [] 0 (Q3 (Ah (W (BitVec.ofNat 64 (trI D k i))) .nili) [] 0):=by
 refine Ab k359 rfl fun x hx=>?_
 have hp:=p24 hD
 have hq:=p24 (show D - k≤24 by omega)
 have e0:((D:Int) < (k:Int))=False:=eq_false Aa
 have e1:(24 < (D:Int))=False:=eq_false Aa
 have z2:IntKind.i64.wrap ((D:Int) - (k:Int))=((D - k:Nat):Int):=Bw
 have z1:0≤((D - k:Nat):Int):=Aa
 have e3:(BitVec.ofNat 64 i + 1#64) <<< (D - k) - 1#64=BitVec.ofNat 64 (trI D k i):=by
  have h2:2 ^ D=2 ^ k * 2 ^ (D - k):=VX
  have h3:(i + 1) * 2 ^ (D - k)≤2 ^ k * 2 ^ (D - k):=Nat.mul_le_mul_right _ hi
  have h4:1 * 2 ^ (D - k)≤(i + 1) * 2 ^ (D - k):=Nat.mul_le_mul_right _ Aa
  have h5:i < 16777216:=by have:=(p24 (show k≤24 by omega)).2;omega
  apply BitVec.eq_of_toNat_eq
  rw [BitVec.toNat_sub,BitVec.toNat_shiftLeft,BitVec.toNat_add,BitVec.toNat_ofNat,BitVec.toNat_ofNat,Nat.shiftLeft_eq,trI]
  rw [show (i % 2 ^ 64 + 1 % 2 ^ 64) % 2 ^ 64=i + 1 by omega,BitVec.toNat_ofNat]
  omega
 refine es 2000 ?_;(simp only [TY,Akr,LZ,seval])
 refine Ai (Db ok (show k≤24 by omega) hi) ?_
 (simp only [CI,e0,e1,z2,z1,e3,LZ,seval])
 have zz:=@Ah.eq_1;exact Bz hx [] ⟨rfl,rfl,rfl⟩
structure OkLe (M:Seat):Prop where
 l:OkLd M
structure OkGm (M:Seat):Prop where
 n:OkGN M
 l:OkLd M
 p:OkPo M
 k249:Av M 249 Ane=true
 k248:Av M 248 Amn=true
 k350:Av M 350 Ad9=true
 k354:Av M 354 Ahn=true
def C4 (d:Int) (l g:BitVec 64) (s:Dg) (ld cs:V):V:=.st 37 (.fcons 0 (Dc d l g s) (.fcons 35 ld (.fcons 36 cs .fnil)))
theorem RA {M:Seat} (ok:OkGm M) (c:Int):Af M 248 [.int .i64 c,.nili] [] 0 (Q3 .nili [] 0):=by
 refine Ab ok.k248 rfl fun x hx=>?_
 refine es 2000 ?_;(simp only [Amn,Ajy,LZ,seval])
 exact Ap.mkZ hx [] ⟨rfl,rfl,rfl⟩
def Ahc (max:Bool) (x y z w:V) (H:Hp):Out:=match x,y,z,w with
 | .int k a,.int k1 b,.int k2 c,.int k3 d=>⟨k=k1∧k=k2∧k=k3,.int k (RD max (RD max (RD max a b) c) d),H⟩
 | _,_,_,_=>BR H
theorem Ab1 (A:List V) (H:Hp) (n:Nat) (max:Bool) (x y z w:X):Ae A H n (.mm4 max x y z w)=Ahc max (x.ev A) (y.ev A) (z.ev A) (w.ev A) H:=rfl
def mxW (a b:BitVec 64):BitVec 64:=if a < b then b else a
theorem Alq (a b:BitVec 64):RD true (a.toNat:Int) (b.toNat:Int)=((mxW a b).toNat:Int):=by
 unfold RD mxW
 simp only [if_true,BitVec.lt_def]
 by_cases h:a.toNat < b.toNat
 ·rw [if_pos h,if_pos Aa]
 ·rw [if_neg h,if_neg Aa]
theorem Aet (a b c d:BitVec 64) (H:Hp):Ahc true (W a) (W b) (W c) (W d) H=⟨True,W (mxW (mxW (mxW a b) c) d),H⟩:=by
 simp only [W,Ahc,Alq,and_self]
structure OkMv (M:Seat):Prop where
 g:OkGm M
 k351:Av M 351 Amf=true
 k352:Av M 352 YQ=true
 k353:Av M 353 Ajz=true
 k452:Av M 452 Aj1=true
 k453:Av M 453 Alk=true
 k487:Av M 487 Amh=true
 k247:Av M 247 Any=true
 fn352:GL M 352
theorem Aou {M:Seat} {f:Nat} {v w:V} {us:List V} {H:Hp} {n:Nat} {K:V→Hp→Prop} (hf:GL M f) (hv:(v.solid && !v.isAgg)=true) (hw:(w.solid && !w.isAgg)=true) (h:AT M f (us ++ [v,w]) H n K):ED M (.fn f (.st 2 (.fcons 0 v (.fcons 1 w .fnil)))) us H n K:=by
 refine .inl ⟨⟨hf,?_⟩,h⟩
 simp [V.fhas,V.fget,List.range_succ] at hv hw ⊢
 exact ⟨hv,hw⟩
variable {M:Seat}
def Rck (l g:BitVec 64):Prop:=¬ l < 1#64∧¬ 1099511627776#64 < l∧¬ l < g
def spE (u a b n:BitVec 64):Prop:=n < a ∨ 1099511627776#64 < mxW (mxW (mxW u a) b) n
def mnW (a b:BitVec 64):BitVec 64:=if a < b then a else b
theorem Am2 (a b:BitVec 64) (H:Hp):vmm false (W a) (W b) H=⟨True,W (mnW a b),H⟩:=by
 have:vmm false (W a) (W b) H=⟨IntKind.u64=IntKind.u64,.int .u64 (RD false (a.toNat:Int) (b.toNat:Int)),H⟩:=rfl
 rw [this]
 have h:RD false (a.toNat:Int) (b.toNat:Int)=((mnW a b).toNat:Int):=by
  unfold RD mnW
  simp only [SG,BitVec.lt_def]
  repeat' split
  all_goals omega
 rw [h];simp [W]
structure OkCl (M:Seat):Prop where
 v:OkMv M
theorem Ja (ok:OkMv M) (l g:BitVec 64) (h:Rck l g):Af M 249 [AJ l g] [] 0 (Q3 .nili [] 0):=by
 obtain ⟨h1,h2,h3⟩:=h
 refine Ab ok.g.k249 rfl fun x hx=>?_
 refine es 2000 ?_;(simp only [Ane,Ak2,AJ,h1,h2,h3,LZ,seval])
 exact Ap.mkZ hx [] ⟨rfl,rfl,rfl⟩
theorem Oz (ok:OkMv M) (u a b n:BitVec 64) (h:¬ spE u a b n):Af M 487 [AJ u a,W b,W n] [] 0 (Q3 (Ah (W (b + n - a)) .nili) [] 0):=by
 obtain ⟨h1,h2⟩:=not_or.1 h
 refine Ab ok.k487 rfl fun x hx=>?_
 refine es 2000 ?_;(simp only [Amh,Aoc,AJ,Ab1,Aet,h1,h2,LZ,seval])
 have zz:=@Ah.eq_1;exact Bz hx [] ⟨rfl,rfl,rfl⟩
theorem PC (ok:OkMv M) (l g u a b n:BitVec 64) (hc:Rck l g) (h:¬ spE u a b n):Af M 453 [AJ l g,AJ u a,W b,W n] [] 0 (Q3 (Ah (W (b + n - a)) .nili) [] 0):=by
 refine Ab ok.k453 rfl fun x hx=>?_
 refine es 2000 ?_;(simp only [Alk,Anv,AJ,LZ,seval])
 have zz:=@AJ.eq_1;refine CV (Ja ok l g hc) ?_
 (simp only [LZ,seval])
 have zz:=@AJ.eq_1;refine CV (Oz ok u a b n h) ?_
 (simp only [BV,seval])
 have zz:=@Ah.eq_1;exact Bz hx [] ⟨rfl,rfl,rfl⟩
theorem Sq (ok:OkMv M) (l g u a b n:BitVec 64) (hc:Rck l g) (h:¬ spE u a b n) (hl:¬ l≤b + n - a):Af M 353 [AJ l g,AJ u a,W b,W n] [] 0 (Q3 (Ah (AJ (mnW (b + n - a) (l - g)) n) .nili) [] 0):=by
 refine Ab ok.k353 rfl fun x hx=>?_
 refine es 2000 ?_;(simp only [Ajz,Ajo,AJ,LZ,seval])
 have zz:=@AJ.eq_1;refine CV (PC ok l g u a b n hc h) ?_
 (simp only [BV,hl,Am2,seval])
 have zz:=Bc @Ah.eq_1 @AJ.eq_1;exact Bz hx [] ⟨rfl,rfl,rfl⟩
def Dj (n:Nat) (c:Nat→Cl):V:=.ar 42 n fun j=>(c j).v
theorem QL {M:Seat} (ok:OkGm M) (d:Int) (l g:BitVec 64) (s:Dg) (n:Nat) (c:Nat→Cl) (a:Nat) (ha:a < n) (hr:(c a).rs=false) :
 Af M 246 [.ptr 0 [],.int .i64 a] [(0,C4 d l g s (.ptr 2 []) (.sl 1 [] 0 n 42)),(1,Dj n c)] 3 (Q3 (Ah (c a).v .nili) [(0,C4 d l g s (.ptr 2 []) (.sl 1 [] 0 n 42)),(1,Dj n c)] 3):=by
 have d0:((a:Int) < 0)=False:=eq_false Aa
 have d1:((n:Int)≤(a:Int))=False:=eq_false Aa
 have d2:((a:Int) < (n:Int))=True:=eq_true Aa
 have d3:(0≤(a:Int))=True:=eq_true Aa
 refine Ab ok.n.k246 rfl fun x hx=>?_
 refine es 2000 ?_;(simp only [Ajt,Amp,C4,Dc,AJ,Dj,Cl.v,hr,d0,d1,d2,d3,LZ,seval])
 repeat refine sd ?_
 have zz:=Bc @Ah.eq_1 @dg.eq_1;exact Bz hx [0,1,2] ⟨rfl,rfl,rfl⟩
def Vz (c:Nat→Cl) (q:Cl):BitVec 64:=if q.par < 0 then 0#64 else (c q.par.toNat).us
theorem Nx {M:Seat} (ok:OkGm M) (d:Int) (l g:BitVec 64) (s:Dg) (n:Nat) (c:Nat→Cl) (q:Cl) (hq:q.par < 0 ∨ ∃ p:Nat,q.par=p∧p < n) :
 Af M 354 [.ptr 0 [],q.v] [(0,C4 d l g s (.ptr 2 []) (.sl 1 [] 0 n 42)),(1,Dj n c)] 3 (Q3 (W (Vz c q)) [(0,C4 d l g s (.ptr 2 []) (.sl 1 [] 0 n 42)),(1,Dj n c)] 3):=by
 unfold Vz
 refine Ab ok.k354 rfl fun x hx=>?_
 rcases hq with h0 | ⟨p,hp,hn⟩
 ·rw [if_pos h0]
  refine es 2000 ?_;(simp only [Ahn,Ai5,C4,Dc,AJ,Dj,Cl.v,h0,LZ,seval])
  have zz:=@dg.eq_1;exact Bz hx [0,1,2] ⟨rfl,rfl,rfl⟩
 ·have d0:((p:Int) < 0)=False:=eq_false Aa
  have d2:((p:Int) < (n:Int))=True:=eq_true Aa
  have d3:(0≤(p:Int))=True:=eq_true Aa
  rw [hp,if_neg Aa,Int.toNat_natCast]
  refine es 2000 ?_;(simp only [Ahn,Ai5,C4,Dc,AJ,Dj,Cl.v,hp,d0,d2,d3,LZ,seval])
  repeat refine sd ?_
  have zz:=@dg.eq_1;exact Bz hx [0,1,2] ⟨rfl,rfl,rfl⟩
variable {M:Seat}
theorem NU (ok:OkGm M) (D:Nat) (l g:BitVec 64) (s:Dg) (n:Nat) (q:Cl) (k i:Nat) (hk:k≤20) (hi:i < 2 ^ k) (hq:q.pos=pw k i) (hD:¬ D≤k) :
 Af M 350 [.ptr 0 [],q.v,.bool false] [(0,C4 D l g s (.ptr 2 []) (.sl 1 [] 0 n 42))] 3 (Q3 (CI (W (pw (k + 1) (2 * i))) (.int .i64 ((k + 1:Nat):Int)) .nili) [(0,C4 D l g s (.ptr 2 []) (.sl 1 [] 0 n 42))] 3):=by
 refine Ab ok.k350 rfl fun x hx=>?_
 have d0:((D:Int)≤(k:Int))=False:=eq_false Aa
 have z1:IntKind.i64.wrap ((k:Int) + 1)=((k + 1:Nat):Int):=Bw
 refine es 2000 ?_;(simp only [Ad9,Ah7,C4,Dc,AJ,Cl.v,hq,LZ,seval])
 refine Ai (Db ok.p (show k≤24 by omega) hi) ?_
 (simp only [CI,d0,LZ,seval])
 refine Ai (IV ok.p (show k < 24 by omega) hi) ?_
 (simp only [BV,z1,seval])
 have zz:=Bc @CI.eq_1 @dg.eq_1;exact Bz hx [0,1,2] ⟨rfl,rfl,rfl⟩
theorem Nm (ok:OkGm M) (D:Nat) (l g:BitVec 64) (s:Dg) (n:Nat) (q:Cl) (k i:Nat) (hk:k≤20) (hi:i + 1 < 2 ^ k) (hq:q.pos=pw k i) (hD:¬ D≤k) :
 Af M 350 [.ptr 0 [],q.v,.bool true] [(0,C4 D l g s (.ptr 2 []) (.sl 1 [] 0 n 42))] 3 (Q3 (CI (W (pw (k + 1) (2 * i + 2))) (.int .i64 ((k + 1:Nat):Int)) .nili) [(0,C4 D l g s (.ptr 2 []) (.sl 1 [] 0 n 42))] 3):=by
 refine Ab ok.k350 rfl fun x hx=>?_
 have d0:((D:Int)≤(k:Int))=False:=eq_false Aa
 have z1:IntKind.i64.wrap ((k:Int) + 1)=((k + 1:Nat):Int):=Bw
 have hi':i < 2 ^ k:=Aa
 refine es 2000 ?_;(simp only [Ad9,Ah7,C4,Dc,AJ,Cl.v,hq,LZ,seval])
 refine Ai (Db ok.p (show k≤24 by omega) hi') ?_
 (simp only [CI,d0,LZ,seval])
 refine Ai (IV ok.p (show k < 24 by omega) hi') ?_
 (simp only [BV,seval])
 refine Ai (OS ok.p (show k < 24 by omega) hi) ?_
 (simp only [BV,z1,seval])
 have zz:=Bc @CI.eq_1 @dg.eq_1;exact Bz hx [0,1,2] ⟨rfl,rfl,rfl⟩
def Xl (X:Cl) (q:BitVec 64) (y:Cl):Prop:=y.par=X.par∧y.pos=q∧y.val=X.val
instance (X:Cl) (q:BitVec 64) (y:Cl):Decidable (Xl X q y):=by unfold Xl;infer_instance
theorem QQ (ok:OkMv M) (y X:Cl) (q:BitVec 64):Af M 352 [y.v,.imm X.v,.imm (W q)] [] 0 (Q3 (.bool (decide (Xl X q y))) [] 0):=by
 refine Ab ok.k352 rfl fun x hx=>?_
 by_cases h1:y.par=X.par
 ·by_cases h2:y.pos=q
  ·by_cases h3:y.val=X.val
   ·have e:decide (Xl X q y)=true:=decide_eq_true ⟨h1,h2,h3⟩
    rw [e]
    refine es 2000 ?_;(simp only [YQ,Yz,Cl.v,AJ,h1,h2,h3,LZ,seval])
    exact Ap.mkZ hx [] ⟨rfl,rfl,rfl⟩
   ·have e:decide (Xl X q y)=false:=decide_eq_false fun h=>h3 h.2.2
    rw [e]
    refine es 2000 ?_;(simp only [YQ,Yz,Cl.v,AJ,h1,h2,h3,LZ,seval])
    exact Ap.mkZ hx [] ⟨rfl,rfl,rfl⟩
  ·have e:decide (Xl X q y)=false:=decide_eq_false fun h=>h2 h.2.1
   rw [e]
   refine es 2000 ?_;(simp only [YQ,Yz,Cl.v,AJ,h1,h2,LZ,seval])
   exact Ap.mkZ hx [] ⟨rfl,rfl,rfl⟩
 ·have e:decide (Xl X q y)=false:=decide_eq_false fun h=>h1 h.1
  rw [e]
  refine es 2000 ?_;(simp only [YQ,Yz,Cl.v,AJ,h1,LZ,seval])
  exact Ap.mkZ hx [] ⟨rfl,rfl,rfl⟩
theorem On (ok:OkMv M) (n:Nat) (hn:n < 1000) (c:Nat→Cl) (X:Cl) (q:BitVec 64) (hno:∀ j,j < n→¬ Xl X q (c j)) :
 Af M 452 [.lst 42 n (fun j=>(c j).v),.fn 352 (.st 2 (.fcons 0 (.imm X.v) (.fcons 1 (.imm (W q)) .fnil)))] [] 0 (Q3 (.int .i64 (-1)) [] 0):=by
 refine Ab ok.k452 rfl fun x hx=>?_
 refine es 2000 ?_;(simp only [Aj1,Amv,LZ,seval])
 refine An (σ:=Nat) (fun i=>i≤n) (fun i=>fr 19 [(8,.int .i64 i),(7,.int .i64 n),(1,.fn 352 (.st 2 (.fcons 0 (.imm X.v) (.fcons 1 (.imm (W q)) .fnil)))),(0,.lst 42 n fun j=>(c j).v)]) (fun _=>[]) (fun _=>0) (fun i=>n - i) 0 Aa ?_ ?_
 ·refine Ak.fr [] [] hx AQ Aj ?_ ?_
  all_goals simp only [Int.natCast_zero,Cl.v,AJ,dg,implies_true,LY,seval]
 ·intro i hi
  refine es 2000 ?_
  by_cases h0:i=n
  ·subst h0
   have d0:((i:Int) < (i:Int))=False:=eq_false Aa
   (simp only [d0,LZ,seval])
   exact Ap.mkZ hx [] ⟨rfl,rfl,rfl⟩
  ·have d0:((i:Int) < (n:Int))=True:=eq_true Aa
   have d2:(0≤(i:Int))=True:=eq_true Aa
   have hS:=QQ ok (c i) X q
   rw [decide_eq_false (hno i Aa)] at hS
   have z0:IntKind.i64.wrap ((i:Int) + 1)=((i + 1:Nat):Int):=Bw
   (simp only [d0,d2,LZ,seval])
   repeat refine sd ?_
   refine Aou ok.fn352 rfl rfl ?_
   have zz:=CC @Cl.v.eq_1 @AJ.eq_1 @dg.eq_1;refine CV (hS) ?_
   (simp only [z0,LZ,seval])
   refine ⟨i + 1,by omega,by omega,?_⟩
   refine Ak.fr [] [] hx AQ Aj ?_ ?_
   all_goals simp only [Cl.v,AJ,dg,implies_true,LY,seval]
theorem Kj (ok:OkMv M) (n:Nat) (hn:n < 1000) (c:Nat→Cl) (X:Cl) (q:BitVec 64) (h:¬ ∃ j,j < n∧Xl X q (c j)) :
 Af M 351 [.lst 42 n (fun j=>(c j).v),.fn 352 (.st 2 (.fcons 0 (.imm X.v) (.fcons 1 (.imm (W q)) .fnil)))] [] 0 (Q3 (.bool false) [] 0):=by
 have h:=On ok n hn c X q (fun j hj hs=>h ⟨j,hj,hs⟩)
 refine Ab ok.k351 rfl fun x hx=>?_
 refine es 2000 ?_;(simp only [Amf,Aoo,LZ,seval])
 have zz:=CC @Cl.v.eq_1 @AJ.eq_1 @dg.eq_1;refine CV (h) ?_
 (simp only [LZ,seval])
 exact Ap.mkZ hx [] ⟨rfl,rfl,rfl⟩
end Mv
