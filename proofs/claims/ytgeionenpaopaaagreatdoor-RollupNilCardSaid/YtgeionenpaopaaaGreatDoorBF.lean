/- A part. -/
import Derived.Test.YtgeionenpaopaaaGreatDoorBD
import Derived.Test.YtgeionenpaopaaaGreatDoorBE
set_option linter.all false
set_option maxRecDepth 20000
set_option maxHeartbeats 16000000
namespace Mv
open Go
def clN:List Nat:=[399,400,401,402]
def Aws:List (Nat × LF):=[(370,Ayg),(373,Axw),(404,Ay0),(385,Azo),(374,Axt),(371,Ay3),(381,Aww),(394,Azj),(387,Ayv),(384,Axk),(397,Axo),(393,Azs)]
def Azp:List (Nat × LF):=[(372,Azd),(376,Ax2),(377,Ay9),(378,Axf),(379,Axu),(380,Ayj),(382,Awz),(383,Axq),(388,Ax1),(390,Ayk),(391,Ay6),(398,Ayx),(392,Azb),(369,Ay1),(375,Awl),(386,Ax5),(403,Axh)]
def Ayz:List (Nat × LF):=[(389,Azr),(395,Ayq),(396,Ax9),(399,Ax4),(401,Axj),(402,Axe)]
def Ayo:List (Nat × LF):=[(400,Axg)]
def Azq:List (Nat × LF):=[(288,Azc),(289,Azl),(290,Azg),(291,Awu),(292,Ayi),(293,Ay4),(294,Awk),(295,Awi),(296,Axz),(297,Ayr),(299,Axi),(300,Aym),(301,Axl),(302,Awt),(303,Azh),(305,Aza)]
def cn0:Con:=fun _ _=>none
def cn1:Con:=Atd cn0 clN Aws
def cn2:Con:=Atd cn1 clN Azp
def cn3:Con:=Atd cn2 clN Ayz
def cn4:Con:=Atd cn3 clN Ayo
variable {M:Seat}
structure OkCt (M:Seat):Prop where
 k180:Ar M 180 At9=true
 k288:Ar M 288 Azc=true
 k289:Ar M 289 Azl=true
 k290:Ar M 290 Azg=true
 k291:Ar M 291 Awu=true
 k292:Ar M 292 Ayi=true
 k293:Ar M 293 Ay4=true
 k294:Ar M 294 Awk=true
 k295:Ar M 295 Awi=true
 k296:Ar M 296 Axz=true
 k297:Ar M 297 Ayr=true
 k298:Ar M 298 Axn=true
 k299:Ar M 299 Axi=true
 k300:Ar M 300 Aym=true
 k301:Ar M 301 Axl=true
 k302:Ar M 302 Awt=true
 k303:Ar M 303 Azh=true
 k304:Ar M 304 Ay5=true
 k305:Ar M 305 Aza=true
 k369:Ar M 369 Ay1=true
 k370:Ar M 370 Ayg=true
 k371:Ar M 371 Ay3=true
 k372:Ar M 372 Azd=true
 k373:Ar M 373 Axw=true
 k374:Ar M 374 Axt=true
 k375:Ar M 375 Awl=true
 k376:Ar M 376 Ax2=true
 k377:Ar M 377 Ay9=true
 k378:Ar M 378 Axf=true
 k379:Ar M 379 Axu=true
 k380:Ar M 380 Ayj=true
 k381:Ar M 381 Aww=true
 k382:Ar M 382 Awz=true
 k383:Ar M 383 Axq=true
 k384:Ar M 384 Axk=true
 k385:Ar M 385 Azo=true
 k386:Ar M 386 Ax5=true
 k387:Ar M 387 Ayv=true
 k388:Ar M 388 Ax1=true
 k389:Ar M 389 Azr=true
 k390:Ar M 390 Ayk=true
 k391:Ar M 391 Ay6=true
 k392:Ar M 392 Azb=true
 k393:Ar M 393 Azs=true
 k394:Ar M 394 Azj=true
 k395:Ar M 395 Ayq=true
 k396:Ar M 396 Ax9=true
 k397:Ar M 397 Axo=true
 k398:Ar M 398 Ayx=true
 k399:Ar M 399 Ax4=true
 k400:Ar M 400 Axg=true
 k401:Ar M 401 Axj=true
 k402:Ar M 402 Axe=true
 k403:Ar M 403 Axh=true
 k404:Ar M 404 Ay0=true
 fn399:Fs M 399
 fn400:Fs M 400
 fn401:Fs M 401
 fn402:Fs M 402
theorem Lx (ok:OkCt M):BCon M cn3 clN∧BCon M cn4 clN:=by
 have h0:BCon M cn0 clN:=⟨fun f us b e=>(by cases e),fun f hf=>by
  have:f=399 ∨ f=400 ∨ f=401 ∨ f=402:=by simpa [clN] using hf
  rcases this with rfl | rfl | rfl | rfl
  ·exact ok.fn399
  ·exact ok.fn400
  ·exact ok.fn401
  ·exact ok.fn402⟩
 have h1:BCon M cn1 clN:=X2 h0 Aws (by
  simp only [Aws,List.forall_mem_cons]
  exact ⟨ok.k370,ok.k373,ok.k404,ok.k385,ok.k374,ok.k371,ok.k381,ok.k394,ok.k387,ok.k384,ok.k397,ok.k393,fun _ h=>by cases h⟩)
 have h2:BCon M cn2 clN:=X2 h1 Azp (by
  simp only [Azp,List.forall_mem_cons]
  exact ⟨ok.k372,ok.k376,ok.k377,ok.k378,ok.k379,ok.k380,ok.k382,ok.k383,ok.k388,ok.k390,ok.k391,ok.k398,ok.k392,ok.k369,ok.k375,ok.k386,ok.k403,fun _ h=>by cases h⟩)
 have h3:BCon M cn3 clN:=X2 h2 Ayz (by
  simp only [Ayz,List.forall_mem_cons]
  exact ⟨ok.k389,ok.k395,ok.k396,ok.k399,ok.k401,ok.k402,fun _ h=>by cases h⟩)
 exact ⟨h3,X2 h3 Ayo (by
  simp only [Ayo,List.forall_mem_cons]
  exact ⟨ok.k400,fun _ h=>by cases h⟩)⟩
def zx:Ex:=.mk 0 0 []
def nuX (v:BitVec 64):Ex:=.mk 26 v []
def D6 (i:Nat):Ex:=.mk 27 (BitVec.ofNat 64 i) []
def T0 (k:Int) (l:List Ex):Ex:=.mk k 0 l
def fdX (b:Nat) (v:BitVec 64):Ex:=T0 28 [T0 1 [D6 b,nuX v]]
def pfS (b:Nat) (v:BitVec 64) (x:Ex):IrSt:=.mk 2 0 (T0 1 [D6 b,nuX v]) x [] []
theorem Aq9 (ok:OkCt M) (v:BitVec 64):As M 395 [.int .i64 1,W v] [] 0 (Q3 (AE (fdX 1 v)) [] 0):=(Lx ok).1.run 395 [.i 1,.w v] (.x (fdX 1 v)) rfl
theorem Arb (ok:OkCt M) (v:BitVec 64) (x:Ex):As M 396 [.int .i64 0,W v,AE x] [] 0 (Q3 (GN (pfS 0 v x)) [] 0):=(Lx ok).1.run 396 [.i 0,.w v,.x x] (.s (pfS 0 v x)) rfl
end Mv
namespace Mv
open Go
theorem Cx {M:Seat} {f:Nat} {us us0:List V} {H:Hp} {n:Nat} {C:V→Hp→Prop} {v:V} (z:List Nat) (hr:As M f us0 [] 0 (Q3 v [] 0)) (hv:∀ a,v.ren a=v) (hus:Bh H [] z us0 us) (hC:C v (AH H z)):IR M f us H n C :=
 ⟨v,_,Ar4 z hr hv hus ⟨rfl,rfl⟩,hC⟩
def cpF:Fu:=⟨2,2,[pfS 0 0#64 (fdX 1 0#64),pfS 0 1#64 (fdX 1 1#64),pfS 0 2#64 (fdX 1 2#64),pfS 0 3#64 (fdX 1 3#64)]⟩
theorem Aua {M:Seat} (ok:OkCt M):As M 304 [] [] 0 (Q3 (fuV cpF) [] 0):=by
 refine Ac ok.k304 rfl fun x hx=>?_;refine eX ?_;simp only [Ay5,Az9,LZ,seval];refine AJ ?_;refine eX ?_;simp only [LZ,seval];refine Cx [] (Aq9 ok 0#64) (fun a=>A9 a _) (by simp only [LY,seval]) ?_;simp only [Al,An,Am,LZ,seval];refine Cx [] (Arb ok 0#64 (fdX 1 0#64)) (fun a=>SV a _) (by simp only [LY,seval,B6]) ?_;simp only [Aaw,Aea,Aab,LZ,seval];repeat refine sd ?_
 refine AJ ?_;refine eX ?_;simp only [LZ,seval];refine Cx [] (Aq9 ok 1#64) (fun a=>A9 a _) (by simp only [LY,seval]) ?_;simp only [Al,An,Am,LZ,seval];refine Cx [] (Arb ok 1#64 (fdX 1 1#64)) (fun a=>SV a _) (by simp only [LY,seval,B6]) ?_;simp only [Aaw,Aea,Aab,LZ,seval];repeat refine sd ?_
 refine AJ ?_;refine eX ?_;simp only [LZ,seval];refine Cx [] (Aq9 ok 2#64) (fun a=>A9 a _) (by simp only [LY,seval]) ?_;simp only [Al,An,Am,LZ,seval];refine Cx [] (Arb ok 2#64 (fdX 1 2#64)) (fun a=>SV a _) (by simp only [LY,seval,B6]) ?_;simp only [Aaw,Aea,Aab,LZ,seval];repeat refine sd ?_
 refine AJ ?_;refine eX ?_;simp only [LZ,seval];refine Cx [] (Aq9 ok 3#64) (fun a=>A9 a _) (by simp only [LY,seval]) ?_;simp only [Al,An,Am,LZ,seval];refine Cx [] (Arb ok 3#64 (fdX 1 3#64)) (fun a=>SV a _) (by simp only [LY,seval,B6]) ?_;simp only [Aaw,Aea,Aab,LZ,seval];repeat refine sd ?_
 refine AJ ?_;refine eX ?_;simp only [LZ,seval];refine Ay.mk hx [] [1600] (fuV cpF) [] 0 Ab (by simp only [Dz,seval,forall_const]) ?_ trivial ⟨rfl,rfl,rfl⟩;simp only [DK,cpF,fuV,DZ,seval,List.length_cons,List.length_nil];refine ⟨rfl,?_⟩;intro i hi;have:i=0 ∨ i=1 ∨ i=2 ∨ i=3:=Aa;rcases this with rfl | rfl | rfl | rfl <;> exact NG _ _ _ _
variable {M:Seat}
def alA (k:Nat):List Ex:=if k=8 ∨ k=9 then [D6 1,D6 2,D6 3] else if k=21 ∨ k=25 then [D6 1] else [D6 1,D6 2]
def alS (k:Nat):IrSt:=.mk 3 0 (T0 20 [D6 0,nuX (BitVec.ofNat 64 k)]) zx [.mk 5 0 (T0 k (alA k)) zx [] []] []
def alF:Fu:=⟨4,4,(List.range 25).map fun i=>alS (i + 1)⟩
theorem Avz (ok:OkCt M):As M 373 [.int .i64 0] [] 0 (Q3 (AE (D6 0)) [] 0)∧As M 373 [.int .i64 1] [] 0 (Q3 (AE (D6 1)) [] 0) ∧
 As M 373 [.int .i64 2] [] 0 (Q3 (AE (D6 2)) [] 0)∧As M 373 [.int .i64 3] [] 0 (Q3 (AE (D6 3)) [] 0) :=
 ⟨(Lx ok).1.run 373 [.i 0] (.x (D6 0)) rfl,(Lx ok).1.run 373 [.i 1] (.x (D6 1)) rfl,(Lx ok).1.run 373 [.i 2] (.x (D6 2)) rfl,(Lx ok).1.run 373 [.i 3] (.x (D6 3)) rfl⟩
theorem T2 (ok:OkCt M) (v:BitVec 64):As M 370 [W v] [] 0 (Q3 (AE (nuX v)) [] 0):=(Lx ok).1.run 370 [.w v] (.x (nuX v)) rfl
theorem Sx (ok:OkCt M) (a b:Ex):As M 382 [AE a,AE b] [] 0 (Q3 (AE (T0 20 [a,b])) [] 0):=(Lx ok).1.run 382 [.x a,.x b] (.x (T0 20 [a,b])) rfl
theorem R2 (ok:OkCt M) (k:Int) (l:List Ex):As M 404 [.int .i64 k,AF l] [] 0 (Q3 (AE (T0 k l)) [] 0):=(Lx ok).1.run 404 [.i k,.xl l] (.x (T0 k l)) rfl
theorem R1 (ok:OkCt M) (a:Ex):As M 387 [AE a] [] 0 (Q3 (GN (.mk 5 0 a zx [] [])) [] 0):=(Lx ok).1.run 387 [.x a] (.s (.mk 5 0 a zx [] [])) rfl
theorem Rn (ok:OkCt M) (a:Ex) (l:List IrSt):As M 381 [AE a,DZ l] [] 0 (Q3 (GN (.mk 3 0 a zx l [])) [] 0):=(Lx ok).1.run 381 [.x a,.sl l] (.s (.mk 3 0 a zx l [])) rfl
theorem Ly {f:Nat} {us us0:List V} {H:Hp} {n:Nat} {K:V→Hp→Prop} {v:V} (z:List Nat) (hr:As M f us0 [] 0 (Q3 v [] 0)) (hv:∀ a,v.ren a=v) (hus:Bh H [] z us0 us) (hK:K v (AH H z)):Bk M f us H n K:=Ar4 z hr hv hus hK
theorem Arl {H:Hp} {m z:List Nat} {u:V} (k:Nat) (h2:2≤k):∀ i,i < k→Aw H m z (GN (alS (i + 1))) (if i < k - 1 then GN (alS (i + 1)) else if i - (k - 1)=0 then GN (alS k) else u):=by
 intro i hi;by_cases h:i < k - 1
 ·rw [if_pos h];exact NG _ _ _ _
 ·rw [if_neg h,if_pos Aa,show i + 1=k by omega];exact NG _ _ _ _
theorem Auv (ok:OkCt M):As M 298 [] [] 0 (Q3 (fuV alF) [] 0):=by
 obtain ⟨l0,l1,l2,l3⟩:=Avz ok;refine Ac ok.k298 rfl fun x hx=>?_;refine eX ?_;simp only [Axn,A0g,LZ,seval];have tb:Nat.testBit 2048 9=false:=Ab;refine AJ ?_;refine eX ?_;simp only [LZ,seval];refine Ly [] l1 (fun a=>A9 a _) (by simp only [LY,seval]) ?_;simp only [Al,An,Am,LZ,seval];refine Ly [] l2 (fun a=>A9 a _) (by simp only [LY,seval]) ?_;simp only [Al,An,Am,LZ,seval];refine Ly [] l3 (fun a=>A9 a _) (by simp only [LY,seval]) ?_;simp only [Al,An,Am,LZ,seval];refine Cx [] l0 (fun a=>A9 a _) (by simp only [LY,seval]) ?_;simp only [Al,An,Am,LZ,seval];refine Cx [] (T2 ok 1#64) (fun a=>A9 a _) (by simp only [LY,seval]) ?_;simp only [Al,An,Am,LZ,seval];refine Cx [] (Sx ok (D6 0) (nuX 1#64)) (fun a=>A9 a _) (by simp only [LY,seval,B6]) ?_;simp only [Al,An,Am,LZ,seval];refine Cx [160] (R2 ok 1 [D6 1,D6 2]) (fun a=>A9 a _) (by simp only [AF,F7,B6,List.length_cons,List.length_nil,LY,seval];exact ⟨rfl,fun i hi=>by rcases (by omega:i=0 ∨ i=1) with rfl | rfl <;> exact EY _ _ _ _⟩) ?_;simp only [Al,An,Am,LZ,seval];refine Cx [] (R1 ok (T0 1 [D6 1,D6 2])) (fun a=>SV a _) (by simp only [LY,seval,B6]) ?_;simp only [Aaw,Aea,Aab,LZ,seval];refine Cx [528] (Rn ok (T0 20 [D6 0,nuX 1#64]) [.mk 5 0 (T0 1 [D6 1,D6 2]) zx [] []]) (fun a=>SV a _) (by simp only [DZ,Fb,B6,List.length_cons,List.length_nil,LY,seval];exact ⟨rfl,fun i hi=>by rcases (by omega:i=0) with rfl;exact NG _ _ _ _⟩) ?_;simp only [Aaw,Aea,Aab,tb,LZ,seval];have alS1:GN (.mk 3 0 (T0 20 [D6 0,nuX 1#64]) zx [.mk 5 0 (T0 1 [D6 1,D6 2]) zx [] []] [])=GN (alS 1):=rfl;rw [alS1];refine Au (σ:=Nat) (fun k=>2≤k∧k≤26) (fun k=>fr 41 [(0,.ptr 0 []),(1,.ptr 1 []),(2,.int .i64 k)]) (fun k=>[(0,.st 3 (.fcons 0 (.int .i64 0) (.fcons 1 (.int .i64 0) (.fcons 2 .nils .fnil)))),(1,.st 3 (.fcons 0 (.int .i64 4) (.fcons 1 (.int .i64 4) (.fcons 2 (.sl 2 [] 0 (k - 1) 10) .fnil)))),(2,.ar 10 (k - 1) fun i=>GN (alS (i + 1)))]) (fun _=>3) (fun k=>26 - k) 2 ⟨by omega,by omega⟩ ?_ ?_
 ·refine Av.fr [0,32,880] [] hx Bg Ab ?_ ?_
  ·simp only [LY,seval];exact AR Aa
  ·simp only [LY,seval];intro i hi;have:i=0:=Aa;subst this;exact NG _ _ _ _
 intro k hk;obtain ⟨h2,h26⟩:=hk;refine eX ?_;by_cases hq:k=26
 ·subst hq;simp only [LZ,seval];refine Ay.mk hx [] [2] (fuV alF) [] 0 Ab (by simp only [Dz,seval,forall_const]) ?_ trivial ⟨rfl,rfl,rfl⟩;have hl:DZ ((List.range 25).map fun i=>alS (i + 1)) = .lst 10 25 (Fb ((List.range 25).map fun i=>alS (i + 1))):=by
   rw [Bq _ BF];simp
  simp only [DK,alF,fuV,hl,seval];refine ⟨rfl,?_⟩;intro i hi;rw [Jn _ i (by simpa using hi)];simp only [List.getElem_map,List.getElem_range,Nat.zero_add];exact NG _ _ _ _
 have d0:((k:Int)≤25)=True:=eq_true Aa;simp only [d0,LZ,seval];refine Ly [] l1 (fun a=>A9 a _) (by simp only [LY,seval]) ?_;simp only [Al,An,Am,LZ,seval];refine Ly [] l2 (fun a=>A9 a _) (by simp only [LY,seval]) ?_;simp only [Al,An,Am,LZ,seval];refine Ly [] l3 (fun a=>A9 a _) (by simp only [LY,seval]) ?_;simp only [Al,An,Am,LZ,seval];have wk:IntKind.u64.wrap (k:Int)=k:=FE Aa;have wW:BitVec.ofInt 64 (k:Int)=BitVec.ofNat 64 k:=BitVec.ofInt_natCast 64 k;have wi:IntKind.i64.wrap ((k:Int) + 1)=((k + 1:Nat):Int):=B7;have al8:k=8 ∨ k=9 ∨ k=21 ∨ k=25 ∨ (k ≠ 8∧k ≠ 9∧k ≠ 21∧k ≠ 25):=Aa;rcases al8 with h8 | h8 | h8 | h8 | ⟨g8,g9,g21,g25⟩
 ·have e8:((k:Int)=8)=(8=8):=by rw [h8];simp
  have e9:((k:Int)=9)=(8=9):=by rw [h8];simp
  have e21:((k:Int)=21)=(8=21):=by rw [h8];simp
  have e25:((k:Int)=25)=(8=25):=by rw [h8];simp
  have eA:alS k = .mk 3 0 (T0 20 [D6 0,nuX (BitVec.ofNat 64 k)]) zx [.mk 5 0 (T0 k [D6 1,D6 2,D6 3]) zx [] []] []:=by subst h8;rfl
  simp only [e8,e9,e21,e25,LZ,seval];refine Cx [] l0 (fun a=>A9 a _) (by simp only [LY,seval]) ?_;simp only [Al,An,Am,wk,wW,LZ,seval];refine Cx [] (T2 ok (BitVec.ofNat 64 k)) (fun a=>A9 a _) (by simp only [LY,seval]) ?_;simp only [Al,An,Am,LZ,seval];refine Cx [] (Sx ok (D6 0) (nuX (BitVec.ofNat 64 k))) (fun a=>A9 a _) (by simp only [LY,seval,B6]) ?_;simp only [Al,An,Am,LZ,seval];refine Cx [83] (R2 ok k [D6 1,D6 2,D6 3]) (fun a=>A9 a _) (by simp only [AF,F7,B6,List.length_cons,List.length_nil,LY,seval];exact ⟨rfl,fun i hi=>by rcases (by omega:i=0 ∨ i=1 ∨ i=2) with rfl | rfl | rfl <;> exact EY _ _ _ _⟩) ?_;simp only [Al,An,Am,LZ,seval];refine Cx [] (R1 ok (T0 k [D6 1,D6 2,D6 3])) (fun a=>SV a _) (by simp only [LY,seval,B6]) ?_;simp only [Aaw,Aea,Aab,LZ,seval];refine Cx [307] (Rn ok (T0 20 [D6 0,nuX (BitVec.ofNat 64 k)]) [.mk 5 0 (T0 k [D6 1,D6 2,D6 3]) zx [] []]) (fun a=>SV a _) (by simp only [DZ,Fb,B6,List.length_cons,List.length_nil,LY,seval];exact ⟨rfl,fun i hi=>by rcases (by omega:i=0) with rfl;exact NG _ _ _ _⟩) ?_;rw [← eA];simp only [Aaw,Aea,Aab,tb,wi,LZ,seval];refine ⟨by omega,k + 1,by omega,by omega,by omega,?_⟩;have ek:k - 1 + 1=k:=Aa;refine Av.fr [0,1,659] [] hx Bg Ab ?_ ?_
  ·simp only [LY,seval]
  ·simp only [ek,Nat.add_sub_cancel,LY,seval];exact Arl k h2
 ·have e8:((k:Int)=8)=(9=8):=by rw [h8];simp
  have e9:((k:Int)=9)=(9=9):=by rw [h8];simp
  have e21:((k:Int)=21)=(9=21):=by rw [h8];simp
  have e25:((k:Int)=25)=(9=25):=by rw [h8];simp
  have eA:alS k = .mk 3 0 (T0 20 [D6 0,nuX (BitVec.ofNat 64 k)]) zx [.mk 5 0 (T0 k [D6 1,D6 2,D6 3]) zx [] []] []:=by subst h8;rfl
  simp only [e8,e9,e21,e25,LZ,seval];refine Cx [] l0 (fun a=>A9 a _) (by simp only [LY,seval]) ?_;simp only [Al,An,Am,wk,wW,LZ,seval];refine Cx [] (T2 ok (BitVec.ofNat 64 k)) (fun a=>A9 a _) (by simp only [LY,seval]) ?_;simp only [Al,An,Am,LZ,seval];refine Cx [] (Sx ok (D6 0) (nuX (BitVec.ofNat 64 k))) (fun a=>A9 a _) (by simp only [LY,seval,B6]) ?_;simp only [Al,An,Am,LZ,seval];refine Cx [83] (R2 ok k [D6 1,D6 2,D6 3]) (fun a=>A9 a _) (by simp only [AF,F7,B6,List.length_cons,List.length_nil,LY,seval];exact ⟨rfl,fun i hi=>by rcases (by omega:i=0 ∨ i=1 ∨ i=2) with rfl | rfl | rfl <;> exact EY _ _ _ _⟩) ?_;simp only [Al,An,Am,LZ,seval];refine Cx [] (R1 ok (T0 k [D6 1,D6 2,D6 3])) (fun a=>SV a _) (by simp only [LY,seval,B6]) ?_;simp only [Aaw,Aea,Aab,LZ,seval];refine Cx [339] (Rn ok (T0 20 [D6 0,nuX (BitVec.ofNat 64 k)]) [.mk 5 0 (T0 k [D6 1,D6 2,D6 3]) zx [] []]) (fun a=>SV a _) (by simp only [DZ,Fb,B6,List.length_cons,List.length_nil,LY,seval];exact ⟨rfl,fun i hi=>by rcases (by omega:i=0) with rfl;exact NG _ _ _ _⟩) ?_;rw [← eA];simp only [Aaw,Aea,Aab,tb,wi,LZ,seval];refine ⟨by omega,k + 1,by omega,by omega,by omega,?_⟩;have ek:k - 1 + 1=k:=Aa;refine Av.fr [0,1,691] [] hx Bg Ab ?_ ?_
  ·simp only [LY,seval]
  ·simp only [ek,Nat.add_sub_cancel,LY,seval];exact Arl k h2
 ·have e8:((k:Int)=8)=(21=8):=by rw [h8];simp
  have e9:((k:Int)=9)=(21=9):=by rw [h8];simp
  have e21:((k:Int)=21)=(21=21):=by rw [h8];simp
  have e25:((k:Int)=25)=(21=25):=by rw [h8];simp
  have eA:alS k = .mk 3 0 (T0 20 [D6 0,nuX (BitVec.ofNat 64 k)]) zx [.mk 5 0 (T0 k [D6 1]) zx [] []] []:=by subst h8;rfl
  simp only [e8,e9,e21,e25,LZ,seval];refine Cx [] l0 (fun a=>A9 a _) (by simp only [LY,seval]) ?_;simp only [Al,An,Am,wk,wW,LZ,seval];refine Cx [] (T2 ok (BitVec.ofNat 64 k)) (fun a=>A9 a _) (by simp only [LY,seval]) ?_;simp only [Al,An,Am,LZ,seval];refine Cx [] (Sx ok (D6 0) (nuX (BitVec.ofNat 64 k))) (fun a=>A9 a _) (by simp only [LY,seval,B6]) ?_;simp only [Al,An,Am,LZ,seval];refine Cx [83] (R2 ok k [D6 1]) (fun a=>A9 a _) (by simp only [AF,F7,B6,List.length_cons,List.length_nil,LY,seval];exact ⟨rfl,fun i hi=>by rcases (by omega:i=0) with rfl <;> exact EY _ _ _ _⟩) ?_;simp only [Al,An,Am,LZ,seval];refine Cx [] (R1 ok (T0 k [D6 1])) (fun a=>SV a _) (by simp only [LY,seval,B6]) ?_;simp only [Aaw,Aea,Aab,LZ,seval];refine Cx [419] (Rn ok (T0 20 [D6 0,nuX (BitVec.ofNat 64 k)]) [.mk 5 0 (T0 k [D6 1]) zx [] []]) (fun a=>SV a _) (by simp only [DZ,Fb,B6,List.length_cons,List.length_nil,LY,seval];exact ⟨rfl,fun i hi=>by rcases (by omega:i=0) with rfl;exact NG _ _ _ _⟩) ?_;rw [← eA];simp only [Aaw,Aea,Aab,tb,wi,LZ,seval];refine ⟨by omega,k + 1,by omega,by omega,by omega,?_⟩;have ek:k - 1 + 1=k:=Aa;refine Av.fr [0,1,771] [] hx Bg Ab ?_ ?_
  ·simp only [LY,seval]
  ·simp only [ek,Nat.add_sub_cancel,LY,seval];exact Arl k h2
 ·have e8:((k:Int)=8)=(25=8):=by rw [h8];simp
  have e9:((k:Int)=9)=(25=9):=by rw [h8];simp
  have e21:((k:Int)=21)=(25=21):=by rw [h8];simp
  have e25:((k:Int)=25)=(25=25):=by rw [h8];simp
  have eA:alS k = .mk 3 0 (T0 20 [D6 0,nuX (BitVec.ofNat 64 k)]) zx [.mk 5 0 (T0 k [D6 1]) zx [] []] []:=by subst h8;rfl
  simp only [e8,e9,e21,e25,LZ,seval];refine Cx [] l0 (fun a=>A9 a _) (by simp only [LY,seval]) ?_;simp only [Al,An,Am,wk,wW,LZ,seval];refine Cx [] (T2 ok (BitVec.ofNat 64 k)) (fun a=>A9 a _) (by simp only [LY,seval]) ?_;simp only [Al,An,Am,LZ,seval];refine Cx [] (Sx ok (D6 0) (nuX (BitVec.ofNat 64 k))) (fun a=>A9 a _) (by simp only [LY,seval,B6]) ?_;simp only [Al,An,Am,LZ,seval];refine Cx [83] (R2 ok k [D6 1]) (fun a=>A9 a _) (by simp only [AF,F7,B6,List.length_cons,List.length_nil,LY,seval];exact ⟨rfl,fun i hi=>by rcases (by omega:i=0) with rfl <;> exact EY _ _ _ _⟩) ?_;simp only [Al,An,Am,LZ,seval];refine Cx [] (R1 ok (T0 k [D6 1])) (fun a=>SV a _) (by simp only [LY,seval,B6]) ?_;simp only [Aaw,Aea,Aab,LZ,seval];refine Cx [451] (Rn ok (T0 20 [D6 0,nuX (BitVec.ofNat 64 k)]) [.mk 5 0 (T0 k [D6 1]) zx [] []]) (fun a=>SV a _) (by simp only [DZ,Fb,B6,List.length_cons,List.length_nil,LY,seval];exact ⟨rfl,fun i hi=>by rcases (by omega:i=0) with rfl;exact NG _ _ _ _⟩) ?_;rw [← eA];simp only [Aaw,Aea,Aab,tb,wi,LZ,seval];refine ⟨by omega,k + 1,by omega,by omega,by omega,?_⟩;have ek:k - 1 + 1=k:=Aa;refine Av.fr [0,1,803] [] hx Bg Ab ?_ ?_
  ·simp only [LY,seval]
  ·simp only [ek,Nat.add_sub_cancel,LY,seval];exact Arl k h2
 ·have e8:((k:Int)=8)=False:=eq_false Aa;have e9:((k:Int)=9)=False:=eq_false Aa;have e21:((k:Int)=21)=False:=eq_false Aa;have e25:((k:Int)=25)=False:=eq_false Aa;have eA:alS k = .mk 3 0 (T0 20 [D6 0,nuX (BitVec.ofNat 64 k)]) zx [.mk 5 0 (T0 k [D6 1,D6 2]) zx [] []] []:=by
   simp only [alS,alA,g8,g9,g21,g25,or_self,if_false]
  simp only [e8,e9,e21,e25,LZ,seval];refine Cx [] l0 (fun a=>A9 a _) (by simp only [LY,seval]) ?_;simp only [Al,An,Am,wk,wW,LZ,seval];refine Cx [] (T2 ok (BitVec.ofNat 64 k)) (fun a=>A9 a _) (by simp only [LY,seval]) ?_;simp only [Al,An,Am,LZ,seval];refine Cx [] (Sx ok (D6 0) (nuX (BitVec.ofNat 64 k))) (fun a=>A9 a _) (by simp only [LY,seval,B6]) ?_;simp only [Al,An,Am,LZ,seval];refine Cx [83] (R2 ok k [D6 1,D6 2]) (fun a=>A9 a _) (by simp only [AF,F7,B6,List.length_cons,List.length_nil,LY,seval];exact ⟨rfl,fun i hi=>by rcases (by omega:i=0 ∨ i=1) with rfl | rfl <;> exact EY _ _ _ _⟩) ?_;simp only [Al,An,Am,LZ,seval];refine Cx [] (R1 ok (T0 k [D6 1,D6 2])) (fun a=>SV a _) (by simp only [LY,seval,B6]) ?_;simp only [Aaw,Aea,Aab,LZ,seval];refine Cx [451] (Rn ok (T0 20 [D6 0,nuX (BitVec.ofNat 64 k)]) [.mk 5 0 (T0 k [D6 1,D6 2]) zx [] []]) (fun a=>SV a _) (by simp only [DZ,Fb,B6,List.length_cons,List.length_nil,LY,seval];exact ⟨rfl,fun i hi=>by rcases (by omega:i=0) with rfl;exact NG _ _ _ _⟩) ?_;rw [← eA];simp only [Aaw,Aea,Aab,tb,wi,LZ,seval];refine ⟨by omega,k + 1,by omega,by omega,by omega,?_⟩;have ek:k - 1 + 1=k:=Aa;refine Av.fr [0,1,803] [] hx Bg Ab ?_ ?_
  ·simp only [LY,seval]
  ·simp only [ek,Nat.add_sub_cancel,LY,seval];exact Arl k h2
end Mv
namespace Mv
open Go
def cn5:Con:=Atd cn4 clN Azq
def cn6:Con:=fun f us=>if f=304∧us.isEmpty=true then some (.u cpF) else if f=298∧us.isEmpty=true then some (.u alF) else cn5 f us
def ulO:Option BV→List Fu
 | some (.ul l)=>l
 | _=>[]
def A0h:Option BV→Bool
 | some (.ul _)=>true
 | _=>false
def clP:List Fu:=ulO (bF cn6 clN At9 [])
theorem Azt:A0h (bF cn6 clN At9 [])=true:=by decide +kernel
theorem Awf {M:Seat} (ok:OkCt M):BCon M cn6 clN:=by
 have h5:BCon M cn5 clN:=X2 (Lx ok).2 Azq (by
  simp only [Azq,List.forall_mem_cons]
  exact ⟨ok.k288,ok.k289,ok.k290,ok.k291,ok.k292,ok.k293,ok.k294,ok.k295,ok.k296,ok.k297,ok.k299,ok.k300,ok.k301,ok.k302,ok.k303,ok.k305,fun _ h=>by cases h⟩)
 refine ⟨fun f us b e=>?_,h5.fn⟩;unfold cn6 at e;split at e
 ·rename_i h;obtain ⟨rfl,h⟩:=h;have:us=[]:=List.isEmpty_iff.1 h;subst this;cases e;exact Aua ok
 ·split at e
  ·rename_i h;obtain ⟨rfl,h⟩:=h;have:us=[]:=List.isEmpty_iff.1 h;subst this;cases e;exact Auv ok
  ·exact h5.run f us b e
theorem Ar2 {M:Seat} (ok:OkCt M):As M 180 [] [] 0 (Q3 (FC clP) [] 0):=by
 have h:=Azt;have e:bF cn6 clN At9 []=some (.ul clP):=by
  unfold clP;revert h;generalize bF cn6 clN At9 []=X;intro h;unfold A0h at h;split at h
  ·rfl
  ·cases h
 exact Ats (Awf ok) ok.k180 (us:=[]) e
end Mv
