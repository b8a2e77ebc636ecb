/- A part. -/
import Derived.Test.YtlfkjfonpacelaaGreatDoorFO
import Derived.Test.YtlfkjfonpacelaaGreatDoorChecked
import Derived.WalkKit
import Derived.LaidEql
import Derived.Stop.Asserts
import Derived.RowKitTokens
import Derived.Carry
import Derived.Lib.LaidTab
import Derived.Deep.SlicePairs
import Derived.Test.YtlfkjfonpacelaaGreatDoorRows
import Derived.KernelRfl
set_option linter.all false
set_option maxRecDepth 200000
set_option maxHeartbeats 16000000
namespace Mv
open Go
theorem Ax3:toN (d1 1#8)=Lj 8 (fun k=>if k=0 then 1 else 0) 32:=I5 8 32 (fun k hk=>by
 rw [d1,Dg.at_mk' _ _ hk]
 split <;> rfl)
theorem Awd:Nat.beq (Av5 (1 <<< 120)) (Lj 8 (fun k=>if k=0 then 1 else 0) 32)=false:=by kernel_rfl
theorem Aw3:¬ I3.com=d1 1#8:=by
 intro h
 have h2:=Awd
 rw [← Av3,← Ax3,h,Nat.beq_refl] at h2
 cases h2
def hg0:Gs:=Gs.new 1 10#64 0#64 EJ.com I3.com 0 0#64 (DD 50#64 8) (HK 50#64 8) 0#64 0#64
def hg1:Gs:=hg0.mT 0 false (d1 1#8) 1 2#64 1#64
theorem Awk:Ia 1#64=0:=Am
theorem Awm:Wt 1#64=0:=Am
theorem Axa:hg0.mE 0 false (d1 1#8) 1 2#64 1#64=none:=by
 unfold Gs.mE
 rw [if_neg Am,if_neg Am]
 rw [show (hg0.c (0:Int).toNat).pos=1#64 from rfl,Awk,Awm]
 unfold Zs
 rw [if_neg Am,if_neg Am,if_neg Am,if_neg,if_neg Am,if_neg Am,if_neg Am,if_neg Am,if_neg Am]
 rintro ⟨j,_,h,_⟩
 exact absurd h (by show ¬ (-1:Int)=0;decide)
theorem Axq:(hg1.c 1).pos=2#64:=by
 show Ks (Ia 1#64) (Wt 1#64) false=2#64
 rw [Awk,Awm];decide
theorem hgR:Oa 10#64 0#64:=⟨by decide,by decide,by decide⟩
structure OkHl (M:Seat):Prop where
 j:OkHj M
 f257:EC M 257
 k122:Au M 122 Axp=true
theorem At9 {M:Seat} (ok:OkHl M) (hne:¬ I3.com=EJ.com) (hd1:¬ I3.com=d1 1#8):Ag M 122 [] [] 0 (Q3 (.bool true) [] 0):=by
 have okv:=ok.j.i.v
 have hLd:=Ati ok.j.i
 have hRi:=Att ok.j.i 50#64 Am (by intro n hn;rcases (show n=0 ∨ n=1 ∨ n=2 ∨ n=3 ∨ n=4 ∨ n=5 ∨ n=6 ∨ n=7 by omega) with rfl | rfl | rfl | rfl | rfl | rfl | rfl | rfl <;> decide)
 have hN:=Atk okv.a.r.n EJ.f EJ.g EJ.pc EJ.hl EJ.xt (C7 16).pres 1 Am
 have hS:=Auk okv.a 1
 have hA:=Au8 okv.a (C7 16).pres hL
 have hR:=Atn ok.j.i 1 10#64 EJ.com
 have hG:=O4 okv.g.t.s.v 1 10#64 0#64 EJ.com I3.com 0 0#64 (DD 50#64 8) (HK 50#64 8) 0#64 0#64 Am hgR Am Am Am
 have hAc:=At1 ok.j (C7 16).pres (oK I3.f hL 256) hg0 rfl rfl rfl rfl
 have hMv:=HF okv.g hg0 (FH 10#64 0#64 hgR 1 Am _ _ 0 Am _ _ _ _ _).w 0 false (d1 1#8) 1 2#64 1#64 Axa
 have hAd:=Atz ok.j ok.f257 (C7 16).pres (oK I3.f hL 256) hg1 rfl rfl rfl rfl Axq rfl hd1 rfl rfl rfl rfl
 have hSt:=Tc okv.o.q.okA okv.o.q.ok.toOkS
 simp only [EZ,Zm] at hSt
 generalize (C7 16).pres=pres at *
 have e0:hg0.H=[(0,Ai (1:Nat) 10#64 0#64 EJ.com (.ptr 2 []) (.sl 1 [] 0 1 42)),(1,Ap 1 fun _=>clF I3.com (0:Nat) 0#64),(2,Aq (fun j=>if j=0 then DD 50#64 8 0 - 1#64 else DD 50#64 8 j) (HK 50#64 8) 0#64 (.sl 3 [] 0 1 2) (0#64 + 1#64)),(3,A7 1 (fun _=>1#64) fun _=>false)]:=rfl
 have hL0:([Da EJ.f 0#64]:List Pf).length=1:=rfl
 simp only [show hg0.mT 0 false (d1 1#8) 1 2#64 1#64=hg1 from rfl] at hMv
 generalize oK I3.f hL 256=l1 at *
 generalize hL=l0 at *
 have hpt:pt2=fun j=>if j=0 then I2 0#64 4 5 else I2 1#64 10 11:=funext fun _=>rfl
 rw [hpt] at hA
 rw [e0] at hAc hMv
 unfold hC at hAc hAd
 clear e0
 generalize hg1=G1 at *
 rw [show ((hg0.n:Nat):Int)=1 from rfl] at hMv
 generalize I3.com=C1 at *
 generalize EJ.com=C0 at *
 generalize (fun j=>if j=0 then DD 50#64 8 0 - 1#64 else DD 50#64 8 j)=b0 at *
 generalize DD 50#64 8=b1 at *
 generalize HK 50#64 8=sm at *
 generalize Dp EJ.f 13 0=R0 at *
 generalize [Da EJ.f 0#64]=L0 at *
 simp only [Gs.H,Gs.H2,Ai,Al,Ac,Ap,clF,Cl.v,Aq,A7,A4,hC,kn1,EA,I2,Lv,pt2,Mc.v,Mc.h,EJ,I3,A3,BI,Hd.v,AM,acV,B3] at hLd hRi hN hS hA hR hG hAc hMv hAd
 have hne':(C0=C1)=False:=eq_false fun h=>hne h.symm
 refine Ab ok.k122 rfl fun x hx=>?_
 refine es 2000 ?_;(simp only [Axp,Axh,LZ,seval])
 have zz:=@A3.eq_1;refine Kb (hLd) ?_
 (simp only [EE,seval])
 have zz:=@Aq.eq_1;refine Kb (hRi) ?_
 (simp only [EE,seval])
 have zz:=C4 @Du @RP @J3;refine Kb (hSt) ?_
 (simp only [Iu,EE,seval])
 have zz:=@J3;refine Bw [16,192,193,194,196] [16,192,193] (hN) ?_
 (simp only [NC,kn0,I4,Iu,seval])
 have zz:=@Bj;refine Bw [208,211,209,210,212,213] [208,211,209,212] (hS) ?_
 (simp only [NC,kn0,I4,seval])
 have zz:=C4 @kn0.eq_1 @Bj @J3;refine Bw [208,211,209,210,212,213,214,194,215] [208,211,209,210,212,213,214] (hA) ?_
 (simp only [NC,kn0,I4,Iu,I1,hne',decide_false,seval])
 repeat refine sd ?_
 have zz:=@dg.eq_1;refine G0 (hR) ?_
 (simp only [LZ,seval])
 have zz:=@dg.eq_1;refine omY [48] (hG) ?_
 (simp only [NC,seval])
 refine cnK [1057,1058,48,1056,208,211,544,210,212,213,545,546,214,194,215,547,548] [1057,1058,48,1056,208,211,544,210,212,213,545,546,214,215,547,548] (hAc) (by constructor <;> (try simp only [Bj,Lbx,seval]) <;> first | exact q1 | (intro j hj;rcases (show j=0 ∨ j=1 by omega) with rfl | rfl <;> simp only [Nat.one_ne_zero,CL,LY,seval])) ?_
 (simp only [NC,I4,Iu,I1,seval])
 refine cnK [1057,1058,48,1056] [1057,1058,48,1056] (hMv) (by constructor <;> (try simp only [dg,LY,seval]) <;> first | exact q1 | (intro j hj;rw [d1,Dg.at_mk' _ _ hj];split <;> simp only [LY,seval])) ?_
 (simp only [NC,seval])
 refine cnK [1057,1408,48,1409,208,211,544,210,212,213,545,546,214,194,215,547,548] [1057,1408,48,1409,208,211,544,210,212,213,545,546,214,215,547,548] (hAd) (by constructor <;> (try simp only [Bj,Lbx,seval]) <;> first | exact q1 | (intro j hj;rcases (show j=0 ∨ j=1 by omega) with rfl | rfl <;> simp only [Nat.one_ne_zero,CL,LY,seval])) ?_
 (simp only [Oh,I4,Iu,I1,seval])
 exact Ar.mkZ hx [] ⟨rfl,rfl,rfl⟩
theorem Ax2:Oa 9#64 0#64:=⟨by decide,by decide,by decide⟩
structure OkHq (M:Seat):Prop where
 l:OkHl M
 k36:Au M 36 f36=true
 is:∀ a b:Int,Ag M 63 [.ifc 74 (.int .i64 a),.ifc 74 (.int .i64 b)] [] 0 (Q3 (.bool (decide (a=b))) [] 0)
theorem Atp {M:Seat} (ok:OkHq M) (hne:¬ I3.com=EJ.com) (hd1:¬ I3.com=d1 1#8) (d:Int) (i:BitVec 64) (c:Int):Ag M 36 [.int .i64 d,W i,.int .i64 c] [] 0 (Q3 (.bool true) [] 0):=by
 have okj:=ok.l.j
 have oki:=okj.i
 have okv:=oki.v
 have hF:=At9 ok.l hne hd1
 have hLd:=Ati oki
 have hRi:=Att oki 9#64 Am (by intro n hn;rcases (show n=0 ∨ n=1 ∨ n=2 ∨ n=3 ∨ n=4 ∨ n=5 ∨ n=6 ∨ n=7 by omega) with rfl | rfl | rfl | rfl | rfl | rfl | rfl | rfl <;> decide)
 have hSt:=Tc okv.o.q.okA okv.o.q.ok.toOkS
 have hNm:=Auv oki d
 have hNs:=Auz oki d
 have hS:=Ats oki
 have hA:=Auh oki i
 have hP:=Atq oki i
 have hN:=Atk okv.a.r.n EJ.f EJ.g EJ.pc EJ.hl EJ.xt (C7 16).pres 2 Am
 have hR:=Atn oki 3 9#64 Dg.zero
 have hG:=O4 okv.g.t.s.v 3 9#64 0#64 Dg.zero Dg.zero 0 0#64 (DD 9#64 8) (HK 9#64 8) 0#64 0#64 Am Ax2 Am Am Am
 have hRm:=Auj oki c
 have hRs:=Auo oki c
 have hAm:=Aty oki
 have hAc:=At6 oki _ 0 0#64 rfl
 have hRD:=Aut oki 3 9#64 0#64 Dg.zero 1 1 2 B5 c
 have hAD:=Atw oki 3 9#64 0#64 Dg.zero 1 1 2 B5
 have zq:V.ar 1 32 (fun _=>B 0#8)=dg Dg.zero:=by simp only [dg,Dg.at_zero];rfl
 simp only [EZ,Zm] at hSt
 generalize (C7 16).pres=pres at *
 generalize (fun j=>if j=0 then DD 9#64 8 0 - 1#64 else DD 9#64 8 j)=b0 at *
 generalize DD 9#64 8=b1 at *
 generalize HK 9#64 8=sm at *
 simp only [Ai,Al,Ac,Ap,clF,Cl.v,Aq,A7,A4,EA,I2,Lv,Mc.v,EJ,A3,stZ] at hLd hRi hN hP hR hG hRD hAD hAc
 refine Ab ok.k36 rfl fun x hx=>?_
 refine es 2000 ?_;(simp only [f36,c36,LZ,seval])
 have zz:=@A3.eq_1;refine Kb (hLd) ?_
 (simp only [EE,seval])
 have zz:=C4 @Du @RP @J3;refine Kb (hSt) ?_
 (simp only [Iu,EE,seval])
 refine Ak (hF) ?_
 (simp only [LZ,seval])
 refine cnK [48] [] (hNm) (by constructor <;> (try simp only [LY,seval]) <;> exact q1) ?_
 (simp only [AH,seval])
 refine cnK [32] [] (hNs) (by constructor <;> (try simp only [LY,seval]) <;> exact q1) ?_
 (simp only [AH,seval])
 have zz:=@dg.eq_1;refine Ce (hS) ?_
 (simp only [AH,seval])
 have zz:=@dg.eq_1;refine Ce (hA) ?_
 (simp only [AH,seval])
 have zz:=@dg.eq_1;refine Ce (hP) ?_
 (simp only [AH,seval])
 have zz:=@Aq.eq_1;refine Kb (hRi) ?_
 (simp only [EE,seval])
 have zz:=@J3;refine Bw [32,48,49,50,52] [32,48,49] (hN) ?_
 (simp only [NC,kn0,I4,Iu,seval])
 have zz:=@dg.eq_1;refine Ce (hR) ?_
 (simp only [zq,LZ,seval])
 have zz:=@dg.eq_1;refine SM [928] (hG) ?_
 (simp only [NC,seval])
 refine cnK [992] [] (hRm) (by constructor <;> (try simp only [LY,seval]) <;> exact q1) ?_
 (simp only [AH,seval])
 refine cnK [1313] [] (hRs) (by constructor <;> (try simp only [LY,seval]) <;> exact q1) ?_
 (simp only [AH,seval])
 refine cnK [992] [] (hAm) (by constructor <;> (try simp only [LY,seval]) <;> exact q1) ?_
 (simp only [AH,seval])
 have zz:=@dg.eq_1;refine Ce (hAc) ?_
 (simp only [LZ,seval])
 refine An (σ:=Nat) (fun i=>i≤9) (fun i=>fr 201 [(0,.int .i64 d),(2,.int .i64 c),(8,.ptr 0 []),(9,.ptr 1 []),(21,.ptr 5 []),(22,.nili),(23,.ptr 9 []),(131,.sl 12 [] 0 9 1),(132,.int .i64 9),(133,.int .i64 i)]) (fun _=>[(0,A3 (fun _=>0#64) (fun _=>0#64) 0#64 false 0#64),(1,Lv 2 3 4),(2,BR Bk Pr.zero pres),(5,EA (.sl 6 [] 0 1 3) 2 (.map 7) (.map 8)),(9,Ai 3 9#64 0#64 Dg.zero (.ptr 10 []) (.sl 11 [] 0 1 42)),(12,.ar 1 9 fun _=>er 1)]) (fun _=>13) (fun i=>9 - i) 0 Aa ?_ ?_
 ·refine Ao.fr [32,48,49,50,52,992,993,994,995,1313,928,1314,1936] [] hx AQ Am ?_ ?_
  ·simp only [Int.natCast_zero,LY,seval]
  ·simp only [er,A3,Lv,EA,Ai,Al,Ac,dg,Fz,seval]
   intro j hj
   have:j=0 ∨ j=1 ∨ j=2 ∨ j=3 ∨ j=4 ∨ j=5 ∨ j=6 ∨ j=7 ∨ j=8:=Aa
   rcases this with rfl | rfl | rfl | rfl | rfl | rfl | rfl | rfl | rfl <;> simp only [LY,seval]
 ·intro j hj
  refine es 2000 ?_
  by_cases h9:j=9
  ·subst h9
   have d0:(((9:Nat):Int) < 9)=False:=eq_false Aa
   (simp only [d0,Zt,Lv,EA,Ai,Al,Ac,er,seval])
   have zz:=@dg.eq_1;refine Bw [9,11,10,5,6,7,8] [9,5] (hRD) ?_
   (simp only [AH,seval])
   have zz:=@dg.eq_1;refine Bw [9,11,10,5,6,7,8] [9,5] (hAD) ?_
   (simp only [AH,seval])
   by_cases hd:d < 1 ∨ 20 < d
   ·have hE:=Auw okv.a.r.n EJ.f EJ.g EJ.pc EJ.hl EJ.xt pres d hd
    refine cnK [0,1] [] (hE) (by constructor <;> (try simp only [LY,seval]) <;> exact q1) ?_
    by_cases h1:d < 1
    all_goals
     have h2:(20 < d) = ¬ d < 1:=DI
     (simp only [AH,h1,h2,not_true_eq_false,not_false_eq_true,seval])
     refine Ak (ok.is 3 3) ?_
     (simp only [decide_true,LZ,seval])
     refine Ak (ok.is 3 3) ?_
     (simp only [decide_true,LZ,seval])
     refine Ak (ok.is 2 2) ?_
     (simp only [decide_true,LZ,seval])
     exact Ar.mkZ hx [] ⟨rfl,rfl,rfl⟩
   ·have hE:=Atk okv.a.r.n EJ.f EJ.g EJ.pc EJ.hl EJ.xt pres d Aa
    have h1:(d < 1)=False:=eq_false Aa
    have h2:(20 < d)=False:=eq_false Aa
    simp only [EA,I2,Lv,EJ,A3] at hE
    have zz:=@J3;refine Bw [0,1,2,3,4] [0,1,2] (hE) ?_
    (simp only [NC,h1,h2,kn0,I4,Iu,seval])
    refine Ak (ok.is 3 3) ?_
    (simp only [decide_true,LZ,seval])
    refine Ak (ok.is 3 3) ?_
    (simp only [decide_true,LZ,seval])
    exact Ar.mkZ hx [] ⟨rfl,rfl,rfl⟩
  ·have d0:((j:Int) < 9)=True:=eq_true Aa
   have d1:(j < 9)=True:=eq_true Aa
   have w0:IntKind.i64.wrap ((j:Int) + 1)=((j + 1:Nat):Int):=AZ
   (simp only [d0,d1,er,Zt,Lv,EA,Ai,Al,Ac,seval])
   repeat refine sd ?_
   refine Ak (ok.is 1 1) ?_
   (simp only [w0,decide_true,LZ,seval])
   refine ⟨j + 1,by omega,by omega,?_⟩
   refine Ao.fr [0,1,2,3,4,5,6,7,8,9,10,11,12] [] hx AQ Am ?_ ?_
   ·simp only [LY,seval]
   ·simp only [er,A3,Lv,EA,Ai,Al,Ac,dg,Fz,seval]
end Mv
namespace Go.Proofs.YtlfkjfonpacelaaGreatDoor
open Go Go.RowKit Go.Extern.Stop Go.Stop Go.Extern
theorem isTypeOf (v:Value) (w:World):(Extern.ReflectliteType.typeOf #[.iface 68 v]).run Tryz.prog w = .ok (.iface 219 (.agg #[.pointer (some ⟨6,68,none⟩)])) w:=by kernel_rfl
def cmpM : Array Value → Sem Value := Extern.ReflectliteType.method fun t => do Extern.Rtype.noPackHeld "Comparable" t; pure (.bool (← typeInfo t).comparable)
theorem isComparable (w:World):(cmpM #[.agg #[.pointer (some ⟨6,68,none⟩)]]).run Tryz.prog w = .ok (.bool true) w:=by kernel_rfl
theorem isMethod (v : Value) (w : World) : (Go.method 468 219 v "Comparable").run Tryz.prog w = .ok (184, v) w := by kernel_rfl
theorem noIs (v:Value) (xT:TypeId) (w:World):(Instr.typeAssert (.iface 68 v) xT 221 true).run Tryz.prog w = .ok (.tuple #[.nilIface,.bool false]) w:=run_typeAssert_lacksB Tryz.underlying221 (by kernel_rfl) (by kernel_rfl) v xT w
theorem noUnwrap (v:Value) (xT:TypeId) (w:World):(Instr.typeAssert (.iface 68 v) xT 224 true).run Tryz.prog w = .ok (.tuple #[.nilIface,.bool false]) w:=run_typeAssert_lacksB Tryz.underlying224 (by kernel_rfl) (by kernel_rfl) v xT w
theorem noUnwraps (v:Value) (xT:TypeId) (w:World):(Instr.typeAssert (.iface 68 v) xT 226 true).run Tryz.prog w = .ok (.tuple #[.nilIface,.bool false]) w:=run_typeAssert_lacksB Tryz.underlying226 (by kernel_rfl) (by kernel_rfl) v xT w
theorem isComp:(Tryz.prog.info? 68).map (·.comparable)=some true:=by kernel_rfl
theorem eql_errno (a b:Int) (w:World):(binOp .eql 30 (.iface 68 (.int .i64 a)) (.iface 68 (.int .i64 b))).run Tryz.prog w = .ok (.bool (decide (a=b))) w:=by
 obtain ⟨i,hi,hcmp⟩:=Option.map_eq_some_iff.1 isComp
 have h1:∀ d:Nat,(Op.equalIn (d + 1) 68 (.int .i64 a) (.int .i64 b)).run Tryz.prog w = .ok (decide (a=b)) w:=fun d=>by
  simp only [Op.equalIn,Sem.run_bind,run_underlying Tryz.underlying68,Result.andThen_ok,if_true,Sem.run_pure]
  congr 1
 have h:∀ d:Nat,(Op.equalIn (d + 2) 30 (.iface 68 (.int .i64 a)) (.iface 68 (.int .i64 b))).run Tryz.prog w = .ok (decide (a=b)) w:=fun d=>by
  have:=h1 d
  simp [Op.equalIn,run_underlying Tryz.underlying30,typeInfo,hi,hcmp] at this ⊢
  exact this
 simp only [binOp]
 simp [Op.equal,Op.maxDepth,h 9998]
theorem is_errno' (a b:Int) (c:Bool) (hc:decide (a=b)=c) (w:World) :
 Calls Tryz.prog 20 #[.iface 68 (.int .i64 a),.iface 68 (.int .i64 b)] w fun e w'=>e = .returned (.bool c)∧w'=w:=by
 have h8:=@run_callFunc_extern Tryz.prog 60 _ Extern.ReflectliteType.typeOf Tryz.func60 (by kernel_rfl) (by kernel_rfl) (by kernel_rfl) (by kernel_rfl)
 have h32:=@run_callFunc_extern Tryz.prog 184 _ cmpM Tryz.func184 (by kernel_rfl) (by kernel_rfl) (by kernel_rfl) (by kernel_rfl)
 have tT:=isTypeOf
 have cT:=isComparable
 have mR:=isMethod
 have nE:=noIs
 have uE:=noUnwrap
 have vE:=noUnwraps
 have heq:=eql_errno a b w
 rw [hc] at heq
 clear hc
 cases c
 ·go_enter Tryz.func20,Tryz.ntmps20
  go_wp2
  refine wp_loop_rounds 1 ?_
  rw [rounds_succ]
  go_wp2
  go_ret
  exact ⟨rfl,rfl⟩
 ·go_enter Tryz.func20,Tryz.ntmps20
  go_wp2
  refine wp_loop_rounds 1 ?_
  rw [rounds_succ]
  go_wp2
  go_ret
  exact ⟨rfl,rfl⟩
end Go.Proofs.YtlfkjfonpacelaaGreatDoor
namespace Mv
open Go
def F1 (M:Seat) (W:World):Env where
 ρ:=fun _=>0
 D:=fun _=>False
 im:=fun b=>∃ cells el fz,W.heap[b]?=some (.cells cells el fz)
 w:=W
 φ:=M.φ
 τ:=M.τ
theorem Inv.start (M:Seat) (W:World) (hg:GS M (F1 M W)):Inv M ⟨F1 M W,fun b=>∃ id,Af [] id=true∧(F1 M W).ρ id=b,0⟩ (F1 M W) [] where
 ev:=⟨rfl,rfl,rfl,Nat.le_refl _,fun _ _ _=>rfl,fun _=>Nat.le_refl _⟩
 blk:=fun id h=>by simp [Af] at h
 inj:=fun i j h=>by simp [Af] at h
 imo:=fun b h=>.inl h
 imb:=fun b h=>h
 rb:=fun id h=>h.elim
 keep:=fun b h=>h
 low:=fun id h=>by simp at h
 gs:=hg
 φ:=rfl
 τ:=rfl
theorem DP {M:Seat} {f:Nat} {us:List V} {vs:Array Value} {Q:V→Hp→Nat→Prop} (hr:Ag M f us [] 0 Q) (W:World) (hg:GS M (F1 M W)) (ha:HN (F1 M W) us vs) :
 Calls M.P (M.φ f) vs W fun en W'=>∃ x v H' k' e',en = .returned x∧RV e' v x∧Q v H' k'∧RowKit.Below W.heap.size W W':=by
 refine (hr (F1 M W) vs (Inv.start M W hg) (fun id _ h=>h) ha).mono ?_
 rintro en W' ⟨x,v,e',H',k',rfl,rfl,hI,hv,_,_,hQ⟩
 refine ⟨x,v,H',k',e',rfl,hv,hQ,hI.ev.os,hI.ev.tape,hI.ev.output,hI.ev.size,fun k hk=>hI.ev.frame k hk ?_⟩
 rintro ⟨id,h,_⟩
 simp [Af] at h
theorem Dk {M:Seat} {W:World} {name:String} {k:IntKind} {zs:List Int} {g:Nat} (h:Lib.TabIs M.P W name k zs) (hg:M.P.globalNamed name=some g) (hpos:0 < zs.length) :
 R (F1 M W) (.imm (.ar 1 zs.length (fun i=>.int k (zs.getD i 0)))) [.pointer (some ⟨g,0,none⟩)]:=by
 have hc:∀ i,i < zs.length→W.cell? ⟨g,i,none⟩=some (.int k (zs.getD i 0)):=fun i hi=>h.cell hg i hi
 have h0:=hc 0 hpos
 simp only [R]
 cases hb:W.heap[g]? with
 | none=>simp [World.cell?,hb] at h0
 | some o =>
   cases o with
   | cells c el fz =>
     have hci:∀ i,i < zs.length→c[i]?=some (.int k (zs.getD i 0)):=fun i hi=>by simpa [World.cell?,hb] using hc i hi
     have hsz:zs.length≤c.size:=by
      have:=hci (zs.length - 1) Aa
      have:=(Array.getElem?_eq_some_iff.1 this).1
      omega
     refine ⟨g,0,c,el,fz,rfl,⟨c,el,fz,hb⟩,hb,by simp only [V.size];omega,by simp [V.size];omega,fun i hi=>⟨⟨rfl,rfl⟩,?_⟩⟩
     simp only [V.size,Nat.mul_one,List.drop_zero]
     have h1:=hci i hi
     have h2:c.toList[i]?=some (.int k (zs.getD i 0)):=by simpa using h1
     apply List.ext_getElem?
     intro j
     cases j with
     | zero=>simp [List.getElem?_take,List.getElem?_drop,hi,h1]
     | succ j=>simp [List.getElem?_take]
   | _=>simp [World.cell?,hb] at h0
end Mv
namespace Go.Proofs.YtlfkjfonpacelaaGreatDoor
open Go Mv
noncomputable def st:Seat where
 P:=Tryz.prog
 φ:=fun i=>match i with | 36=>3 | 49=>26 | 50=>179 | 51=>66 | 55=>65 | 59=>113 | 62=>73 | 63=>20 | 68=>8 | 70=>30 | 71=>28 | 74=>40 | 75=>41 | 77=>83 | 79=>69 | 97=>29 | 110=>45 | 111=>54 | 112=>15 | 114=>59 | 117=>35 | 119=>77 | 120=>52 | 122=>9 | 123=>17 | 124=>18 | 130=>55 | 131=>94 | 132=>95 | 151=>7 | 152=>10 | 153=>11 | 154=>12 | 155=>13 | 156=>14 | 157=>16 | 158=>19 | 167=>27 | 197=>42 | 198=>180 | 199=>98 | 200=>90 | 202=>132 | 207=>112 | 208=>139 | 212=>43 | 213=>44 | 214=>68 | 215=>70 | 216=>71 | 217=>72 | 220=>102 | 222=>48 | 223=>49 | 241=>67 | 246=>87 | 247=>88 | 248=>75 | 249=>50 | 250=>51 | 254=>53 | 255=>56 | 256=>57 | 257=>58 | 258=>63 | 259=>93 | 260=>129 | 274=>46 | 275=>47 | 276=>64 | 277=>145 | 308=>111 | 312=>127 | 315=>84 | 316=>128 | 317=>137 | 318=>138 | 319=>85 | 320=>86 | 321=>103 | 322=>104 | 323=>105 | 324=>106 | 325=>107 | 327=>109 | 328=>110 | 346=>99 | 347=>100 | 348=>101 | 350=>122 | 351=>123 | 352=>124 | 353=>125 | 354=>126 | 355=>91 | 359=>92 | 363=>89 | 417=>150 | 418=>119 | 419=>120 | 420=>121 | 421=>134 | 423=>136 | 448=>133 | 452=>146 | 453=>147 | 462=>154 | 463=>149 | 487=>153 | 595=>176 | 596=>177 | 597=>178 | 598=>198 | 599=>199 | 600=>200 | _=>0
 τ:=fun i=>match i with | 74=>68 | 145=>250 | 394=>249 | 147=>251 | 362=>112 | 422=>167 | 426=>308 | n=>n
 γ:=fun i=>match i with | 1=>3 | 2=>4 | 3=>5 | n=>n
 gl:=[1,2,3]
theorem fn220:EC st 220:=⟨by decide,Tryz.f102,Tryz.func102,by kernel_rfl,by kernel_rfl⟩
theorem fn352:EC st 352:=⟨by decide,Tryz.f124,Tryz.func124,by kernel_rfl,by kernel_rfl⟩
theorem fn257:EC st 257:=⟨by decide,Tryz.f58,Tryz.func58,by kernel_rfl,by kernel_rfl⟩
theorem mth422_0:AG st 422 0 596:=⟨⟨by decide,Tryz.f177,Tryz.func177,by kernel_rfl,by kernel_rfl⟩,fun v w=>by kernel_rfl⟩
theorem mth422_1:AG st 422 1 597:=⟨⟨by decide,Tryz.f178,Tryz.func178,by kernel_rfl,by kernel_rfl⟩,fun v w=>by kernel_rfl⟩
theorem mth422_2:AG st 422 2 595:=⟨⟨by decide,Tryz.f176,Tryz.func176,by kernel_rfl,by kernel_rfl⟩,fun v w=>by kernel_rfl⟩
theorem mth426_0:AG st 426 0 599:=⟨⟨by decide,Tryz.f199,Tryz.func199,by kernel_rfl,by kernel_rfl⟩,fun v w=>by kernel_rfl⟩
theorem mth426_1:AG st 426 1 600:=⟨⟨by decide,Tryz.f200,Tryz.func200,by kernel_rfl,by kernel_rfl⟩,fun v w=>by kernel_rfl⟩
theorem mth426_2:AG st 426 2 598:=⟨⟨by decide,Tryz.f198,Tryz.func198,by kernel_rfl,by kernel_rfl⟩,fun v w=>by kernel_rfl⟩
theorem okM:OkM st:=by constructor <;> kernel_rfl
theorem okHp:OkHp st:=⟨okM,by kernel_rfl,by kernel_rfl⟩
theorem okD:OkD st:=by constructor <;> kernel_rfl
theorem okHo:OkHo st:=⟨okHp,okD,by kernel_rfl⟩
theorem okPr:OkPr st:=⟨by kernel_rfl,by kernel_rfl,by kernel_rfl,by kernel_rfl,by kernel_rfl,mth422_0,mth422_1,mth422_2⟩
theorem okHn:OkHn st:=⟨okHo,okPr,by kernel_rfl⟩
theorem okH:OkH st:=by constructor <;> kernel_rfl
theorem okS:OkS st:=⟨okH,by kernel_rfl,by kernel_rfl,by kernel_rfl,by kernel_rfl,by kernel_rfl⟩
theorem okV:OkV st:=⟨okS,by kernel_rfl,by kernel_rfl,by kernel_rfl,by kernel_rfl,by kernel_rfl,fn220⟩
theorem okHr:OkHr st:=⟨okHn,okV,by kernel_rfl⟩
theorem okHa:OkHa st:=⟨okHr,by kernel_rfl,by kernel_rfl⟩
theorem okI:OkI st:=⟨okV⟩
theorem okW:OkW st:=⟨okI,by kernel_rfl⟩
theorem okO:OkO st:=⟨okW,by kernel_rfl,by kernel_rfl⟩
theorem okP:OkP st:=by constructor <;> kernel_rfl
theorem okNx:OkNx st:=by constructor <;> kernel_rfl
theorem okQ:OkQ st:=⟨okM,okO,okP,okNx⟩
theorem okCk:OkCk st:=⟨mth426_0,mth426_1,mth426_2⟩
theorem okOs:OkOs st:=⟨okQ,okD,okCk,okPr,by kernel_rfl⟩
theorem okGN:OkGN st:=by constructor <;> kernel_rfl
theorem okLd:OkLd st:=by constructor <;> kernel_rfl
theorem okPo:OkPo st:=⟨okP,by kernel_rfl,by kernel_rfl,by kernel_rfl,by kernel_rfl⟩
theorem okGm:OkGm st:=⟨okGN,okLd,okPo,by kernel_rfl,by kernel_rfl,by kernel_rfl,by kernel_rfl⟩
theorem okMv:OkMv st:=⟨okGm,by kernel_rfl,by kernel_rfl,by kernel_rfl,by kernel_rfl,by kernel_rfl,by kernel_rfl,by kernel_rfl,fn352⟩
theorem okCl:OkCl st:=⟨okMv⟩
theorem okLe:OkLe st:=⟨okLd⟩
theorem okGs:OkGs st:=⟨okMv,okCl,okLe,by kernel_rfl⟩
theorem okGt:OkGt st:=⟨okGs⟩
theorem okGr:OkGr st:=⟨okGt⟩
theorem okHv:OkHv st:=⟨okHa,okOs,okGr,by kernel_rfl,by kernel_rfl⟩
theorem okHi:OkHi st:=⟨okHv,by kernel_rfl,by kernel_rfl,by kernel_rfl,by kernel_rfl,by kernel_rfl,by kernel_rfl,by kernel_rfl⟩
theorem okHj:OkHj st:=⟨okHi,by kernel_rfl,by kernel_rfl,by kernel_rfl⟩
theorem okHl:OkHl st:=⟨okHj,fn257,by kernel_rfl⟩
theorem is_runs (a b:Int):Ag st 63 [.ifc 74 (.int .i64 a),.ifc 74 (.int .i64 b)] [] 0 (Q3 (.bool (decide (a=b))) [] 0):=by
 intro e vs hI hD hargs
 obtain ⟨hlen,hargs⟩:=hargs
 have hτ:e.τ 74=68:=by exact (congrFun hI.τ 74).trans rfl
 match vs,hlen with
 | ⟨[v0, v1]⟩, _ =>
   have h0:=hargs 0
   have h1:=hargs 1
   simp [RV,RS,V.isAgg,R,hτ] at h0 h1
   rw [h0.1,h1.1]
   refine (is_errno' a b _ rfl e.w).mono ?_
   rintro en w' ⟨rfl,rfl⟩
   exact ⟨_,.bool _,e,[],0,rfl,rfl,hI,by simp [RV,RS,V.isAgg,R],hD,Nat.le_refl _,rfl,rfl,rfl⟩
theorem okHq:OkHq st:=⟨okHl,by kernel_rfl,is_runs⟩
end Go.Proofs.YtlfkjfonpacelaaGreatDoor
namespace Mv
open Go
end Mv
namespace Mv
open Go Go.ChangeShapes Go.WideShapes
theorem CH {n:Int} (h:(Lit.int .u64 n).wf=true):∃ w:BitVec 64,n=(w.toNat:Int):=by
 have hb:0≤n∧n≤18446744073709551615:=by simpa [Lit.wf,IntKind.min,IntKind.max,IntKind.signed,IntKind.bits] using h
 refine ⟨BitVec.ofNat 64 n.toNat,?_⟩
 rw [BitVec.toNat_ofNat,Nat.mod_eq_of_lt Aa]
 omega
end Mv
namespace Mv
open Go Go.ChangeShapes Go.WideShapes
theorem Av8 {H:Type} {enc:TypeId × Value→H} {M:Seat} {W:World} {t:TypeId} {v:Value} {d:DataW H} {ps:List MemPlace} (ht:M.P.underlying t=some (.int .u64))
 {base:Nat} (hok:Value.okWide M.P W .any base t v) (h:DataW.Trod enc M.P W 0 (fun _=>true) true t v d ps):∃ w:BitVec 64,RV (F1 M W) (Mv.W w) v:=by
 obtain ⟨n,rfl⟩:=okWide_int ht hok
 obtain ⟨m,hm⟩:=h
 obtain ⟨z,e0,_,wz⟩:=DataW.trod_int ht hm
 simp only [Value.cells,EF,Value.int.injEq,true_and] at e0
 subst e0
 obtain ⟨b,rfl⟩:=CH wz
 exact ⟨b,by simp [Mv.W,RV,RS,V.isAgg,R]⟩
theorem Au3 {H:Type} {enc:TypeId × Value→H} {M:Seat} {W:World} {t:TypeId} {k:IntKind} {v:Value} {d:DataW H} {ps:List MemPlace} (ht:M.P.underlying t=some (.int k))
 {base:Nat} (hok:Value.okWide M.P W .any base t v) (h:DataW.Trod enc M.P W 0 (fun _=>true) true t v d ps):∃ n:Int,(Lit.int k n).wf=true∧RV (F1 M W) (.int k n) v:=by
 obtain ⟨n,rfl⟩:=okWide_int ht hok
 obtain ⟨m,hm⟩:=h
 obtain ⟨z,e0,_,wz⟩:=DataW.trod_int ht hm
 simp only [Value.cells,EF,Value.int.injEq,true_and] at e0
 subst e0
 exact ⟨n,wz,by simp [RV,RS,V.isAgg,R]⟩
end Mv
