/- A part. -/
import Derived.Test.YtfljfijnobocoaaDoorHR
import Derived.Test.YtfljfijnobocoaaDoorHT
import Derived.Carry
import Derived.Lib.LaidTab
import Derived.Deep.SlicePairs
set_option linter.all false
set_option maxRecDepth 20000
set_option maxHeartbeats 16000000
namespace Mv
open Go
structure OkLw (M:Seat):Prop where
 l:OkLS M
 x:OkX M
 k24:Ar M 24 f24=true
 k101:Ar M 101 Aip=true
 k102:Ar M 102 Ahp=true
 k103:Ar M 103 Ai5=true
 k104:Ar M 104 Agg=true
 fn101:Fs M 101
 fn102:Fs M 102
 fn103:Fs M 103
 fn104:Fs M 104
theorem AV {M:Seat} (ok:OkLw M) (v:BitVec 64):As M 101 [W v] [] 0 (Q3 (AE (cE v)) [] 0):=by
 refine Ac ok.k101 rfl fun x hx=>?_;refine eX ?_;simp only [Aip,Amc,LZ,seval];have zz:=Jr @b8 @b9 @c5;exact DD hx [] ⟨rfl,rfl,rfl⟩
theorem CL {M:Seat} (ok:OkLw M) (j:Nat):As M 102 [W (BitVec.ofNat 64 j)] [] 0 (Q3 (AE (Bc j)) [] 0):=by
 refine Ac ok.k102 rfl fun x hx=>?_;refine eX ?_;simp only [Ahp,Al0,LZ,seval];have zz:=aq4 @Bc.eq_1 @b8 @b9 @c5;exact DD hx [] ⟨rfl,rfl,rfl⟩
theorem BP {M:Seat} (ok:OkLw M) (x y z:Ex):As M 103 [AE x,AE y,AE z] [] 0 (Q3 (AE (CH x y z)) [] 0):=by
 obtain ⟨xo,xn,xa⟩:=x;obtain ⟨yo,yn,ya⟩:=y;obtain ⟨zo,zn,za⟩:=z;refine Ac ok.k103 rfl fun x hx=>?_;refine eX ?_;simp only [Ai5,Apq,AE,AY,AZ,AU,LZ,seval];refine Ay.mk hx [] [112] _ _ _ Ab (by (simp only [Dz,CH,AE,AF,F7,GL,List.length_cons,List.length_nil,seval,Nat.zero_add,bl3,reduceCtorEq])) (by ((try simp only [DK,CH,AE,AF,F7,GL,List.length_cons,List.length_nil,seval,Nat.zero_add,bl3,reduceCtorEq]);first | done | exact True.intro | (intros;rfl))) (by ((try simp only [CH,AE,AF,F7,GL,List.length_cons,List.length_nil,seval,Nat.zero_add,bl3,LY,reduceCtorEq]);first | done | exact True.intro | (intros;rfl))) ⟨rfl,rfl,rfl⟩
variable {M:Seat}
theorem Ek {f:Nat} {us:List V} {H:Hp} {n:Nat} {K:V→Hp→Prop} (hf:Fs M f) (h:Bk M f us H n K):Hz M (.fn f (.st 0 .fnil)) us H n K:=by
 refine .inl ⟨⟨hf,rfl⟩,?_⟩;rw [show us ++ (List.range 0).map (fun i=>V.fnil.fget i)=us by simp];exact h
theorem Cb {f:Nat} {us us0:List V} {H:Hp} {n:Nat} {C:V→Hp→Prop} {r:V} (hf:Fs M f) (hr:As M f us0 [] 0 (fun r' H' k'=>r'=r∧H'=[]∧k'=0)) (hus:Bh H [] (ids H) us0 us) (hv2:r.ren (Bo [] n 0)=r) (hn:AG r) (hC:C r H):XA M (.fn f (.st 0 .fnil)) us H n C :=
 ⟨r,H,Ek hf (HD hr hus hv2 hn ⟨rfl,rfl⟩),hC⟩
theorem Nu (ok:OkLw M) (k:Nat) (h1:1≤k) (h2:k≤25) (a b c:BitVec 64):As M 104 [W a,W b,W c,.imm (.int .i64 k)] [] 0 (Q3 (W (Dn k a b c)) [] 0):=by
 have hR:=Ns ok.x k h1 h2 a b c;generalize Dn k a b c=w at *
 refine Ac ok.k104 rfl fun x hx=>?_;refine eX ?_;simp only [Agg,An7,LZ,seval];refine Ap (hR) ?_;simp only [EM,seval];exact Ay.mkZ hx [] ⟨rfl,rfl,rfl⟩
def V6 (k0:Int):Nat:=1 + (BitVec.ofInt 64 k0 % 25#64).toNat
theorem PL (k0:Int):1≤V6 k0∧V6 k0≤25:=by
 have:(BitVec.ofInt 64 k0 % 25#64).toNat < 25:=Alb;unfold V6;omega
theorem NA (k0:Int):(BitVec.ofInt 64 k0 % 25#64).toInt=(((BitVec.ofInt 64 k0 % 25#64).toNat:Nat):Int):=by
 have:(BitVec.ofInt 64 k0 % 25#64).toNat < 25:=Alb;rw [BitVec.toInt_eq_toNat_cond,if_pos Aa]
theorem JO (k0:Int):IntKind.i64.wrap (1 + (((BitVec.ofInt 64 k0 % 25#64).toNat:Nat):Int))=((V6 k0:Nat):Int):=by
 have:(BitVec.ofInt 64 k0 % 25#64).toNat < 25:=Alb;rw [AR Aa,V6];omega
theorem Hd (ok:OkX M) (k:Nat) (h1:1≤k) (h2:k≤25):As M 89 [.int .i64 k] [] 0 (Q3 (AP (.int .i64 (Ht k)) (.int .i64 0)) [] 0):=by
 refine Ac ok.k89 rfl fun x hx=>?_;have g1:((k:Int) < 1)=False:=eq_false Aa;have g2:((25:Int) < (k:Int))=False:=eq_false Aa;unfold Ht;rcases Classical.propComplete ((k:Int)=8) with h8 | h8 <;> rcases Classical.propComplete ((k:Int)=9) with h9 | h9 <;> rcases Classical.propComplete ((k:Int)=21) with h21 | h21 <;> rcases Classical.propComplete ((k:Int)=25) with h25 | h25;all_goals
  simp only [h8,h9,h21,h25,or_true,true_or,or_self,Dh];refine eX ?_;simp only [f89,c89,g1,g2,h8,h9,h21,h25,LZ,seval];have zz:=@b7;exact DD hx [] ⟨rfl,rfl,rfl⟩
end Mv
namespace Mv
open Go
variable {M:Seat}
theorem H6 {f:Nat} {us us0:List V} {H H0 Hn:Hp} {n k kn:Nat} {C:V→Hp→Prop} {v:V} (hf:Fs M f) (m m0:List Nat) (hr:As M f us0 H0 k (Q3 v Hn kn))
 (h0:((ids H0).all fun id=>match m[id]? with | some i=>m0.contains i | none=>true)=true) (h0m:(m0.all fun i=>m.contains i)=true)
 (hm:(decide m.Nodup && decide (m.length=k) && decide (k≤kn) && decide (kn≤k + 16))=true) (hall:(m.all fun i=>Af H i || (Qq m0 H i || DV us i))=true) (hall0:(m0.all fun i=>Af H i)=true) (hus:Bh H m [] us0 us) (hH:B3 H m [] H0)
 (hC:C (v.ren (AM m n kn)) (Bf (AM m n kn) Hn ++ AH H m0)):XA M (.fn f (.st 0 .fnil)) us H n C :=
 ⟨_,_,Ek hf (SP m m0 hr h0 h0m hm hall hall0 hus hH ⟨rfl,rfl⟩),hC⟩
theorem Aom:lcs 1=[Bc 0]:=rfl
theorem Amp:lcs 2=[Bc 0,Bc 1]:=rfl
theorem Ann:lcs 3=[Bc 0,Bc 1,Bc 2]:=rfl
theorem WW (ok:OkLw M) (k0:Int) (a b c:BitVec 64) (hn:Ht (V6 k0)=1):As M 24 [.int .i64 k0,W a,W b,W c] [] 0 (Q3 (.bool true) [] 0):=by
 have ki:=NA k0;have kw:=JO k0;obtain ⟨h1,h2⟩:=PL k0;refine Ac ok.k24 rfl fun x hx=>?_;generalize V6 k0=k at *
 have hA:=Hd ok.x k h1 h2;rw [hn] at hA;have hF:=Fn ok.l.f;obtain ⟨q1,q2,q3,q4⟩:=Qr ok.l.f.v ok.l.p k h1 h2 a b c;obtain ⟨m,kk,hkk,hr,hh,hx2⟩:=q4 (G7 (Bj (Cc k a b c) (AK (Cc k a b c))).words.length fun i=>(Bj (Cc k a b c) (AK (Cc k a b c))).words.getD i 0#64) (fun i hi=>by unfold G7;rw [if_pos hi]);have hE:=HY ok.l (Cc k a b c) _ (J6 k h1 h2 a b c) q1 q2 q3 m kk Aa hr hh;rw [hx2] at hE;have hT:=fun x y z=>Nu ok k h1 h2 x y z;clear q1 q2 q3 q4 hr hh hx2;generalize Dn k=P at *
 have hp:Cc k a b c=pS k 1 (Ip a b c) (Jb a b c):=by unfold Cc;rw [hn]
 rw [hp] at hE;have eXq:AE (Ip a b c)=AE (CH (RC a b c) (CH (cE a) (RC a b c) (cE c)) (cE b)):=rfl;refine eX ?_;simp only [f24,c24,ki,kw,LZ,seval];refine Ap (hA) ?_;simp only [EM,seval];refine Cb (ok.fn102) (CL ok 0) (by (try simp only [Bc,AE,AF,LY,seval]) <;> exact q1) (by first | rfl | (simp only [LN,LP,V.ren,AP,Cz])) (by simp only [Bc,AE,AF,LX]) ?_;simp only [LZ,seval];refine Cb (ok.fn102) (CL ok 1) (by (try simp only [Bc,AE,AF,LY,seval]) <;> exact q1) (by first | rfl | (simp only [LN,LP,V.ren,AP,Cz])) (by simp only [Bc,AE,AF,LX]) ?_;simp only [LZ,seval];refine Cb (ok.fn102) (CL ok 2) (by (try simp only [Bc,AE,AF,LY,seval]) <;> exact q1) (by first | rfl | (simp only [LN,LP,V.ren,AP,Cz])) (by simp only [Bc,AE,AF,LX]) ?_;simp only [Bc,AE,AF,Al,An,Am,A9,LZ,seval];repeat refine sd ?_
 refine Ek (ok.fn101) ?_;(have zz:=Jr @b8 @b9 @c5;refine IQ (AV ok c) ?_);simp only [Bc,AE,AF,Al,An,Am,A9,LZ,seval];refine Ek (ok.fn101) ?_;(have zz:=Jr @b8 @b9 @c5;refine IQ (AV ok a) ?_);simp only [Bc,AE,AF,Al,An,Am,A9,LZ,seval];refine Ek (ok.fn101) ?_;(have zz:=Jr @b8 @b9 @c5;refine IQ (AV ok b) ?_);simp only [Bc,AE,AF,Al,An,Am,A9,LZ,seval];refine Ek (ok.fn103) ?_;refine cnK [] [] (BP ok (cE c) (cE a) (cE b)) (by constructor <;> (try simp only [AE,AF,B6,LY,seval]) <;> exact q1) ?_;simp only [Bc,AE,AF,Al,An,Am,A9,LZ,seval];refine Cb (ok.fn101) (AV ok a) (by (try simp only [AE,AF,LY,seval]) <;> exact q1) (by first | rfl | (simp only [LN,LP,V.ren,AP,Cz])) (by simp only [AE,AF,LX]) ?_;simp only [Bc,AE,AF,Al,An,Am,A9,LZ,seval];refine Cb (ok.fn101) (AV ok c) (by (try simp only [AE,AF,LY,seval]) <;> exact q1) (by first | rfl | (simp only [LN,LP,V.ren,AP,Cz])) (by simp only [AE,AF,LX]) ?_;simp only [Bc,AE,AF,Al,An,Am,A9,LZ,seval];refine H6 (ok.fn103) [] [] (BP ok (cE a) (CH (cE c) (cE a) (cE b)) (cE c)) DA DA Ab DA DA (by (try simp only [AE,AF,B6,LY,seval]) <;> exact q1) (by (try simp only [AE,AF,B6,LY,seval]) <;> exact q1) ?_;simp only [Bc,AE,AF,Al,An,Am,A9,LZ,seval];refine Cb (ok.fn101) (AV ok b) (by (try simp only [AE,AF,LY,seval]) <;> exact q1) (by first | rfl | (simp only [LN,LP,V.ren,AP,Cz])) (by simp only [AE,AF,LX]) ?_;simp only [Bc,AE,AF,Al,An,Am,A9,LZ,seval];refine H6 (ok.fn103) [] [] (BP ok (CH (cE c) (cE a) (cE b)) (CH (cE a) (CH (cE c) (cE a) (cE b)) (cE c)) (cE b)) DA DA Ab DA DA (by (try simp only [AE,AF,B6,LY,seval]) <;> exact q1) (by (try simp only [AE,AF,B6,LY,seval]) <;> exact q1) ?_;simp only [Bc,AE,AF,Al,An,Am,A9,LZ,seval];refine Cb (ok.fn101) (AV ok b) (by (try simp only [AE,AF,LY,seval]) <;> exact q1) (by first | rfl | (simp only [LN,LP,V.ren,AP,Cz])) (by simp only [AE,AF,LX]) ?_;simp only [Bc,AE,AF,Al,An,Am,A9,LZ,seval];refine Cb (ok.fn101) (AV ok c) (by (try simp only [AE,AF,LY,seval]) <;> exact q1) (by first | rfl | (simp only [LN,LP,V.ren,AP,Cz])) (by simp only [AE,AF,LX]) ?_;simp only [Bc,AE,AF,Al,An,Am,A9,LZ,seval];refine H6 (ok.fn103) [] [] (BP ok (cE b) (cE c) (CH (cE c) (cE a) (cE b))) DA DA Ab DA DA (by (try simp only [AE,AF,B6,LY,seval]) <;> exact q1) (by (try simp only [AE,AF,B6,LY,seval]) <;> exact q1) ?_;simp only [Bc,AE,AF,Al,An,Am,A9,LZ,seval];repeat refine sd ?_
 refine EB (ok.fn104) DA ?_;refine Ap (hT c a b) ?_;simp only [LZ,seval];have zz:=BK (DC @pS.eq_1 @rt.eq_1 @mX.eq_1 @fX.eq_1 @Aom @Bc.eq_1 @Ip.eq_1 @Jb.eq_1 @RC.eq_1 @Ch.eq_1 @FC.eq_1 @FC.eq_2 @BW.eq_1 @BW.eq_2 @BW.eq_3 @fuV.eq_1) (Aq3 @DZ.eq_1 @DZ.eq_2 @Fb.eq_1 @Fb.eq_2 @Fb.eq_3 @GN.eq_1 @b9 @c5 @F7.eq_1 @F7.eq_2 @F7.eq_3 @b8 @List.length_cons.{0} @List.length_nil.{0} @Nat.zero_add @bl1 @bl2 @bl3 @B6 @sex);refine IQ (hE) ?_;simp only [EM,seval];refine Ap (hF) ?_;simp only [LZ,seval];refine EB (ok.fn104) DA ?_;refine Ap (hT a (P c a b) c) ?_;simp only [LZ,seval];refine EB (ok.fn104) DA ?_;refine Ap (hT (P c a b) (P a (P c a b) c) b) ?_;simp only [LZ,seval];refine EB (ok.fn104) DA ?_;refine Ap (hT b c (P c a b)) ?_;simp only [decide_true,LZ,seval];exact Ay.mkZ hx [] ⟨rfl,rfl,rfl⟩
theorem Zx (ok:OkLw M) (k0:Int) (a b c:BitVec 64) (hn:Ht (V6 k0)=2):As M 24 [.int .i64 k0,W a,W b,W c] [] 0 (Q3 (.bool true) [] 0):=by
 have ki:=NA k0;have kw:=JO k0;obtain ⟨h1,h2⟩:=PL k0;refine Ac ok.k24 rfl fun x hx=>?_;generalize V6 k0=k at *
 have hA:=Hd ok.x k h1 h2;rw [hn] at hA;have hF:=Fn ok.l.f;obtain ⟨q1,q2,q3,q4⟩:=Qr ok.l.f.v ok.l.p k h1 h2 a b c;obtain ⟨m,kk,hkk,hr,hh,hx2⟩:=q4 (G7 (Bj (Cc k a b c) (AK (Cc k a b c))).words.length fun i=>(Bj (Cc k a b c) (AK (Cc k a b c))).words.getD i 0#64) (fun i hi=>by unfold G7;rw [if_pos hi]);have hE:=HY ok.l (Cc k a b c) _ (J6 k h1 h2 a b c) q1 q2 q3 m kk Aa hr hh;rw [hx2] at hE;have hT:=fun x y z=>Nu ok k h1 h2 x y z;clear q1 q2 q3 q4 hr hh hx2;generalize Dn k=P at *
 have hp:Cc k a b c=pS k 2 (Ip a b c) (Jb a b c):=by unfold Cc;rw [hn]
 rw [hp] at hE;have eXq:AE (Ip a b c)=AE (CH (RC a b c) (CH (cE a) (RC a b c) (cE c)) (cE b)):=rfl;refine eX ?_;simp only [f24,c24,ki,kw,LZ,seval];refine Ap (hA) ?_;simp only [EM,seval];refine Cb (ok.fn102) (CL ok 0) (by (try simp only [Bc,AE,AF,LY,seval]) <;> exact q1) (by first | rfl | (simp only [LN,LP,V.ren,AP,Cz])) (by simp only [Bc,AE,AF,LX]) ?_;simp only [LZ,seval];refine Cb (ok.fn102) (CL ok 1) (by (try simp only [Bc,AE,AF,LY,seval]) <;> exact q1) (by first | rfl | (simp only [LN,LP,V.ren,AP,Cz])) (by simp only [Bc,AE,AF,LX]) ?_;simp only [LZ,seval];refine Cb (ok.fn102) (CL ok 2) (by (try simp only [Bc,AE,AF,LY,seval]) <;> exact q1) (by first | rfl | (simp only [LN,LP,V.ren,AP,Cz])) (by simp only [Bc,AE,AF,LX]) ?_;simp only [Bc,AE,AF,Al,An,Am,A9,LZ,seval];repeat refine sd ?_
 refine Ek (ok.fn101) ?_;(have zz:=Jr @b8 @b9 @c5;refine IQ (AV ok c) ?_);simp only [Bc,AE,AF,Al,An,Am,A9,LZ,seval];refine Ek (ok.fn101) ?_;(have zz:=Jr @b8 @b9 @c5;refine IQ (AV ok a) ?_);simp only [Bc,AE,AF,Al,An,Am,A9,LZ,seval];refine Ek (ok.fn101) ?_;(have zz:=Jr @b8 @b9 @c5;refine IQ (AV ok b) ?_);simp only [Bc,AE,AF,Al,An,Am,A9,LZ,seval];refine Ek (ok.fn103) ?_;refine cnK [] [] (BP ok (cE c) (cE a) (cE b)) (by constructor <;> (try simp only [AE,AF,B6,LY,seval]) <;> exact q1) ?_;simp only [Bc,AE,AF,Al,An,Am,A9,LZ,seval];refine Cb (ok.fn101) (AV ok a) (by (try simp only [AE,AF,LY,seval]) <;> exact q1) (by first | rfl | (simp only [LN,LP,V.ren,AP,Cz])) (by simp only [AE,AF,LX]) ?_;simp only [Bc,AE,AF,Al,An,Am,A9,LZ,seval];refine Cb (ok.fn101) (AV ok c) (by (try simp only [AE,AF,LY,seval]) <;> exact q1) (by first | rfl | (simp only [LN,LP,V.ren,AP,Cz])) (by simp only [AE,AF,LX]) ?_;simp only [Bc,AE,AF,Al,An,Am,A9,LZ,seval];refine H6 (ok.fn103) [] [] (BP ok (cE a) (CH (cE c) (cE a) (cE b)) (cE c)) DA DA Ab DA DA (by (try simp only [AE,AF,B6,LY,seval]) <;> exact q1) (by (try simp only [AE,AF,B6,LY,seval]) <;> exact q1) ?_;simp only [Bc,AE,AF,Al,An,Am,A9,LZ,seval];refine Cb (ok.fn101) (AV ok b) (by (try simp only [AE,AF,LY,seval]) <;> exact q1) (by first | rfl | (simp only [LN,LP,V.ren,AP,Cz])) (by simp only [AE,AF,LX]) ?_;simp only [Bc,AE,AF,Al,An,Am,A9,LZ,seval];refine H6 (ok.fn103) [] [] (BP ok (CH (cE c) (cE a) (cE b)) (CH (cE a) (CH (cE c) (cE a) (cE b)) (cE c)) (cE b)) DA DA Ab DA DA (by (try simp only [AE,AF,B6,LY,seval]) <;> exact q1) (by (try simp only [AE,AF,B6,LY,seval]) <;> exact q1) ?_;simp only [Bc,AE,AF,Al,An,Am,A9,LZ,seval];refine Cb (ok.fn101) (AV ok b) (by (try simp only [AE,AF,LY,seval]) <;> exact q1) (by first | rfl | (simp only [LN,LP,V.ren,AP,Cz])) (by simp only [AE,AF,LX]) ?_;simp only [Bc,AE,AF,Al,An,Am,A9,LZ,seval];refine Cb (ok.fn101) (AV ok c) (by (try simp only [AE,AF,LY,seval]) <;> exact q1) (by first | rfl | (simp only [LN,LP,V.ren,AP,Cz])) (by simp only [AE,AF,LX]) ?_;simp only [Bc,AE,AF,Al,An,Am,A9,LZ,seval];refine H6 (ok.fn103) [] [] (BP ok (cE b) (cE c) (CH (cE c) (cE a) (cE b))) DA DA Ab DA DA (by (try simp only [AE,AF,B6,LY,seval]) <;> exact q1) (by (try simp only [AE,AF,B6,LY,seval]) <;> exact q1) ?_;simp only [Bc,AE,AF,Al,An,Am,A9,LZ,seval];repeat refine sd ?_
 refine EB (ok.fn104) DA ?_;refine Ap (hT c a b) ?_;simp only [LZ,seval];have zz:=BK (DC @pS.eq_1 @rt.eq_1 @mX.eq_1 @fX.eq_1 @Amp @Bc.eq_1 @Ip.eq_1 @Jb.eq_1 @RC.eq_1 @Ch.eq_1 @FC.eq_1 @FC.eq_2 @BW.eq_1 @BW.eq_2 @BW.eq_3 @fuV.eq_1) (Aq3 @DZ.eq_1 @DZ.eq_2 @Fb.eq_1 @Fb.eq_2 @Fb.eq_3 @GN.eq_1 @b9 @c5 @F7.eq_1 @F7.eq_2 @F7.eq_3 @b8 @List.length_cons.{0} @List.length_nil.{0} @Nat.zero_add @bl1 @bl2 @bl3 @B6 @sex);refine IQ (hE) ?_;simp only [EM,seval];refine Ap (hF) ?_;simp only [LZ,seval];refine EB (ok.fn104) DA ?_;refine Ap (hT a (P c a b) c) ?_;simp only [LZ,seval];refine EB (ok.fn104) DA ?_;refine Ap (hT (P c a b) (P a (P c a b) c) b) ?_;simp only [LZ,seval];refine EB (ok.fn104) DA ?_;refine Ap (hT b c (P c a b)) ?_;simp only [decide_true,LZ,seval];exact Ay.mkZ hx [] ⟨rfl,rfl,rfl⟩
theorem Xy (ok:OkLw M) (k0:Int) (a b c:BitVec 64) (hn:Ht (V6 k0)=3):As M 24 [.int .i64 k0,W a,W b,W c] [] 0 (Q3 (.bool true) [] 0):=by
 have ki:=NA k0;have kw:=JO k0;obtain ⟨h1,h2⟩:=PL k0;refine Ac ok.k24 rfl fun x hx=>?_;generalize V6 k0=k at *
 have hA:=Hd ok.x k h1 h2;rw [hn] at hA;have hF:=Fn ok.l.f;obtain ⟨q1,q2,q3,q4⟩:=Qr ok.l.f.v ok.l.p k h1 h2 a b c;obtain ⟨m,kk,hkk,hr,hh,hx2⟩:=q4 (G7 (Bj (Cc k a b c) (AK (Cc k a b c))).words.length fun i=>(Bj (Cc k a b c) (AK (Cc k a b c))).words.getD i 0#64) (fun i hi=>by unfold G7;rw [if_pos hi]);have hE:=HY ok.l (Cc k a b c) _ (J6 k h1 h2 a b c) q1 q2 q3 m kk Aa hr hh;rw [hx2] at hE;have hT:=fun x y z=>Nu ok k h1 h2 x y z;clear q1 q2 q3 q4 hr hh hx2;generalize Dn k=P at *
 have hp:Cc k a b c=pS k 3 (Ip a b c) (Jb a b c):=by unfold Cc;rw [hn]
 rw [hp] at hE;have eXq:AE (Ip a b c)=AE (CH (RC a b c) (CH (cE a) (RC a b c) (cE c)) (cE b)):=rfl;refine eX ?_;simp only [f24,c24,ki,kw,LZ,seval];refine Ap (hA) ?_;simp only [EM,seval];refine Cb (ok.fn102) (CL ok 0) (by (try simp only [Bc,AE,AF,LY,seval]) <;> exact q1) (by first | rfl | (simp only [LN,LP,V.ren,AP,Cz])) (by simp only [Bc,AE,AF,LX]) ?_;simp only [LZ,seval];refine Cb (ok.fn102) (CL ok 1) (by (try simp only [Bc,AE,AF,LY,seval]) <;> exact q1) (by first | rfl | (simp only [LN,LP,V.ren,AP,Cz])) (by simp only [Bc,AE,AF,LX]) ?_;simp only [LZ,seval];refine Cb (ok.fn102) (CL ok 2) (by (try simp only [Bc,AE,AF,LY,seval]) <;> exact q1) (by first | rfl | (simp only [LN,LP,V.ren,AP,Cz])) (by simp only [Bc,AE,AF,LX]) ?_;simp only [Bc,AE,AF,Al,An,Am,A9,LZ,seval];repeat refine sd ?_
 refine Ek (ok.fn101) ?_;(have zz:=Jr @b8 @b9 @c5;refine IQ (AV ok c) ?_);simp only [Bc,AE,AF,Al,An,Am,A9,LZ,seval];refine Ek (ok.fn101) ?_;(have zz:=Jr @b8 @b9 @c5;refine IQ (AV ok a) ?_);simp only [Bc,AE,AF,Al,An,Am,A9,LZ,seval];refine Ek (ok.fn101) ?_;(have zz:=Jr @b8 @b9 @c5;refine IQ (AV ok b) ?_);simp only [Bc,AE,AF,Al,An,Am,A9,LZ,seval];refine Ek (ok.fn103) ?_;refine cnK [] [] (BP ok (cE c) (cE a) (cE b)) (by constructor <;> (try simp only [AE,AF,B6,LY,seval]) <;> exact q1) ?_;simp only [Bc,AE,AF,Al,An,Am,A9,LZ,seval];refine Cb (ok.fn101) (AV ok a) (by (try simp only [AE,AF,LY,seval]) <;> exact q1) (by first | rfl | (simp only [LN,LP,V.ren,AP,Cz])) (by simp only [AE,AF,LX]) ?_;simp only [Bc,AE,AF,Al,An,Am,A9,LZ,seval];refine Cb (ok.fn101) (AV ok c) (by (try simp only [AE,AF,LY,seval]) <;> exact q1) (by first | rfl | (simp only [LN,LP,V.ren,AP,Cz])) (by simp only [AE,AF,LX]) ?_;simp only [Bc,AE,AF,Al,An,Am,A9,LZ,seval];refine H6 (ok.fn103) [] [] (BP ok (cE a) (CH (cE c) (cE a) (cE b)) (cE c)) DA DA Ab DA DA (by (try simp only [AE,AF,B6,LY,seval]) <;> exact q1) (by (try simp only [AE,AF,B6,LY,seval]) <;> exact q1) ?_;simp only [Bc,AE,AF,Al,An,Am,A9,LZ,seval];refine Cb (ok.fn101) (AV ok b) (by (try simp only [AE,AF,LY,seval]) <;> exact q1) (by first | rfl | (simp only [LN,LP,V.ren,AP,Cz])) (by simp only [AE,AF,LX]) ?_;simp only [Bc,AE,AF,Al,An,Am,A9,LZ,seval];refine H6 (ok.fn103) [] [] (BP ok (CH (cE c) (cE a) (cE b)) (CH (cE a) (CH (cE c) (cE a) (cE b)) (cE c)) (cE b)) DA DA Ab DA DA (by (try simp only [AE,AF,B6,LY,seval]) <;> exact q1) (by (try simp only [AE,AF,B6,LY,seval]) <;> exact q1) ?_;simp only [Bc,AE,AF,Al,An,Am,A9,LZ,seval];refine Cb (ok.fn101) (AV ok b) (by (try simp only [AE,AF,LY,seval]) <;> exact q1) (by first | rfl | (simp only [LN,LP,V.ren,AP,Cz])) (by simp only [AE,AF,LX]) ?_;simp only [Bc,AE,AF,Al,An,Am,A9,LZ,seval];refine Cb (ok.fn101) (AV ok c) (by (try simp only [AE,AF,LY,seval]) <;> exact q1) (by first | rfl | (simp only [LN,LP,V.ren,AP,Cz])) (by simp only [AE,AF,LX]) ?_;simp only [Bc,AE,AF,Al,An,Am,A9,LZ,seval];refine H6 (ok.fn103) [] [] (BP ok (cE b) (cE c) (CH (cE c) (cE a) (cE b))) DA DA Ab DA DA (by (try simp only [AE,AF,B6,LY,seval]) <;> exact q1) (by (try simp only [AE,AF,B6,LY,seval]) <;> exact q1) ?_;simp only [Bc,AE,AF,Al,An,Am,A9,LZ,seval];repeat refine sd ?_
 refine EB (ok.fn104) DA ?_;refine Ap (hT c a b) ?_;simp only [LZ,seval];have zz:=BK (DC @pS.eq_1 @rt.eq_1 @mX.eq_1 @fX.eq_1 @Ann @Bc.eq_1 @Ip.eq_1 @Jb.eq_1 @RC.eq_1 @Ch.eq_1 @FC.eq_1 @FC.eq_2 @BW.eq_1 @BW.eq_2 @BW.eq_3 @fuV.eq_1) (Aq3 @DZ.eq_1 @DZ.eq_2 @Fb.eq_1 @Fb.eq_2 @Fb.eq_3 @GN.eq_1 @b9 @c5 @F7.eq_1 @F7.eq_2 @F7.eq_3 @b8 @List.length_cons.{0} @List.length_nil.{0} @Nat.zero_add @bl1 @bl2 @bl3 @B6 @sex);refine IQ (hE) ?_;simp only [EM,seval];refine Ap (hF) ?_;simp only [LZ,seval];refine EB (ok.fn104) DA ?_;refine Ap (hT a (P c a b) c) ?_;simp only [LZ,seval];refine EB (ok.fn104) DA ?_;refine Ap (hT (P c a b) (P a (P c a b) c) b) ?_;simp only [LZ,seval];refine EB (ok.fn104) DA ?_;refine Ap (hT b c (P c a b)) ?_;simp only [decide_true,LZ,seval];exact Ay.mkZ hx [] ⟨rfl,rfl,rfl⟩
theorem Ku (ok:OkLw M) (k0:Int) (a b c:BitVec 64):As M 24 [.int .i64 k0,W a,W b,W c] [] 0 (Q3 (.bool true) [] 0):=by
 rcases Vw (V6 k0) with h | h | h
 ·exact WW ok k0 a b c h
 ·exact Zx ok k0 a b c h
 ·exact Xy ok k0 a b c h
end Mv
namespace Mv
open Go
def Kb (M:Seat) (W:World):Env where
 ρ:=fun _=>0
 D:=fun _=>False
 im:=fun b=>∃ cells el fz,W.heap[b]?=some (.cells cells el fz)
 w:=W
 φ:=M.φ
 τ:=M.τ
theorem Inv.start (M:Seat) (W:World) (hg:GS M (Kb M W)):Inv M ⟨Kb M W,fun b=>∃ id,Af [] id=true∧(Kb M W).ρ id=b,0⟩ (Kb M W) [] where
 ev:=⟨rfl,rfl,rfl,Nat.le_refl _,fun _ _ _=>rfl,fun _=>Nat.le_refl _⟩
 blk:=fun id h=>by simp [Af] at h
 inj:=fun i j h=>by simp [Af] at h
 imo:=fun b h=>.inl h
 imb:=fun b h=>.inl h
 rb:=fun id h=>h.elim
 keep:=fun b h=>h
 low:=fun id h=>by simp at h
 gs:=hg
 φ:=rfl
 τ:=rfl
theorem TB {M:Seat} {f:Nat} {us:List V} {vs:Array Value} {Q:V→Hp→Nat→Prop} (hr:As M f us [] 0 Q) (W:World) (hg:GS M (Kb M W)) (ha:Ob (Kb M W) us vs) :
 Calls M.P (M.φ f) vs W fun en W'=>∃ x v H' k' e',en = .returned x∧RV e' v x∧Q v H' k'∧RowKit.Below W.heap.size W W':=by
 refine (hr (Kb M W) vs (Inv.start M W hg) (fun id _ h=>h) ha).mono ?_;rintro en W' ⟨x,v,e',H',k',rfl,rfl,hI,hv,_,_,hQ⟩;refine ⟨x,v,H',k',e',rfl,hv,hQ,hI.ev.os,hI.ev.tape,hI.ev.output,hI.ev.size,fun k hk=>hI.ev.frame k hk ?_⟩;rintro ⟨id,h,_⟩;simp [Af] at h
theorem Zc {M:Seat} {W:World} {name:String} {k:IntKind} {zs:List Int} {g:Nat} (h:Lib.TabIs M.P W name k zs) (hg:M.P.globalNamed name=some g) (hpos:0 < zs.length) :
 R (Kb M W) (.imm (.ar 1 zs.length (fun i=>.int k (zs.getD i 0)))) [.pointer (some ⟨g,0,none⟩)]:=by
 have hc:∀ i,i < zs.length→W.cell? ⟨g,i,none⟩=some (.int k (zs.getD i 0)):=fun i hi=>h.cell hg i hi;have h0:=hc 0 hpos;simp only [R];cases hb:W.heap[g]? with
 | none=>simp [World.cell?,hb] at h0
 | some o =>
   cases o with
   | cells c el fz =>
     have hci:∀ i,i < zs.length→c[i]?=some (.int k (zs.getD i 0)):=fun i hi=>by simpa [World.cell?,hb] using hc i hi
     have hsz:zs.length≤c.size:=by
      have:=hci (zs.length - 1) Aa;have:=(Array.getElem?_eq_some_iff.1 this).1;omega
     refine ⟨g,0,c,el,fz,rfl,⟨c,el,fz,hb⟩,hb,by simp only [V.size];omega,by simp [V.size];omega,fun i hi=>⟨⟨rfl,rfl⟩,?_⟩⟩;simp only [V.size,Nat.mul_one,List.drop_zero];have h1:=hci i hi;have h2:c.toList[i]?=some (.int k (zs.getD i 0)):=Uz;apply List.ext_getElem?;intro j;cases j with
     | zero=>simp [List.getElem?_take,List.getElem?_drop,hi,h1]
     | succ j=>simp [List.getElem?_take]
   | _=>simp [World.cell?,hb] at h0
end Mv
