/- A part. -/
import Derived.Test.YtncipgmjhaiagaaGreatDoorHT
set_option linter.all false
set_option maxRecDepth 20000
set_option maxHeartbeats 64000000
namespace Mv
open Go
variable {M:Seat}
theorem Aoq (ok:OkAt M) (w:WS) (R:List (Dg × Pr) × Bool) (hrn:R.1.length < 2147483648) (pv:V) (hpv:∀ H m z,Bd H m z pv pv) (hSt:Af M 73 [pv] [] 0 (Q3 (Ao (.ptr 0 []) (.ptr 5 [])) (AF w .nils [] ++ RO R.1 R.2) 8)) (l:List In) (v:V) (hv:Aer l v) (hl:l.length < 9223372036854775808) (rs:List (BitVec 64)) (rv:V) (hr:rv=Bn rs ∨ (rv = .nils∧rs=[])) (hrl:rs.length < 9223372036854775808) (k:Int) :
 Af M 95 [v,rv,pv,.int .i64 k] [] 0 (Q3 (BD (.ptr 5 []) (.ptr 0 []) (.ptr 7 [])) (atH (itx ok.t (Ta w (ldM l).f rs (min rs.length 16)) (Ya k)) (Ha ok.r (SE R.1 R.2 (ldM l).f rs (min rs.length 16)) (Ya k)).m) 14):=by
 have okA:=ok.t.okA
 have okW:=ok.t.ok.toOkW
 have okI:=okW.toOkI
 have okS:=okI.toOkV.toOkS
 have okB:=ok.r.b
 have okR:=ok.r.g.r
 have hLN:l=[]→Af M 74 [.nils] [] 0 (Q3 (Ao (.ptr 0 []) .nili) [(0,(ldM l).v)] 1):=fun h=>by subst h;exact Me okA
 have hRN:l=[]→Af M 196 [.nils] [] 0 (Q3 (.ptr 0 []) (Fx (ldM l)) 3):=fun h=>by subst h;exact O1 ok.k196
 have hWN:l=[]→Af M 75 [Hl l] [] 0 (Q3 .nils [] 0):=fun h=>by subst h;exact C4 okI ok.kx _ (.inr rfl)
 have hv':(v = .nils∧l=[]) ∨ (v=Hl l∧l=[]) ∨ (v=Hl l∧0 < l.length):=by
  rcases hv with h | h
  ·by_cases h0:l=[]
   ·exact .inr (.inl ⟨h,h0⟩)
   ·exact .inr (.inr ⟨h,List.length_pos_iff.2 h0⟩)
  ·exact .inl h
 have hlp:=@Ao6 M ok.t ok.r w R.1 R.2 hrn (ldM l).f rs k
 have hW:=Rb okI ok.kx l
 have hLL:Af M 74 _ [] 0 (Q3 (Ao (.ptr 0 []) .nili) [(0,(ldM l).v)] 1):=RC okA (min l.length 8192) (Nat.min_le_right _ _) (fun j=>G7 (l.getD j default))
 have hRL:Af M 196 _ [] 0 (Q3 (.ptr 0 []) (Fx (ldM l)) 3):=OB ok.k196 (min l.length 8192) (Nat.min_le_right _ _) (fun j=>G7 (l.getD j default))
 have hm:∃ f,ldM l=⟨f,fun _=>0#64,0#64,false,0#64⟩:=⟨_,rfl⟩
 obtain ⟨rl,met⟩:=R
 generalize ldM l=m at *
 obtain ⟨f,rfl⟩:=hm
 have hNv:∀ m:Mc,AD m.v:=fun m=>by simp only [Mc.v,mach,AD,Ru,implies_true,and_self]
 have hSv:∀ (m:Mc) H a z,Aw H a z m.v m.v:=fun m H a z=>by simp only [Mc.v,mach,LY,seval]
 have hFv:∀ m:Mc,m.v=mach m.f m.g m.pc m.hl m.xt:=fun _=>rfl
 have hg0:∀ j,gI rs 0 j=0#64:=fun j=>if_neg Aa
 have hrv:rv = .nils→rs=[]:=fun h=>by
  rcases hr with h1 | h1
  ·rw [h] at h1;cases h1
  ·exact h1.2
 have mz:((min (0:Nat) 16:Nat):Int)=0:=rfl
 refine Ac ok.k95 rfl fun x hx=>?_
 have hlp:=@hlp x hx
 have hr':rv=Bn rs ∨ rv = .nils:=hr.imp id (fun h=>h.1)
 clear hr hv
 rcases hr' with rfl | rfl
 case' inr=>obtain rfl:=hrv rfl
 all_goals rcases hv' with ⟨rfl,h0⟩ | ⟨rfl,h0⟩ | ⟨rfl,h0⟩
 all_goals
  refine es 2000 ?_;(simp only [f95,c95,Bn,LZ,seval])
  have zz:=aq6 PR G0 @RO.eq_1 Ft @BV hpv;refine El (hSt) ?_
  (simp only [Sq,RO,Ft,seval])
  first
  | (refine Ah (C4 okI ok.kx .nils (.inl rfl)) ?_
     (simp only [LZ,seval])
     have zz:=aq4 hFv @mach.eq_1 hNv hSv;refine El (hLN h0) ?_
     (simp only [Cb,hFv,mach,seval])
     refine Ah (C4 okI ok.kx .nils (.inl rfl)) ?_
     (simp only [LZ,seval])
     (have zz:=aq5 @Fx.eq_1 @Cc.eq_1 @Ba.eq_1 hNv hSv;refine El (hRN h0) ?_))
  | ((have zz := MK; refine CI (hWN h0) ?_)
     (simp only [LZ,seval])
     have zz:=aq4 hFv @mach.eq_1 hNv hSv;refine El (hLN h0) ?_
     (simp only [Cb,hFv,mach,seval])
     have zz:=MK;refine CI (hWN h0) ?_
     (simp only [LZ,seval])
     (have zz:=aq5 @Fx.eq_1 @Cc.eq_1 @Ba.eq_1 hNv hSv;refine El (hRN h0) ?_))
  | ((have zz := MK; refine El (hW h0 hl) ?_)
     (simp only [LZ,seval])
     have zz:=aq4 hFv @mach.eq_1 hNv hSv;refine El (hLL) ?_
     (simp only [Cb,hFv,mach,seval])
     have zz:=MK;refine El (hW h0 hl) ?_
     (simp only [LZ,seval])
     (have zz:=aq5 @Fx.eq_1 @Cc.eq_1 @Ba.eq_1 hNv hSv;refine El (hRL) ?_))
  (simp only [Fx,Cc,Fj,Bn,seval])
  refine hlp ?_
  refine Aj.fr [64,65,66,67,68,192,1,320,321,322,69,70,71,2] [] hx Ax Ak ?_ ?_
  ·simp only [Bn,LY,seval]
   first | omega | (simp only [List.length_nil];decide) | (simp;decide) | (simp;rfl)
  ·simp only [hg0,SB,hFv,mach,Ta,SE,Ik,dN,At,seval]
def Ao9 (n:Nat) (pf:Nat→Pr) (pv:V):Prop:=pv=(.lst 64 n fun i=>At (pf i)) ∨ (pv = .nils∧n=0)
noncomputable def Aox (ok:OkAt M) (l:List In) (rs:List (BitVec 64)) (n:Nat) (pf:Nat→Pr) (k:Int):SM:=itx ok.t (Ta (Aog (FK 16) pf (min n 50)) (ldM l).f rs (min rs.length 16)) (Ya k)
noncomputable def Apd (ok:OkAt M) (l:List In) (rs:List (BitVec 64)) (n:Nat) (pf:Nat→Pr) (k:Int):RD:=Ha ok.r (SE (Aoe (BL 16) pf (min n 50)).1 (Aoe (BL 16) pf (min n 50)).2 (ldM l).f rs (min rs.length 16)) (Ya k)
theorem Ao3 (ok:OkAt M) (l:List In) (v:V) (hv:Aer l v) (hl:l.length < 9223372036854775808) (rs:List (BitVec 64)) (rv:V) (hr:rv=Bn rs ∨ (rv = .nils∧rs=[])) (hrl:rs.length < 9223372036854775808) (n:Nat) (hn:n < 9223372036854775808) (pf:Nat→Pr) (pv:V) (hpv:Ao9 n pf pv) (k:Int) :
 Af M 95 [v,rv,pv,.int .i64 k] [] 0 (Q3 (BD (.ptr 5 []) (.ptr 0 []) (.ptr 7 [])) (atH (Aox ok l rs n pf k) (Apd ok l rs n pf k).m) 14):=by
 have okS:=ok.t.ok.toOkW.toOkI.toOkV.toOkS
 have hL:=Aoo ok.t.okA okS ok.r.b ok.r.g.r n hn pf
 have hN:=NV ok.t.okA okS ok.r.b ok.r.g.r
 have hrn:(Aoe (BL 16) pf (min n 50)).1.length < 2147483648:=by
  have:=Aol (BL 16) pf (min n 50);have:=Ku 16;omega
 have e0:n=0→Aog (FK 16) pf (min n 50)=FK 16∧Aoe (BL 16) pf (min n 50)=BL 16:=fun h=>by subst h;exact ⟨rfl,rfl⟩
 unfold Aox Apd
 generalize Aog (FK 16) pf (min n 50)=w at *
 generalize Aoe (BL 16) pf (min n 50)=R at *
 rcases hpv with rfl | ⟨rfl,h0⟩
 ·exact Aoq ok w R hrn _ (fun H m z=>by simp only [CF,seval]) hL l v hv hl rs rv hr hrl k
 ·obtain ⟨e1,e2⟩:=e0 h0
  generalize FK 16=w0 at *
  generalize BL 16=R0 at *
  subst e1 e2
  exact Aoq ok w R hrn _ (fun H m z=>by simp only [LY,seval]) hN l v hv hl rs rv hr hrl k
def Mc.com (m:Mc):Dg:=Yo m.f m.g m.pc m.hl m.xt
def Ei (pres:List (Dg × Pr)) (m:Mc):Option Int × List Pf × Pr :=
 if m.hl=true then (none,[],Pr.zero) else if 8192#64≤m.pc then (none,[],Pr.zero)
 else ((nx (Fc pres) m.h ⟨m.f,[],Pr.zero⟩).2.1,(nx (Fc pres) m.h ⟨m.f,[],Pr.zero⟩).2.2.l,(nx (Fc pres) m.h ⟨m.f,[],Pr.zero⟩).2.2.pre)
theorem Mz {M:Seat} (ok:OkOs M) (m:Mc) (pres:List (Dg × Pr)) (q:Nat) :
 Af M 97 [.ptr 0 [],.ptr 1 []] [(0,m.v),(1,EA (.nils)),(2,Bv At Pr.zero pres)] 5
  (Q3 (TO m (Ei pres m).1 (Ei pres m).2.1 (Ei pres m).2.2) [(0,m.v),(1,EA (.nils)),(2,Bv At Pr.zero pres)] 5):=by
 obtain ⟨f,g,pc,hl,xt⟩:=m
 unfold Ei
 cases hl with
 | true=>rw [if_pos rfl];exact Qy ok f g pc xt pres q
 | false =>
   rw [if_neg Bu]
   by_cases hpc:8192#64≤pc
   ·rw [if_pos hpc];exact O9 ok f g pc xt hpc pres q
   ·rw [if_neg hpc]
    generalize hq:nx (Fc pres) (⟨f,g,pc,false,xt⟩:Mc).h ⟨f,[],Pr.zero⟩=r
    obtain ⟨h1,e,s1⟩:=r
    exact U6 ok f g pc xt hpc pres q h1 e s1 hq
theorem UY {M:Seat} (ok:OkOs M) (m:Mc) (pres:List (Dg × Pr)) (q:Nat) :
 Af M 97 [.ptr 0 [],.ptr 1 []] [(0,m.v),(1,EA (.sl 5 [] 0 q 32)),(2,Bv At Pr.zero pres)] 6
  (Q3 (TO m (Ei pres m).1 (Ei pres m).2.1 (Ei pres m).2.2) [(0,m.v),(1,EA (.sl 5 [] 0 q 32)),(2,Bv At Pr.zero pres)] 6):=by
 obtain ⟨f,g,pc,hl,xt⟩:=m
 unfold Ei
 cases hl with
 | true=>rw [if_pos rfl];exact QZ ok f g pc xt pres q
 | false =>
   rw [if_neg Bu]
   by_cases hpc:8192#64≤pc
   ·rw [if_pos hpc];exact OX ok f g pc xt hpc pres q
   ·rw [if_neg hpc]
    generalize hq:nx (Fc pres) (⟨f,g,pc,false,xt⟩:Mc).h ⟨f,[],Pr.zero⟩=r
    obtain ⟨h1,e,s1⟩:=r
    exact Uq ok f g pc xt hpc pres q h1 e s1 hq
theorem Ajg (pres:List (Dg × Pr)) (hp:JT pres) (m:Mc) (h:(Ei pres m).1=none):vfy m.com (Bm m.f 13 0) m.h (Ei pres m).2.1 (Ei pres m).2.2=((Tr pres m).com,none):=by
 obtain ⟨f,g,pc,hl,xt⟩:=m
 have hc:B2 (Bm f 13 0) (DV g pc hl xt)=(⟨f,g,pc,hl,xt⟩:Mc).com:=rfl
 unfold vfy
 rw [if_neg (fun h=>h hc)]
 unfold Ei at h ⊢
 unfold Tr
 dsimp only [Mc.h] at h ⊢
 cases hl with
 | true=>simp only [if_true,YJ];rfl
 | false =>
   simp only [TJ] at h ⊢
   by_cases hpc:8192#64≤pc
   ·simp only [hpc,if_true,YJ];rfl
   ·simp only [hpc,if_false] at h ⊢
    generalize hq:nx (Fc pres) ⟨g,pc,false,xt⟩ ⟨f,[],Pr.zero⟩=r at *
    obtain ⟨h1,e,s1⟩:=r
    have h:e=none:=h
    subst h
    have hF:=Aat pres hp ⟨g,pc,false,xt⟩ rfl hpc f Pr.zero h1 s1 hq []
    rw [List.append_nil] at hF
    dsimp only
    rw [hF]
    show YJ _ _=_
    rw [YJ,if_pos rfl]
    rfl
def YN (n:Nat) (s:Ps):Prop:=s.l.length=n∧∀ p ∈ s.l,p.p.length=13
theorem JF {n:Nat} {s:Ps} (h:YN n s) (f:Nat→BitVec 64) (g:Nat→BitVec 64) (a:BitVec 64) (pre:Pr):YN (n + 1) ⟨g,s.l ++ [Bf f a],pre⟩:=by
 refine ⟨by simp [h.1],fun p hp=>?_⟩
 rcases List.mem_append.1 hp with h1 | h1
 ·exact h.2 p h1
 ·rw [List.mem_singleton.1 h1];exact EW _ _
theorem Y4 (pres:List (Dg × Pr)) (a:BitVec 64):∀ (k i:Nat) (s:Ps) (l:List (BitVec 64)) (n:Nat),YN n s→(Jy (Fc pres) a k i s l).1=none∧YN (n + k) (Jy (Fc pres) a k i s l).2.1
 | 0,_,_,_,_,h=>⟨rfl,h⟩
 | k + 1, i, s, l, n, h => by
   have:=Y4 pres a k (i + 1) ⟨s.f,s.l ++ [Bf s.f (a + BitVec.ofNat 64 i)],s.pre⟩ (l ++ [s.f (a + BitVec.ofNat 64 i).toNat]) (n + 1) (JF h _ _ _ _)
   rw [show n + (k + 1)=n + 1 + k by omega]
   exact this
theorem Ade (pres:List (Dg × Pr)) (a:BitVec 64) (v:Nat→BitVec 64):∀ (k i:Nat) (s:Ps) (n:Nat),YN n s→(Ph (Fc pres) a v k i s).1=none∧YN (n + k) (Ph (Fc pres) a v k i s).2
 | 0,_,_,_,h=>⟨rfl,h⟩
 | k + 1, i, s, n, h => by
   have:=Ade pres a v k (i + 1) ⟨E9 s.f (a + BitVec.ofNat 64 i).toNat (v i),s.l ++ [Bf s.f (a + BitVec.ofNat 64 i)],s.pre⟩ (n + 1) (JF h _ _ _ _)
   rw [show n + (k + 1)=n + 1 + k by omega]
   exact this
def wfR (s:Ps):Prop:=1≤s.l.length∧s.l.length≤13∧∀ p ∈ s.l,p.p.length=13
theorem IF {n:Nat} {s:Ps} (h:YN n s) (h1:1≤n) (h2:n≤13):wfR s:=⟨by rw [h.1];exact h1,by rw [h.1];exact h2,h.2⟩
theorem Sk (pres:List (Dg × Pr)) (h:Hd) (s:Ps) (to:BitVec 64) (t:Nat) (p:Nat→BitVec 8) (n:Nat) (hw:YN n s) (h1:1≤n) (h2:n + t≤13):wfR (GL (Fc pres) h s to t p).2.2:=by
 have:=Ade pres to (Vh p) t 0 s n hw
 unfold GL
 generalize Ph (Fc pres) to (Vh p) t 0 s=R at *
 obtain ⟨e,s'⟩:=R
 obtain ⟨rfl,h3⟩:=this
 exact IF h3 Aa h2
theorem Ahi (pres:List (Dg × Pr)) (op:Nat) (h:Hd) (s:Ps) (a b:BitVec 64) (hw:YN 1 s) (ho:op=34 ∨ op=35):wfR (MX (Fc pres) op h s a b).2.2:=by
 have h1:wfR s:=IF (n:=1) hw Aa Aa
 rcases ho with rfl | rfl
 ·unfold MX
  simp only [show ¬ (34:Nat)=35 by decide,CD]
  by_cases hc:(wi a 8#64 && wi b 4#64)=false
  ·rw [if_pos hc];exact h1
  ·rw [if_neg hc]
   have:=Y4 pres a 8 0 s [] 1 hw
   generalize Jy (Fc pres) a 8 0 s []=R at *
   obtain ⟨e,s',l⟩:=R
   obtain ⟨rfl,h3⟩:=this
   exact Sk pres h s' b 4 _ 9 h3 Aa Aa
 ·unfold MX
  simp only [show ¬ (35:Nat)=34 by decide,CD]
  by_cases hc:(wi a 4#64 && wi b 8#64)=false
  ·rw [if_pos hc];exact h1
  ·rw [if_neg hc]
   have:=Y4 pres a 4 0 s [] 1 hw
   generalize Jy (Fc pres) a 4 0 s []=R at *
   obtain ⟨e,s',l⟩:=R
   obtain ⟨rfl,h3⟩:=this
   dsimp only at h3 ⊢
   unfold QC
   cases hl:Dv (Dg.mk' (CS l)) pres with
   | none =>
     have hp:(Fc pres).pi s' (Dg.mk' (CS l))=(Pr.zero,some 14,⟨s'.f,s'.l,Pr.zero⟩):=by
      show OP pres s' _=_
      unfold OP;rw [hl]
     rw [hp]
     exact IF (n:=5) (s:=⟨s'.f,s'.l,Pr.zero⟩) h3 Aa Aa
   | some p =>
     have hp:(Fc pres).pi s' (Dg.mk' (CS l))=(p,none,⟨s'.f,s'.l,p⟩):=by
      show OP pres s' _=_
      unfold OP;rw [hl]
     rw [hp]
     exact Sk pres h ⟨s'.f,s'.l,p⟩ b 8 p.at 5 h3 Aa Aa
theorem All (pres:List (Dg × Pr)) (h:Hd) (w:BitVec 64) (s:Ps) (hw:YN 1 s):wfR (Of (Fc pres) h w s).2.2:=by
 have h1:wfR s:=IF (n:=1) hw Aa Aa
 unfold Of
 split
 ·exact h1
 rename_i hi
 split
 ·exact h1
 split
 ·exact h1
 split
 ·exact h1
 split
 ·split
  ·exact h1
  ·split
   ·exact IF (n:=2) (JF hw _ _ _ _) Aa Aa
   ·exact IF (n:=2) (JF hw _ _ _ _) Aa Aa
 split
 ·exact h1
 ·have h35:AT w≤35:=by
   simp only [isI,decide_eq_false_iff_not,Classical.not_not] at hi
   exact hi.1
  exact Ahi pres _ h s _ _ hw Aa
theorem XA (pres:List (Dg × Pr)) (m:Mc):((Ei pres m).1 ≠ none→m.hl=false∧¬ 8192#64≤m.pc)∧(Ei pres m).2.1.length≤13∧(∀ p ∈ (Ei pres m).2.1,p.p.length=13)∧((Ei pres m).2.1.length=0 ↔ m.hl=true ∨ 8192#64≤m.pc):=by
 unfold Ei
 by_cases h1:m.hl=true
 ·rw [if_pos h1]
  exact ⟨fun h=>absurd rfl h,Nat.zero_le _,fun p hp=>(nomatch hp),fun _=>.inl h1,fun _=>rfl⟩
 rw [if_neg h1]
 by_cases h2:8192#64≤m.pc
 ·rw [if_pos h2]
  exact ⟨fun h=>absurd rfl h,Nat.zero_le _,fun p hp=>(nomatch hp),fun _=>.inr h2,fun _=>rfl⟩
 rw [if_neg h2]
 have h3:wfR (nx (Fc pres) m.h ⟨m.f,[],Pr.zero⟩).2.2:=All pres m.h _ _ ⟨rfl,fun p hp=>by
  rcases List.mem_append.1 hp with h | h
  ·cases h
  ·rw [List.mem_singleton.1 h];exact EW _ _⟩
 refine ⟨fun _=>⟨by simpa using h1,h2⟩,h3.2.1,h3.2.2,fun h=>?_,fun h=>?_⟩
 ·have:=h3.1
  dsimp only at h
  omega
 ·rcases h with h | h
  ·exact absurd h h1
  ·exact absurd h h2
def c96:LC:=(sr [A1 0 (.mv (.c (.bool false)))] (sr [kl 12 74 [(.c .nils)],mt 11 12,ee 13 11 0,ee 14 11 1,mt 1 13,mt 2 14] (sr [kl 15 68 [],mt 3 15] (.seq (sr [mt 16 2,A1 17 (.eq true true (.iface [74]) (.t 16) (.c .nili)),mt 18 17,mg 19 18 false 1,A2 20 18 false (.eq false true .ptr (.t 19) (.c .nilp)),
  pKt 21 18 20,mt 22 21,mg 23 22 false 3,A2 24 22 false (.eq false true .ptr (.t 23) (.c .nilp)),
  pKt 25 22 24] (.cond (.t 25) (sr [A1 0 (.mv (.c (.bool false)))] .ret) .skip)) (sr [mt 27 1,mt 28 3,kl 29 97 [(.t 27),(.t 28)],mt 26 29,ee 30 26 0,ee 31 26 1,A1 4 (.alloc (.st (.cons (.ar 32 (.int .u8)) (.cons (.st (.cons (.ar 16 (.int .u64)) (.cons (.int .u64) (.cons .bool (.cons (.int .u64) .nil))))) (.cons .slice (.cons (.ar 64 (.int .u8)) .nil)))))),sb 116 4 30,mt 2 31] (sr [mt 33 1,kl 34 54 [(.t 33)],mt 32 34,ee 35 32 0,ee 36 32 1,
  aB 5 32,sb 32 5 35,mt 6 36] (sr [la 38 32 5,la 39 116 4,kl 40 98 [(.t 38),(.t 39)],mt 37 40,ee 41 37 0,ee 42 37 1,
  aB 7 32,sb 32 7 41,mt 8 42] (sr [mt 43 1,mt 44 3,kl 45 70 [(.t 43),(.t 44)]] (sr [mt 47 1,kl 48 54 [(.t 47)],mt 46 48,ee 49 46 0,ee 50 46 1,
  aB 9 32,sb 32 9 49,mt 10 50] (sr [mt 51 2,A1 52 (.eq false true (.iface [74]) (.t 51) (.c .nili)),mt 53 52,mg 54 53 true 6,A2 55 53 true (.eq false true (.iface [74]) (.t 54) (.c .nili)),
  pKf 56 53 55,mt 57 56,mg 58 57 true 8,A2 59 57 true (.eq false true (.iface [74]) (.t 58) (.c .nili)),
  pKf 60 57 59,mt 61 60,mg 62 61 true 10,A2 63 61 true (.eq false true (.iface [74]) (.t 62) (.c .nili)),
  pKf 64 61 63,mt 65 64,A2 66 65 true (.fadr 51 (.t 4)),A2 67 65 true (.load false 1 (.t 66)),A2 68 65 true (.len 0 (.t 67)),A2 69 65 true (.ari .eql (.t 68) (cI 1)),
  pKf 70 65 69,mt 71 70,A2 72 71 true (.load true 32 (.t 7)),A2 73 71 true (.load true 32 (.t 9)),A2 74 71 true (.eq false false (.ar 32 1 false .int) (.t 72) (.t 73)),
  pKf 75 71 74,mt 76 75,A2 77 76 true (.load true 32 (.t 7)),A2 78 76 true (.load true 32 (.t 5)),A2 79 76 true (.eq true false (.ar 32 1 false .int) (.t 77) (.t 78)),
  pKf 80 76 79,mt 0 80] .ret))))))))))
def f96:LF:=⟨c96,0,0,81,[.tmp 0]⟩
def D2:Mc:=⟨fun _=>0#64,fun _=>0#64,0#64,false,0#64⟩
def LE:Mc:=⟨fun _=>0#64,fun _=>0#64,0#64,true,0#64⟩
theorem Anu:isI 0#64=true:=Ak
theorem Ale:AT 0#64=0:=Ak
theorem nx0 (pres:List (Dg × Pr)):nx (Fc pres) D2.h ⟨D2.f,[],Pr.zero⟩=(LE.h,none,⟨D2.f,[Bf D2.f 0#64],Pr.zero⟩):=by
 show Of (Fc pres) D2.h 0#64 ⟨D2.f,[Bf D2.f 0#64],Pr.zero⟩=_
 rw [Of,if_neg (by rw [Anu];simp),if_pos Ale]
 rfl
theorem Yj (pres:List (Dg × Pr)):Ei pres D2=(none,[Bf D2.f 0#64],Pr.zero):=by
 rw [Ei,if_neg (by simp [D2]),if_neg Ak,nx0]
theorem Ag7 (pres:List (Dg × Pr)):Tr pres D2=LE:=by
 rw [Tr,if_neg (by simp [D2]),if_neg Ak,nx0];rfl
theorem Kc:∀ n,JT (FK n).pres
 | 0=>fun h p hk=>by simp [FK,Dv] at hk
 | n + 1=>by rw [FK];exact QY _ _ (Kc n)
structure OkF15 (M:Seat):Prop where
 o:OkOs M
 k96:Al M 96 f96=true
theorem HW {M:Seat} (ok:OkF15 M) (hne:¬ LE.com=D2.com):Af M 96 [] [] 0 (Q3 (.bool true) [] 0):=by
 have hP:=Mz ok.o D2 (FK 16).pres 0
 rw [Yj] at hP
 have hV:=OT ok.o D2.com (Bm D2.f 13 0) D2.h [Bf D2.f 0#64] Pr.zero
 have hv:=Ajg (FK 16).pres (Kc 16) D2 (by rw [Yj])
 rw [Yj,Ag7] at hv
 rw [hv] at hV
 have hS:=Gu ok.o.q.ok.toOkV D2.f D2.g D2.pc D2.xt Ak 0#64 rfl Ale Ak
 have hO0:=Sv ok.o.q.okA ok.o.d D2.f D2.g D2.pc false D2.xt
 have hO1:=Sv ok.o.q.okA ok.o.d LE.f LE.g LE.pc true LE.xt
 have e0:Yo D2.f D2.g D2.pc false D2.xt=D2.com:=rfl
 have e1:Yo LE.f LE.g LE.pc true LE.xt=LE.com:=rfl
 rw [e0] at hO0
 rw [e1] at hO1
 have hpv:TO D2 none [Bf D2.f 0#64] Pr.zero=Ao (Vf (Bm D2.f 13 0) D2.h [Bf D2.f 0#64] Pr.zero) .nili:=rfl
 have hm0:D2.v=mach (fun _=>0#64) (fun _=>0#64) 0#64 false 0#64:=rfl
 have hm1:LE.v=mach (fun _=>0#64) (fun _=>0#64) 0#64 true 0#64:=rfl
 dsimp only at hP
 rw [hpv,hm0] at hP
 have hS:Af M 70 [.ptr 0 [],.ptr 1 []] [(0,mach (fun _=>0#64) (fun _=>0#64) 0#64 false 0#64)] 2 (Q3 .nili [(0,mach (fun _=>0#64) (fun _=>0#64) 0#64 true 0#64)] 2):=hS
 have hO0:Af M 54 [.imm (mach (fun _=>0#64) (fun _=>0#64) 0#64 false 0#64)] [] 0 (Q3 (Ao (dg D2.com) .nili) [] 0):=hO0
 have hO1:Af M 54 [.imm (mach (fun _=>0#64) (fun _=>0#64) 0#64 true 0#64)] [] 0 (Q3 (Ao (dg LE.com) .nili) [] 0):=hO1
 have hlen:([Bf D2.f 0#64]:List Pf).length=1:=rfl
 generalize D2.com=C0 at *
 generalize LE.com=C1 at *
 generalize Bm D2.f 13 0=R0 at *
 generalize hL:[Bf D2.f 0#64]=L0 at *
 have hsp:Vf R0 D2.h L0 Pr.zero = .st 116 (.fcons 0 (dg R0) (.fcons 32 (.st 19 (.fcons 0 (.ar 1 16 (fun _=>W 0#64)) (.fcons 16 (W 0#64) (.fcons 17 (.bool false) (.fcons 18 (W 0#64) .fnil))))) (.fcons 51 (.lst 2 L0.length (Dz L0)) (.fcons 52 (At Pr.zero) .fnil)))):=rfl
 rw [hsp,hlen] at hP hV
 clear hsp hpv hv hL hlen e0 e1
 refine Ac ok.k96 rfl fun x hx=>?_
 refine es 2000 ?_;(simp only [f96,c96,LZ,seval])
 have zz:=@mach.eq_1;refine El (Me ok.o.q.okA) ?_
 (simp only [Cb,Bp,seval])
 have zz:=aq5 @AF.eq_1 Nw @Bo @BV @C6;refine El (PC ok.o.q.okA ok.o.q.ok.toOkS) ?_
 (simp only [AF,Nw,AR,Bp,BA,seval])
 have zz:=aq3 @EA.eq_1 @mach.eq_1 @C6;refine IJ [16,112,113,114,116] [16,112,113] (hP) ?_
 (simp only [LW,EA,Bp,seval])
 have zz:=aq2 @mach.eq_1 @dg.eq_1;refine CI (hO0) ?_
 (simp only [Cb,seval])
 have zz:=aq3 @dg.eq_1 Mt @Bz;refine CI (hV) ?_
 (simp only [Cb,Bz,seval])
 have zz:=@mach.eq_1;refine JO [16,112] [16] (hS) ?_
 (simp only [Bp,LZ,seval])
 have zz:=aq2 @mach.eq_1 @dg.eq_1;refine CI (hO1) ?_
 (simp only [Gw,hne,seval])
 exact Aq.mkZ hx [] ⟨rfl,rfl,rfl⟩
theorem Aq0 (pres:List (Dg × Pr)) (h:Hd) (s:Ps) (to:BitVec 64) (t:Nat) (p:Nat→BitVec 8) (n:Nat) (hw:YN n s):(GL (Fc pres) h s to t p).2.1=none:=by
 have:=Ade pres to (Vh p) t 0 s n hw
 unfold GL
 generalize Ph (Fc pres) to (Vh p) t 0 s=R at *
 obtain ⟨e,s'⟩:=R
 obtain ⟨rfl,h3⟩:=this
 rfl
theorem Arj (pres:List (Dg × Pr)) (op:Nat) (h:Hd) (s:Ps) (a b:BitVec 64) (hw:YN 1 s) (ho:op=34 ∨ op=35):(MX (Fc pres) op h s a b).2.1=none ∨ (MX (Fc pres) op h s a b).2.1=some 14:=by
 rcases ho with rfl | rfl
 ·unfold MX
  simp only [show ¬ (34:Nat)=35 by decide,CD]
  by_cases hc:(wi a 8#64 && wi b 4#64)=false
  ·rw [if_pos hc];exact .inl rfl
  ·rw [if_neg hc]
   have:=Y4 pres a 8 0 s [] 1 hw
   generalize Jy (Fc pres) a 8 0 s []=R at *
   obtain ⟨e,s',l⟩:=R
   obtain ⟨rfl,h3⟩:=this
   exact .inl (Aq0 pres h s' b 4 _ 9 h3)
 ·unfold MX
  simp only [show ¬ (35:Nat)=34 by decide,CD]
  by_cases hc:(wi a 4#64 && wi b 8#64)=false
  ·rw [if_pos hc];exact .inl rfl
  ·rw [if_neg hc]
   have:=Y4 pres a 4 0 s [] 1 hw
   generalize Jy (Fc pres) a 4 0 s []=R at *
   obtain ⟨e,s',l⟩:=R
   obtain ⟨rfl,h3⟩:=this
   dsimp only at h3 ⊢
   unfold QC
   cases hl:Dv (Dg.mk' (CS l)) pres with
   | none =>
     have hp:(Fc pres).pi s' (Dg.mk' (CS l))=(Pr.zero,some 14,⟨s'.f,s'.l,Pr.zero⟩):=by
      show OP pres s' _=_
      unfold OP;rw [hl]
     rw [hp]
     exact .inr rfl
   | some p =>
     have hp:(Fc pres).pi s' (Dg.mk' (CS l))=(p,none,⟨s'.f,s'.l,p⟩):=by
      show OP pres s' _=_
      unfold OP;rw [hl]
     rw [hp]
     exact .inl (Aq0 pres h ⟨s'.f,s'.l,p⟩ b 8 p.at 5 h3)
theorem Ark (pres:List (Dg × Pr)) (h:Hd) (w:BitVec 64) (s:Ps) (hw:YN 1 s):(Of (Fc pres) h w s).2.1=none ∨ (Of (Fc pres) h w s).2.1=some 14:=by
 by_cases q0:isI w=false
 ·rw [Of,if_pos q0];exact .inl rfl
 obtain ⟨h35,-⟩:=(Nm w).1 (by simpa using q0)
 rw [Of,if_neg q0]
 by_cases q1:AT w=0
 ·rw [if_pos q1];exact .inl rfl
 rw [if_neg q1]
 by_cases q2:AT w < 26
 ·rw [if_pos q2];exact .inl rfl
 rw [if_neg q2]
 by_cases q3:AT w=26
 ·rw [if_pos q3];exact .inl rfl
 rw [if_neg q3]
 by_cases q4:AT w=27 ∨ AT w=28
 ·rw [if_pos q4]
  by_cases hwh:8192#64≤h.g (pF w 48) + BitVec.ofInt 64 (pN w)
  ·rw [if_pos hwh];exact .inl rfl
  ·rw [if_neg hwh]
   by_cases q5:AT w=27
   ·rw [if_pos q5];exact .inl rfl
   ·rw [if_neg q5];exact .inl rfl
 rw [if_neg q4]
 by_cases q7:AT w < 34
 ·rw [if_pos q7];exact .inl rfl
 rw [if_neg q7]
 exact Arj pres (AT w) h s _ _ hw Aa
theorem Ari (pres:List (Dg × Pr)) (m:Mc) (c:Int) (he:(Ei pres m).1=some c):c=14∧Tr pres m=⟨m.f,m.g,m.pc,true,Kq⟩:=by
 obtain ⟨f,g,pc,hl,xt⟩:=m
 unfold Ei at he
 cases hl with
 | true=>simp at he
 | false =>
   dsimp only [Mc.h] at he
   simp only [TJ] at he
   by_cases hpc:8192#64≤pc
   ·simp [hpc] at he
   ·simp only [hpc,if_false] at he
    have e:nx (Fc pres) ⟨g,pc,false,xt⟩ ⟨f,[],Pr.zero⟩=Of (Fc pres) ⟨g,pc,false,xt⟩ (f pc.toNat) ⟨f,[Bf f pc],Pr.zero⟩:=rfl
    have h14:=Ark pres ⟨g,pc,false,xt⟩ (f pc.toNat) ⟨f,[Bf f pc],Pr.zero⟩ ⟨rfl,fun p hp=>by rw [List.mem_singleton.1 hp];exact EW _ _⟩
    rw [← e,he] at h14
    refine ⟨by rcases h14 with h | h <;> cases h;rfl,?_⟩
    rw [Tr,if_neg Bu,if_neg hpc,An8]
    dsimp only [Mc.h]
    rw [he]
def c22:LC:=(sr [A1 10 (.mv (.c (.bool false)))] (sr [mt 26 0,mt 27 1,mt 28 2,mt 29 3,kl 30 95 [(.t 26),(.t 27),(.t 28),(.t 29)],mt 25 30,ee 31 25 0,ee 32 25 1,ee 33 25 2,mt 11 31,mt 12 32,mt 13 33] (.seq (sr [mt 34 11,A1 35 (.eq false true .ptr (.t 34) (.c .nilp)),mt 36 35,⟨(some 37),.call 96 [],(some (36,false))⟩,A2 38 36 false (.un .not (.t 37)),
  pKt 39 36 38] (.cond (.t 39) (sr [A1 10 (.mv (.c (.bool false)))] .ret) .skip)) (sr [mt 41 11,mt 42 12,kl 43 97 [(.t 41),(.t 42)],mt 40 43,ee 44 40 0,ee 45 40 1,A1 14 (.alloc (.st (.cons (.ar 32 (.int .u8)) (.cons (.st (.cons (.ar 16 (.int .u64)) (.cons (.int .u64) (.cons .bool (.cons (.int .u64) .nil))))) (.cons .slice (.cons (.ar 64 (.int .u8)) .nil)))))),sb 116 14 44,mt 15 45] (.seq (sr [mt 46 15,A1 47 (.eq true true (.iface [74]) (.t 46) (.c .nili))] (.cond (.t 47) (sr [mt 48 15,A1 49 (.mkif 74 (cI 14)),kl 50 63 [(.t 48),(.t 49)],mt 10 50] .ret) .skip)) (sr [mt 52 11,kl 53 54 [(.t 52)],mt 51 53,ee 54 51 0,ee 55 51 1,
  aB 16 32,sb 32 16 54,mt 17 55] (.seq (sr [mt 56 4,
  lN 57 0 56,
  mI 58 0] (.block 0 (.loop (sr [ak 59 .lss 58 57] (.seq (cXx 59 0) (.seq (.block 1 (sr [mt 60 58,ia 61 4 56 58,la 62 4 61,A1 19 (.alloc (.st (.cons (.int .i64) (.cons (.int .i64) (.cons (.int .i64) (.cons (.int .u64) .nil)))))),mt 18 60,sb 4 19 62] (.seq (sr [mt 63 18,aI 64 .geq 63 4] (.cond (.t 64) (.exit 0) .skip)) (.reg [la 65 4 19,la 66 116 14,kl 67 99 [(.t 65),(.t 66)],sb 116 14 67])))) (.reg [aI 68 .add 58 1,mt 58 68]))))))) (sr [mt 69 11,mt 70 12,kl 71 70 [(.t 69),(.t 70)]] (sr [mt 73 11,kl 74 54 [(.t 73)],mt 72 74,ee 75 72 0,ee 76 72 1,
  aB 20 32,sb 32 20 75,mt 21 76] (sr [la 78 32 16,la 79 116 14,kl 80 98 [(.t 78),(.t 79)],mt 77 80,ee 81 77 0,ee 82 77 1,
  aB 22 32,sb 32 22 81,mt 15 82] (.seq (sr [mt 83 17,A1 84 (.eq true true (.iface [74]) (.t 83) (.c .nili)),mt 85 84,mg 86 85 false 21,A2 87 85 false (.eq true true (.iface [74]) (.t 86) (.c .nili)),
  pKt 88 85 87] (.cond (.t 88) (sr [A1 10 (.mv (.c (.bool false)))] .ret) .skip)) (.seq (sr [mt 89 15,A1 90 (.eq true true (.iface [74]) (.t 89) (.c .nili))] (.cond (.t 90) (sr [mt 91 15,A1 92 (.mkif 74 (cI 31)),kl 93 63 [(.t 91),(.t 92)],mt 94 93,mg 95 94 false 15,A2 96 94 false (.mkif 74 (cI 3)),⟨(some 97),.call 63 [(.t 95),(.t 96)],(some (94,false))⟩,
  pKt 98 94 97,mt 99 98,A2 100 99 true (.load true 32 (.t 22)),A2 101 99 true (.build (.ar 32 (.int .u8)) []),A2 102 99 true (.eq false false (.ar 32 1 false .int) (.t 100) (.t 101)),
  pKf 103 99 102,mt 10 103] .ret) .skip)) (sr [la 105 32 16,la 106 116 14,kl 107 100 [(.t 105),(.t 106)],mt 104 107,ee 108 104 0,ee 109 104 1,
  aB 23 32,sb 32 23 108,mt 24 109] (sr [la 110 32 22,la 111 32 20,A1 112 (.eq false false (.ar 32 1 false .int) (.t 110) (.t 111)),mt 113 112,mg 114 113 false 24,A2 115 113 false (.ari .eql (.t 114) (cI 0)),mg 116 113 false 115,A2 117 116 true (.load true 32 (.t 23)),A2 118 116 true (.load true 32 (.t 22)),A2 119 116 true (.eq false false (.ar 32 1 false .int) (.t 117) (.t 118)),A2 120 113 false (.pick (.t 116) (.t 119) (.c (.bool false))),
  pKt 121 113 120,mt 10 121] .ret))))))))))))))
def f22:LF:=⟨c22,5,0,122,[.tmp 10]⟩
end Mv
