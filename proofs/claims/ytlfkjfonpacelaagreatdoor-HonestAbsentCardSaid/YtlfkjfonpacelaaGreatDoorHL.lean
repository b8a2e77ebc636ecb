/- A part. -/
import Derived.Test.YtlfkjfonpacelaaGreatDoorHK
set_option linter.all false
set_option maxRecDepth 20000
set_option maxHeartbeats 64000000
namespace Mv
open Go
def rp (l:List (Dg × Pr)) (i:Nat):Pr:=(l.getD i (Dg.zero,Pr.zero)).2
def Vz (l:List In) (v:V):Prop:=v=Ha l ∨ (v = .nils∧l=[])
def TH (l:List In):Mc:=⟨Ws (min l.length 8192) (fun j=>G0 (l.getD j default)),fun _=>0#64,0#64,false,0#64⟩
def Nc (m:Mc):Prop:=m.hl=false∧¬ 8192#64≤m.pc∧m.f m.pc.toNat >>> 32 &&& 255#64=0#64∧BP (m.f m.pc.toNat)=34∧(wi (m.g (pF (m.f m.pc.toNat) 48)) 8#64 && wi (m.g (pF (m.f m.pc.toNat) 44)) 4#64)=true
def X8 (m:Mc):Pr:=Pr.mk' (AW fun j=>m.f ((m.g (pF (m.f m.pc.toNat) 48)).toNat + j))
theorem PM {m:Mc} (h:Nc m):Oc m:=⟨h.1,h.2.1,h.2.2.1,.inl ⟨h.2.2.2.1,h.2.2.2.2⟩⟩
theorem T6 {M:Seat} (ok:OkT M) (s:SM) (hs:s.n < 1099511627776):∃ s',IC M s s'∧s'.m=D2 s.w.pres s.m∧(C3 s.w.pres→C3 s'.w.pres)∧((¬ Nc s.m∧s'.w=s.w) ∨ (Nc s.m∧s'.w=s.w.add (X8 s.m))):=by
 obtain ⟨w,l,n,q,m⟩:=s
 by_cases ha:Oc m
 ·obtain ⟨f,g,pc,hl,xt⟩:=m
  obtain ⟨h1,hpc,h2,ho⟩:=ha
  dsimp only at h1 hpc h2 ho hs
  subst h1
  rcases ho with ⟨hop,hw⟩ | ⟨hop,hw⟩
  ·simp only [Bool.and_eq_true] at hw
   have ha:=DF hw.1
   have hb:=DF hw.2
   have hX:=RL w.pres f g pc xt hpc _ rfl hop h2 hw.1 hw.2
   cases n with
   | zero=>exact ⟨⟨_,l,0,q,⟨_,g,_,false,xt⟩⟩,.intro (.NN rfl rfl (Gl ok.okA ok.ok w l f g pc xt hpc _ rfl hop h2 ha hb)) BD,hX.symm,GP _ _,.inr ⟨⟨rfl,hpc,h2,hop,by simp only [Bool.and_eq_true];exact hw⟩,rfl⟩⟩
   | succ n=>exact ⟨⟨_,l,n + 1,q,⟨_,g,_,false,xt⟩⟩,.intro (.SS (Nat.succ_pos _) (Nat.succ_pos _) (FE (n + 1) q ok.okA ok.ok w l f g pc xt hpc _ rfl hop h2 ha hb)) BD,hX.symm,GP _ _,.inr ⟨⟨rfl,hpc,h2,hop,by simp only [Bool.and_eq_true];exact hw⟩,rfl⟩⟩
  ·simp only [Bool.and_eq_true] at hw
   have ha:=DF hw.1
   have hb:=DF hw.2
   have hX:=Uh w.pres f g pc xt hpc _ rfl hop h2 hw.1 hw.2
   obtain ⟨D,hD⟩:∃ D,Dg.mk' (AW fun j=>f ((g (pF (f pc.toNat) 48)).toNat + j))=D:=⟨_,rfl⟩
   rw [hD] at hX
   obtain ⟨sn,hs'⟩:∃ sn,was l D sn:=by
    cases hc:DM D l with
    | none=>exact ⟨false,.inr ⟨rfl,.inl hc⟩⟩
    | some b => cases b with
      | false=>exact ⟨false,.inr ⟨rfl,.inr hc⟩⟩
      | true=>exact ⟨true,.inl ⟨rfl,hc⟩⟩
   cases n with
   | zero =>
     have h:=Is ok.okA ok.ok w l f g pc xt hpc _ rfl hop h2 ha hb D hD _ sn rfl hs'
     rw [hX] at h
     cases sn with
     | true=>exact ⟨⟨w,l,0,q,_⟩,.intro (.NN rfl rfl h) BD,rfl,id,.inl ⟨fun hc=>by have:=hc.2.2.2.1;dsimp only at this;omega,rfl⟩⟩
     | false=>exact ⟨⟨w,_,1,fun _=>D,_⟩,.intro (.NS rfl Nat.one_pos h) BD,rfl,id,.inl ⟨fun hc=>by have:=hc.2.2.2.1;dsimp only at this;omega,rfl⟩⟩
   | succ n =>
     have h:=II ok.okA ok.ok w (n + 1) hs q l f g pc xt hpc _ rfl hop h2 ha hb D hD _ sn rfl hs'
     rw [hX] at h
     cases sn with
     | true=>exact ⟨⟨w,l,n + 1,q,_⟩,.intro (.SS (Nat.succ_pos _) (Nat.succ_pos _) h) BD,rfl,id,.inl ⟨fun hc=>by have:=hc.2.2.2.1;dsimp only at this;omega,rfl⟩⟩
     | false=>exact ⟨⟨w,_,n + 1 + 1,_,_⟩,.intro (.SN (Nat.succ_pos _) (Nat.succ_pos _) h) BD,rfl,id,.inl ⟨fun hc=>by have:=hc.2.2.2.1;dsimp only at this;omega,rfl⟩⟩
 ·exact ⟨⟨w,l,n,q,D2 w.pres m⟩,⟨.mach (Aam ok.ok ok.okP w.pres m ha) rfl,Nat.le_succ _⟩,rfl,id,.inl ⟨fun hc=>ha (PM hc),rfl⟩⟩
variable {M:Seat}
noncomputable def Hy (pres:List (Dg × Pr)) (m:Mc):List (Dg × Pr):=haveI:Decidable (Nc m):=Classical.propDecidable _;if Nc m then CV (Cf (X8 m).at) (X8 m) pres else pres
noncomputable def xs (m:Mc) (p:List (Dg × Pr)):Nat→Mc × List (Dg × Pr)
 | 0=>(m,p)
 | i + 1=>(D2 (xs m p i).2 (xs m p i).1,Hy (xs m p i).2 (xs m p i).1)
theorem Xn {m:Mc} (p:List (Dg × Pr)) (h:m.hl=true):D2 p m=m:=by unfold D2;rw [if_pos h]
theorem V7 {m:Mc} (p:List (Dg × Pr)) (h:m.hl=true):Hy p m=p:=by
 unfold Hy;rw [if_neg (fun h2=>by have:=h2.1;rw [h] at this;cases this)]
theorem Apv {m:Mc} {p:List (Dg × Pr)} (i:Nat) (h:(xs m p i).1.hl=true):xs m p (i + 1)=xs m p i:=by
 show (D2 _ _,Hy _ _)=_
 rw [Xn _ h,V7 _ h]
theorem Afz {m:Mc} {p:List (Dg × Pr)} (i:Nat) (h:(xs m p i).1.hl=true):∀ j,xs m p (i + j)=xs m p i
 | 0=>rfl
 | j + 1 => by
   have ih:=Afz i h j
   rw [show i + (j + 1)=(i + j) + 1 from rfl,Apv (i + j) (by rw [ih];exact h),ih]
theorem Vt (m:Mc) (p:List (Dg × Pr)) (i:Nat):∀ j,xs m p (i + j)=xs (xs m p i).1 (xs m p i).2 j
 | 0=>rfl
 | j + 1 => by
   have ih:=Vt m p i j
   show (D2 (xs m p (i + j)).2 (xs m p (i + j)).1,Hy (xs m p (i + j)).2 (xs m p (i + j)).1)=_
   rw [ih];rfl
theorem Mt (ok:OkT M) (s:SM):∃ s',s.n < 1099511627776→IC M s s'∧(s'.m,s'.w.pres)=(D2 s.w.pres s.m,Hy s.w.pres s.m)∧(C3 s.w.pres→C3 s'.w.pres):=by
 by_cases hs:s.n < 1099511627776
 ·obtain ⟨s',h1,h2,h3,h4⟩:=T6 ok s hs
  refine ⟨s',fun _=>⟨h1,?_,h3⟩⟩
  rw [h2]
  congr 1
  unfold Hy
  rcases h4 with ⟨h5,h6⟩ | ⟨h5,h6⟩
  ·rw [if_neg h5,h6]
  ·rw [if_pos h5,h6,WS.add,PD]
 ·exact ⟨s,fun h=>absurd h hs⟩
noncomputable def OL (ok:OkT M) (s:SM):SM:=Classical.choose (Mt ok s)
theorem Wv (ok:OkT M) (s:SM) (h:s.n < 1099511627776):IC M s (OL ok s)∧((OL ok s).m,(OL ok s).w.pres)=(D2 s.w.pres s.m,Hy s.w.pres s.m)∧(C3 s.w.pres→C3 (OL ok s).w.pres):=Classical.choose_spec (Mt ok s) h
noncomputable def SX (ok:OkT M) (s:SM):Nat→SM
 | 0=>s
 | i + 1=>OL ok (SX ok s i)
theorem NC (ok:OkT M) (s:SM) (hs:s.n=0):∀ i,i < 549755813888→(SX ok s i).n≤i∧((SX ok s i).m,(SX ok s i).w.pres)=xs s.m s.w.pres i∧(C3 s.w.pres→C3 (SX ok s i).w.pres)
 | 0,_=>⟨by show s.n≤0;omega,rfl,fun h=>h⟩
 | i + 1, h => by
   obtain ⟨h1,h2,h3⟩:=NC ok s hs i Aa
   obtain ⟨k1,k2,k3⟩:=Wv ok (SX ok s i) Aa
   refine ⟨by have:=k1.2;show (OL ok (SX ok s i)).n≤i + 1;omega,?_,fun hp=>k3 (h3 hp)⟩
   show ((OL ok (SX ok s i)).m,(OL ok (SX ok s i)).w.pres)=(D2 _ _,Hy _ _)
   rw [k2,← h2]
theorem Am8 (ok:OkT M) (s:SM) (hs:s.n=0) (i:Nat) (hi:i < 549755813888):IC M (SX ok s i) (SX ok s (i + 1)) :=
 (Wv ok _ (by have:=(NC ok s hs i hi).1;omega)).1
theorem Z5 (P:Nat→Prop) (n:Nat):∃ k,k≤n∧(∀ j,j < k→¬ P j)∧(P k ∨ k=n):=by
 induction n with
 | zero=>exact ⟨0,Nat.le_refl _,fun j h=>absurd h (Nat.not_lt_zero _),.inr rfl⟩
 | succ n ih =>
   obtain ⟨k,h1,h2,h3⟩:=ih
   by_cases hp:P k
   ·exact ⟨k,by omega,h2,.inl hp⟩
   ·obtain rfl:k=n:=h3.resolve_left hp
    exact ⟨k + 1,Nat.le_refl _,fun j hj=>by
     rcases Nat.lt_or_ge j k with h | h
     ·exact h2 j h
     ·obtain rfl:j=k:=Aa
      exact hp,.inr rfl⟩
theorem To (ok:OkT M) (s:SM) (hs:s.n=0) (hp:C3 s.w.pres) (n:Nat) (hn:n < 549755813888) :
 ∃ (k:Nat) (s':SM),k≤n∧(s'.m.hl=true ∨ k=n)∧(s'.m,s'.w.pres)=xs s.m s.w.pres k∧C3 s'.w.pres ∧
  Ae M 71 [.ptr 5 [],.ptr 0 [],.int .i64 n] (Nh s) 6 (Q3 (Ag (.int .i64 k) .nili) (SE s') (RX s')):=by
 obtain ⟨k,h1,h2,h3⟩:=Z5 (fun j=>(SX ok s j).m.hl=true) n
 obtain ⟨_,q2,q3⟩:=NC ok s hs k Aa
 exact ⟨k,SX ok s k,h1,h3,q2,q3 hp,UL ok.ok.k71 (SX ok s) hs n k h1 hn (fun i hi=>Am8 ok s hs i Aa) h2 h3⟩
def Abm:LC:=(sr [A1 2 (.mv (.c .nilp))] (sr [mt 6 0,kl 7 75 [(.t 6)],kl 8 74 [(.t 7)],mt 5 8,ee 9 5 0,ee 10 5 1,mt 3 9,mt 4 10] (.seq (sr [mt 11 4,A1 12 (.eq true true (.iface [74]) (.t 11) (.c .nili))] (.cond (.t 12) (sr [A1 2 (.mv (.c .nilp))] .ret) .skip)) (sr [mt 13 3,mt 2 13] .ret))))
def XL:LF:=⟨Abm,1,0,14,[.tmp 2]⟩
def Amf:LC:=(sr [A1 6 (.mv (.c .nilp)),mn 7] (.seq (.block 0 (sr [mt 10 0,A1 11 (.eq false true .ptr (.t 10) (.c .nilp)),mt 12 11,mg 13 12 false 1,A2 14 12 false (.eq false true .ptr (.t 13) (.c .nilp)),
  Di 15 12 14,mt 9 15] (.cond (.t 9) (sr [A1 16 (.mkif 74 (cI 1)),A1 6 (.mv (.c .nilp)),mt 7 16] .ret) (sr [mt 18 2,aI 19 .lss 18 1,mt 20 19,mg 21 20 false 2,A2 22 20 false (.ari .gtr (.t 21) (cI 20)),
  Di 23 20 22,mt 17 23] (.cond (.t 17) (sr [A1 24 (.mkif 74 (cI 2)),A1 6 (.mv (.c .nilp)),mt 7 24] .ret) .skip))))) (sr [mt 25 0,kl 26 49 [(.t 25)],mt 27 1,kl 28 167 [(.t 27)],A1 29 (.build (.st (.cons (.int .u64) (.cons .ptr (.cons .ptr .nil)))) [(.f 1,1,(.t 26)),(.f 2,1,(.t 28))]),A1 8 (.alloc (.st (.cons (.int .u64) (.cons .ptr (.cons .ptr .nil))))),sb 3 8 29] (sr [la 30 3 8,A1 31 (.bsl 3 1 (.st (.cons (.int .u64) (.cons .ptr (.cons .ptr .nil)))) [(.i 3 0,3,(.t 30))]),mt 32 2,A1 33 (.mkmap (.int .u64) (.ar 32 (.int .u8))),A1 34 (.mkmap (.ar 32 (.int .u64)) (.ar 32 (.int .u8))),A1 35 (.build (.st (.cons .slice (.cons (.int .i64) (.cons .map (.cons .map .nil))))) [(.f 0,1,(.t 31)),(.f 1,1,(.t 32)),(.f 2,1,(.t 33)),(.f 3,1,(.t 34))]),
  bX 36 35,mt 6 36,mn 7] .ret))))
def An5:LF:=⟨Amf,3,0,37,[.tmp 6,.tmp 7]⟩
def Ah9:LC:=(sr [aB 2 32,mn 3] (.seq (sr [mt 4 0,A1 5 (.eq false true .ptr (.t 4) (.c .nilp))] (.cond (.t 5) (sr [A1 6 (.build (.ar 32 (.int .u8)) []),A1 7 (.mkif 74 (cI 1)),sb 32 2 6,mt 3 7] .ret) .skip)) (sr [mt 8 0,mt 9 0,nc 10 9,fa 11 0 10,lb 12 1 11,
  iJ 13 3 12 0,fa 14 1 13,lb 15 1 14,kl 16 274 [(.t 8),(.t 15)],ee 17 16 0,ee 18 16 1,sb 32 2 17,mt 3 18] .ret)))
def Aa6:LF:=⟨Ah9,1,0,19,[.cell 2 true 32,.tmp 3]⟩
def O2:LC:=(sr [aB 4 32,mn 5] (.seq (.block 0 (sr [mt 12 0,A1 13 (.eq false true .ptr (.t 12) (.c .nilp)),mt 11 13] (.cond (.t 11) (sr [A1 14 (.build (.ar 32 (.int .u8)) []),A1 15 (.mkif 74 (cI 1)),sb 32 4 14,mt 5 15] .ret) (sr [mt 17 1,mt 18 0,nc 19 18,fa 20 1 19,lb 21 1 20,
  aV 22 .shl 1 21,ak 23 .geq 17 22,mt 16 23] (.cond (.t 16) (sr [A1 24 (.build (.ar 32 (.int .u8)) []),A1 25 (.mkif 74 (cI 2)),sb 32 4 24,mt 5 25] .ret) .skip))))) (sr [mt 26 0,mt 27 1,
  aU 28 .add 27 1,kl 29 275 [(.t 26),(.t 28)],A1 6 (.alloc (.st (.cons (.int .u64) (.cons .ptr (.cons .ptr .nil))))),sb 3 6 29] (.seq (.seq (.regd [⟨0,0,mt 31 0⟩,⟨1,1,nc 32 31⟩,⟨2,3,fa 33 2 32⟩,⟨3,7,lb 34 1 33⟩,⟨4,0,fa 35 0 6⟩,⟨5,16,lb 36 1 35⟩,⟨6,63,A1 37 (.mlook .int (.ar 32 (.int .u8)) true (.t 34) (.t 36))⟩,⟨7,127,mt 30 37⟩,⟨8,255,ee 38 30 0⟩,⟨10,0,aB 7 32⟩,⟨11,1023,sb 32 7 38⟩,⟨9,255,ee 39 30 1⟩,⟨12,4095,mt 8 39⟩]) (sr [mt 40 8] (.cond (.t 40) (sr [la 41 32 7,sb 32 4 41,mn 5] .ret) .skip))) (sr [mt 43 0,fa 44 1 6,lb 45 1 44,kl 46 274 [(.t 43),(.t 45)],mt 42 46,ee 47 42 0,ee 48 42 1,
  aB 9 32,sb 32 9 47,mt 10 48] (.seq (.regd [⟨0,0,mt 49 0⟩,⟨1,1,nc 50 49⟩,⟨2,3,fa 51 2 50⟩,⟨3,7,lb 52 1 51⟩,⟨4,0,fa 53 0 6⟩,⟨5,16,lb 54 1 53⟩,⟨6,0,la 55 32 9⟩,⟨7,127,A0 (.mupd .int (.t 52) (.t 54) (.t 55))⟩]) (sr [la 56 32 9,mt 57 10,sb 32 4 56,mt 5 57] .ret)))))))
def Nk:LF:=⟨O2,2,0,58,[.cell 4 true 32,.tmp 5]⟩
def Ajg:LC:=(sr [A1 4 (.alloc (.st (.cons (.ar 32 (.int .u8)) (.cons (.st (.cons (.ar 16 (.int .u64)) (.cons (.int .u64) (.cons .bool (.cons (.int .u64) .nil))))) (.cons .slice (.cons (.ar 64 (.int .u8)) .nil)))))),mn 5] (.seq (.block 0 (sr [mt 8 0,A1 9 (.eq false true .ptr (.t 8) (.c .nilp)),mt 7 9] (.cond (.t 7) (sr [A1 10 (.build (.st (.cons (.ar 32 (.int .u8)) (.cons (.st (.cons (.ar 16 (.int .u64)) (.cons (.int .u64) (.cons .bool (.cons (.int .u64) .nil))))) (.cons .slice (.cons (.ar 64 (.int .u8)) .nil))))) []),A1 11 (.mkif 74 (cI 1)),sb 116 4 10,mt 5 11] .ret) (sr [mt 13 1,mt 14 0,nc 15 14,fa 16 1 15,lb 17 1 16,
  aV 18 .shl 1 17,ak 19 .geq 13 18,mt 12 19] (.cond (.t 12) (sr [A1 20 (.build (.st (.cons (.ar 32 (.int .u8)) (.cons (.st (.cons (.ar 16 (.int .u64)) (.cons (.int .u64) (.cons .bool (.cons (.int .u64) .nil))))) (.cons .slice (.cons (.ar 64 (.int .u8)) .nil))))) []),A1 21 (.mkif 74 (cI 2)),sb 116 4 20,mt 5 21] .ret) .skip))))) (sr [mt 22 0,mt 23 1,kl 24 275 [(.t 22),(.t 23)],A1 6 (.alloc (.st (.cons (.int .u64) (.cons .ptr (.cons .ptr .nil))))),sb 3 6 24] (sr [fa 25 1 6,lb 26 1 25,fa 27 2 6,lb 28 1 27,kl 29 97 [(.t 26),(.t 28)],ee 30 29 0,ee 31 29 1,sb 116 4 30,mt 5 31] .ret))))
def Ak5:LF:=⟨Ajg,2,0,32,[.cell 4 true 116,.tmp 5]⟩
def Ajd:LC:=(sr [A1 2 (.mv (.c .nilp))] (sr [kl 5 222 [],mt 3 5] (.seq (sr [mI 6 0] (.block 0 (.loop (sr [aI 7 .lss 6 8] (.seq (Ew 7 0) (.seq (.block 1 (sr [mt 8 6,mt 4 8] (sr [mt 9 3,A1 10 (.eq false true .ptr (.t 9) (.c .nilp)),mt 11 10,mg 12 11 false 3,mg 13 11 false 4,mg 14 11 false 0,⟨(some 15),.call 223 [(.t 12),(.t 13),(.t 14)],(some (11,false))⟩,A2 16 11 false (.eq true true (.iface [74]) (.t 15) (.c .nili)),
  Di 17 11 16] (.cond (.t 17) (sr [A1 2 (.mv (.c .nilp))] .ret) .skip)))) (.reg [aI 18 .add 6 1,mt 6 18]))))))) (sr [mt 19 3,mt 2 19] .ret))))
def Akb:LF:=⟨Ajd,1,0,20,[.tmp 2]⟩
def Alu:LC:=(sr [bX 5 2,A1 6 (.alloc (.st (.cons (.int .i64) (.cons (.st (.cons (.int .u64) (.cons (.int .u64) .nil))) (.cons (.ar 32 (.int .u8)) .nil)))))] (sr [mt 7 0,mt 8 1,A1 9 (.build (.st (.cons (.int .u64) (.cons (.int .u64) .nil))) [(.f 0,1,(.t 8))]),la 10 32 5,A1 11 (.build (.st (.cons (.int .i64) (.cons (.st (.cons (.int .u64) (.cons (.int .u64) .nil))) (.cons (.ar 32 (.int .u8)) .nil)))) [(.f 0,1,(.t 7)),(.f 1,2,(.t 9)),(.f 3,32,(.t 10))]),sb 35 6 11] .ret))
def Aji:LF:=⟨Alu,3,0,12,[.cell 6 true 35]⟩
def Ac9:LC:=(sr [aB 4 32,mn 5] (sr [A1 6 (.mv (.c .nils))] (.seq (sr [mI 7 0] (.block 0 (.loop (.seq (sr [mt 12 7,aI 13 .lss 12 8192]
 (Ew 13 0)) (.seq (.block 1 (.reg [mt 16 6,mt 17 0,mt 18 1,nc 19 18,fa 20 0 19,mt 21 7,mt 22 7,aI 23 .add 22 32,A1 24 (.slarr 8192 1 (.t 20) (some (.t 21)) (some (.t 23))),A1 25 (.s2a 32 1 (.t 24)),la 26 32 25,kl 27 363 [(.t 17),(.t 26)],A1 28 (.bsl 32 1 (.ar 32 (.int .u8)) [(.i 32 0,32,(.t 27))]),
  aP 29 32 32 16 28,mt 6 29])) (.reg [mt 14 7,aI 15 .add 14 32,mt 7 15])))))) (sr [mt 31 6,kl 32 200 [(cI 8),(.t 31)],mt 30 32,ee 33 30 0,ee 34 30 1,
  aB 8 32,sb 32 8 33,mt 9 34] (sr [mt 36 1,kl 37 55 [(.t 36)],mt 35 37,ee 38 35 0,ee 39 35 1,A1 10 (.alloc (.st (.cons (.ar 16 (.int .u64)) (.cons (.int .u64) (.cons .bool (.cons (.int .u64) .nil)))))),sb 19 10 38,mt 11 39] (sr [la 40 32 8,la 41 19 10,kl 42 62 [(.t 40),(.t 41)],mt 43 9,sb 32 4 42,mt 5 43] .ret))))))
def Aeu:LF:=⟨Ac9,2,0,44,[.cell 4 true 32,.tmp 5]⟩
def Qr:LC:=(sr [A1 4 (.alloc (.st (.cons (.int .u64) (.cons .ptr (.cons .ptr .nil)))))] (sr [mt 11 0,nc 12 11,fa 13 0 12,lb 14 1 13,
  iJ 15 3 14 0,la 16 3 15,A1 5 (.alloc (.st (.cons (.int .u64) (.cons .ptr (.cons .ptr .nil))))),sb 3 5 16] (.seq (sr [mt 17 0,nc 18 17,fa 19 0 18,lb 20 1 19,
  lN 21 0 20,
  mI 22 0] (.block 0 (.loop (sr [ak 23 .lss 22 21] (.seq (Ew 23 0) (.seq (.block 1 (sr [ia 24 3 20 22,la 25 3 24,A1 7 (.alloc (.st (.cons (.int .u64) (.cons .ptr (.cons .ptr .nil))))),sb 3 7 25] (sr [fa 26 0 7,lb 27 1 26,mt 28 1,ak 29 .leq 27 28,mt 30 29,A2 31 30 true (.fadr 0 (.t 7)),A2 32 30 true (.load false 1 (.t 31)),A2 33 30 true (.fadr 0 (.t 5)),A2 34 30 true (.load false 1 (.t 33)),A2 35 30 true (.ari .gtr (.t 32) (.t 34)),
  HX 36 30 35] (.cond (.t 36) (.reg [la 37 3 7,sb 3 5 37]) .skip)))) (.reg [aI 38 .add 22 1,mt 22 38]))))))) (.seq (sr [fa 39 0 5,lb 40 1 39,mt 41 1,ak 42 .eql 40 41,mt 43 42,A2 44 43 false (.fadr 1 (.t 5)),A2 45 43 false (.load false 1 (.t 44)),A2 46 43 false (.nilc (.t 45)),A2 47 43 false (.fadr 8209 (.t 46)),A2 48 43 false (.load false 1 (.t 47)),
  Di 49 43 48] (.cond (.t 49) (sr [la 50 3 5,sb 3 4 50] .ret) .skip)) (.seq (.regd [⟨1,0,fa 52 1 5⟩,⟨2,1,lb 53 1 52⟩,⟨3,3,kl 54 49 [(.t 53)]⟩,⟨4,0,fa 55 2 5⟩,⟨5,8,lb 56 1 55⟩,⟨6,31,kl 57 167 [(.t 56)]⟩,⟨0,0,mt 51 1⟩,⟨7,127,A1 58 (.build (.st (.cons (.int .u64) (.cons .ptr (.cons .ptr .nil)))) [(.f 0,1,(.t 51)),(.f 1,1,(.t 54)),(.f 2,1,(.t 57))])⟩,⟨8,0,A1 8 (.alloc (.st (.cons (.int .u64) (.cons .ptr (.cons .ptr .nil)))))⟩,⟨9,511,sb 3 8 58⟩]) (sr [fa 60 1 8,lb 61 1 60,fa 62 2 8,lb 63 1 62,mt 64 1,fa 65 0 5,lb 66 1 65,ak 67 .sub 64 66,
  Eh 68 .i64 67,kl 69 71 [(.t 61),(.t 63),(.t 68)],mt 59 69,ee 70 59 0,ee 71 59 1,mt 9 70,mt 10 71] (sr [fa 72 0 5,lb 73 1 72,mt 74 9,
  Eh 75 .u64 74,ak 76 .add 73 75,fa 77 0 8,sb 1 77 76] (.seq (sr [mt 78 0,nc 79 78,fa 80 0 79,lb 81 1 80,
  lN 82 0 81,aI 83 .lss 82 32] (.cond (.t 83) (.regd [⟨1,0,mt 85 0⟩,⟨2,1,nc 86 85⟩,⟨3,3,fa 87 0 86⟩,⟨4,7,lb 88 1 87⟩,⟨5,0,la 89 3 8⟩,⟨6,16,A1 90 (.bsl 3 1 (.st (.cons (.int .u64) (.cons .ptr (.cons .ptr .nil)))) [(.i 3 0,3,(.t 89))])⟩,⟨7,63,aP 91 3 24 88 90⟩,⟨0,0,mt 84 0⟩,⟨8,255,nc 92 84⟩,⟨9,511,fa 93 0 92⟩,⟨10,1023,sb 1 93 91⟩]) .skip)) (sr [la 94 3 8,sb 3 4 94] .ret)))))))))
def O4:LF:=⟨Qr,2,0,95,[.cell 4 true 3]⟩
def Aff:LC:=(sr [bX 3 1,
 aB 4 32] (.seq (.regd [⟨0,0,mt 11 0⟩,⟨1,1,nc 12 11⟩,⟨2,3,fa 13 3 12⟩,⟨3,7,lb 14 1 13⟩,⟨4,0,la 15 32 3⟩,⟨5,31,A1 16 (.mlook (.ar 32 1 false .int) (.ar 32 (.int .u8)) true (.t 14) (.t 15))⟩,⟨6,63,mt 10 16⟩,⟨7,127,ee 17 10 0⟩,⟨9,0,aB 5 32⟩,⟨10,511,sb 32 5 17⟩,⟨8,127,ee 18 10 1⟩,⟨11,2047,mt 6 18⟩]) (.seq (sr [mt 19 6,A1 20 (.un .not (.t 19))] (.cond (.t 20) (sr [A1 7 (.alloc (.ar 32 (.ar 32 (.int .u8))))] (.seq (sr [la 21 32 3,
  mI 22 0] (.block 0 (.loop (sr [aI 23 .lss 22 32] (.seq (Ew 23 0) (.seq (.block 1 (sr [mt 24 22,A1 25 (.idx 32 1 false (.t 21) (.t 22)),mt 8 24,mt 9 25] (.reg [mt 26 8,ib 27 32 32 7 26,A1 28 (.slarr 32 1 (.t 27) (some (cI 24)) none),mt 29 9,kl 30 312 [(.t 28),(.t 29)]]))) (.reg [aI 31 .add 22 1,mt 22 31]))))))) (sr [A1 33 (.slarr 32 32 (.t 7) none none),kl 34 200 [(cI 5),(.t 33)],mt 32 34,ee 35 32 0,ee 36 32 1,sb 32 5 35]
 (.regd [⟨0,0,mt 37 0⟩,⟨1,1,nc 38 37⟩,⟨2,3,fa 39 3 38⟩,⟨3,7,lb 40 1 39⟩,⟨4,0,la 41 32 3⟩,⟨5,0,la 42 32 5⟩,⟨6,63,A0 (.mupd (.ar 32 1 false .int) (.t 40) (.t 41) (.t 42))⟩])))) .skip)) (sr [la 43 32 5,sb 32 4 43] .ret))))
def Ahp:LF:=⟨Aff,2,0,44,[.cell 4 true 32]⟩
def Gx (p:Nat→BitVec 64):V:=.ar 1 32 fun j=>W (p j)
def Vm (p:Nat→BitVec 64):List Dg:=(List.range 32).map fun j=>CF (p j)
def PL (p:Nat→BitVec 64):Dg:=Gi (Vm p) 5 0
def eqK (p q:Nat→BitVec 64):Bool:=(List.range 32).all fun j=>decide (p j=q j)
theorem Zp {p q:Nat→BitVec 64}:eqK p q=true ↔ ∀ j,j < 32→p j=q j:=by
 simp [eqK]
theorem UG {p q:Nat→BitVec 64} (h:∀ j,j < 32→p j=q j):PL p=PL q:=by
 have:Vm p=Vm q:=List.map_congr_left fun j hj=>by rw [h j (List.mem_range.1 hj)]
 rw [PL,PL,this]
def G6 (p:Nat→BitVec 64):List (Nat→BitVec 64)→Option Nat
 | []=>none
 | q :: r=>if eqK p q=true then some 0 else (G6 p r).map (· + 1)
def kmZ:Nat→BitVec 64:=fun _=>0#64
def DI (l:List (Nat→BitVec 64)):V:=.mp l.length (fun j=>Gx (l.getD j kmZ)) (fun j=>dg (PL (l.getD j kmZ)))
theorem ZS (p q:Nat→BitVec 64):AP (.ar 32 1 false .int) (Gx p) (Gx q)=eqK p q:=by
 simp only [AP,Gx,eqK,W]
 congr 1
 funext j
 simp only [decide_eq_decide]
 constructor
 ·intro h;exact BitVec.eq_of_toNat_eq Aa
 ·intro h;rw [h]
theorem MN (p q:Nat→BitVec 64):AL true (.ar 32 1 false .int) (Gx p) (Gx q)=True:=by
 simp [AL,Gx,W,V.isAgg]
theorem E2 (p:Nat→BitVec 64):(Gx p).solid=true:=rfl
theorem M2 (p:Nat→BitVec 64):(Gx p).size=32:=rfl
theorem Qv (p:Nat→BitVec 64):(Gx p).isAgg=true:=rfl
theorem Ow (p:Nat→BitVec 64) (ks:Nat→V):∀ (l:List (Nat→BitVec 64)) (i:Nat),(∀ j,j < l.length→ks (i + j)=Gx (l.getD j kmZ))→GQ (.ar 32 1 false .int) (Gx p) ks i l.length=(G6 p l).map (i + ·)
 | [],_,_=>rfl
 | q :: r, i, h => by
   have h0:=h 0 BD
   simp only [Nat.add_zero,List.getD_cons_zero] at h0
   have ih:=Ow p ks r (i + 1) (fun j hj=>by
    have:=h (j + 1) (by simpa using hj)
    simp only [List.getD_cons_succ] at this
    rw [← this];congr 1;omega)
   simp only [List.length_cons,GQ,h0,ZS,G6]
   by_cases hk:eqK p q=true
   ·simp [hk]
   ·simp only [hk,RW,ih,Option.map_map]
    congr 1
    funext j
    simp only [Function.comp];omega
theorem MM (p:Nat→BitVec 64) (l:List (Nat→BitVec 64)):GQ (.ar 32 1 false .int) (Gx p) (fun j=>Gx (l.getD j kmZ)) 0 l.length=G6 p l:=by
 rw [Ow p _ l 0 (fun j _=>by rw [Nat.zero_add])]
 cases G6 p l <;> simp
theorem Od (p:Nat→BitVec 64):∀ (l:List (Nat→BitVec 64)) (i:Nat),G6 p l=some i→PL (l.getD i kmZ)=PL p
 | [],_,h=>by cases h
 | q :: r, i, h => by
   rw [G6] at h
   by_cases hk:eqK p q=true
   ·rw [if_pos hk] at h
    cases h
    exact UG fun j hj=>(Zp.1 hk j hj).symm
   ·rw [if_neg hk] at h
    cases hr:G6 p r with
    | none=>rw [hr] at h;cases h
    | some k =>
      rw [hr] at h
      cases h
      exact Od p r k hr
theorem Uy (z:Z) (hh:Bool) (l:List (Nat→BitVec 64)) (p:Nat→BitVec 64) (H:Hp) (i:Nat) (h:G6 p l=some i):CJ (.ar 32 1 false .int) z true hh (DI l) (Gx p) H=⟨hh=true,.tup (.fcons 0 (dg (PL p)) (.fcons 1 (.bool true) .fnil)),H⟩:=by
 simp only [CJ,DI,MM,h,E2,MN,implies_true,N9,if_true,Od p l i h]
theorem T2 (z:Z) (hh:Bool) (l:List (Nat→BitVec 64)) (p:Nat→BitVec 64) (H:Hp) (h:G6 p l=none):CJ (.ar 32 1 false .int) z true hh (DI l) (Gx p) H=⟨hh=true,.tup (.fcons 0 (z.v 0) (.fcons 1 (.bool false) .fnil)),H⟩:=by
 simp only [CJ,DI,MM,h,E2,MN,implies_true,N9,if_true]
theorem Mu {α:Type} (l:List α) (x d:α) (j:Nat):(l ++ [x]).getD j d=if j=l.length then x else l.getD j d:=by
 simp only [List.getD_eq_getElem?_getD]
 by_cases h:j < l.length
 ·rw [List.getElem?_append_left h,if_neg Aa]
 ·by_cases h2:j=l.length
  ·subst h2;simp
  ·rw [if_neg h2,List.getElem?_append_right Aa,List.getElem?_eq_none Fu,List.getElem?_eq_none Aa]
theorem Yj (hh:Bool) (l:List (Nat→BitVec 64)) (p:Nat→BitVec 64) (id:Nat) (H:Hp) (h:G6 p l=none):Gn (.ar 32 1 false .int) hh (DI l) (Gx p) (dg (PL p)) id H=⟨hh=true,.tup .fnil,Cs H id (DI (l ++ [p]))⟩:=by
 have e:DI (l ++ [p]) = .mp (l.length + 1) (fun j=>if j=l.length then Gx p else Gx (l.getD j kmZ)) (fun j=>if j=l.length then dg (PL p) else dg (PL (l.getD j kmZ))):=by
  simp only [DI,List.length_append,List.length_singleton,Mu]
  congr 1
  ·funext j;split <;> rfl
  ·funext j;split <;> rfl
 rw [e]
 simp only [Gn,DI,MM,h,E2,Df,MN,Option.getD_none,implies_true,N9]
theorem A5 (m:List Nat) (l:List (Nat→BitVec 64)):(DI l).ren m=DI l:=by
 simp only [DI,V.ren,AC,Gx,W]
theorem Ak (H:Hp) (m z:List Nat) (l:List (Nat→BitVec 64)):At H m z (DI l) (DI l)=True:=by
 refine eq_true ?_
 simp only [DI,At,true_and]
 exact fun i _=>⟨by simp [Gx,At,W],(AN _ _ _ _ _).mpr rfl⟩
def Ag2 (l:List (Nat→BitVec 64)) (p:Nat→BitVec 64):List (Nat→BitVec 64):=match G6 p l with
 | some _=>l
 | none=>l ++ [p]
theorem Uk (w:BitVec 64) (j:Nat) (hj:j < 32):(CF w).at j=if 24≤j∧j < 24 + 8 then Vc w (j - 24) else 0#8:=by
 rw [CF,Dg.at_mk' _ j hj]
 by_cases h:j < 24
 ·rw [if_pos h,if_neg Aa];rfl
 ·rw [if_neg h,if_pos Aa];rfl
theorem T1 {M:Seat} (hc:Ar M 312 Pp=true) (F:Nat→Dg) (k:Nat) (hk:k < 32) (hF:F k=Dg.zero) (w:BitVec 64) :
 Ae M 312 [.sl 0 [.i 32 k] 24 8 1,W w] [(0,.ar 32 32 fun j=>dg (F j))] 1 (Q3 (.tup .fnil) [(0,.ar 32 32 fun j=>dg (if j=k then CF w else F j))] 1):=by
 refine Ab hc rfl fun x hx=>?_
 refine es 2000 ?_;(simp only [Pp,Aie,LZ,seval])
 refine An (σ:=Nat) (fun i=>i≤8) (fun i=>fr 18 [(0,.sl 0 [.i 32 k] 24 8 1),(1,W w),(5,.int .i64 i)])
  (fun i=>[(0,.ar 32 32 fun j=>.ar 1 32 fun q=>B (if j=k∧24≤q∧q < 24 + i then Vc w (q - 24) else (F j).at q))]) (fun _=>1) (fun i=>8 - i) 0 Aa ?_ ?_
 ·refine Ao.fr [0] [] hx AX Am ?_ ?_
  ·simp only [Int.natCast_zero,LY,seval]
  ·simp only [dg,LY,seval]
   intro j hj q hq
   rw [if_neg Aa]
 ·intro i hi
  refine es 2000 ?_
  by_cases h8:i=8
  ·subst h8
   have d0:(((8:Nat):Int) < 8)=False:=eq_false Aa
   (simp only [d0,LZ,seval])
   refine Aq.mk hx [0] [] (.tup .fnil) _ 1 Am (by (simp only [Db,seval])) (by simp only [LV,LY,seval]) ?_ ⟨rfl,rfl,rfl⟩
   simp only [dg,LY,seval]
   intro j hj q hq
   by_cases hjk:j=k
   ·subst hjk
    rw [if_pos rfl,Uk w q hq,hF,Dg.at_zero]
    by_cases h:24≤q∧q < 24 + 8
    ·rw [if_pos h,if_pos ⟨rfl,h⟩]
    ·rw [if_neg h,if_neg (fun h2=>h h2.2)];rfl
   ·rw [if_neg hjk,if_neg (fun h2=>hjk h2.1)]
  ·have d0:((i:Int) < 8)=True:=eq_true Aa
   have d1:(0≤(i:Int))=True:=eq_true Aa
   have w1:IntKind.i64.wrap (8 * (i:Int))=((8 * i:Nat):Int):=Br
   have w2:IntKind.i64.wrap (56 - ((8 * i:Nat):Int))=((56 - 8 * i:Nat):Int):=Br
   have w3:IntKind.i64.wrap ((i:Int) + 1)=((i + 1:Nat):Int):=Br
   (simp only [d0,d1,w1,w2,w3,LZ,seval])
   refine ⟨by omega,hk,by omega,i + 1,by omega,by omega,?_⟩
   refine Ao.fr [0] [] hx AX Am ?_ ?_
   ·simp only [LY,seval]
   ·simp only [LY,seval]
    intro j hj
    by_cases hjk:j=k
    ·subst hjk
     simp only [if_true,true_and,LY,seval]
     intro q hq
     by_cases h1:q=24 + i
     ·rw [if_pos h1,if_pos Aa,h1,show 24 + i - 24=i by omega];exact (Jz _ _ _ _ _).mpr rfl
     ·rw [if_neg h1]
      by_cases h2:24≤q∧q < 24 + i
      ·rw [if_pos h2,if_pos Aa];exact (Jz _ _ _ _ _).mpr rfl
      ·rw [if_neg h2,if_neg Aa];exact (Jz _ _ _ _ _).mpr rfl
    ·simp only [hjk,false_and,if_false,LY,seval]
end Mv
