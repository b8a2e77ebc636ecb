/- A part. -/
import Derived.Test.YtpcgkiecjakknaaGreatDoorDQ
import Derived.Test.YtpcgkiecjakknaaGreatDoorDR
set_option linter.all false
set_option maxRecDepth 20000
set_option maxHeartbeats 16000000
namespace Mv
open Go
def c33:LC:=(sr [bX 2 0,A1 4 (.mv (.c (.bool false)))] (sr [la 20 7 2,mt 21 1,kl 22 127 [(.t 20),(.t 21)],mt 19 22,ee 23 19 0,ee 24 19 1,ee 25 19 2,mt 5 23,mt 6 24,mt 7 25] (.seq (sr [mt 26 5,A1 27 (.eq false true .ptr (.t 26) (.c .nilp)),mt 28 27,⟨(some 29),.call 116 [],(some (28,false))⟩,A2 30 28 false (.un .not (.t 29)),
  BV 31 28 30] (.cond (.t 31) (sr [A1 4 (.mv (.c (.bool false)))] .ret) .skip)) (sr [mt 32 7,mt 33 5,kl 34 119 [(.t 33)],A1 35 (.fld 1 2 true (.t 34)),A1 36 (.fld 0 1 false (.t 35)),
  aV 37 .mul 2 36,ak 38 .add 32 37,mt 7 38] (.seq (sr [mt 39 5,kl 40 117 [(.t 39)],aI 41 .sub 40 1,mt 8 41] (.block 0 (.loop (.seq (sr [mt 42 8,aI 43 .geq 42 0]
 (Dd 43 0)) (.seq (.block 1 (sr [mt 47 5,mt 48 8,kl 49 111 [(.t 47),(.t 48)],mt 46 49,ee 50 46 0,ee 51 46 1,A1 9 (.alloc (.st (.cons (.int .i64) (.cons (.int .u64) (.cons (.ar 32 (.int .u8)) (.cons (.int .i64) (.cons (.int .i64) (.cons (.st (.cons (.int .u64) (.cons (.int .u64) .nil))) (.cons .bool (.cons .bool (.cons .bool (.cons (.int .i64) .nil)))))))))))),sb 42 9 50,mt 10 51] (sr [mt 52 10,A1 53 (.eq true true (.iface [74]) (.t 52) (.c .nili)),mt 54 53,A2 55 54 false (.fadr 39 (.t 9)),A2 56 54 false (.load false 1 (.t 55)),A2 57 54 false (.un .not (.t 56)),mg 58 54 false 57,mg 59 58 true 5,mg 60 58 true 8,mg 61 58 true 7,⟨(some 62),.call 115 [(.t 59),(.t 60),(.t 61)],(some (58,true))⟩,A2 63 58 true (.eq true true (.iface [74]) (.t 62) (.c .nili)),A2 64 54 false (.pick (.t 58) (.t 63) (.c (.bool false))),
  BV 65 54 64] (.cond (.t 65) (sr [A1 4 (.mv (.c (.bool false)))] .ret) .skip)))) (.reg [mt 44 8,aI 45 .sub 44 1,mt 8 45])))))) (.seq (sr [mt 66 5,kl 67 118 [(.t 66)],aI 68 .neq 67 1,mt 69 68,mg 70 69 true 5,⟨(some 71),.call 118 [(.t 70)],(some (69,true))⟩,A2 72 69 true (.ari .neq (.t 71) (cI 2)),
  Fq 73 69 72,mt 74 73,mg 75 74 false 6,⟨(some 76),.call 133 [(.t 75)],(some (74,false))⟩,A2 77 74 false (.ari .neq (.t 76) (cU 0)),
  BV 78 74 77] (.cond (.t 78) (sr [A1 4 (.mv (.c (.bool false)))] .ret) .skip)) (.seq (sr [mt 79 5,kl 80 117 [(.t 79)],
  mI 81 0] (.block 2 (.loop (sr [ak 82 .lss 81 80] (.seq (Dd 82 2) (.seq (.block 3 (sr [mt 83 81,mt 11 83] (sr [mt 85 5,mt 86 11,kl 87 111 [(.t 85),(.t 86)],mt 84 87,ee 88 84 0,ee 89 84 1,A1 12 (.alloc (.st (.cons (.int .i64) (.cons (.int .u64) (.cons (.ar 32 (.int .u8)) (.cons (.int .i64) (.cons (.int .i64) (.cons (.st (.cons (.int .u64) (.cons (.int .u64) .nil))) (.cons .bool (.cons .bool (.cons .bool (.cons (.int .i64) .nil)))))))))))),sb 42 12 88,mt 13 89] (.seq (sr [mt 90 13,A1 91 (.eq true true (.iface [74]) (.t 90) (.c .nili)),mt 92 91,A2 93 92 false (.fadr 39 (.t 12)),A2 94 92 false (.load false 1 (.t 93)),A2 95 92 false (.un .not (.t 94)),
  BV 96 92 95] (.cond (.t 96) (sr [A1 4 (.mv (.c (.bool false)))] .ret) .skip)) (sr [fa 97 38 12,lb 98 1 97,mt 14 98] (sr [fa 99 38 12,lb 100 1 99,mt 15 100] (.seq (sr [mt 101 5,kl 102 117 [(.t 101)],
  mI 103 0] (.block 4 (.loop (sr [ak 104 .lss 103 102] (.seq (Dd 104 4) (.seq (.block 5 (sr [mt 105 103,mt 16 105] (sr [mt 107 5,mt 108 16,kl 109 111 [(.t 107),(.t 108)],mt 106 109,ee 110 106 0,ee 111 106 1,A1 17 (.alloc (.st (.cons (.int .i64) (.cons (.int .u64) (.cons (.ar 32 (.int .u8)) (.cons (.int .i64) (.cons (.int .i64) (.cons (.st (.cons (.int .u64) (.cons (.int .u64) .nil))) (.cons .bool (.cons .bool (.cons .bool (.cons (.int .i64) .nil)))))))))))),sb 42 17 110,mt 18 111] (sr [fa 112 0 17,lb 113 1 112,mt 114 11,ak 115 .eql 113 114,mt 116 115,A2 117 116 true (.fadr 40 (.t 17)),A2 118 116 true (.load false 1 (.t 117)),A2 119 116 true (.un .not (.t 118)),
  Fq 120 116 119] (.cond (.t 120) (sr [A1 14 (.mv (.c (.bool true)))] (.reg [mt 121 15,mt 122 121,A2 123 122 false (.fadr 34 (.t 17)),A2 124 122 false (.load false 1 (.t 123)),A2 125 122 false (.fadr 41 (.t 12)),A2 126 122 false (.load false 1 (.t 125)),A2 127 122 false (.ari .eql (.t 124) (.t 126)),
  BV 128 122 127,mt 15 128])) .skip))))) (.reg [aI 129 .add 103 1,mt 103 129]))))))) (sr [fa 130 40 12,lb 131 1 130,mt 132 14,A1 133 (.eq true false .bool (.t 131) (.t 132)),mt 134 133,A2 135 134 false (.fadr 40 (.t 12)),A2 136 134 false (.load false 1 (.t 135)),A2 137 134 false (.un .not (.t 136)),mg 138 134 false 137,A2 139 138 true (.fadr 41 (.t 12)),A2 140 138 true (.load false 1 (.t 139)),A2 141 138 true (.fadr 34 (.t 12)),A2 142 138 true (.load false 1 (.t 141)),A2 143 138 true (.ari .neq (.t 140) (.t 142)),A2 144 134 false (.pick (.t 138) (.t 143) (.c (.bool false))),
  BV 145 134 144,mt 146 145,A2 147 146 false (.fadr 40 (.t 12)),A2 148 146 false (.load false 1 (.t 147)),mg 149 146 false 148,mg 150 149 true 15,A2 151 149 true (.un .not (.t 150)),A2 152 146 false (.pick (.t 149) (.t 151) (.c (.bool false))),
  BV 153 146 152] (.cond (.t 153) (sr [A1 4 (.mv (.c (.bool false)))] .ret) .skip))))))))) (.reg [aI 154 .add 81 1,mt 81 154]))))))) (sr [A1 4 (.mv (.c (.bool true)))] .ret))))))))
def f33:LF:=⟨c33,2,0,155,[.tmp 4]⟩
structure Res (G:Gs):Prop where
 un:∀ a,a < G.n→(G.c a).rs=false→(G.c a).co=false∧((G.c a).st=false→(G.c a).by'=(G.c a).pl)
 kid:∀ a,a < G.n→(G.c a).rs=true→∀ j,j < G.n→(G.c j).par=a→(G.c j).rs=true
 co:∀ a,a < G.n→(G.c a).rs=true→((G.c a).co=true ↔ (G.c a).st=true ∨ ∃ j,j < G.n∧(G.c j).par=a∧(G.c j).co=false)
 by0:∀ a,a < G.n→(G.c a).rs=true→(G.c a).co=false→(G.c a).by'=(G.c a).pl
 by1:∀ a,a < G.n→(G.c a).rs=true→(G.c a).co=true→(G.c a).st=true ∨ ∃ j,j < G.n∧(G.c j).par=a∧(G.c j).co=false∧(G.c j).pl=(G.c a).by'
theorem KD {c:Nat→Cl} {a:Int}:∀ n,Cc c a n=none→∀ j,j < n→(c j).par=a→(c j).co=true
 | 0,_,j,hj,_=>by omega
 | n + 1, h, j, hj, hp => by
   rw [Cc] at h
   split at h
   ·cases h
   ·next hc =>
    rcases Nat.lt_or_ge j n with h1 | h1
    ·exact KD n h j h1 hp
    ·obtain rfl:j=n:=Aa
     cases hco:(c j).co with
     | true=>rfl
     | false=>exact absurd ⟨hp,hco,by rw [h];rfl⟩ hc
theorem Ad8 {G:Gs} (ok:G.ok) (h:Res G) {a:Int} {df:Bool} {v:Dg} {pl:Int} {bd t:BitVec 64} (he:G.mE a df v pl bd t=none):Res (G.mT a df v pl bd t):=by
 obtain ⟨p,rfl,hp,hrs,he⟩:=Gs.mE_in he
 unfold Gs.mT
 rw [Int.toNat_natCast]
 generalize Ia (G.c p).pos=k at *
 generalize Wt (G.c p).pos=i at *
 have hc:∀ j,j < G.n→(G.mv (IE G p df v pl t k i) pl.toNat bd).c j=G.c j:=fun j hj=>if_pos hj
 have hcn:(G.mv (IE G p df v pl t k i) pl.toNat bd).c G.n=IE G p df v pl t k i:=if_neg (Nat.lt_irrefl _)
 generalize hX:G.mv (IE G p df v pl t k i) pl.toNat bd=X at *
 have hn:X.n=G.n + 1:=by rw [← hX];rfl
 have hne:∀ a,a < G.n→(G.c a).rs=true→((p:Nat):Int) ≠ a:=fun a ha hr e=>by
  obtain rfl:p=a:=Aa
  rw [hrs] at hr;cases hr
 have hlt:∀ a,a < X.n→(X.c a).rs=true→a < G.n:=fun a ha hr=>by
  rcases Nat.lt_or_ge a G.n with h1 | h1
  ·exact h1
  ·obtain rfl:a=G.n:=Aa
   rw [hcn] at hr;cases hr
 have hex:∀ (P:Cl→Prop) a,a < G.n→(G.c a).rs=true→((∃ j,j < X.n∧(X.c j).par=a∧P (X.c j)) ↔ ∃ j,j < G.n∧(G.c j).par=a∧P (G.c j)):=fun P a ha hr=>by
  constructor
  ·rintro ⟨j,hj,h1,h2⟩
   rcases Nat.lt_or_ge j G.n with h3 | h3
   ·rw [hc j h3] at h1 h2;exact ⟨j,h3,h1,h2⟩
   ·obtain rfl:j=G.n:=Aa
    rw [hcn] at h1
    exact absurd h1 (hne a ha hr)
  ·rintro ⟨j,hj,h1⟩
   exact ⟨j,by omega,by rw [hc j hj];exact h1⟩
 refine ⟨fun a ha hr=>?_,fun a ha hr j hj hpa=>?_,fun a ha hr=>?_,fun a ha hr hco=>?_,fun a ha hr hco=>?_⟩
 ·rcases Nat.lt_or_ge a G.n with h1 | h1
  ·rw [hc a h1] at hr ⊢;exact h.un a h1 hr
  ·obtain rfl:a=G.n:=Aa
   rw [hcn];exact ⟨rfl,fun _=>rfl⟩
 all_goals
  have ha':=hlt a ha hr
  rw [hc a ha'] at hr
 ·rcases Nat.lt_or_ge j G.n with h3 | h3
  ·rw [hc j h3] at hpa ⊢;exact h.kid a ha' hr j h3 hpa
  ·obtain rfl:j=G.n:=Aa
   rw [hcn] at hpa
   exact absurd hpa (hne a ha' hr)
 ·rw [hc a ha',hex (fun c=>c.co=false) a ha' hr];exact h.co a ha' hr
 ·rw [hc a ha'] at hco ⊢;exact h.by0 a ha' hr hco
 ·rw [hc a ha'] at hco ⊢
  rw [hex (fun c=>c.co=false∧c.pl=(G.c a).by') a ha' hr];exact h.by1 a ha' hr hco
theorem Acz {G:Gs} (h:Res G) {p:Nat} (hrs:(G.c p).rs=false) (pl:Int):Res (G.tT p pl):=by
 have hc:∀ j,((G.tT p pl).c j).par=(G.c j).par∧((G.tT p pl).c j).co=(G.c j).co∧((G.tT p pl).c j).rs=(G.c j).rs∧((G.tT p pl).c j).pl=(G.c j).pl∧(j ≠ p→(G.tT p pl).c j=G.c j):=fun j=>by
  dsimp only [Gs.tT]
  rw [Int.toNat_natCast]
  by_cases hj:j=p
  ·subst hj;rw [if_pos rfl];exact ⟨rfl,rfl,rfl,rfl,fun h=>absurd rfl h⟩
  ·rw [if_neg hj];exact ⟨rfl,rfl,rfl,rfl,fun _=>rfl⟩
 have hnp:∀ a,((G.tT p pl).c a).rs=true→a ≠ p:=fun a hr e=>by
  subst e
  rw [(hc a).2.2.1,hrs] at hr;cases hr
 refine ⟨fun a ha hr=>?_,fun a ha hr j hj hpa=>?_,fun a ha hr=>?_,fun a ha hr hco=>?_,fun a ha hr hco=>?_⟩
 ·rw [(hc a).2.1]
  by_cases hap:a=p
  ·subst hap
   refine ⟨(h.un a ha hrs).1,fun hst=>?_⟩
   rw [show (G.tT a pl).c a={ G.c a with st:=true,by':=pl } by show (if a=(a:Int).toNat then _ else _)=_;rw [Int.toNat_natCast,if_pos rfl]] at hst
   cases hst
  ·rw [(hc a).2.2.2.2 hap] at hr ⊢;exact h.un a ha hr
 ·rw [(hc j).2.2.1];rw [(hc j).1] at hpa;rw [(hc a).2.2.1] at hr;exact h.kid a ha hr j hj hpa
 all_goals
  have hap:=hnp a hr
  rw [(hc a).2.2.2.2 hap] at hr ⊢
 ·rw [h.co a ha hr]
  simp only [(hc _).1,(hc _).2.1]
  exact Iff.rfl
 ·rw [(hc a).2.1] at hco;exact h.by0 a ha hr hco
 ·rw [(hc a).2.1] at hco
  simp only [(hc _).1,(hc _).2.1,(hc _).2.2.2.1]
  exact h.by1 a ha hr hco
theorem QX {G:Gs} (ok:G.ok) (h:Res G) {p:Nat} (hp:p < G.n) (hrs:(G.c p).rs=false) (hk:¬ G.kidO p):Res (G.rsv p):=by
 have hcp:(G.rsv p).c p=G.rsC p:=if_pos rfl
 have hc:∀ j,j ≠ p→(G.rsv p).c j=G.c j:=fun j hj=>if_neg hj
 have hpar:∀ j,((G.rsv p).c j).par=(G.c j).par:=fun j=>by
  by_cases hj:j=p
  ·subst hj;rw [hcp];rfl
  ·rw [hc j hj]
 have hself:∀ j,j < G.n→(G.c j).par=p→j ≠ p:=fun j hj e e2=>by
  subst e2
  rcases ok.w.prs j hj with h1 | ⟨q,h1,hq⟩ <;> rw [h1] at e <;> omega
 have hnk:∀ a,a < G.n→(G.c a).rs=true→∀ j,j < G.n→(G.c j).par=a→j ≠ p:=fun a ha hr j hj e e2=>by
  subst e2
  have:=h.kid a ha hr j hj e
  rw [hrs] at this;cases this
 have hkids:∀ j,j < G.n→(G.c j).par=p→(G.c j).rs=true:=fun j hj e=>by
  cases hr:(G.c j).rs with
  | true=>rfl
  | false=>exact absurd ⟨j,hj,e,hr⟩ hk
 have hex:∀ (P:Cl→Prop) a,a < G.n→(a=p ∨ (G.c a).rs=true)→((∃ j,j < G.n∧((G.rsv p).c j).par=a∧P ((G.rsv p).c j)) ↔ ∃ j,j < G.n∧(G.c j).par=a∧P (G.c j)):=fun P a ha hr=>by
  have hne:∀ j,j < G.n→(G.c j).par=a→j ≠ p:=fun j hj e=>by
   rcases hr with rfl | hr
   ·exact hself j hj e
   ·exact hnk a ha hr j hj e
  constructor
  ·rintro ⟨j,hj,h1,h2⟩
   rw [hpar] at h1
   rw [hc j (hne j hj h1)] at h2
   exact ⟨j,hj,h1,h2⟩
  ·rintro ⟨j,hj,h1,h2⟩
   exact ⟨j,hj,by rw [hpar];exact h1,by rw [hc j (hne j hj h1)];exact h2⟩
 obtain ⟨hu1,hu2⟩:=h.un p hp hrs
 refine ⟨fun a ha hr=>?_,fun a ha hr j hj hpa=>?_,fun a ha hr=>?_,fun a ha hr hco=>?_,fun a ha hr hco=>?_⟩
 all_goals
  have ha:a < G.n:=ha
  by_cases hap:a=p
 ·subst hap;rw [hcp] at hr;cases hr
 ·rw [hc a hap] at hr ⊢;exact h.un a ha hr
 ·subst hap
  rw [hpar] at hpa
  rw [hc j (hself j hj hpa)];exact hkids j hj hpa
 ·rw [hc a hap] at hr
  rw [hpar] at hpa
  rw [hc j (hnk a ha hr j hj hpa)];exact h.kid a ha hr j hj hpa
 ·subst hap
  show _ ↔ _ ∨ ∃ j,j < G.n∧((G.rsv a).c j).par=a∧((G.rsv a).c j).co=false
  rw [hex (fun c=>c.co=false) a ha (.inl rfl),hcp]
  show ((G.c a).st || (Cc G.c a G.n).isSome)=true ↔ (G.c a).st=true ∨ _
  rw [Bool.or_eq_true]
  refine or_congr Iff.rfl ?_
  cases hb:Cc G.c a G.n with
  | none=>simp only [Option.isSome];exact ⟨fun h=>(by cases h),fun ⟨j,hj,h1,h2⟩=>by rw [KD _ hb j hj h1] at h2;cases h2⟩
  | some j=>exact ⟨fun _=>⟨j,Gi _ _ _ _ hb⟩,fun _=>rfl⟩
 ·rw [hc a hap] at hr ⊢
  show _ ↔ _ ∨ ∃ j,j < G.n∧((G.rsv p).c j).par=a∧((G.rsv p).c j).co=false
  rw [hex (fun c=>c.co=false) a ha (.inr hr)];exact h.co a ha hr
 ·subst hap
  rw [hcp] at hco ⊢
  have hco:((G.c a).st || (Cc G.c a G.n).isSome)=false:=hco
  rw [Bool.or_eq_false_iff] at hco
  show G.rsB a=(G.c a).pl
  unfold Gs.rsB
  cases hb:Cc G.c a G.n with
  | none=>exact hu2 hco.1
  | some j=>rw [hb] at hco;cases hco.2
 ·rw [hc a hap] at hr hco ⊢;exact h.by0 a ha hr hco
 ·subst hap
  show _ ∨ ∃ j,j < G.n∧((G.rsv a).c j).par=a∧((G.rsv a).c j).co=false∧((G.rsv a).c j).pl=((G.rsv a).c a).by'
  rw [hex (fun c=>c.co=false∧c.pl=((G.rsv a).c a).by') a ha (.inl rfl)]
  rw [hcp] at hco ⊢
  have hco:((G.c a).st || (Cc G.c a G.n).isSome)=true:=hco
  show (G.c a).st=true ∨ ∃ j,j < G.n∧(G.c j).par=a∧(G.c j).co=false∧(G.c j).pl=G.rsB a
  cases hst:(G.c a).st with
  | true=>exact .inl rfl
  | false =>
    rw [hst] at hco
    cases hb:Cc G.c a G.n with
    | none=>rw [hb] at hco;cases hco
    | some j =>
      obtain ⟨h1,h2,h3⟩:=Gi _ _ _ _ hb
      refine .inr ⟨j,h1,h2,h3,?_⟩
      unfold Gs.rsB
      rw [hb]
      dsimp only
      rw [hst,if_neg Am]
 ·rw [hc a hap] at hr hco ⊢
  show _ ∨ ∃ j,j < G.n∧((G.rsv p).c j).par=a∧((G.rsv p).c j).co=false∧((G.rsv p).c j).pl=(G.c a).by'
  rw [hex (fun c=>c.co=false∧c.pl=(G.c a).by') a ha (.inr hr)];exact h.by1 a ha hr hco
theorem Yw (a:Ga) (n:Nat) (l:Nat→Op):Res (DF a n l).1:=by
 have hb:(He a).ok:=FH _ _ (EN a.lm) 3 Am _ _ _ (E7 a.pl) _ _ _ _ _
 refine DL (P:=fun _ S=>Res S.1) (S:=(He a,a.nw % 1000#64)) ?_ hb (fun _ _ h=>h) ?_ ?_ ?_ ?_ _
 ·refine ⟨fun a ha hr=>⟨rfl,fun _=>rfl⟩,fun a ha hr=>(by cases hr),fun a ha hr=>(by cases hr),fun a ha hr=>(by cases hr),fun a ha hr=>(by cases hr)⟩
 ·exact fun i S a df v pl bd ok h he=>Ad8 ok h he
 ·intro i S vf a df pl ok h he
  obtain ⟨p,rfl,hp,hrs,-⟩:=Tb he
  exact Acz h hrs pl
 ·exact fun i S a ok h ha hrs he=>QX ok h ha hrs (Vj he).1
 ·exact fun i S u ok h hu=>h
structure Tim (i:Nat) (S:Gs × BitVec 64):Prop where
 t:S.2.toNat < 1000 + 20 * i
 at':∀ j,j < S.1.n→(S.1.c j).at'.toNat≤S.2.toNat
 l:S.1.l.toNat≤60
theorem XG (a:Ga) (n:Nat) (l:Nat→Op):Tim 60 (DF a n l):=by
 have hb:(He a).ok:=FH _ _ (EN a.lm) 3 Am _ _ _ (E7 a.pl) _ _ _ _ _
 have key:∀ i,i < 1000→Tim i (HQ (EI 8 tC) Z8 l (He a,a.nw % 1000#64) i):=fun i=>by
  refine DL (P:=fun i S=>i < 1000→Tim i S) (S:=(He a,a.nw % 1000#64)) ?_ hb ?_ ?_ ?_ ?_ ?_ _
  ·intro _
   refine ⟨?_,fun j hj=>Nat.le_refl _,?_⟩
   ·have:=Td a.nw
    show (a.nw % 1000#64).toNat < _;omega
   ·show (1#64 + a.lm % 60#64).toNat≤60
    rw [UO];omega
  ·exact fun i S h hi=>⟨by have:=(h Aa).t;omega,(h Aa).at',(h Aa).l⟩
  ·intro i S a df v pl bd ok h he hi
   have h:=h hi
   refine ⟨h.t,fun j hj=>?_,h.l⟩
   have hj:j < S.1.n + 1:=hj
   dsimp only [Gs.mT,Gs.mv]
   by_cases hjn:j < S.1.n
   ·rw [if_pos hjn];exact h.at' j hjn
   ·rw [if_neg hjn];exact Nat.le_refl _
  ·intro i S vf a df pl ok h he hi
   have h:=h hi
   refine ⟨h.t,fun j hj=>?_,h.l⟩
   have:=h.at' j hj
   dsimp only [Gs.tT]
   split
   ·next e=>subst e;exact this
   ·exact this
  ·intro i S a ok h ha hrs he hi
   have h:=h hi
   refine ⟨h.t,fun j hj=>?_,h.l⟩
   have:=h.at' j hj
   dsimp only [Gs.rsv,Gs.rsC]
   split
   ·next e=>subst e;exact this
   ·exact this
  ·intro i S u ok h hu hi
   have h:=h Aa
   have ht:=h.t
   have e:(S.2 + u).toNat=S.2.toNat + u.toNat:=by rw [BitVec.toNat_add];omega
   exact ⟨by show (S.2 + u).toNat < _;omega,fun j hj=>by have:=h.at' j hj;show (S.1.c j).at'.toNat≤(S.2 + u).toNat;omega,h.l⟩
 have h:=key (min n 60) Aa
 exact ⟨by have:=h.t;show (HQ _ _ _ _ _).2.toNat < _;omega,h.at',h.l⟩
def Kc (G:Gs):Nat→Gs
 | 0=>G
 | k + 1=>if ((Kc G k).c (G.n - 1 - k)).rs=true then Kc G k else (Kc G k).rsv (G.n - 1 - k)
structure RsA (G H:Gs) (k:Nat):Prop where
 ok:H.ok
 re:Res H
 bo:Bon H
 n:H.n=G.n
 l:H.l=G.l
 c:∀ j,(H.c j).par=(G.c j).par∧(H.c j).us=(G.c j).us∧(H.c j).at'=(G.c j).at'
 rs:∀ j,j < G.n→G.n - k≤j→(H.c j).rs=true
theorem Z1 {G H:Gs} {k:Nat} (h:RsA G H k) (hk:k < G.n) (hK:Clk G) (t:BitVec 64) (hT:Tim 60 (G,t)) (hu:(H.c (G.n - 1 - k)).rs=false) :
 H.rE ((G.n - 1 - k:Nat):Int) (t + 2#64 * G.l)=none:=by
 have ha:G.n - 1 - k < H.n:=by rw [h.n];omega
 unfold Gs.rE
 rw [if_neg Aa,Int.toNat_natCast,hu,if_neg Am]
 have hl:=hT.l
 have ht:t.toNat < 2200:=hT.t
 have hl2:(t + 2#64 * G.l).toNat=t.toNat + 2 * G.l.toNat:=by
  have:G.l.toNat≤60:=hl
  rw [BitVec.toNat_add,BitVec.toNat_mul]
  show (t.toNat + 2 * G.l.toNat % 2 ^ 64) % 2 ^ 64=_
  omega
 have hus:∀ j,j < G.n→(H.c j).us.toNat≤60:=fun j hj=>by
  rw [(h.c j).2.1]
  rcases Nat.eq_zero_or_pos j with rfl | h1
  ·rw [hK.u0];decide
  ·obtain ⟨p,-,-,h2,-⟩:=hK.up j h1 hj
   rw [BitVec.le_def] at h2
   have:G.l.toNat≤60:=hl
   omega
 have hat:(H.c (G.n - 1 - k)).at'.toNat≤t.toNat:=by rw [(h.c _).2.2];exact hT.at' _ (by show _ < G.n;omega)
 have hbf:(CQ H.c (H.c (G.n - 1 - k))).toNat≤60:=by
  unfold CQ
  rcases h.ok.w.prs _ ha with h1 | ⟨q,h1,hq⟩
  ·rw [h1,if_pos Am];decide
  ·rw [h1,if_neg Aa,Int.toNat_natCast];exact hus q (by rw [h.n] at ha;omega)
 have hua:=hus (G.n - 1 - k) Aa
 have hs:¬ Gy (H.c (G.n - 1 - k)).us (H.c (G.n - 1 - k)).at' (CQ H.c (H.c (G.n - 1 - k))) (t + 2#64 * G.l):=by
  have hl60:G.l.toNat≤60:=hl
  have mx:∀ (x y:BitVec 64) (m:Nat),x.toNat≤m→y.toNat≤m→(Kv x y).toNat≤m:=fun x y m h1 h2=>by unfold Kv;split <;> assumption
  unfold Gy
  rw [BitVec.lt_def,BitVec.lt_def]
  have:=mx _ _ 5000 (mx _ _ 5000 (mx (H.c (G.n - 1 - k)).us (H.c (G.n - 1 - k)).at' 5000 Aa Aa) (show (CQ H.c (H.c (G.n - 1 - k))).toNat≤5000 by omega)) (show (t + 2#64 * G.l).toNat≤5000 by omega)
  show ¬ (_ ∨ 1099511627776 < _)
  omega
 have hsp:=KC hs
 unfold Gs.rsE
 rw [if_neg ?_,if_neg hs,if_pos ?_]
 ·rw [h.l,BitVec.le_def,hsp,hl2]
  have hl60:G.l.toNat≤60:=hl
  omega
 ·rintro ⟨j,hj,h1,h2⟩
  rw [h.n] at hj
  rcases h.ok.w.prs j (by rw [h.n];exact hj) with h3 | ⟨q,h3,hq⟩
  ·rw [h3] at h1;omega
  ·rw [h3] at h1
   have:=h.rs j hj Aa
   rw [h2] at this;cases this
theorem Ve {G:Gs} (hG:G.ok) (hR:Res G) (hB:Bon G) (hK:Clk G) (t:BitVec 64) (hT:Tim 60 (G,t)):∀ k,k≤G.n→RsA G (Kc G k) k
 | 0,_=>⟨hG,hR,hB,rfl,rfl,fun _=>⟨rfl,rfl,rfl⟩,fun j hj h=>by omega⟩
 | k + 1, hk => by
   have ih:=Ve hG hR hB hK t hT k Aa
   rw [Kc]
   have hE:=Z1 ih Aa hK t hT
   generalize Kc G k=H at *
   cases hu:(H.c (G.n - 1 - k)).rs with
   | true =>
     rw [if_pos rfl]
     refine ⟨ih.ok,ih.re,ih.bo,ih.n,ih.l,ih.c,fun j hj h=>?_⟩
     by_cases h1:j=G.n - 1 - k
     ·rw [h1];exact hu
     ·exact ih.rs j hj Aa
   | false =>
     rw [if_neg Am]
     have ha:G.n - 1 - k < H.n:=by rw [ih.n];omega
     obtain ⟨p,hp,-,-,he⟩:=Rg (hE hu)
     obtain rfl:G.n - 1 - k=p:=Aa
     refine ⟨Ti ih.ok ha,QX ih.ok ih.re ha hu (Vj he).1,QN ih.ok ih.bo ha hu,ih.n,ih.l,fun j=>?_,fun j hj h=>?_⟩
     ·dsimp only [Gs.rsv,Gs.rsC]
      split
      ·next e=>subst e;exact ih.c _
      ·exact ih.c j
     ·dsimp only [Gs.rsv,Gs.rsC]
      split
      ·rfl
      ·next e=>exact ih.rs j hj Aa
def Uh (c:Nat→Cl) (i:Nat):Nat→Bool
 | 0=>(c i).st
 | k + 1=>if (c k).par=i∧(c k).co=false then true else Uh c i k
def SO (c:Nat→Cl) (i:Nat):Nat→Bool
 | 0=>(c i).st
 | k + 1=>if (c k).par=i∧(c k).co=false then (SO c i k || decide ((c k).pl=(c i).by')) else SO c i k
theorem QH (c:Nat→Cl) (i:Nat):∀ n,Uh c i n=true ↔ (c i).st=true ∨ ∃ j,j < n∧(c j).par=i∧(c j).co=false
 | 0=>by rw [Uh];exact ⟨.inl,fun h=>h.elim id fun ⟨j,hj,_⟩=>by omega⟩
 | n + 1 => by
   rw [Uh]
   by_cases h:(c n).par=i∧(c n).co=false
   ·rw [if_pos h];exact ⟨fun _=>.inr ⟨n,by omega,h⟩,fun _=>rfl⟩
   ·rw [if_neg h,QH c i n]
    refine or_congr Iff.rfl ⟨fun ⟨j,hj,h1⟩=>⟨j,by omega,h1⟩,fun ⟨j,hj,h1⟩=>⟨j,?_,h1⟩⟩
    rcases Nat.lt_or_ge j n with h2 | h2
    ·exact h2
    ·obtain rfl:j=n:=Aa
     exact absurd h1 h
theorem Tm (c:Nat→Cl) (i:Nat):∀ n,((c i).st=true ∨ ∃ j,j < n∧(c j).par=i∧(c j).co=false∧(c j).pl=(c i).by')→SO c i n=true
 | 0,h=>h.elim id fun ⟨j,hj,_⟩=>by omega
 | n + 1, h => by
   rw [SO]
   have ih:=Tm c i n
   by_cases h1:(c n).par=i∧(c n).co=false
   ·rw [if_pos h1]
    rcases h with h | ⟨j,hj,h2,h3,h4⟩
    ·rw [ih (.inl h)];rfl
    ·rcases Nat.lt_or_ge j n with h5 | h5
     ·rw [ih (.inr ⟨j,h5,h2,h3,h4⟩)];rfl
     ·obtain rfl:j=n:=Aa
      rw [decide_eq_true h4,Bool.or_true]
   ·rw [if_neg h1]
    refine ih (h.imp_right fun ⟨j,hj,h2,h3,h4⟩=>⟨j,?_,h2,h3,h4⟩)
    rcases Nat.lt_or_ge j n with h5 | h5
    ·exact h5
    ·obtain rfl:j=n:=Aa
     exact absurd ⟨h2,h3⟩ h1
structure OkEn (M:Seat):Prop where
 g:OkGa M
 k33:Au M 33 f33=true
theorem Kf {M:Seat} (ok:OkEn M) (a:Ga) (n:Nat) (l:Nat→Op) (sv:V) (hs:sv=C3 n l ∨ (sv = .nils∧n=0)) (hn:n < 9223372036854775808) :
 Ag M 33 [a.v,sv] [] 0 (Q3 (.bool true) [] 0):=by
 have hvv:=VZ hs
 have hPl:=DX ok.g.p a n l sv hs hn
 have hF:=CI ok.g.f
 have hT:=XG a n l
 have hG:=G3 a n l
 have hA:=Ve hG (Yw a n l) (Qn a n l) (LB a n l) _ hT
 have hK:=LB a n l
 generalize ht:(DF a n l).2=t at *
 rw [show DF a n l=((DF a n l).1,t) by rw [← ht]] at hT
 generalize (DF a n l).1=G at *
 have hLn:=De ok.g.p.g G.D G.l G.g G.s G.n
 have hRu:=EU ok.g.p.g G.D G.l G.g G.s G.n
 simp only [Gs.H,Ai,Al,Ac] at hPl
 have hn0:=hG.n0
 have hn64:=hG.w.hn
 have zm:IntKind.i64.wrap ((G.n:Int) - 1)=(G.n:Int) - 1:=by rw [AY Aa]
 refine Ab ok.k33 rfl fun x hx=>?_
 refine es 2000 ?_;(simp only [f33,c33,Ga.v,LZ,seval])
 have zz:=BT @Ai.eq_1 @Al.eq_1 @Ac.eq_1 @Ap.eq_1 @Aq.eq_1 @A7.eq_1 @A4.eq_1 @Cl.v.eq_1 @Ga.v.eq_1 @dg.eq_1 hvv;refine Kb (hPl) ?_
 (simp only [AS,Ai,Al,Ac,Ap,Aq,A7,A4,Cl.v,LZ,seval])
 refine Ak (hF) ?_
 (simp only [LZ,seval])
 have zz:=GM @Ai.eq_1 @Al.eq_1 @Ac.eq_1 @Ap.eq_1 @dg.eq_1;refine Bw [64,65,66] [64] (hRu) ?_
 (simp only [Ai,Al,Ac,LZ,seval])
 have zz:=Db @Ai.eq_1 @Al.eq_1 @Ac.eq_1 @Ap.eq_1 @Cl.v.eq_1 @dg.eq_1;refine Bw [64,65,66] [64] (hLn) ?_
 (simp only [Ai,Al,Ac,zm,LZ,seval])
 generalize hT':t + 2#64 * G.l=t' at *
 refine An (σ:=Nat) (fun k=>k≤G.n) (fun k=>fr 155 [(5,.ptr 0 []),(6,.ptr 2 []),(7,W t'),(8,.int .i64 ((G.n:Int) - 1 - k))]) (fun k=>(Kc G k).H) (fun _=>4) (fun k=>G.n - k) 0 Aa ?_ ?_
 ·refine Ao.fr [64,65,66,67] [] hx AQ Am ?_ ?_
  ·simp only [Int.natCast_zero,Int.sub_zero,LY,seval]
  ·simp only [Kc,Gs.H,Ai,Al,Ac,Ap,Aq,A7,A4,Cl.v,dg,LY,seval]
 ·intro k hk
  refine es 2000 ?_
  have hAk:=hA k hk
  by_cases hkn:k=G.n
  ·have w0:(0≤(G.n:Int) - 1 - (k:Int))=False:=eq_false Aa
   subst hkn
   clear hA
   generalize Kc G G.n=X at *
   have hXn:=hAk.n
   have hX0:0 < X.n:=Aa
   have hX64:X.n≤64:=Aa
   have hSt:=L1 ok.g.p.g X hX0
   have hLk:=H8 ok.g.p.g.t.s.le X.b X.i X.o X.n X.k
   have hLX:=De ok.g.p.g X.D X.l X.g X.s X.n
   have hCX:=fun j hj=>BW ok.g.p.g X.D X.l X.g X.s X.n X.c j hj
   have hrs:∀ j,j < X.n→(X.c j).rs=true:=fun j hj=>hAk.rs j Aa Aa
   have hk0:X.k=0#64:=by
    rw [hAk.bo.k,Fp (g:=fun _=>0#64) X.n (fun j hj=>by unfold Gs.lk;rw [hrs j hj,if_pos rfl])]
    clear hAk hrs hCX hSt hLX hLk hX0 hX64 hXn
    induction X.n with
    | zero=>rfl
    | succ m ih=>rw [F2,ih];rfl
   have hst:X.sta=1 ∨ X.sta=2:=by
    unfold Gs.sta
    rw [hrs 0 hX0,if_pos rfl]
    cases (X.c 0).co
    ·exact .inl rfl
    ·exact .inr rfl
   (simp only [w0,Gs.H,Ai,Al,Ac,Ap,Aq,A7,A4,Cl.v,LZ,seval])
   generalize X.sta=sta at *
   have hfin:True:=trivial
   rcases hst with rfl | rfl
   all_goals
    have zz:=Db @Ai.eq_1 @Al.eq_1 @Ac.eq_1 @Ap.eq_1 @Cl.v.eq_1 @dg.eq_1;refine Bw [0,1,2] [0,1] (hSt) ?_
    first
    | ((simp only [Ai, Al, Ac, Ap, Cl.v, seval, LZ, reduceCtorEq])
       have zz:=Db @Ai.eq_1 @Al.eq_1 @Ac.eq_1 @Ap.eq_1 @Cl.v.eq_1 @dg.eq_1;refine Bw [0,1,2] [0,1] (hSt) ?_
       (simp only [Ai,Al,Ac,Ap,Cl.v,seval,LZ,reduceCtorEq])
       (have zz:=@Aq.eq_1;refine Bw [2,3] [2] (hLk) ?_))
    | ((simp only [Ai, Al, Ac, Ap, Cl.v, seval, LZ, reduceCtorEq])
       (have zz:=@Aq.eq_1;refine Bw [2,3] [2] (hLk) ?_))
    (simp only [Aq,hk0,LZ,seval])
    have zz:=GM @Ai.eq_1 @Al.eq_1 @Ac.eq_1 @Ap.eq_1 @dg.eq_1;refine Bw [0,1,2] [0] (hLX) ?_
    (simp only [Ai,Al,Ac,LZ,seval])
    refine An (σ:=Nat) (fun i=>i≤X.n) (fun i=>fr 155 [(5,.ptr 0 []),(80,.int .i64 X.n),(81,.int .i64 i)]) (fun _=>X.H) (fun _=>4) (fun i=>X.n - i) 0 Aa ?_ ?_
    ·refine Ao.fr [0,1,2,3] [] hx AQ Am ?_ ?_
     ·simp only [Int.natCast_zero,LY,seval]
     ·simp only [Gs.H,Ai,Al,Ac,Ap,Aq,A7,A4,Cl.v,dg,hk0,LY,seval]
    ·intro i hi
     refine es 2000 ?_
     by_cases hin:i=X.n
     ·have w0:((i:Int) < (X.n:Int))=False:=eq_false Aa
      (simp only [w0,LZ,seval])
      exact Ar.mkZ hx [] ⟨rfl,rfl,rfl⟩
     have w0:((i:Int) < (X.n:Int))=True:=eq_true Aa
     have z1:IntKind.i64.wrap ((i:Int) + 1)=((i + 1:Nat):Int):=AZ
     have hci:=hCX i Aa
     have hrsi:=hrs i Aa
     have hco:=hAk.re.co i Aa hrsi
     have hb0:=hAk.re.by0 i Aa hrsi
     have hb1:=fun h=>Tm X.c i X.n (hAk.re.by1 i Aa hrsi h)
     rw [← QH] at hco
     (simp only [w0,Gs.H,Ai,Al,Ac,Ap,Aq,A7,A4,Cl.v,LZ,seval])
     have zz:=Db @Ai.eq_1 @Al.eq_1 @Ac.eq_1 @Ap.eq_1 @Cl.v.eq_1 @dg.eq_1;refine Bw [0,1,2] [0,1] (hci) ?_
     (simp only [AH,Ai,Al,Ac,Ap,Cl.v,hrsi,seval])
     have zz:=GM @Ai.eq_1 @Al.eq_1 @Ac.eq_1 @Ap.eq_1 @dg.eq_1;refine Bw [0,1,2] [0] (hLX) ?_
     (simp only [Ai,Al,Ac,LZ,seval])
     refine An (σ:=Nat) (fun k=>k≤X.n) (fun k=>fr 155 [(5,.ptr 0 []),(80,.int .i64 X.n),(81,.int .i64 i),(11,.int .i64 i),(12,.ptr 4 []),(14,.bool (Uh X.c i k)),(15,.bool (SO X.c i k)),(102,.int .i64 X.n),(103,.int .i64 k)]) (fun _=>X.H ++ [(4,(X.c i).v)]) (fun _=>5) (fun k=>X.n - k) 0 Aa ?_ ?_
     ·refine Ao.fr [0,1,2,3,148] [] hx AQ Am ?_ ?_
      ·simp only [Uh,SO,Int.natCast_zero,LY,seval]
      ·simp only [Gs.H,Ai,Al,Ac,Ap,Aq,A7,A4,Cl.v,dg,hk0,hrsi,B3,LY,seval]
     ·intro k hk
      refine es 2000 ?_
      by_cases hkn:k=X.n
      ·have w1:((k:Int) < (X.n:Int))=False:=eq_false Aa
       subst hkn
       have fin:∀ co an by_,(X.c i).co=co→Uh X.c i X.n=an→SO X.c i X.n=by_→(co=true ↔ an=true)∧(co=true→by_=true):=by
        rintro co an by_ rfl rfl rfl
        exact ⟨hco,hb1⟩
       have f2:((X.c i).co=false)→((X.c i).by'=(X.c i).pl)=True:=fun h=>eq_true (hb0 h)
       rcases h1:(X.c i).co <;> rcases h2:Uh X.c i X.n <;> rcases h3:SO X.c i X.n
       all_goals have hfi:=fin _ _ _ h1 h2 h3
       all_goals first
        | (exact absurd hfi Am)
        | (have f3 := f2 h1
           (simp only [w1,Gs.H,Ai,Al,Ac,Ap,Aq,A7,A4,Cl.v,h1,f3,z1,B3,LZ,seval]))
        | ((simp only [w1,Gs.H,Ai,Al,Ac,Ap,Aq,A7,A4,Cl.v,h1,z1,B3,LZ,seval]))
       all_goals
        refine ⟨i + 1,by omega,by omega,?_⟩
        refine Ao.fr [0,1,2,3] [] hx AQ Am ?_ ?_
        ·simp only [LY,seval]
        ·simp only [Gs.H,Ai,Al,Ac,Ap,Aq,A7,A4,Cl.v,dg,B3,LY,seval]
      ·have w1:((k:Int) < (X.n:Int))=True:=eq_true Aa
       have z2:IntKind.i64.wrap ((k:Int) + 1)=((k + 1:Nat):Int):=AZ
       have hck:=hCX k Aa
       have ea:Uh X.c i (k + 1)=if (X.c k).par=i∧(X.c k).co=false then true else Uh X.c i k:=rfl
       have eb:SO X.c i (k + 1)=if (X.c k).par=i∧(X.c k).co=false then (SO X.c i k || decide ((X.c k).pl=(X.c i).by')) else SO X.c i k:=rfl
       generalize Uh X.c i k=an at *
       generalize SO X.c i k=bv at *
       (simp only [w1,Gs.H,Ai,Al,Ac,Ap,Aq,A7,A4,Cl.v,B3,LZ,seval])
       have zz:=Db @Ai.eq_1 @Al.eq_1 @Ac.eq_1 @Ap.eq_1 @Cl.v.eq_1 @dg.eq_1;refine Bw [0,1,2] [0,1] (hck) ?_
       by_cases g1:(X.c k).par=i
       ·have g1':=eq_true g1
        cases g2:(X.c k).co with
        | true =>
          rw [if_neg (fun h=>by rw [g2] at h;cases h.2)] at ea eb
          (simp only [AH,Ai,Al,Ac,Ap,Cl.v,g1',g2,z2,seval])
          refine ⟨k + 1,by omega,by omega,?_⟩
          refine Ao.fr [0,1,2,3,4] [] hx AQ Am ?_ ?_
          ·simp only [ea,eb,LY,seval]
          ·simp only [Gs.H,Ai,Al,Ac,Ap,Aq,A7,A4,Cl.v,dg,B3,LY,seval]
        | false =>
          rw [if_pos ⟨g1,g2⟩] at ea eb
          cases bv with
          | true =>
            (simp only [AH,Ai,Al,Ac,Ap,Cl.v,g1',g2,z2,seval])
            refine ⟨k + 1,by omega,by omega,?_⟩
            refine Ao.fr [0,1,2,3,4] [] hx AQ Am ?_ ?_
            ·simp only [ea,eb,Bool.true_or,LY,seval]
            ·simp only [Gs.H,Ai,Al,Ac,Ap,Aq,A7,A4,Cl.v,dg,B3,LY,seval]
          | false =>
            (simp only [AH,Ai,Al,Ac,Ap,Cl.v,g1',g2,z2,seval])
            refine ⟨k + 1,by omega,by omega,?_⟩
            refine Ao.fr [0,1,2,3,4] [] hx AQ Am ?_ ?_
            ·simp only [ea,eb,Bool.false_or,LY,seval]
            ·simp only [Gs.H,Ai,Al,Ac,Ap,Aq,A7,A4,Cl.v,dg,B3,LY,seval]
       ·have g1':=eq_false g1
        rw [if_neg (fun h=>g1 h.1)] at ea eb
        (simp only [AH,Ai,Al,Ac,Ap,Cl.v,g1',z2,seval])
        refine ⟨k + 1,by omega,by omega,?_⟩
        refine Ao.fr [0,1,2,3,4] [] hx AQ Am ?_ ?_
        ·simp only [ea,eb,LY,seval]
        ·simp only [Gs.H,Ai,Al,Ac,Ap,Aq,A7,A4,Cl.v,dg,B3,LY,seval]
  ·have w0:(0≤(G.n:Int) - 1 - (k:Int))=True:=eq_true Aa
   have z1:IntKind.i64.wrap ((G.n:Int) - 1 - (k:Int) - 1)=(G.n:Int) - 1 - ((k + 1:Nat):Int):=AZ
   have ei:(G.n:Int) - 1 - (k:Int)=((G.n - 1 - k:Nat):Int):=Aa
   have hE:=Z1 hAk Aa hK t hT
   have hS1:Kc G (k + 1)=if ((Kc G k).c (G.n - 1 - k)).rs=true then Kc G k else (Kc G k).rsv (G.n - 1 - k):=rfl
   have hlt:G.n - 1 - k < (Kc G k).n:=by rw [hAk.n];omega
   have hR:=DE ok.g.p.g (Kc G k) hAk.ok.w hAk.ok.b ((G.n - 1 - k:Nat):Int) t'
   have hC:=BW ok.g.p.g (Kc G k).D (Kc G k).l (Kc G k).g (Kc G k).s (Kc G k).n (Kc G k).c (G.n - 1 - k) hlt
   rw [ei] at z1 w0 ⊢
   rw [hT'] at hE
   rw [Int.toNat_natCast] at hR
   generalize hai:G.n - 1 - k=ai at *
   generalize Kc G k=X at *
   cases hrs:(X.c ai).rs with
   | true =>
     rw [hrs,if_pos rfl] at hS1
     (simp only [w0,Gs.H,Ai,Al,Ac,Ap,Aq,A7,A4,Cl.v,LZ,seval])
     have zz:=Db @Ai.eq_1 @Al.eq_1 @Ac.eq_1 @Ap.eq_1 @Cl.v.eq_1 @dg.eq_1;refine Bw [0,1,2] [0,1] (hC) ?_
     (simp only [AH,Ai,Al,Ac,Ap,Cl.v,hrs,z1,seval])
     refine ⟨k + 1,by omega,by omega,?_⟩
     rw [hS1]
     refine Ao.fr [0,1,2,3] [] hx AQ Am ?_ ?_
     ·simp only [LY,seval]
     ·simp only [Gs.H,Ai,Al,Ac,Ap,Aq,A7,A4,Cl.v,dg,LY,seval]
   | false =>
     rw [hrs,if_neg Am] at hS1
     have hR:=hR.2 (hE hrs)
     generalize X.rsv ai=Y at *
     simp only [Gs.H,Ai,Al,Ac] at hR
     (simp only [w0,Gs.H,Ai,Al,Ac,Ap,Aq,A7,A4,Cl.v,LZ,seval])
     have zz:=Db @Ai.eq_1 @Al.eq_1 @Ac.eq_1 @Ap.eq_1 @Cl.v.eq_1 @dg.eq_1;refine Bw [0,1,2] [0,1] (hC) ?_
     (simp only [AH,Ai,Al,Ac,Ap,Cl.v,hrs,seval])
     have zz:=SN @Ai.eq_1 @Al.eq_1 @Ac.eq_1 @Ap.eq_1 @Aq.eq_1 @A7.eq_1 @A4.eq_1 @Cl.v.eq_1 @dg.eq_1;refine Om [0,1,2,3] [0,1,2,3] (hR) ?_
     (simp only [Ai,Al,Ac,Ap,Aq,A7,A4,Cl.v,z1,LZ,seval])
     refine ⟨k + 1,by omega,by omega,?_⟩
     rw [hS1]
     refine Ao.fr [0,1,2,3] [] hx AQ Am ?_ ?_
     ·simp only [LY,seval]
     ·simp only [Gs.H,Ai,Al,Ac,Ap,Aq,A7,A4,Cl.v,dg,LY,seval]
end Mv
