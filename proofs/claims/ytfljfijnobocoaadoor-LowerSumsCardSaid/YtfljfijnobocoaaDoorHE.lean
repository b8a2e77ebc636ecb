/- A part. -/
import Derived.Test.YtfljfijnobocoaaDoorHD
set_option linter.all false
set_option maxRecDepth 4000
set_option maxHeartbeats 2000000
namespace Mv
open Go
structure Ext (S T:Cd):Prop where
 pre:∀ i,i < S.words.length→T.words.getD i 0#64=S.words.getD i 0#64
 len:S.words.length≤T.words.length
 s0:∀ i ∈ S.steps,i ∈ T.steps
 s1:∀ i ∈ T.steps,i ∈ S.steps ∨ S.words.length≤i
 c0:∀ p ∈ S.calls,p ∈ T.calls
 c1:∀ p ∈ T.calls,p ∈ S.calls ∨ S.words.length≤p.1
 most:S.most≤T.most
theorem Ext.refl (S:Cd):Ext S S:=⟨fun _ _=>rfl,Nat.le_refl _,fun _ h=>h,fun _ h=>.inl h,fun _ h=>h,fun _ h=>.inl h,Nat.le_refl _⟩
theorem Ext.trans {S T U:Cd} (h:Ext S T) (g:Ext T U):Ext S U where
 pre i hi:=(g.pre i (Nat.lt_of_lt_of_le hi h.len)).trans (h.pre i hi)
 len:=Nat.le_trans h.len g.len
 s0 i hi:=g.s0 i (h.s0 i hi)
 s1 i hi:=(g.s1 i hi).elim (h.s1 i) fun q=>.inr (Nat.le_trans h.len q)
 c0 i hi:=g.c0 i (h.c0 i hi)
 c1 i hi:=(g.c1 i hi).elim (h.c1 i) fun q=>.inr (Nat.le_trans h.len q)
 most:=Nat.le_trans h.most g.most
theorem Ext.em (S:Cd) (w:BitVec 64):Ext S (IW S w) :=
 ⟨fun i hi=>by show (S.words ++ [w]).getD i _=_;rw [C0,if_pos hi],by simp [IW],fun _ h=>h,fun _ h=>.inl h,fun _ h=>h,fun _ h=>.inl h,Nat.le_refl _⟩
theorem Ext.ei (S:Cd) (op:Int) (d a b c:Nat) (n:Int):Ext S (A5 S op d a b c n):=Ext.em S _
theorem Ext.cn (S:Cd) (r:Nat) (v:BitVec 64):Ext S (H4 S r v):=by
 unfold H4;split
 ·exact Ext.ei ..
 ·exact ((((((Ext.ei ..).trans (Ext.ei ..)).trans (Ext.ei ..)).trans (Ext.ei ..)).trans (Ext.ei ..)).trans (Ext.ei ..)).trans (Ext.ei ..)
theorem Ext.tm (S:Cd):Ext S (OK S):=⟨fun _ _=>rfl,Nat.le_refl _,fun _ h=>h,fun _ h=>.inl h,fun _ h=>h,fun _ h=>.inl h,Nat.le_max_left _ _⟩
theorem Ext.sv (S:Cd) (r:Nat):Ext S (CI S r):=(Ext.ei ..).trans (Ext.tm _)
theorem Ext.tp (S:Cd) (t:Nat):Ext S (Bp S t):=⟨fun _ _=>rfl,Nat.le_refl _,fun _ h=>h,fun _ h=>.inl h,fun _ h=>h,fun _ h=>.inl h,Nat.le_refl _⟩
theorem Ext.caB (first:Nat) (S:Cd):∀ j,Ext S (caB first S j)
 | 0=>Ext.refl S
 | j + 1=>((Ext.caB first S j).trans (Ext.ei ..)).trans (Ext.ei ..)
theorem Ext.caC (S:Cd) (n:Nat):Ext S (caC S n) :=
 ⟨(Ext.ei S 32 15 0 0 0 0).pre, (Ext.ei S 32 15 0 0 0 0).len, fun _ h => h, fun _ h => .inl h, fun p h => List.mem_append_left _ h, fun p h => by
   rcases List.mem_append.1 (show p ∈ S.calls ++ [(S.words.length,n)] from h) with h | h
   ·exact .inl h
   ·rw [List.mem_singleton] at h;subst h;exact .inr (Nat.le_refl _),Nat.le_refl _⟩
theorem Ext.caD (S:Cd) (r:Nat):Ext S (caD S r):=by
 unfold Mv.caD;split
 ·exact Ext.refl S
 ·exact Ext.ei ..
theorem Ext.caG (S:Cd) (first m n:Nat):Ext S (caG S first m n):=((((Ext.ei ..).trans (Ext.ei ..)).trans (Ext.caB ..)).trans (Ext.ei ..)).trans (Ext.caC ..)
theorem Ext.caF (S:Cd) (first m n r:Nat):Ext S (caF S first m n r):=by
 have h:=(((Ext.caG S first m n).trans (Ext.ei _ 26 10 0 0 0 0)).trans (Ext.ei _ 2 14 14 10 0 0)).trans (Ext.caD _ r);have hg:=(Ext.caG S first m n).len;refine ⟨h.pre,h.len,fun i hi=>List.mem_append_left _ (h.s0 i hi),fun i hi=>?_,h.c0,h.c1,h.most⟩;rcases List.mem_append.1 (show i ∈ (Mv.caD _ r).steps ++ [S.words.length,(Mv.caG S first m n).words.length] from hi) with hi | hi
 ·exact h.s1 i hi
 ·simp only [Laq] at hi;rcases hi with rfl | rfl
  ·exact .inr (Nat.le_refl _)
  ·exact .inr hg
structure Ag (w:Nat→BitVec 64) (fz:Nat) (en:Nat→Nat) (T:Cd):Prop where
 wd:∀ i,i < T.words.length→i ∉ T.steps→(∀ p ∈ T.calls,p.1 ≠ i)→w i=T.words.getD i 0#64
 sw:∀ i ∈ T.steps,(∀ p ∈ T.calls,p.1 ≠ i)→w i=O4 (T.words.getD i 0#64) fz
 cw:∀ p ∈ T.calls,p.1 ∉ T.steps→w p.1=O4 (T.words.getD p.1 0#64) (en p.2)
theorem Ag.mono {w:Nat→BitVec 64} {fz:Nat} {en:Nat→Nat} {S T:Cd} (h:Ag w fz en T) (e:Ext S T) (g:WFc S):Ag w fz en S where
 wd i hi h1 h2:=(h.wd i (Nat.lt_of_lt_of_le hi e.len) (fun q=>(e.s1 i q).elim h1 fun q=>by omega) fun p hp hpe=>(e.c1 p hp).elim (fun q=>h2 p q hpe) fun q=>by omega).trans (e.pre i hi)
 sw i hi h2:=(h.sw i (e.s0 i hi) fun p hp hpe=>(e.c1 p hp).elim (fun q=>h2 p q hpe) fun q=>by have:=g.sk i hi;omega).trans (by rw [e.pre i (g.sk i hi)])
 cw p hp h1:=(h.cw p (e.c0 p hp) fun q=>(e.s1 _ q).elim h1 fun q=>by have:=g.ck p hp;omega).trans (by rw [e.pre p.1 (g.ck p hp)])
theorem CD (l:List (BitVec 64)) (w:BitVec 64):(l ++ [w]).getD l.length 0#64=w:=by
 rw [C0,if_neg (Nat.lt_irrefl _),Nat.sub_self];rfl
theorem Ag.em {w:Nat→BitVec 64} {fz:Nat} {en:Nat→Nat} {S:Cd} {op:Int} {d a b c:Nat} {n:Int} (h:Ag w fz en (A5 S op d a b c n)) (g:WFc S):w S.words.length=Bn op d a b c n :=
 (h.wd S.words.length U4 (fun q=>by have:=g.sk _ q;omega) fun p hp e=>by have:=g.ck p hp;omega).trans (CD _ _)
structure Cx (M:Seat) (w:Nat→BitVec 64) (C B fz:Nat) (ent:Nat) (at':BitVec 64→BitVec 64→BitVec 64→BitVec 64):Prop where
 cb:C≤B
 top:B + fz + 4≤8192
 entC:ent < 8192
 fn:∀ (f g:Nat→BitVec 64) (q:Nat),(∀ i,i < C→f i=w i)→g 14=BitVec.ofNat 64 (B + fz)→g 12=0#64→g 15=BitVec.ofNat 64 q→q < 8192 →
  ∃ f' g' c,c≤20∧Rn M (DY f g ent) (DY f' g' q) c∧g' 14=BitVec.ofNat 64 (B + fz)∧g' 12=0#64∧g' 0=at' (f (B + fz)) (f (B + fz + 1)) (f (B + fz + 2))∧∀ i,i < B + fz→f' i=f i
structure Iv (w:Nat→BitVec 64) (C B:Nat) (f g:Nat→BitVec 64):Prop where
 g14:g 14=BitVec.ofNat 64 B
 g12:g 12=0#64
 co:∀ i,i < C→f i=w i
inductive Sx (at':BitVec 64→BitVec 64→BitVec 64→BitVec 64):Nat→Ex→BitVec 64→Nat→Prop
 | num (k:Nat) (v:BitVec 64):Sx at' (k + 1) (.mk 26 v []) v 7
 | call (k:Nat) (x y z:Ex) (u v w:BitVec 64) (a b c:Nat) (hx:Sx at' k x u a) (hy:Sx at' k y v b) (hz:Sx at' k z w c):Sx at' (k + 1) (.mk 29 1#64 [x,y,z]) (at' u v w) (a + b + c + 36)
theorem Du (B n:Nat):BitVec.ofNat 64 B + BitVec.ofInt 64 (n:Int)=BitVec.ofNat 64 (B + n):=by
 rw [BitVec.ofInt_natCast,BitVec.ofNat_add]
theorem Aoz (v:BitVec 64):(BitVec.ofInt 64 (Bl (v >>> 32)) <<< 32) ||| ((BitVec.ofInt 64 (Bl v) <<< 32) >>> 32)=v:=by
 have e:∀ x:BitVec 64,BitVec.ofInt 64 (Bl x)=(x.setWidth 32).signExtend 64:=fun x=>by unfold Bl;rfl
 rw [e,e];apply BitVec.eq_of_getLsbD_eq;intro i hi;simp only [BitVec.getLsbD_or,BitVec.getLsbD_shiftLeft,BitVec.getLsbD_ushiftRight,BitVec.getLsbD_signExtend,BitVec.getLsbD_setWidth];by_cases h:i < 32
 ·simp [h,show 32 + i < 64 by omega,show ¬ (32 + i < 32) by omega,hi]
 ·simp [h,hi,show i - 32 < 32 by omega,show 32 + (i - 32)=i by omega,show ¬ (32 + i < 64) by omega,show i - 32 < 64 by omega]
variable {M:Seat} {w:Nat→BitVec 64} {C B fz ent:Nat} {at':BitVec 64→BitVec 64→BitVec 64→BitVec 64} {en:Nat→Nat} {S:Cd} {f g:Nat→BitVec 64}
theorem Abr {op d a b c:Nat} {n:Int} (hA:Ag w fz en (A5 S op d a b c n)) (hw:WFc S) (hC:(A5 S op d a b c n).words.length≤C) (hf:∀ i,i < C→f i=w i) (ho:op < 64) (hd:d < 16) (ha:a < 16) (hb:b < 16) (hc:c < 16) (hn:-2147483648≤n∧n < 2147483648):Dec (f S.words.length) op d a b c n:=by
 rw [Aj] at hC;rw [hf _ Aa,hA.em hw];exact Ef op d a b c n ho hd ha hb hc hn
theorem eLi (ok:OkV M) {d:Nat} {n:Int} (hA:Ag w fz en (A5 S 26 d 0 0 0 n)) (hw:WFc S) (hC:(A5 S 26 d 0 0 0 n).words.length≤C) (h8:C≤8192) (hf:∀ i,i < C→f i=w i) (hd:d < 16) (hn:-2147483648≤n∧n < 2147483648) :
 BV M (DY f g S.words.length) (DY f (Df g d (BitVec.ofInt 64 n)) (A5 S 26 d 0 0 0 n).words.length):=by
 have h:=Abr (op:=26) hA hw hC hf Aa hd Aa Aa Aa hn;rw [Aj] at hC ⊢;exact RI ok Aa h
theorem eAp (ok:OkV M) (okP:OkP M) {o:Int} {op d a b c:Nat} (hA:Ag w fz en (A5 S o d a b c 0)) (hw:WFc S) (hC:(A5 S o d a b c 0).words.length≤C) (h8:C≤8192) (hf:∀ i,i < C→f i=w i) (h1:1≤op) (h25:op≤25) (hd:d < 16) (ha:a < 16) (hb:b < 16) (hc:c < 16) (eo:o=op:=by rfl) :
 BV M (DY f g S.words.length) (DY f (Df g d (Dn op (g a) (g b) (g c))) (A5 S o d a b c 0).words.length):=by
 subst eo;have h:=Abr hA hw hC hf Aa hd ha hb hc Aa;rw [Aj] at hC ⊢;exact M2 ok okP Aa h h1 h25
theorem eLd (ok:OkV M) {d a:Nat} {n:Int} (hA:Ag w fz en (A5 S 27 d a 0 0 n)) (hw:WFc S) (hC:(A5 S 27 d a 0 0 n).words.length≤C) (h8:C≤8192) (hf:∀ i,i < C→f i=w i) (hd:d < 16) (ha:a < 16) (hn:-2147483648≤n∧n < 2147483648) (q:Nat) (hq:q < 8192) (e:g a + BitVec.ofInt 64 n=BitVec.ofNat 64 q) :
 BV M (DY f g S.words.length) (DY f (Df g d (f q)) (A5 S 27 d a 0 0 n).words.length):=by
 have h:=Abr (op:=27) hA hw hC hf Aa hd ha Aa Aa hn;rw [Aj] at hC ⊢;exact Ms ok Aa h q hq e
theorem eSt (ok:OkV M) {a b:Nat} {n:Int} (hA:Ag w fz en (A5 S 28 0 a b 0 n)) (hw:WFc S) (hC:(A5 S 28 0 a b 0 n).words.length≤C) (h8:C≤8192) (hf:∀ i,i < C→f i=w i) (ha:a < 16) (hb:b < 16) (hn:-2147483648≤n∧n < 2147483648) (q:Nat) (hq:q < 8192) (e:g a + BitVec.ofInt 64 n=BitVec.ofNat 64 q) :
 BV M (DY f g S.words.length) (DY (Df f q (g b)) g (A5 S 28 0 a b 0 n).words.length):=by
 have h:=Abr (op:=28) hA hw hC hf Aa Aa ha hb Aa hn;rw [Aj] at hC ⊢;exact Lt ok Aa h q hq e
theorem WFc.ei {S:Cd} (h:WFc S) (op:Int) (d a b c:Nat) (n:Int):WFc (A5 S op d a b c n):=(Sta.em S op d a b c n).wf h
theorem GG (g:Nat→BitVec 64) (k:Nat) (v:BitVec 64):Df g k v k=v:=if_pos rfl
theorem Co {g:Nat→BitVec 64} {k j:Nat} {v:BitVec 64} (h:j ≠ k):Df g k v j=g j:=if_neg h
theorem Afj (ok:OkV M) (okP:OkP M) (h8:C≤8192) (r:Nat) (hr:r < 10) (v:BitVec 64) (hA:Ag w fz en (H4 S r v)) (hw:WFc S) (hC:(H4 S r v).words.length≤C) (hI:Iv w C B f g) :
 ∃ g' c,c≤7∧Rn M (DY f g S.words.length) (DY f g' (H4 S r v).words.length) c∧Iv w C B f g'∧g' r=v:=by
 have n14:(14:Nat) ≠ r:=Aa;have n12:(12:Nat) ≠ r:=Aa;have n11:(11:Nat) ≠ r:=Aa;have n10:(10:Nat) ≠ r:=Aa;have hbv:=MC v;have hbh:=MC (v >>> 32);unfold H4 at *
 split at hA
 ·rename_i he;rw [if_pos he] at hC ⊢;refine ⟨Df g r (BitVec.ofInt 64 v.toInt),1,by omega,Rn.step rfl (eLi ok hA hw hC h8 hI.co Aa Aa) (Rn.refl ..),⟨(Co n14).trans hI.g14,(Co n12).trans hI.g12,hI.co⟩,?_⟩;rw [GG,BitVec.ofInt_toInt]
 ·rename_i he;rw [if_neg he] at hC ⊢;obtain ⟨S1,e1⟩:∃ S1,S1=A5 S 26 r 0 0 0 (Bl (v >>> 32)):=⟨_,rfl⟩
  obtain ⟨S2,e2⟩:∃ S2,S2=A5 S1 26 11 0 0 0 32:=⟨_,rfl⟩
  obtain ⟨S3,e3⟩:∃ S3,S3=A5 S2 13 r 11 r 0 0:=⟨_,rfl⟩
  obtain ⟨S4,e4⟩:∃ S4,S4=A5 S3 26 10 0 0 0 (Bl v):=⟨_,rfl⟩
  obtain ⟨S5,e5⟩:∃ S5,S5=A5 S4 13 10 11 10 0 0:=⟨_,rfl⟩
  obtain ⟨S6,e6⟩:∃ S6,S6=A5 S5 14 10 11 10 0 0:=⟨_,rfl⟩
  rw [← e1,← e2,← e3,← e4,← e5,← e6] at hA hC ⊢;have l7:=Aj S6 23 r r 10 0 0;have l6:S6.words.length=S5.words.length + 1:=by rw [e6,Aj]
  have l5:S5.words.length=S4.words.length + 1:=by rw [e5,Aj]
  have l4:S4.words.length=S3.words.length + 1:=by rw [e4,Aj]
  have l3:S3.words.length=S2.words.length + 1:=by rw [e3,Aj]
  have l2:S2.words.length=S1.words.length + 1:=by rw [e2,Aj]
  have w1:WFc S1:=by rw [e1];exact hw.ei ..
  have w2:WFc S2:=by rw [e2];exact w1.ei ..
  have w3:WFc S3:=by rw [e3];exact w2.ei ..
  have w4:WFc S4:=by rw [e4];exact w3.ei ..
  have w5:WFc S5:=by rw [e5];exact w4.ei ..
  have w6:WFc S6:=by rw [e6];exact w5.ei ..
  have a6:Ag w fz en S6:=hA.mono (Ext.ei ..) w6;have a5:Ag w fz en S5:=a6.mono (by rw [e6];exact Ext.ei ..) w5;have a4:Ag w fz en S4:=a5.mono (by rw [e5];exact Ext.ei ..) w4;have a3:Ag w fz en S3:=a4.mono (by rw [e4];exact Ext.ei ..) w3;have a2:Ag w fz en S2:=a3.mono (by rw [e3];exact Ext.ei ..) w2;have a1:Ag w fz en S1:=a2.mono (by rw [e2];exact Ext.ei ..) w1;have s1:=eLi (f:=f) (g:=g) ok (e1 ▸ a1) hw (by rw [← e1];omega) h8 hI.co Aa Aa;rw [← e1] at s1;have s2:=eLi (f:=f) (g:=Df g r (BitVec.ofInt 64 (Bl (v >>> 32)))) ok (e2 ▸ a2) w1 (by rw [← e2];omega) h8 hI.co Aa Aa;rw [← e2] at s2;generalize hg2:Df (Df g r (BitVec.ofInt 64 (Bl (v >>> 32)))) 11 (BitVec.ofInt 64 32)=g2 at s2;have s3:=eAp (f:=f) (g:=g2) (op:=13) ok okP (e3 ▸ a3) w2 (by rw [← e3];omega) h8 hI.co Aa Aa Aa Aa Aa Aa;rw [← e3] at s3;generalize hg3:Df g2 r (Dn 13 (g2 11) (g2 r) (g2 0))=g3 at s3;have s4:=eLi (f:=f) (g:=g3) ok (e4 ▸ a4) w3 (by rw [← e4];omega) h8 hI.co Aa Aa;rw [← e4] at s4;generalize hg4:Df g3 10 (BitVec.ofInt 64 (Bl v))=g4 at s4;have s5:=eAp (f:=f) (g:=g4) (op:=13) ok okP (e5 ▸ a5) w4 (by rw [← e5];omega) h8 hI.co Aa Aa Aa Aa Aa Aa;rw [← e5] at s5;generalize hg5:Df g4 10 (Dn 13 (g4 11) (g4 10) (g4 0))=g5 at s5;have s6:=eAp (f:=f) (g:=g5) (op:=14) ok okP (e6 ▸ a6) w5 (by rw [← e6];omega) h8 hI.co Aa Aa Aa Aa Aa Aa;rw [← e6] at s6;generalize hg6:Df g5 10 (Dn 14 (g5 11) (g5 10) (g5 0))=g6 at s6;have s7:=eAp (f:=f) (g:=g6) (op:=23) ok okP hA w6 Aa h8 hI.co Aa Aa Aa Aa Aa Aa;have b2r:g2 r=BitVec.ofInt 64 (Bl (v >>> 32)):=by rw [← hg2,Co (Ne.symm n11),GG]
  have b2e:g2 11=32#64:=by rw [← hg2,GG];rfl
  have b3r:g3 r=BitVec.ofInt 64 (Bl (v >>> 32)) <<< 32:=by rw [← hg3,GG,b2r,b2e];rfl
  have b3e:g3 11=32#64:=by rw [← hg3,Co n11,b2e]
  have b4r:g4 r=BitVec.ofInt 64 (Bl (v >>> 32)) <<< 32:=by rw [← hg4,Co (Ne.symm n10),b3r]
  have b4e:g4 11=32#64:=by rw [← hg4,Co Aa,b3e]
  have b4t:g4 10=BitVec.ofInt 64 (Bl v):=by rw [← hg4,GG]
  have b5r:g5 r=BitVec.ofInt 64 (Bl (v >>> 32)) <<< 32:=by rw [← hg5,Co (Ne.symm n10),b4r]
  have b5e:g5 11=32#64:=by rw [← hg5,Co Aa,b4e]
  have b5t:g5 10=BitVec.ofInt 64 (Bl v) <<< 32:=by rw [← hg5,GG,b4t,b4e];rfl
  have b6r:g6 r=BitVec.ofInt 64 (Bl (v >>> 32)) <<< 32:=by rw [← hg6,Co (Ne.symm n10),b5r]
  have b6t:g6 10=BitVec.ofInt 64 (Bl v) <<< 32 >>> 32:=by rw [← hg6,GG,b5t,b5e];rfl
  have k14:g6 14=g 14:=by rw [← hg6,Co Aa,← hg5,Co Aa,← hg4,Co Aa,← hg3,Co n14,← hg2,Co Aa,Co n14]
  have k12:g6 12=g 12:=by rw [← hg6,Co Aa,← hg5,Co Aa,← hg4,Co Aa,← hg3,Co n12,← hg2,Co Aa,Co n12]
  refine ⟨_,7,by omega,Rn.step rfl s1 (Rn.step rfl s2 (Rn.step rfl s3 (Rn.step rfl s4 (Rn.step rfl s5 (Rn.step rfl s6 (Rn.step rfl s7 (Rn.refl ..))))))),⟨?_,?_,hI.co⟩,?_⟩
  ·rw [Co n14,k14,hI.g14]
  ·rw [Co n12,k12,hI.g12]
  ·rw [GG,b6r,b6t];exact Aoz v
end Mv
namespace Mv
open Go
def ZH (V:Cd) (t r:Nat):List (BitVec 64) :=
 [Bn 26 11 0 0 0 0,Bn 1 10 14 11 0 0,Bn 27 0 14 0 0 (Eb V (t + 0)),Bn 28 0 10 0 0 (0:Nat),Bn 27 0 14 0 0 (Eb V (t + 1)),Bn 28 0 10 0 0 (1:Nat),Bn 27 0 14 0 0 (Eb V (t + 2)),Bn 28 0 10 0 0 (2:Nat),Bn 1 14 10 12 0 0,Bn 32 15 0 0 0 0,Bn 26 10 0 0 0 0,Bn 2 14 14 10 0 0] ++ if r=0 then [] else [Bn 1 r 0 12 0 0]
theorem Il (V:Cd) (t n:Nat):(caG V t 3 n).words=V.words ++ [Bn 26 11 0 0 0 0,Bn 1 10 14 11 0 0,Bn 27 0 14 0 0 (Eb V (t + 0)),Bn 28 0 10 0 0 (0:Nat),Bn 27 0 14 0 0 (Eb V (t + 1)),Bn 28 0 10 0 0 (1:Nat),Bn 27 0 14 0 0 (Eb V (t + 2)),Bn 28 0 10 0 0 (2:Nat),Bn 1 14 10 12 0 0,Bn 32 15 0 0 0 0]:=by
 simp only [caG,caC,caB,A5,IW,Eb,List.append_assoc,Lau]
theorem G0 (V:Cd) (t n r:Nat):(caF V t 3 n r).words=V.words ++ ZH V t r:=by
 unfold ZH;by_cases h:r=0
 ·simp only [caF,N0,caD,if_pos h,A5,IW,Il,List.append_assoc,Lau,List.append_nil]
 ·simp only [caF,N0,caD,if_neg h,A5,IW,Il,List.append_assoc,Lau]
theorem Adt (V:Cd) (t n:Nat):(caG V t 3 n).words.length=V.words.length + 10:=by
 rw [Il];simp
theorem PC (S:Cd) (r:Nat):(caD S r).steps=S.steps∧(caD S r).calls=S.calls∧(caD S r).temps=S.temps∧(caD S r).most=S.most:=by
 unfold caD;split <;> exact ⟨rfl,rfl,rfl,rfl⟩
theorem PP (V:Cd) (t n:Nat):(caG V t 3 n).steps=V.steps∧(caG V t 3 n).most=V.most∧(caG V t 3 n).calls=V.calls ++ [(V.words.length + 9,n)]:=by
 refine ⟨?_,?_,?_⟩
 ·simp only [caG,caC,caB,A5,IW]
 ·simp only [caG,caC,caB,A5,IW]
 ·simp only [caG,caC,caB,A5,IW,Lc4]
theorem TF (V:Cd) (t n r:Nat):(caF V t 3 n r).steps=V.steps ++ [V.words.length,V.words.length + 10]:=by
 unfold caF;rw [show ∀ (X:Cd) a b,(N0 X a b).steps=X.steps ++ [a,b] from fun _ _ _=>rfl,(PC _ r).1,HW,HW,Adt,(PP V t n).1]
theorem Vq (V:Cd) (t n r:Nat):(caF V t 3 n r).calls=V.calls ++ [(V.words.length + 9,n)]:=by
 unfold caF;rw [show ∀ (X:Cd) a b,(N0 X a b).calls=X.calls from fun _ _ _=>rfl,(PC _ r).2.1,By,By,(PP V t n).2.2]
theorem XX (V:Cd) (t n r:Nat):(caF V t 3 n r).most=V.most:=by
 unfold caF;rw [show ∀ (X:Cd) a b,(N0 X a b).most=X.most from fun _ _ _=>rfl,(PC _ r).2.2.2,KO,KO,(PP V t n).2.1]
variable {M:Seat} {w:Nat→BitVec 64} {C B fz ent:Nat} {at':BitVec 64→BitVec 64→BitVec 64→BitVec 64} {en:Nat→Nat} {f g:Nat→BitVec 64}
theorem Ag2 {V:Cd} {t n r:Nat} (hA:Ag w fz en (caF V t 3 n r)) (hw:WFc V) (hf:fz < 2147483648) (he:en n < 2147483648) :
 w V.words.length=Bn 26 11 0 0 0 fz∧w (V.words.length + 9)=Bn 32 15 0 0 0 (en n)∧w (V.words.length + 10)=Bn 26 10 0 0 0 fz ∧
  ∀ i,i < (ZH V t r).length→i ≠ 0→i ≠ 9→i ≠ 10→w (V.words.length + i)=(ZH V t r).getD i 0#64:=by
 have hd:∀ i,(caF V t 3 n r).words.getD (V.words.length + i) 0#64=(ZH V t r).getD i 0#64:=fun i=>by
  rw [G0,C0,if_neg Aa,show V.words.length + i - V.words.length=i by omega]
 have hs:=TF V t n r;have hc:=Vq V t n r;have ncq:∀ i,i ≠ 9→∀ p ∈ (caF V t 3 n r).calls,p.1 ≠ V.words.length + i:=fun i h9 p hp hpe=>by
  rw [hc] at hp;rcases List.mem_append.1 hp with hp | hp
  ·have:=hw.ck _ hp;omega
  ·rw [List.mem_singleton] at hp;subst hp;dsimp only at hpe;omega
 have ns:∀ i,i ≠ 0→i ≠ 10→V.words.length + i ∉ (caF V t 3 n r).steps:=fun i h0 h10 q=>by
  rw [hs] at q;rcases List.mem_append.1 q with q | q
  ·have:=hw.sk _ q;omega
  ·simp only [Laq] at q;omega
 refine ⟨?_,?_,?_,fun i hi h0 h9 h10=>?_⟩
 ·rw [hA.sw V.words.length (by rw [hs];simp) (ncq 0 Aa),← Nat.add_zero V.words.length,hd 0];exact IZ 26 11 0 0 0 0 fz Aa Aa Aa Aa Aa hf
 ·have h:=hA.cw (V.words.length + 9,n) (by rw [hc];simp) (ns 9 Aa Aa);dsimp only at h;rw [h,hd 9];exact IZ 32 15 0 0 0 0 (en n) Aa Aa Aa Aa Aa he
 ·rw [hA.sw (V.words.length + 10) (by rw [hs];simp) (ncq 10 Aa),hd 10];exact IZ 26 10 0 0 0 0 fz Aa Aa Aa Aa Aa hf
 ·rw [hA.wd (V.words.length + i) (by rw [G0,List.length_append];omega) (ns i h0 h10) (ncq i h9),hd i]
theorem Agr (B n:Nat):BitVec.ofNat 64 (B + n) - BitVec.ofNat 64 n=BitVec.ofNat 64 B:=by
 rw [BitVec.ofNat_add];exact BitVec.add_sub_cancel _ _
theorem SM (V:Cd) (t r:Nat):(ZH V t r).length=if r=0 then 12 else 13:=by
 unfold ZH;split <;> rfl
theorem Acu (ok:OkV M) (okP:OkP M) (cx:Cx M w C B fz ent at') (he:en 1=ent) {V:Cd} {r:Nat} (hr:r < 10) (hA:Ag w fz en (caF V V.temps 3 1 r)) (hw:WFc V) (hl:Bi V.P V.fn=0) (hm:V.temps + 3≤V.most) (hz:V.most + 1≤fz) (hC:(caF V V.temps 3 1 r).words.length≤C) (hI:Iv w C B f g) :
 ∃ f' g' c',c'≤33∧Rn M (DY f g V.words.length) (DY f' g' (caF V V.temps 3 1 r).words.length) c'∧Iv w C B f' g'∧g' r=at' (f (B + 1 + V.temps)) (f (B + 1 + (V.temps + 1))) (f (B + 1 + (V.temps + 2)))∧∀ i,i < B + 1 + V.temps→f' i=f i:=by
 have hcb:=cx.cb;have htop:=cx.top;have heC:=cx.entC;obtain ⟨d0,d9,d10,dd⟩:=Ag2 hA hw Aa Aa;rw [he] at d9;have hL:=SM V V.temps r;have hW:(caF V V.temps 3 1 r).words.length=V.words.length + (ZH V V.temps r).length:=by rw [G0,List.length_append]
 have hp:∀ j,Eb V j=((1 + j:Nat):Int):=fun j=>by unfold Eb;rw [hl];omega
 have hlen:12≤(ZH V V.temps r).length:=by rw [hL];split <;> omega
 have D1:w (V.words.length + 1)=Bn (1:Nat) 10 14 11 0 0:=dd 1 Aa Aa Aa Aa;have D2:w (V.words.length + 2)=Bn (27:Nat) 0 14 0 0 ((1 + V.temps:Nat):Int):=(dd 2 Aa Aa Aa Aa).trans (by rw [← hp];rfl);have D3:w (V.words.length + 3)=Bn (28:Nat) 0 10 0 0 ((0:Nat):Int):=dd 3 Aa Aa Aa Aa;have D4:w (V.words.length + 4)=Bn (27:Nat) 0 14 0 0 ((1 + (V.temps + 1):Nat):Int):=(dd 4 Aa Aa Aa Aa).trans (by rw [← hp];rfl);have D5:w (V.words.length + 5)=Bn (28:Nat) 0 10 0 0 ((1:Nat):Int):=dd 5 Aa Aa Aa Aa;have D6:w (V.words.length + 6)=Bn (27:Nat) 0 14 0 0 ((1 + (V.temps + 2):Nat):Int):=(dd 6 Aa Aa Aa Aa).trans (by rw [← hp];rfl);have D7:w (V.words.length + 7)=Bn (28:Nat) 0 10 0 0 ((2:Nat):Int):=dd 7 Aa Aa Aa Aa;have D8:w (V.words.length + 8)=Bn (1:Nat) 14 10 12 0 0:=dd 8 Aa Aa Aa Aa;have D11:w (V.words.length + 11)=Bn (2:Nat) 14 14 10 0 0:=dd 11 Aa Aa Aa Aa;have D12:r ≠ 0→w (V.words.length + 12)=Bn (1:Nat) r 0 12 0 0:=fun h=>(dd 12 (by rw [hL,if_neg h];omega) Aa Aa Aa).trans (by unfold ZH;rw [if_neg h];rfl);generalize hq:V.words.length=p at *
 generalize ht:V.temps=t at *
 have mk:∀ (f:Nat→BitVec 64),(∀ i,i < C→f i=w i)→∀ i (op d a b:Nat) (n:Int),p + i < C→w (p + i)=Bn op d a b 0 n→op < 64→d < 16→a < 16→b < 16→(-2147483648≤n∧n < 2147483648)→Dec (f (p + i)) op d a b 0 n:=fun f hf i op d a b n hi hw ho hd ha hb hn=>by
  rw [hf _ hi,hw];exact Ef op d a b 0 n ho hd ha hb Aa hn
 have fzI:BitVec.ofInt 64 (fz:Int)=BitVec.ofNat 64 fz:=BitVec.ofInt_natCast ..;have s0:=RI (g:=g) ok Aa (mk f hI.co 0 26 11 0 0 fz Aa d0 Aa Aa Aa Aa Aa);rw [fzI] at s0;generalize hg1:Df g 11 (BitVec.ofNat 64 fz)=g1 at s0;have a14:g1 14=BitVec.ofNat 64 B:=by rw [← hg1,Co Aa,hI.g14]
 have a12:g1 12=0#64:=by rw [← hg1,Co Aa,hI.g12]
 have a11:g1 11=BitVec.ofNat 64 fz:=by rw [← hg1,GG]
 have s1:=M2 (g:=g1) ok okP Aa (mk f hI.co 1 1 10 14 11 0 Aa D1 Aa Aa Aa Aa Aa) Aa Aa;generalize hg2:Df g1 10 (Dn 1 (g1 14) (g1 11) (g1 0))=g2 at s1;have b14:g2 14=BitVec.ofNat 64 B:=by rw [← hg2,Co Aa,a14]
 have b12:g2 12=0#64:=by rw [← hg2,Co Aa,a12]
 have b10:g2 10=BitVec.ofNat 64 (B + fz):=by rw [← hg2,GG,a14,a11,BitVec.ofNat_add];rfl
 have s2:=Ms (g:=g2) ok Aa (mk f hI.co 2 27 0 14 0 _ Aa D2 Aa Aa Aa Aa Aa) (B + (1 + t)) Aa (by rw [b14,Du]);generalize hg3:Df g2 0 (f (B + (1 + t)))=g3 at s2;have c14:g3 14=BitVec.ofNat 64 B:=by rw [← hg3,Co Aa,b14]
 have c12:g3 12=0#64:=by rw [← hg3,Co Aa,b12]
 have c10:g3 10=BitVec.ofNat 64 (B + fz):=by rw [← hg3,Co Aa,b10]
 have c0:g3 0=f (B + (1 + t)):=by rw [← hg3,GG]
 have s3:=Lt (g:=g3) ok Aa (mk f hI.co 3 28 0 10 0 _ Aa D3 Aa Aa Aa Aa Aa) (B + fz + 0) Aa (by rw [c10,Du]);generalize hf1:Df f (B + fz + 0) (g3 0)=f1 at s3;have k1:∀ i,i < B + fz→f1 i=f i:=fun i hi=>by rw [← hf1,Co Aa]
 have e10:f1 (B + fz)=f (B + (1 + t)):=by rw [← hf1,Nat.add_zero,GG,c0]
 have o1:∀ i,i < C→f1 i=w i:=fun i hi=>(k1 i Aa).trans (hI.co i hi);have s4:=Ms (g:=g3) ok Aa (mk f1 o1 4 27 0 14 0 _ Aa D4 Aa Aa Aa Aa Aa) (B + (1 + (t + 1))) Aa (by rw [c14,Du]);rw [k1 (B + (1 + (t + 1))) Aa] at s4;generalize hg4:Df g3 0 (f (B + (1 + (t + 1))))=g4 at s4;have d14:g4 14=BitVec.ofNat 64 B:=by rw [← hg4,Co Aa,c14]
 have d12:g4 12=0#64:=by rw [← hg4,Co Aa,c12]
 have d10':g4 10=BitVec.ofNat 64 (B + fz):=by rw [← hg4,Co Aa,c10]
 have d0':g4 0=f (B + (1 + (t + 1))):=by rw [← hg4,GG]
 have s5:=Lt (g:=g4) ok Aa (mk f1 o1 5 28 0 10 0 _ Aa D5 Aa Aa Aa Aa Aa) (B + fz + 1) Aa (by rw [d10',Du]);generalize hf2:Df f1 (B + fz + 1) (g4 0)=f2 at s5;have k2:∀ i,i < B + fz→f2 i=f i:=fun i hi=>by rw [← hf2,Co Aa,k1 i hi]
 have e20:f2 (B + fz)=f (B + (1 + t)):=by rw [← hf2,Co Aa,e10]
 have e21:f2 (B + fz + 1)=f (B + (1 + (t + 1))):=by rw [← hf2,GG,d0']
 have o2:∀ i,i < C→f2 i=w i:=fun i hi=>(k2 i Aa).trans (hI.co i hi);have s6:=Ms (g:=g4) ok Aa (mk f2 o2 6 27 0 14 0 _ Aa D6 Aa Aa Aa Aa Aa) (B + (1 + (t + 2))) Aa (by rw [d14,Du]);rw [k2 (B + (1 + (t + 2))) Aa] at s6;generalize hg5:Df g4 0 (f (B + (1 + (t + 2))))=g5 at s6;have h14:g5 14=BitVec.ofNat 64 B:=by rw [← hg5,Co Aa,d14]
 have h12:g5 12=0#64:=by rw [← hg5,Co Aa,d12]
 have h10:g5 10=BitVec.ofNat 64 (B + fz):=by rw [← hg5,Co Aa,d10']
 have h0:g5 0=f (B + (1 + (t + 2))):=by rw [← hg5,GG]
 have s7:=Lt (g:=g5) ok Aa (mk f2 o2 7 28 0 10 0 _ Aa D7 Aa Aa Aa Aa Aa) (B + fz + 2) Aa (by rw [h10,Du]);generalize hf3:Df f2 (B + fz + 2) (g5 0)=f3 at s7;have k3:∀ i,i < B + fz→f3 i=f i:=fun i hi=>by rw [← hf3,Co Aa,k2 i hi]
 have e30:f3 (B + fz)=f (B + (1 + t)):=by rw [← hf3,Co Aa,e20]
 have e31:f3 (B + fz + 1)=f (B + (1 + (t + 1))):=by rw [← hf3,Co Aa,e21]
 have e32:f3 (B + fz + 2)=f (B + (1 + (t + 2))):=by rw [← hf3,GG,h0]
 have o3:∀ i,i < C→f3 i=w i:=fun i hi=>(k3 i Aa).trans (hI.co i hi);have s8:=M2 (g:=g5) ok okP Aa (mk f3 o3 8 1 14 10 12 0 Aa D8 Aa Aa Aa Aa Aa) Aa Aa;generalize hg6:Df g5 14 (Dn 1 (g5 10) (g5 12) (g5 0))=g6 at s8;have i14:g6 14=BitVec.ofNat 64 (B + fz):=by rw [← hg6,GG,h10,h12];exact BitVec.add_zero _
 have i12:g6 12=0#64:=by rw [← hg6,Co Aa,h12]
 have s9:=Af8 (g:=g6) ok Aa (mk f3 o3 9 32 15 0 0 ent Aa d9 Aa Aa Aa Aa Aa) heC;generalize hg7:Df g6 15 (BitVec.ofNat 64 (p + 9 + 1))=g7 at s9;have j14:g7 14=BitVec.ofNat 64 (B + fz):=by rw [← hg7,Co Aa,i14]
 have j12:g7 12=0#64:=by rw [← hg7,Co Aa,i12]
 have j15:g7 15=BitVec.ofNat 64 (p + 9 + 1):=by rw [← hg7,GG]
 obtain ⟨f4,g8,cc,hcc,rf,l14,l12,l0,kf⟩:=cx.fn f3 g7 (p + 9 + 1) o3 j14 j12 j15 Aa;rw [e30,e31,e32] at l0;have o4:∀ i,i < C→f4 i=w i:=fun i hi=>(kf i Aa).trans (o3 i hi);have s10:=RI (g:=g8) ok Aa (mk f4 o4 10 26 10 0 0 fz Aa d10 Aa Aa Aa Aa Aa);rw [fzI] at s10;generalize hg9:Df g8 10 (BitVec.ofNat 64 fz)=g9 at s10;have m14:g9 14=BitVec.ofNat 64 (B + fz):=by rw [← hg9,Co Aa,l14]
 have m12:g9 12=0#64:=by rw [← hg9,Co Aa,l12]
 have m10:g9 10=BitVec.ofNat 64 fz:=by rw [← hg9,GG]
 have m0:g9 0=g8 0:=by rw [← hg9,Co Aa]
 have s11:=M2 (g:=g9) ok okP Aa (mk f4 o4 11 2 14 14 10 0 Aa D11 Aa Aa Aa Aa Aa) Aa Aa;generalize hg10:Df g9 14 (Dn 2 (g9 14) (g9 10) (g9 0))=g10 at s11;have n14:g10 14=BitVec.ofNat 64 B:=by rw [← hg10,GG,m14,m10];exact Agr B fz
 have n12:g10 12=0#64:=by rw [← hg10,Co Aa,m12]
 have n0:g10 0=at' (f (B + 1 + t)) (f (B + 1 + (t + 1))) (f (B + 1 + (t + 2))):=by rw [← hg10,Co Aa,m0,l0,Nat.add_assoc B 1,Nat.add_assoc B 1,Nat.add_assoc B 1]
 have hk:∀ i,i < B + 1 + t→f4 i=f i:=fun i hi=>(kf i Aa).trans (k3 i Aa);have R1:Rn M (DY f g p) (DY f3 g7 ent) 10:=Rn.step rfl s0 (Rn.step rfl s1 (Rn.step rfl s2 (Rn.step rfl s3 (Rn.step rfl s4 (Rn.step rfl s5 (Rn.step rfl s6 (Rn.step rfl s7 (Rn.step rfl s8 (Rn.step rfl s9 (Rn.refl ..))))))))));have R2:Rn M (DY f4 g8 (p + 10)) (DY f4 g10 (p + 12)) 2:=Rn.step rfl s10 (Rn.step rfl s11 (Rn.refl ..));have R3:=(R1.trans rf).trans R2;rw [hW,hL];by_cases hr0:r=0
 ·subst hr0;rw [if_pos rfl];exact ⟨f4,g10,_,by omega,R3,⟨n14,n12,o4⟩,n0,hk⟩
 ·rw [if_neg hr0];have s12:=M2 (g:=g10) ok okP Aa (mk f4 o4 12 1 r 0 12 0 (by rw [hW,hL,if_neg hr0] at hC;omega) (D12 hr0) Aa Aa Aa Aa Aa) Aa Aa;refine ⟨f4,_,_,?_,R3.trans (Rn.step rfl s12 (Rn.refl ..)),⟨(Co Aa).trans n14,(Co Aa).trans n12,o4⟩,?_,hk⟩
  ·omega
  ·rw [GG,← n0,n12];exact BitVec.add_zero _
end Mv
