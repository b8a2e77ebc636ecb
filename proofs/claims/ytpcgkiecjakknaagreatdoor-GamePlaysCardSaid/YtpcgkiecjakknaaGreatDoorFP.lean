/- A part. -/
import Derived.Test.YtpcgkiecjakknaaGreatDoorFO
set_option linter.all false
set_option maxRecDepth 20000
set_option maxHeartbeats 16000000
namespace Mv
open Go
instance (l g:BitVec 64):Decidable (Oa l g):=by unfold Oa;infer_instance
def nwE (D:Int) (l g:BitVec 64) (p:Int) (t:BitVec 64) (b:Nat→BitVec 64):Option Int :=
 if D < 1 ∨ 20 < D ∨ ¬ Oa l g ∨ 1099511627776#64 < t then some 2
 else if p < 0 ∨ 8≤p then some 2
 else if b p.toNat < 1#64 then some 21 else none
structure OkDn (M:Seat):Prop where
 g:OkDg M
 k139:Au M 139 Ak4=true
def lH (m:Nat) (e:Nat→Lv):Hp:=[(0,D1 (.sl 1 [] 0 m 4)),(1,.ar 4 m fun j=>(e j).w)]
def dH4 (D:Int) (l g:BitVec 64) (s v:Dg) (p:Nat) (t:BitVec 64) (m:Nat) (e:Nat→Lv):Hp:=[(0,D1 (.sl 2 [] 0 (m + 1) 4)),(2,.ar 4 (m + 1) fun j=>(Akg e m ⟨3,p,0,1#64⟩ j).w),(3,dgV D l g s (.sl 4 [] 0 1 43) (.ptr 0 [])),(4,dcV 1 fun _=>clF v p t)]
theorem An4 {M:Seat} (ok:OkDn M) (D:Int) (l g:BitVec 64) (s v:Dg) (p:Int) (t:BitVec 64) (b:Nat→BitVec 64) (m:Nat) (e:Nat→Lv) (hm:m < 900) (h0:lkE e m=0) (hb:∀ p:Nat,p < 8→blE e m p=b p) (z:Int) (hz:nwE D l g p t b=some z) :
 Ag M 139 [.int .i64 D,W l,W g,dg s,.ptr 0 [],.int .i64 p,dg v,W t] (lH m e) 2 (Q3 (Ah .nilp (.int .i64 z)) (lH m e) 2):=by
 have hDo:=fun z=>Akz ok.g.l e m Aa ⟨3,p,0,1#64⟩ (.inl rfl) z
 have hDs:=Ako ok.g.l e m Aa ⟨3,p,0,1#64⟩ (.inl rfl)
 simp only [Lv.w,D1] at hDo hDs
 unfold nwE at hz
 refine Ab ok.k139 rfl fun x hx=>?_
 by_cases h1:D < 1
 ·rw [if_pos (.inl h1)] at hz
  cases hz
  try
   refine es 2000 ?_;(simp only [Ak4,Alb,lH,D1,Lv.w,h1,LZ,seval])
   have zz:=Ka @Ah.eq_1 @lH.eq_1 @D1.eq_1 @Lv.w.eq_1;exact Bf hx [0,1] ⟨rfl,rfl,rfl⟩
 by_cases h2:20 < D
 ·rw [if_pos (.inr (.inl h2))] at hz
  cases hz
  try
   refine es 2000 ?_;(simp only [Ak4,Alb,lH,D1,Lv.w,h1,h2,LZ,seval])
   have zz:=Ka @Ah.eq_1 @lH.eq_1 @D1.eq_1 @Lv.w.eq_1;exact Bf hx [0,1] ⟨rfl,rfl,rfl⟩
 by_cases h3:Oa l g
 case neg =>
  rw [if_pos (.inr (.inr (.inl h3)))] at hz
  cases hz
  try
   have hR:=Akf ok.g.p l g false (by simpa using h3)
   refine es 2000 ?_;(simp only [Ak4,Alb,lH,D1,Lv.w,h1,h2,LZ,seval])
   refine Ak (hR) ?_
   (simp only [LZ,seval])
   have zz:=Ka @Ah.eq_1 @lH.eq_1 @D1.eq_1 @Lv.w.eq_1;exact Bf hx [0,1] ⟨rfl,rfl,rfl⟩
 have hR:=Akf ok.g.p l g true (by simpa using h3)
 by_cases h4:1099511627776#64 < t
 ·rw [if_pos (.inr (.inr (.inr h4)))] at hz
  cases hz
  try
   refine es 2000 ?_;(simp only [Ak4,Alb,lH,D1,Lv.w,h1,h2,LZ,seval])
   refine Ak (hR) ?_
   (simp only [h4,LZ,seval])
   have zz:=Ka @Ah.eq_1 @lH.eq_1 @D1.eq_1 @Lv.w.eq_1;exact Bf hx [0,1] ⟨rfl,rfl,rfl⟩
 rw [if_neg (fun h=>h.elim h1 fun h=>h.elim h2 fun h=>h.elim (fun h=>h h3) h4)] at hz
 by_cases h8:p < 0 ∨ 8≤p
 ·rw [if_pos h8] at hz
  cases hz
  try
   have hd:=hDo 2 (by unfold doE;exact if_pos h8)
   refine es 2000 ?_;(simp only [Ak4,Alb,lH,D1,Lv.w,h1,h2,LZ,seval])
   refine Ak (hR) ?_
   (simp only [h4,LZ,seval])
   have zz:=Bb @D1.eq_1 @Lv.w.eq_1;refine Bw [0,1] [0,1] (hd) ?_
   (simp only [AH,D1,Lv.w,seval])
   have zz:=Ka @Ah.eq_1 @lH.eq_1 @D1.eq_1 @Lv.w.eq_1;exact Bf hx [0,1] ⟨rfl,rfl,rfl⟩
 rw [if_neg h8] at hz
 obtain ⟨q,rfl⟩:∃ q:Nat,p=q:=⟨p.toNat,by omega⟩
 rw [Int.toNat_natCast] at hz
 by_cases h9:b q < 1#64
 ·rw [if_pos h9] at hz
  cases hz
  try
   have hd:=hDo 21 (by unfold doE;rw [if_neg h8,if_pos rfl];dsimp only;rw [hb q Aa,if_pos h9])
   refine es 2000 ?_;(simp only [Ak4,Alb,lH,D1,Lv.w,h1,h2,LZ,seval])
   refine Ak (hR) ?_
   (simp only [h4,LZ,seval])
   have zz:=Bb @D1.eq_1 @Lv.w.eq_1;refine Bw [0,1] [0,1] (hd) ?_
   (simp only [AH,D1,Lv.w,seval])
   have zz:=Ka @Ah.eq_1 @lH.eq_1 @D1.eq_1 @Lv.w.eq_1;exact Bf hx [0,1] ⟨rfl,rfl,rfl⟩
 rw [if_neg h9] at hz
 cases hz
 try
  have hd:=hDs (by unfold doE;rw [if_neg h8,if_pos rfl];dsimp only;rw [hb q Aa,if_neg h9])
  rw [show doR e m ⟨3,q,0,1#64⟩=0 by rw [doR,if_pos rfl,h0];rfl] at hd
  rw [Int.toNat_natCast]
  refine es 2000 ?_;(simp only [Ak4,Alb,lH,D1,Lv.w,h1,h2,LZ,seval])
  refine Ak (hR) ?_
  (simp only [h4,LZ,seval])
  have zz:=Bb @D1.eq_1 @Lv.w.eq_1;refine Bw [0,1] [0,1] (hd) ?_
  (simp only [AH,D1,Lv.w,seval,Nat.testBit,List.map_nil,List.map_cons,B3,reduceCtorEq])
  repeat refine sd ?_
  refine Ar.mk hx [0,1,370,594,1058] [] (Ah (.ptr 3 []) (.int .i64 0)) _ 5 Am (by (simp only [CU,seval])) (by simp only [LV,Ah,LY,seval]) ?_ ⟨rfl,rfl,rfl⟩
  simp only [dH4,Akg,doN,dgV,dcV,clF,Cl.d,D1,Lv.w,dg,LY,seval]
  intro j hj
  obtain rfl:j=0:=Aa
  have hd0:Ia 1#64=0:=Am
  simp only [if_true,hd0,LY,seval]
theorem Anr {M:Seat} (ok:OkDn M) (D:Int) (l g:BitVec 64) (s v:Dg) (p:Int) (t:BitVec 64) (b:Nat→BitVec 64) (m:Nat) (e:Nat→Lv) (hm:m < 900) (h0:lkE e m=0) (hb:∀ p:Nat,p < 8→blE e m p=b p) (hz:nwE D l g p t b=none) :
 Ag M 139 [.int .i64 D,W l,W g,dg s,.ptr 0 [],.int .i64 p,dg v,W t] (lH m e) 2 (Q3 (Ah (.ptr 3 []) (.int .i64 0)) (dH4 D l g s v p.toNat t m e) 5):=by
 have hDo:=fun z=>Akz ok.g.l e m Aa ⟨3,p,0,1#64⟩ (.inl rfl) z
 have hDs:=Ako ok.g.l e m Aa ⟨3,p,0,1#64⟩ (.inl rfl)
 simp only [Lv.w,D1] at hDo hDs
 unfold nwE at hz
 refine Ab ok.k139 rfl fun x hx=>?_
 by_cases h1:D < 1
 ·rw [if_pos (.inl h1)] at hz
  cases hz
  try
   refine es 2000 ?_;(simp only [Ak4,Alb,lH,D1,Lv.w,h1,LZ,seval])
   have zz:=Ka @Ah.eq_1 @lH.eq_1 @D1.eq_1 @Lv.w.eq_1;exact Bf hx [0,1] ⟨rfl,rfl,rfl⟩
 by_cases h2:20 < D
 ·rw [if_pos (.inr (.inl h2))] at hz
  cases hz
  try
   refine es 2000 ?_;(simp only [Ak4,Alb,lH,D1,Lv.w,h1,h2,LZ,seval])
   have zz:=Ka @Ah.eq_1 @lH.eq_1 @D1.eq_1 @Lv.w.eq_1;exact Bf hx [0,1] ⟨rfl,rfl,rfl⟩
 by_cases h3:Oa l g
 case neg =>
  rw [if_pos (.inr (.inr (.inl h3)))] at hz
  cases hz
  try
   have hR:=Akf ok.g.p l g false (by simpa using h3)
   refine es 2000 ?_;(simp only [Ak4,Alb,lH,D1,Lv.w,h1,h2,LZ,seval])
   refine Ak (hR) ?_
   (simp only [LZ,seval])
   have zz:=Ka @Ah.eq_1 @lH.eq_1 @D1.eq_1 @Lv.w.eq_1;exact Bf hx [0,1] ⟨rfl,rfl,rfl⟩
 have hR:=Akf ok.g.p l g true (by simpa using h3)
 by_cases h4:1099511627776#64 < t
 ·rw [if_pos (.inr (.inr (.inr h4)))] at hz
  cases hz
  try
   refine es 2000 ?_;(simp only [Ak4,Alb,lH,D1,Lv.w,h1,h2,LZ,seval])
   refine Ak (hR) ?_
   (simp only [h4,LZ,seval])
   have zz:=Ka @Ah.eq_1 @lH.eq_1 @D1.eq_1 @Lv.w.eq_1;exact Bf hx [0,1] ⟨rfl,rfl,rfl⟩
 rw [if_neg (fun h=>h.elim h1 fun h=>h.elim h2 fun h=>h.elim (fun h=>h h3) h4)] at hz
 by_cases h8:p < 0 ∨ 8≤p
 ·rw [if_pos h8] at hz
  cases hz
  try
   have hd:=hDo 2 (by unfold doE;exact if_pos h8)
   refine es 2000 ?_;(simp only [Ak4,Alb,lH,D1,Lv.w,h1,h2,LZ,seval])
   refine Ak (hR) ?_
   (simp only [h4,LZ,seval])
   have zz:=Bb @D1.eq_1 @Lv.w.eq_1;refine Bw [0,1] [0,1] (hd) ?_
   (simp only [AH,D1,Lv.w,seval])
   have zz:=Ka @Ah.eq_1 @lH.eq_1 @D1.eq_1 @Lv.w.eq_1;exact Bf hx [0,1] ⟨rfl,rfl,rfl⟩
 rw [if_neg h8] at hz
 obtain ⟨q,rfl⟩:∃ q:Nat,p=q:=⟨p.toNat,by omega⟩
 rw [Int.toNat_natCast] at hz
 by_cases h9:b q < 1#64
 ·rw [if_pos h9] at hz
  cases hz
  try
   have hd:=hDo 21 (by unfold doE;rw [if_neg h8,if_pos rfl];dsimp only;rw [hb q Aa,if_pos h9])
   refine es 2000 ?_;(simp only [Ak4,Alb,lH,D1,Lv.w,h1,h2,LZ,seval])
   refine Ak (hR) ?_
   (simp only [h4,LZ,seval])
   have zz:=Bb @D1.eq_1 @Lv.w.eq_1;refine Bw [0,1] [0,1] (hd) ?_
   (simp only [AH,D1,Lv.w,seval])
   have zz:=Ka @Ah.eq_1 @lH.eq_1 @D1.eq_1 @Lv.w.eq_1;exact Bf hx [0,1] ⟨rfl,rfl,rfl⟩
 rw [if_neg h9] at hz
 cases hz
 try
  have hd:=hDs (by unfold doE;rw [if_neg h8,if_pos rfl];dsimp only;rw [hb q Aa,if_neg h9])
  rw [show doR e m ⟨3,q,0,1#64⟩=0 by rw [doR,if_pos rfl,h0];rfl] at hd
  rw [Int.toNat_natCast]
  refine es 2000 ?_;(simp only [Ak4,Alb,lH,D1,Lv.w,h1,h2,LZ,seval])
  refine Ak (hR) ?_
  (simp only [h4,LZ,seval])
  have zz:=Bb @D1.eq_1 @Lv.w.eq_1;refine Bw [0,1] [0,1] (hd) ?_
  (simp only [AH,D1,Lv.w,seval,Nat.testBit,List.map_nil,List.map_cons,B3,reduceCtorEq])
  repeat refine sd ?_
  refine Ar.mk hx [0,1,370,594,1058] [] (Ah (.ptr 3 []) (.int .i64 0)) _ 5 Am (by (simp only [CU,seval])) (by simp only [LV,Ah,LY,seval]) ?_ ⟨rfl,rfl,rfl⟩
  simp only [dH4,Akg,doN,dgV,dcV,clF,Cl.d,D1,Lv.w,dg,LY,seval]
  intro j hj
  obtain rfl:j=0:=Aa
  have hd0:Ia 1#64=0:=Am
  simp only [if_true,hd0,LY,seval]
theorem Am9 {M:Seat} (ok:OkMv M) (l g:BitVec 64) (h:¬ Oa l g):Ag M 249 [Ac l g] [] 0 (Q3 (er 2) [] 0):=by
 refine Ab ok.g.k249 rfl fun x hx=>?_
 by_cases h1:l < 1#64
 ·refine es 2000 ?_;(simp only [Acw,Abc,Ac,h1,LZ,seval])
  exact Ar.mkZ hx [] ⟨rfl,rfl,rfl⟩
 by_cases h2:1099511627776#64 < l
 ·refine es 2000 ?_;(simp only [Acw,Abc,Ac,h1,h2,LZ,seval])
  exact Ar.mkZ hx [] ⟨rfl,rfl,rfl⟩
 by_cases h3:l < g
 ·refine es 2000 ?_;(simp only [Acw,Abc,Ac,h1,h2,h3,LZ,seval])
  exact Ar.mkZ hx [] ⟨rfl,rfl,rfl⟩
 exact (h ⟨h1,h2,h3⟩).elim
theorem Anx {M:Seat} (ok:OkMv M) (D:Int) (l g:BitVec 64) (s v:Dg) (p:Int) (t:BitVec 64) (b:Nat→BitVec 64) (i o k:BitVec 64) (z:Int) (hz:nwE D l g p t b=some z) :
 Ag M 112 [Al D l g s,.ptr 0 [],.int .i64 p,dg v,W t] [(0,Aq b i o .nils k)] 1 (Q3 (Ah .nilp (er z)) [(0,Aq b i o .nils k)] 1):=by
 have hB:=Dh ok.g.n 0
 rw [show (if (0:Int) < 0 then 0#64 else BitVec.ofInt 64 0 + 1#64)=1#64 from rfl] at hB
 unfold nwE at hz
 refine Ab ok.g.n.k112 rfl fun x hx=>?_
 by_cases h1:D < 1
 ·rw [if_pos (.inl h1)] at hz
  cases hz
  refine es 2000 ?_;(simp only [ZM,Acm,Al,Ac,Aq,h1,LZ,seval])
  have zz:=Bb @Ah.eq_1 @Aq.eq_1;exact Bf hx [0] ⟨rfl,rfl,rfl⟩
 by_cases h2:20 < D
 ·rw [if_pos (.inr (.inl h2))] at hz
  cases hz
  refine es 2000 ?_;(simp only [ZM,Acm,Al,Ac,Aq,h1,h2,LZ,seval])
  have zz:=Bb @Ah.eq_1 @Aq.eq_1;exact Bf hx [0] ⟨rfl,rfl,rfl⟩
 by_cases h3:Oa l g
 case neg =>
  rw [if_pos (.inr (.inr (.inl h3)))] at hz
  cases hz
  refine es 2000 ?_;(simp only [ZM,Acm,Al,Ac,Aq,h1,h2,LZ,seval])
  have zz:=@Ac.eq_1;refine Ce (Am9 ok l g h3) ?_
  (simp only [LZ,seval])
  have zz:=Bb @Ah.eq_1 @Aq.eq_1;exact Bf hx [0] ⟨rfl,rfl,rfl⟩
 by_cases h4:1099511627776#64 < t
 ·rw [if_pos (.inr (.inr (.inr h4)))] at hz
  cases hz
  refine es 2000 ?_;(simp only [ZM,Acm,Al,Ac,Aq,h1,h2,LZ,seval])
  have zz:=@Ac.eq_1;refine Ce (Fc ok l g h3) ?_
  (simp only [h4,LZ,seval])
  have zz:=Bb @Ah.eq_1 @Aq.eq_1;exact Bf hx [0] ⟨rfl,rfl,rfl⟩
 rw [if_neg (fun h=>h.elim h1 fun h=>h.elim h2 fun h=>h.elim (fun h=>h h3) h4)] at hz
 by_cases h8:p < 0 ∨ 8≤p
 ·rw [if_pos h8] at hz
  cases hz
  refine es 2000 ?_;(simp only [ZM,Acm,Al,Ac,Aq,h1,h2,LZ,seval])
  have zz:=@Ac.eq_1;refine Ce (Fc ok l g h3) ?_
  (simp only [h4,LZ,seval])
  refine Ak (hB) ?_
  (simp only [LZ,seval])
  refine Wx [0] [] (PA ok.g.l p h8 1#64) (by constructor <;> (try simp only [LY,seval]) <;> exact q1) (by simp only [LX]) ?_
  (simp only [AH,seval])
  have zz:=Bb @Ah.eq_1 @Aq.eq_1;exact Bf hx [0] ⟨rfl,rfl,rfl⟩
 rw [if_neg h8] at hz
 obtain ⟨q,rfl⟩:∃ q:Nat,p=q:=⟨p.toNat,by omega⟩
 rw [Int.toNat_natCast] at hz
 by_cases h9:b q < 1#64
 ·rw [if_pos h9] at hz
  cases hz
  have hL:=OY ok.g.l b i o .nils 1 (.inl ⟨rfl,rfl⟩) k q Aa 1#64 h9
  refine es 2000 ?_;(simp only [ZM,Acm,Al,Ac,h1,h2,LZ,seval])
  have zz:=@Ac.eq_1;refine Ce (Fc ok l g h3) ?_
  (simp only [h4,LZ,seval])
  refine Ak (hB) ?_
  (simp only [LZ,seval])
  have zz:=Bb @Aq.eq_1 @A4.eq_1;refine SM [0] (hL) ?_
  (simp only [AH,Aq,A4,seval])
  have zz:=Bb @Ah.eq_1 @Aq.eq_1;exact Bf hx [0] ⟨rfl,rfl,rfl⟩
 rw [if_neg h9] at hz
 cases hz
def evR (r:BitVec 64) (j:Nat):Lv:=⟨1,j,0,r⟩
theorem Ak1 (r:BitVec 64) (kd pl:Int) (h:¬ (1:Int)=kd):∀ n,suE (evR r) kd pl n=0#64
 | 0=>rfl
 | n + 1=>by rw [suE,Ak1 r kd pl h n,if_neg (fun q=>h q.1)]
theorem An7 (r:BitVec 64) (p:Nat):∀ n,suE (evR r) 1 p n=if p < n then r else 0#64
 | 0=>rfl
 | n + 1 => by
   rw [suE,An7 r p n]
   have e1:(evR r n).kd=1:=rfl
   have e2:(evR r n).pl=(n:Int):=rfl
   have e3:(evR r n).v=r:=rfl
   by_cases h:p < n
   ·rw [if_neg (show ¬ ((evR r n).kd=1∧((p:Int) < 0 ∨ (evR r n).pl=p)) from fun q=>q.2.elim (fun q=>by omega) (fun q=>by omega)),if_pos h,if_pos (show p < n + 1 by omega)]
   ·by_cases h2:n=p
    ·subst h2
     rw [if_pos (show (evR r n).kd=1∧((n:Int) < 0 ∨ (evR r n).pl=n) from ⟨rfl,.inr rfl⟩),if_neg h,if_pos (show n < n + 1 by omega),BitVec.zero_add];rfl
    ·rw [if_neg (show ¬ ((evR r n).kd=1∧((p:Int) < 0 ∨ (evR r n).pl=p)) from fun q=>q.2.elim (fun q=>by omega) (fun q=>by omega)),if_neg h,if_neg (show ¬ p < n + 1 by omega)]
theorem Aod (r:BitVec 64) (p n:Nat):blE (evR r) n p=if p < n then r else 0#64:=by
 rw [blE,An7,Ak1 _ _ _ Am,Ak1 _ _ _ Am,Ak1 _ _ _ Am]
 split <;> simp
theorem Ale (r:BitVec 64):∀ n,lkE (evR r) n=0
 | 0=>rfl
 | n + 1=>by rw [lkE,Ale r n,if_neg (show ¬ (evR r n).kd=3 from show ¬ (1:Int)=3 by decide)]
theorem Am5 (r:BitVec 64) (b:Int):∀ n,gvE (evR r) b n=false
 | 0=>rfl
 | n + 1=>by rw [gvE,Am5 r b n,decide_eq_false (fun h=>absurd h.1 (show ¬ (1:Int)=4 by decide))];rfl
theorem Aov (D:Nat) (l g:BitVec 64) (s v:Dg) (q:Nat) (t r i o:BitVec 64):LedC (Gs.new D l g s v q t (DD r 8) i o 0#64) 9 (Akg (evR r) 8 ⟨3,q,0,1#64⟩):=by
 refine ⟨⟨by decide,?_,fun p hp=>?_,fun a ha=>?_,fun a ha=>?_,fun a ha=>?_,?_⟩,?_⟩
 ·rw [Am6,if_pos rfl,Ale];rfl
 ·have hb:=Aod r p 8
  unfold blE at hb ⊢
  rw [Akc,Akc,Akc,Akc]
  rw [if_neg (fun h=>absurd h.1 (show ¬ (3:Int)=1 by decide)),if_neg (fun h=>absurd h.1 (show ¬ (3:Int)=4 by decide)),if_neg (fun h=>absurd h.1 (show ¬ (3:Int)=2 by decide))]
  show _=if p=q then DD r 8 q - 1#64 else DD r 8 p
  have hbv:∀ j,j < 8→DD r 8 j=r:=fun j hj=>if_pos hj
  rw [if_pos hp] at hb
  by_cases h:p=q
  ·subst h
   rw [if_pos ⟨rfl,.inr rfl⟩,if_pos rfl,hbv p hp,Al1,hb]
  ·rw [if_neg (fun h2=>h2.2.elim (fun h2=>by omega) (fun h2=>h (by dsimp only at h2;omega))),if_neg h,hbv p hp,hb]
 ·have ha:a < 1:=ha
  obtain rfl:a=0:=Aa
  rw [Am7,if_pos ⟨rfl,by rw [Ale]⟩];rfl
 ·rw [Ak0,Am5,decide_eq_false (fun h=>n34 h.1)];rfl
 ·rw [Ak0,Am5,decide_eq_false (fun h=>n34 h.1)];rfl
 ·rw [Akc,Akc,Ak1 _ _ _ Am,Ak1 _ _ _ Am,if_pos ⟨rfl,.inl Am⟩,if_neg (fun h=>n34 h.1)];show 0#64 + 1#64 - 0#64=0#64 + 1#64;decide
 ·rfl
def Apg:LC:=(sr [A1 6 (.mv (.c (.bool false)))] (sr [mt 10 0,kl 11 140 [(.t 10)],mt 9 11,ee 12 9 0,ee 13 9 1,mt 7 12,mt 8 13] (sr [mt 14 7,mt 15 2,ak 16 .eql 14 15,mt 17 16,mg 18 17 true 2,A2 19 17 true (.ari .eql (.t 18) (cI 0)),mg 20 17 true 19,mg 21 20 false 8,mg 22 20 false 1,A2 23 20 false (.ari .eql (.t 21) (.t 22)),A2 24 17 true (.pick (.t 20) (.c (.bool true)) (.t 23)),
  Fq 25 17 24,mt 6 25] .ret)))
def Apq:LF:=⟨Apg,3,0,26,[.tmp 6]⟩
def Asn:LC:=(sr [bX 2 0,
 bX 3 1,
 aB 4 32,
 mI 5 0] (sr [A1 6 (.mv (.c .nils))] (.seq (sr [fa 12 51 3,lb 13 1 12,
  lN 14 0 13,
  mI 15 0] (.block 0 (.loop (sr [ak 16 .lss 15 14] (.seq (Dd 16 0) (.seq (.block 1 (sr [ia 17 2 13 15,la 18 2 17,A1 8 (.alloc (.st (.cons (.int .u64) (.cons .slice .nil)))),sb 2 8 18] (sr [fa 19 0 8,lb 20 1 19,A1 21 (.build (.st (.cons (.int .u64) (.cons .slice .nil))) [(.f 0,1,(.t 20))]),A1 9 (.alloc (.st (.cons (.int .u64) (.cons .slice .nil)))),sb 2 9 21] (.seq (sr [fa 22 1 8,lb 23 1 22,
  lN 24 0 23,
  mI 25 0] (.block 2 (.loop (sr [ak 26 .lss 25 24] (.seq (Dd 26 2) (.seq (.block 3 (sr [ia 27 32 23 25,la 28 32 27,
  aB 11 32,sb 32 11 28] (.reg [fa 29 1 9,lb 30 1 29,la 31 32 11,A1 32 (.bsl 32 1 (.ar 32 (.int .u8)) [(.i 32 0,32,(.t 31))]),
  aP 33 32 32 30 32,fa 34 1 9,sb 1 34 33]))) (.reg [aI 35 .add 25 1,mt 25 35]))))))) (.reg [mt 36 6,la 37 2 9,A1 38 (.bsl 2 1 (.st (.cons (.int .u64) (.cons .slice .nil))) [(.i 2 0,2,(.t 37))]),
  aP 39 2 32 36 38,mt 6 39]))))) (.reg [aI 40 .add 15 1,mt 15 40]))))))) (.seq (.regd [⟨3,0,la 44 116 3⟩,⟨4,1,kl 45 272 [(.t 44)]⟩,⟨0,0,la 41 32 2⟩,⟨1,0,fa 42 0 3⟩,⟨2,8,la 43 32 42⟩,⟨5,0,mt 46 6⟩,⟨6,0,fa 47 52 3⟩,⟨7,64,la 48 64 47⟩,⟨8,255,kl 49 242 [(.t 41),(.t 43),(.t 45),(.t 46),(.t 48)]⟩,⟨9,511,ee 50 49 0⟩,⟨10,511,ee 51 49 1⟩,⟨11,2047,sb 32 4 50⟩,⟨12,4095,mt 5 51⟩]) .ret))))
def Asy:LF:=⟨Asn,2,0,52,[.cell 4 true 32,.tmp 5]⟩
def Ar2:LC:=(sr [bX 2 0,
 bX 3 1,A1 4 (.mv (.c (.bool false)))] (sr [fa 5 0 2,lb 6 1 5,fa 7 0 3,lb 8 1 7,ak 9 .eql 6 8,mt 10 9,A2 11 10 true (.fadr 1 (.t 2)),A2 12 10 true (.load false 1 (.t 11)),A2 13 10 true (.fadr 2 (.t 3)),A2 14 10 true (.load false 1 (.t 13)),A2 15 10 true (.ari .eql (.t 12) (.t 14)),
  Fq 16 10 15,mt 17 16,A2 18 17 true (.fadr 2 (.t 2)),A2 19 17 true (.load true 32 (.t 18)),A2 20 17 true (.fadr 3 (.t 3)),A2 21 17 true (.load true 32 (.t 20)),A2 22 17 true (.eq false false (.ar 32 1 false .int) (.t 19) (.t 21)),
  Fq 23 17 22,mt 24 23,A2 25 24 true (.fadr 34 (.t 2)),A2 26 24 true (.load false 1 (.t 25)),A2 27 24 true (.fadr 35 (.t 3)),A2 28 24 true (.load false 1 (.t 27)),A2 29 24 true (.ari .eql (.t 26) (.t 28)),
  Fq 30 24 29,mt 31 30,A2 32 31 true (.fadr 35 (.t 2)),A2 33 31 true (.load false 1 (.t 32)),A2 34 31 true (.fadr 36 (.t 3)),A2 35 31 true (.load false 1 (.t 34)),A2 36 31 true (.ari .eql (.t 33) (.t 35)),
  Fq 37 31 36,mt 38 37,A2 39 38 true (.fadr 36 (.t 2)),A2 40 38 true (.load true 2 (.t 39)),A2 41 38 true (.fadr 37 (.t 3)),A2 42 38 true (.load false 1 (.t 41)),A2 43 38 true (.fadr 38 (.t 3)),A2 44 38 true (.load false 1 (.t 43)),A2 45 38 true (.build (.st (.cons (.int .u64) (.cons (.int .u64) .nil))) [(.f 0,1,(.t 42)),(.f 1,1,(.t 44))]),A2 46 38 true (.eq false false (.st (.cons 0 1 false .int (.cons 1 1 false .int .nil))) (.t 40) (.t 45)),
  Fq 47 38 46,mt 48 47,A2 49 48 true (.fadr 38 (.t 2)),A2 50 48 true (.load false 1 (.t 49)),A2 51 48 true (.fadr 39 (.t 3)),A2 52 48 true (.load false 1 (.t 51)),A2 53 48 true (.eq false false .bool (.t 50) (.t 52)),
  Fq 54 48 53,mt 55 54,A2 56 55 true (.fadr 39 (.t 2)),A2 57 55 true (.load false 1 (.t 56)),A2 58 55 true (.fadr 40 (.t 3)),A2 59 55 true (.load false 1 (.t 58)),A2 60 55 true (.eq false false .bool (.t 57) (.t 59)),
  Fq 61 55 60,mt 62 61,A2 63 62 true (.fadr 40 (.t 2)),A2 64 62 true (.load false 1 (.t 63)),A2 65 62 true (.fadr 41 (.t 3)),A2 66 62 true (.load false 1 (.t 65)),A2 67 62 true (.eq false false .bool (.t 64) (.t 66)),
  Fq 68 62 67,mt 69 68,A2 70 69 true (.fadr 41 (.t 2)),A2 71 69 true (.load false 1 (.t 70)),A2 72 69 true (.fadr 42 (.t 3)),A2 73 69 true (.load false 1 (.t 72)),A2 74 69 true (.ari .eql (.t 71) (.t 73)),
  Fq 75 69 74,mt 4 75] .ret))
def Asd:LF:=⟨Ar2,2,0,76,[.tmp 4]⟩
def Arv:LC:=(sr [bX 1 0,A1 2 (.alloc (.st (.cons .slice (.cons (.int .u64) (.cons .bool (.cons (.int .u64) .nil))))))] (.seq (.regd [⟨0,0,A1 3 (.bsl 1 0 (.int .u64) [])⟩,⟨1,0,fa 4 32 1⟩,⟨2,2,fa 5 0 4⟩,⟨3,6,A1 6 (.slarr 16 1 (.t 5) none none)⟩,⟨4,15,aP 7 1 8 3 6⟩,⟨5,0,fa 8 32 1⟩,⟨6,32,fa 9 16 8⟩,⟨7,96,lb 10 1 9⟩,⟨8,0,fa 11 32 1⟩,⟨9,256,fa 12 17 11⟩,⟨10,768,lb 13 1 12⟩,⟨11,0,fa 14 32 1⟩,⟨12,2048,fa 15 18 14⟩,⟨13,6144,lb 16 1 15⟩,⟨14,16383,A1 17 (.build (.st (.cons .slice (.cons (.int .u64) (.cons .bool (.cons (.int .u64) .nil))))) [(.f 0,1,(.t 7)),(.f 1,1,(.t 10)),(.f 2,1,(.t 13)),(.f 3,1,(.t 16))])⟩,⟨15,32767,sb 4 2 17⟩]) .ret))
def Aqv:LF:=⟨Arv,1,0,18,[.cell 2 true 4]⟩
variable {M:Seat}
theorem ON (ok:OkMv M) (s v w:Dg) (pl:Int):Ag M 247 [.ptr 0 [],(cl2 w pl).v,(Ct v).v,.bool true,W 2#64,W 3#64] [(0,Ai 2 10#64 0#64 s (.ptr 2 []) (.sl 1 [] 0 1 42))] 3 (Q3 (Ah (.int .i64 0) (er 45)) [(0,Ai 2 10#64 0#64 s (.ptr 2 []) (.sl 1 [] 0 1 42))] 3):=by
 refine Ab ok.k247 rfl fun x hx=>?_
 refine es 2000 ?_;(simp only [Ot,Ol,Ai,Al,Ac,Ct,cl2,Cl.v,LZ,seval])
 have zz:=Db @Ai.eq_1 @Al.eq_1 @Ac.eq_1 @Ct.eq_1 @Cl.v.eq_1 @dg.eq_1;refine Bw [0,1,2] [0] (MD ok.g 10#64 0#64 s v) ?_
 (simp only [AS,Ai,Al,Ac,LZ,seval])
 have zz:=Bb @Ah.eq_1 @dg.eq_1;exact Bf hx [0,1,2] ⟨rfl,rfl,rfl⟩
theorem PC (ok:OkMv M) (s v w:Dg) (pl:Int):Ag M 110 [.ptr 0 [],.int .i64 0,.bool true,dg w,.int .i64 pl,W 2#64,W 3#64] [(0,Ai 2 10#64 0#64 s (.ptr 2 []) (.sl 1 [] 0 1 42)),(1,.ar 42 1 fun _=>(Ct v).v)] 3 (Q3 (Ah (.int .i64 0) (.ifc 145 (.ptr 3 []))) [(0,Ai 2 10#64 0#64 s (.ptr 2 []) (.sl 1 [] 0 1 42)),(1,.ar 42 1 fun _=>(Ct v).v),(3,Bt 0 45)] 4):=by
 have hm:=ON ok s v w pl
 simp only [Ct,cl2,Cl.v,Ac,Ai,Al] at hm
 refine Ab ok.g.n.k110 rfl fun x hx=>?_
 refine es 2000 ?_;(simp only [P9,Oz,Ai,Al,Ac,Ct,Cl.v,LZ,seval])
 have zz:=Db @Ai.eq_1 @Al.eq_1 @Ac.eq_1 @Ct.eq_1 @Cl.v.eq_1 @dg.eq_1;refine Bw [0,1,2] [0,1] (KM ok.g 2 10#64 0#64 s v (.ptr 2 []) rfl) ?_
 (simp only [AH,Ai,Al,Ac,Ct,Cl.v,seval])
 have zz:=@dg.eq_1;refine Bw [0,1,2] [0] (hm) ?_
 (simp only [AH,seval])
 have zz:=@Bt.eq_1;refine Kb (Fn ok.g 0 45) ?_
 (simp only [AH,Bt,seval])
 refine Ar.mk hx [0,1,2,531] [] (Ah (.int .i64 0) (.ifc 145 (.ptr 3 []))) [(0,Ai 2 10#64 0#64 s (.ptr 2 []) (.sl 1 [] 0 1 42)),(1,.ar 42 1 fun _=>(Ct v).v),(3,Bt 0 45)] 4 Am (by (simp only [CU,seval])) (by simp only [LV,Ah,LY,seval]) (by simp only [Ai,Al,Ac,Ct,Cl.v,Bt,dg,LY,seval]) ⟨rfl,rfl,rfl⟩
def IR (v:Dg) (pl:Int):Cl:=⟨0,2#64,v,pl,1,3#64,3#64,false,false,false,pl⟩
def clq (v:Dg) (pl:Int):Cl:=⟨0,2#64,v,pl,0,0#64,0#64,false,false,false,pl⟩
theorem P7 (ok:OkMv M) (s v w:Dg) (b:Nat→BitVec 64) (i o k:BitVec 64) (hb:¬ b 1 < 2#64) :
 Ag M 247 [.ptr 0 [],(cl2 w 1).v,(Ct v).v,.bool false,W 2#64,W 3#64] [(0,Ai 2 10#64 0#64 s (.ptr 2 []) (.sl 1 [] 0 1 42)),(1,.ar 42 1 fun _=>(Ct v).v),(2,Aq b i o (.sl 3 [] 0 1 2) k),(3,.ar 2 1 fun _=>A4 1#64 false)] 4
  (Q3 (Ah (.int .i64 1) .nili) [(0,Ai 2 10#64 0#64 s (.ptr 2 []) (.sl 4 [] 0 2 42)),(2,Aq (fun j=>if j=1 then b 1 - 2#64 else b j) i o (.sl 5 [] 0 2 2) (k + 2#64)),(4,.ar 42 2 fun j=>if j < 1 then (Ct v).v else (IR w 1).v),(5,.ar 2 2 fun j=>if j < 1 then A4 1#64 false else A4 2#64 false)] 6):=by
 have hB:=Dh ok.g.n 1
 rw [show (if (1:Int) < 0 then 0#64 else BitVec.ofInt 64 1 + 1#64)=2#64 from rfl] at hB
 have hC:=Kq ok v (clq w 1) rfl 2#64
 have hN:=Sq ok
 have hL:=J6 ok.g.l b i o k 1 Am 2#64 hb 1 Am (fun _=>A4 1#64 false) (fun _=>⟨_,_,rfl⟩)
 have hF:=Od ok.g v
 have z1:IntKind.i64.wrap 1=1:=rfl
 simp only [clq,Ct,Cl.v,Ac] at hC hF hN
 simp only [Int.cast_ofNat_Int] at hL
 refine Ab ok.k247 rfl fun x hx=>?_
 refine es 2000 ?_;(simp only [Ot,Ol,Ai,Al,Ac,Ct,cl2,Cl.v,LZ,seval])
 have zz:=Db @Ai.eq_1 @Al.eq_1 @Ac.eq_1 @Ct.eq_1 @Cl.v.eq_1 @dg.eq_1;refine Bw [0,1,2] [0] (N0 ok.g 10#64 0#64 s v) ?_
 (simp only [AS,Ai,Al,Ac,LZ,seval])
 refine Ak (hB) ?_
 (simp only [LZ,seval])
 have zz:=@dg.eq_1;refine Ce (hC) ?_
 (simp only [LZ,seval])
 have zz:=@dg.eq_1;refine L9 [0] [] (hF) ?_
 (simp only [LZ,seval])
 refine Bq (hN) ?_
 (simp only [AH,seval])
 have zz:=Bb @Aq.eq_1 @A4.eq_1;refine L9 [2,3] [2,3] (hL) ?_
 (simp only [AH,Aq,A4,z1,Nat.testBit,List.map_nil,List.map_cons,B3,seval])
 refine Ar.mk hx [0,1,2,3,1988,1572] [] (Ah (.int .i64 1) .nili) [(0,Ai 2 10#64 0#64 s (.ptr 2 []) (.sl 4 [] 0 2 42)),(2,Aq (fun j=>if j=1 then b 1 - 2#64 else b j) i o (.sl 5 [] 0 2 2) (k + 2#64)),(4,.ar 42 2 fun j=>if j < 1 then (Ct v).v else (IR w 1).v),(5,.ar 2 2 fun j=>if j < 1 then A4 1#64 false else A4 2#64 false)] 6 Am (by (simp only [CU,seval])) (by simp only [LV,Ah,LY,seval]) ?_ ⟨rfl,rfl,rfl⟩
 simp only [Ai,Al,Ac,Ct,IR,Cl.v,Aq,A4,dg,LY,seval]
 (repeat' apply And.intro)
 all_goals
  intro j hj
  by_cases h:j < 1
  ·simp only [h,if_true,V.ren,W,LY,seval]
  ·have h0:j - 1=0:=Aa
   simp only [h,h0,CL,V.ren,W,LY,seval]
variable {M:Seat}
theorem P0 (ok:OkMv M) (s v w:Dg) (b:Nat→BitVec 64) (i o k:BitVec 64) (hb:¬ b 1 < 2#64) :
 Ag M 110 [.ptr 0 [],.int .i64 0,.bool false,dg w,.int .i64 1,W 2#64,W 3#64] [(0,Ai 2 10#64 0#64 s (.ptr 2 []) (.sl 1 [] 0 1 42)),(1,.ar 42 1 fun _=>(Ct v).v),(2,Aq b i o (.sl 3 [] 0 1 2) k),(3,.ar 2 1 fun _=>A4 1#64 false)] 4
  (Q3 (Ah (.int .i64 1) .nili) [(0,Ai 2 10#64 0#64 s (.ptr 2 []) (.sl 4 [] 0 2 42)),(2,Aq (fun j=>if j=1 then b 1 - 2#64 else b j) i o (.sl 5 [] 0 2 2) (k + 2#64)),(4,.ar 42 2 fun j=>if j < 1 then (Ct v).v else (IR w 1).v),(5,.ar 2 2 fun j=>if j < 1 then A4 1#64 false else A4 2#64 false)] 6):=by
 have hm:=P7 ok s v w b i o k hb
 simp only [Ct,cl2,IR,Cl.v,Ac,Ai,Al,A4] at hm
 refine Ab ok.g.n.k110 rfl fun x hx=>?_
 refine es 2000 ?_;(simp only [P9,Oz,Ai,Al,Ac,Ct,Cl.v,LZ,seval])
 have zz:=Db @Ai.eq_1 @Al.eq_1 @Ac.eq_1 @Ct.eq_1 @Cl.v.eq_1 @dg.eq_1;refine Bw [0,1,2] [0,1] (KM ok.g 2 10#64 0#64 s v (.ptr 2 []) rfl) ?_
 (simp only [AH,Ai,Al,Ac,Ct,Cl.v,seval])
 have zz:=C4 @dg.eq_1 @Aq.eq_1 @A4.eq_1;refine Bw [0,1,2,3] [0,1,2,3] (hm) ?_
 (simp only [AH,seval])
 refine Ak (FB ok.g 0) ?_
 (simp only [AH,Aq,seval])
 refine Ar.mk hx [0,1,2,3,388,389] [] (Ah (.int .i64 1) .nili) [(0,Ai 2 10#64 0#64 s (.ptr 2 []) (.sl 4 [] 0 2 42)),(2,Aq (fun j=>if j=1 then b 1 - 2#64 else b j) i o (.sl 5 [] 0 2 2) (k + 2#64)),(4,.ar 42 2 fun j=>if j < 1 then (Ct v).v else (IR w 1).v),(5,.ar 2 2 fun j=>if j < 1 then A4 1#64 false else A4 2#64 false)] 6 Am (by (simp only [CU,seval])) (by simp only [LV,Ah,LY,seval]) ?_ ⟨rfl,rfl,rfl⟩
 simp only [Ai,Al,Ac,Ct,IR,Cl.v,Aq,A4,dg,V.ren,LY,seval]
 (repeat' apply And.intro)
 all_goals
  intro j hj
  by_cases h:j < 1 <;> simp only [h,CL,V.ren,W,B,LY,seval]
theorem MS (ok:OkMv M) (s v w:Dg):Ag M 111 [.ptr 0 [],.int .i64 1] [(0,Ai 2 10#64 0#64 s (.ptr 2 []) (.sl 1 [] 0 2 42)),(1,.ar 42 2 fun j=>if j < 1 then (Ct v).v else (IR w 1).v)] 3 (Q3 (Ah (IR w 1).v .nili) [(0,Ai 2 10#64 0#64 s (.ptr 2 []) (.sl 1 [] 0 2 42)),(1,.ar 42 2 fun j=>if j < 1 then (Ct v).v else (IR w 1).v)] 3):=by
 refine Ab ok.g.n.k111 rfl fun x hx=>?_
 refine es 2000 ?_;(simp only [V3,U9,Ai,Al,Ac,Ct,IR,Cl.v,LZ,seval])
 refine Ar.mk hx [0,1,2] [] (Ah (IR w 1).v .nili) [(0,Ai 2 10#64 0#64 s (.ptr 2 []) (.sl 1 [] 0 2 42)),(1,.ar 42 2 fun j=>if j < 1 then (Ct v).v else (IR w 1).v)] 3 Am (by (simp only [CU,seval])) (by simp only [LV,AH,IR,Cl.v,Ac,dg,seval,LY]) ?_ ⟨rfl,rfl,rfl⟩
 simp only [Ai,Al,Ac,Ct,IR,Cl.v,dg,LY,seval]
 intro j hj
 by_cases h:j < 1 <;> simp only [h,CL,LY,seval]
theorem RL (ok:OkMv M) (s:Dg):Ag M 117 [.ptr 0 []] [(0,Ai 2 10#64 0#64 s (.ptr 2 []) (.sl 1 [] 0 2 42))] 3 (Q3 (.int .i64 2) [(0,Ai 2 10#64 0#64 s (.ptr 2 []) (.sl 1 [] 0 2 42))] 3):=by
 refine Ab ok.g.n.k117 rfl fun x hx=>?_
 refine es 2000 ?_;(simp only [Adn,Acd,Ai,Al,Ac,LZ,seval])
 have zz:=@dg.eq_1;exact Bf hx [0,1,2] ⟨rfl,rfl,rfl⟩
theorem LA (ok:OkMv M) (s v w:Dg):Ag M 118 [.ptr 0 []] [(0,Ai 2 10#64 0#64 s (.ptr 2 []) (.sl 1 [] 0 2 42)),(1,.ar 42 2 fun j=>if j < 1 then (Ct v).v else (IR w 1).v)] 3 (Q3 (.int .i64 0) [(0,Ai 2 10#64 0#64 s (.ptr 2 []) (.sl 1 [] 0 2 42)),(1,.ar 42 2 fun j=>if j < 1 then (Ct v).v else (IR w 1).v)] 3):=by
 refine Ab ok.g.n.k118 rfl fun x hx=>?_
 refine es 2000 ?_;(simp only [Ace,Ab9,Ai,Al,Ac,Ct,IR,Cl.v,LZ,seval])
 refine Ar.mk hx [0,1,2] [] (.int .i64 0) [(0,Ai 2 10#64 0#64 s (.ptr 2 []) (.sl 1 [] 0 2 42)),(1,.ar 42 2 fun j=>if j < 1 then (Ct v).v else (IR w 1).v)] 3 Am (by (simp only [CU,seval])) (by simp only [LV,LY,seval]) ?_ ⟨rfl,rfl,rfl⟩
 simp only [Ai,Al,Ac,Ct,IR,Cl.v,dg,LY,seval]
 intro j hj
 by_cases h:j < 1 <;> simp only [h,CL,LY,seval]
structure OkWF (M:Seat):Prop where
 k140:Au M 140 Afx=true
 as3:∀ c e b:Int,Ag M 93 [.ifc 145 (.ptr 0 []),.ifc 394 (.ptr 1 [])] [(0,Bt c e),(1,.int .i64 b)] 2 (Q3 (.bool true) [(0,Bt c e),(1,.int .i64 e)] 2)
 as4:∀ c e:Int,Ag M 93 [.ifc 145 (.ptr 0 []),.ifc 147 (.ptr 1 [])] [(0,Bt c e),(1,.nilp)] 2 (Q3 (.bool true) [(0,Bt c e),(1,.ptr 0 [])] 2)
theorem Rn {M:Seat} (ok:OkWF M) (c e:Int):Ag M 140 [.ifc 145 (.ptr 0 [])] [(0,Bt c e)] 1 (Q3 (Ah (.int .i64 e) (.int .i64 c)) [(0,Bt c e)] 1):=by
 have h3:=ok.as3 c e 0
 have h4:=ok.as4 c e
 simp only [Bt,er] at h3 h4
 refine Ab ok.k140 rfl fun x hx=>?_
 refine es 2000 ?_;(simp only [Afx,Agv,Bt,er,LZ,seval])
 refine HY [0,65] (h3) ?_
 (simp only [LZ,seval])
 refine HY [0,145] (h4) ?_
 (simp only [LZ,seval])
 have zz:=@Ah.eq_1;exact Bf hx [0] ⟨rfl,rfl,rfl⟩
theorem Ack (a b:BitVec 64):AD false (ES.st (ES.cons 0 1 false ES.int (ES.cons 1 1 false ES.int ES.nil))) (.st 2 (.fcons 0 (W a) (.fcons 1 (W b) .fnil))) (.st 2 (.fcons 0 (W a) (.fcons 1 (W b) .fnil)))=True:=by
 simp [AD,W,V.fget,V.fhas]
 exact ⟨⟨rfl,rfl,rfl⟩,rfl,rfl,rfl⟩
theorem Adz (a b:BitVec 64):AK (ES.st (ES.cons 0 1 false ES.int (ES.cons 1 1 false ES.int ES.nil))) (.st 2 (.fcons 0 (W a) (.fcons 1 (W b) .fnil))) (.st 2 (.fcons 0 (W a) (.fcons 1 (W b) .fnil)))=true:=by
 simp [AK,W,V.fget,V.fhas]
structure OkFx (M:Seat):Prop where
 m:OkMv M
 r:OkRi M
 w:OkWF M
 k116:Au M 116 Agl=true
def d1 (a:BitVec 8):Dg:=Dg.mk' fun j=>if j=0 then a else 0#8
theorem Qi (m:List Nat) (c:Prop) [Decidable c] (a b:V):V.ren m (if c then a else b)=if c then V.ren m a else V.ren m b:=by split <;> rfl
theorem Vc (a:BitVec 8):V.ar 1 32 (fun j=>if j=0 then B a else B 0#8)=dg (d1 a):=by
 have h:(fun j=>if j=0 then B a else B 0#8)=fun j=>B ((d1 a).at j):=by
  funext j
  by_cases hj:j < 32
  ·rw [d1,Dg.at_mk' _ _ hj];split <;> rfl
  ·rw [if_neg Aa]
   unfold Dg.at
   rw [List.getD_eq_getElem?_getD,List.getElem?_eq_none (by rw [(d1 a).h];omega)];rfl
 rw [h];rfl
theorem CI {M:Seat} (ok:OkFx M):Ag M 116 [] [] 0 (Q3 (.bool true) [] 0):=by
 have hr:=K1 ok.r 10#64 Am Am
 refine Ab ok.k116 rfl fun x hx=>?_
 refine es 2000 ?_;(simp only [Agl,Af9,LZ,seval])
 have zz:=C4 @Aq.eq_1 @D1.eq_1 @DY.eq_1;refine Kb (hr) ?_
 (simp only [AH,Aq,D1,DY,seval])
 have zz:=C4 @Al.eq_1 @Ac.eq_1 @dg.eq_1;refine Ce (IU ok.m.g.n 2 10#64 0#64 Dg.zero) ?_
 (simp only [Al,Ac,Vc,LZ,seval])
 have hN:=SK ok.m.g Dg.zero (d1 1#8) (DD 10#64 8) (HK 10#64 8) 0#64 0#64 Am
 simp only [Al,Ac,Aq,A4,Ai,Ct,Cl.v] at hN
 have zz:=@dg.eq_1;refine SM [16] (hN) ?_
 (simp only [AH,Vc,seval])
 have hD:=PC ok.m Dg.zero (d1 1#8) (d1 2#8) 1
 simp only [Al,Ac,Ai,Ct,Cl.v,Bt,er] at hD
 have zz:=@dg.eq_1;refine Bw [209,210,16] [209,210] (hD) ?_
 (simp only [AH,Vc,seval])
 have hA:=P0 ok.m Dg.zero (d1 1#8) (d1 2#8) (fun j=>if j=0 then DD 10#64 8 0 - 1#64 else DD 10#64 8 j) (HK 10#64 8) 0#64 1#64 Am
 simp only [Al,Ac,Ai,Ct,IR,Cl.v,Aq,A4] at hA
 have zz:=@dg.eq_1;refine Bw [209,210,16,208] [209,210,16,208] (hA) ?_
 (simp only [NC,Qi,seval])
 have hW:=Rn ok.w 0 45
 simp only [Bt,er] at hW
 have zz:=@dg.eq_1;refine Bw [432] [432] (hW) ?_
 (simp only [NC,seval])
 have hC:=MS ok.m Dg.zero (d1 1#8) (d1 2#8)
 simp only [Al,Ac,Ai,Ct,IR,Cl.v] at hC
 refine cnK [209,544,16] [209,544] (hC) (by constructor <;> (try simp only [dg,LY,seval]) <;> first | exact q1 | (intro j hj;by_cases h:j < 1 <;> simp only [h,CL,LY,seval,implies_true])) ?_
 (simp only [NC,Qi,Ack,Adz,seval])
 have hL:=RL ok.m Dg.zero
 have hS:=LA ok.m Dg.zero (d1 1#8) (d1 2#8)
 simp only [Al,Ac,Ai,Ct,IR,Cl.v] at hL hS
 have zz:=@dg.eq_1;refine Bw [209,544,16] [209] (hL) ?_
 (simp only [EE,seval])
 refine cnK [209,544,16] [209,544] (hS) (by constructor <;> (try simp only [dg,LY,seval]) <;> first | exact q1 | (intro j hj;by_cases h:j < 1 <;> simp only [h,CL,LY,seval,implies_true])) ?_
 (simp only [EE,seval])
 exact Ar.mkZ hx [] ⟨rfl,rfl,rfl⟩
end Mv
