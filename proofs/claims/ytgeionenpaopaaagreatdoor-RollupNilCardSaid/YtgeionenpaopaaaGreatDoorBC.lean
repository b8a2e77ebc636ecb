/- A part. -/
import Derived.Test.YtgeionenpaopaaaGreatDoorBB
set_option linter.all false
set_option maxRecDepth 20000
set_option maxHeartbeats 4000000
namespace Mv
open Go
def zOf:Z→Option BV
 | .st (.cons (.int .i64) (.cons (.int .u64) (.cons .slice .nil)))=>some (.x (.mk 0 0 []))
 | .st (.cons (.int .i64) (.cons (.int .i64) (.cons .slice .nil)))=>some (.u ⟨0,0,[]⟩)
 | .st (.cons (.int .i64) (.cons (.int .i64) (.cons (.st (.cons (.int .i64) (.cons (.int .u64) (.cons .slice .nil)))) (.cons (.st (.cons (.int .i64) (.cons (.int .u64) (.cons .slice .nil)))) (.cons .slice (.cons .slice .nil))))))=>some (.s (.mk 0 0 (.mk 0 0 []) (.mk 0 0 []) [] []))
 | _=>none
theorem As9 {z:Z} {b:BV} (e:zOf z=some b):z.v 0=b.den:=by
 unfold zOf at e;split at e <;> cases e <;> rfl
def bsz:BV→Nat
 | .x _ | .u _ | .uf ..=>3
 | .s _=>10
 | _=>0
theorem W1 {b:BV} {n:Nat} (e:bsz b=n) (h:n ≠ 0):b.den.solid=true∧b.den.size=n∧b.den.isAgg=true:=by
 subst e;cases b <;> first | exact absurd rfl h | skip
 case x e=>exact ⟨Al e,An e,Am e⟩
 case s e=>exact ⟨Aaw e,Aea e,Aab e⟩
 case u F=>exact ⟨rfl,rfl,rfl⟩
 case uf=>exact ⟨rfl,rfl,rfl⟩
def bel (A:BA) (sz:Nat):Nat→List (Stp × Nat × X)→Option (List BV)
 | _,[]=>some []
 | k, (.i a j, c, x) :: r => if a = sz ∧ j = k ∧ c = sz then match bx A x, bel A sz (k + 1) r with
   | some b,some l=>if bsz b=sz then some (b :: l) else none
   | _,_=>none
   else none
 | _,_=>none
theorem Avj {nt:Nat} {A:BA} (hA:ltA nt A) {sz:Nat} (h0:sz ≠ 0):∀ {ps:List (Stp × Nat × X)} {k:Nat} {l:List BV},bel A sz k ps=some l→∀ (g:Nat→V) (m:Nat),k + ps.length=m→(∀ i,k≤i→(g i).size=sz) →
 l.length=ps.length∧Bu (.ar sz m g) (fr nt (dA A)) ps∧∃ g',BY (.ar sz m g) (fr nt (dA A)) ps = .ar sz m g'∧(∀ i,i < k→g' i=g i)∧∀ i (h:i < l.length),g' (k + i)=l[i].den
 | [], k, l, e, g, m, hm, hg => by
   cases e;exact ⟨rfl,trivial,g,rfl,fun _ _=>rfl,fun i h=>absurd h (Nat.not_lt_zero _)⟩
 | (.f _,_,_) :: _,_,_,e,_,_,_,_=>by simp [bel] at e
 | (.r _ _ _,_,_) :: _,_,_,e,_,_,_,_=>by simp [bel] at e
 | (.i a j, c, x) :: r, k, l, e, g, m, hm, hg => by
   simp only [bel] at e;split at e;case isFalse=>cases e
   rename_i hh;obtain ⟨rfl,rfl,rfl⟩:=hh;split at e;case h_2=>cases e
   rename_i b l' e1 e2;split at e;case isFalse=>cases e
   rename_i hb;cases e;have hs:=W1 hb h0;simp only [List.length_cons] at hm
   obtain ⟨i1,i2,g',i3,i4,i5⟩:=Avj hA h0 e2 (fun i=>if i=j then b.den else g i) m Aa (fun i hi=>by
    show (if i=j then b.den else g i).size=_
    rw [if_neg Aa];exact hg i Aa)
   have ev:=L1 hA e1;refine ⟨by simp [i1],⟨⟨?_,?_,?_,hg j (Nat.le_refl _)⟩,?_⟩,g',?_,?_,?_⟩
   ·rw [ev];exact hs.1
   ·exact ⟨rfl,by omega,trivial⟩
   ·rw [ev];exact hs.2.1
   ·rw [ev];exact i2
   ·simp only [BY];rw [ev];exact i3
   ·intro i hi;rw [i4 i Aa,if_neg Aa]
   ·intro i hi;cases i with
    | zero=>rw [Nat.add_zero,i4 j Aa,if_pos rfl];rfl
    | succ i =>
      have:=i5 i (by simpa using hi);rw [show j + (i + 1)=j + 1 + i by omega,this];rfl
def bfu (A:BA):Z→List (Stp × Nat × X)→Option BV
 | .st (.cons (.int .i64) (.cons (.int .i64) (.cons .slice .nil))), [(.f 0, 1, .c (.int .i64 p)), (.f 1, 1, .c (.int .i64 q)), (.f 2, 1, x)] => match bx A x with
   | some (.q id n 10)=>some (.uf p q id n)
   | _=>none
 | .st (.cons (.int .i64) (.cons (.int .i64) (.cons .slice .nil))), [(.f 1, 1, .c (.int .i64 q)), (.f 2, 1, x)] => match bx A x with
   | some (.q id n 10)=>some (.uf 0 q id n)
   | _=>none
 | _,_=>none
theorem Awo {nt:Nat} {A:BA} (hA:ltA nt A) {z:Z} {ps:List (Stp × Nat × X)} {b:BV} (e:bfu A z ps=some b):Bu (z.v 0) (fr nt (dA A)) ps∧BY (z.v 0) (fr nt (dA A)) ps=b.den:=by
 unfold bfu at e;split at e
 ·rename_i p q x;split at e
  ·rename_i id n hx;cases e;have ev:=L1 hA hx;simp only [BY,Bu,ev];exact ⟨⟨⟨rfl,⟨rfl,trivial⟩,rfl,rfl⟩,⟨rfl,⟨rfl,trivial⟩,rfl,rfl⟩,⟨rfl,⟨rfl,trivial⟩,rfl,rfl⟩,trivial⟩,rfl⟩
  ·cases e
 ·rename_i q x;split at e
  ·rename_i id n hx;cases e;have ev:=L1 hA hx;simp only [BY,Bu,ev];exact ⟨⟨⟨rfl,⟨rfl,trivial⟩,rfl,rfl⟩,⟨rfl,⟨rfl,trivial⟩,rfl,rfl⟩,trivial⟩,rfl⟩
  ·cases e
 ·cases e
def bfE:Ex→Nat→BV→Option Ex
 | .mk _ n l,0,.i k=>some (.mk k n l)
 | .mk o _ l,1,.w k=>some (.mk o k l)
 | .mk o n _,2,.xl y=>some (.mk o n y)
 | .mk o n _,2,.nl=>some (.mk o n [])
 | _,_,_=>none
def bfS:IrSt→Nat→BV→Option (IrSt × Nat)
 | .mk _ n a b c d,0,.i k=>some (.mk k n a b c d,1)
 | .mk o _ a b c d,1,.i k=>some (.mk o k a b c d,1)
 | .mk o n _ b c d,2,.x e=>some (.mk o n e b c d,3)
 | .mk o n a _ c d,5,.x e=>some (.mk o n a e c d,3)
 | .mk o n a b _ d,8,.sl e=>some (.mk o n a b e d,1)
 | .mk o n a b _ d,8,.nl=>some (.mk o n a b [] d,1)
 | .mk o n a b c _,9,.sl e=>some (.mk o n a b c e,1)
 | .mk o n a b c _,9,.nl=>some (.mk o n a b c [],1)
 | _,_,_=>none
theorem Awy {e e':Ex} {o:Nat} {c:BV} (h:bfE e o c=some e'):V.set c.den [.f o] (AE e)=AE e'∧c.den.solid=true∧(AE e).ok [.f o]∧c.den.size=1∧((AE e).get [.f o]).size=1:=by
 unfold bfE at h;split at h
 ·cases h;simp only [AE];exact ⟨rfl,rfl,⟨rfl,trivial⟩,rfl,rfl⟩
 ·cases h;simp only [AE];exact ⟨rfl,rfl,⟨rfl,trivial⟩,rfl,rfl⟩
 ·cases h;simp only [AE];exact ⟨rfl,AU _,⟨rfl,trivial⟩,AY _,AY _⟩
 ·cases h;simp only [AE];exact ⟨rfl,rfl,⟨rfl,trivial⟩,rfl,AY _⟩
 ·cases h
theorem Ayf {e e':IrSt} {o z:Nat} {c:BV} (h:bfS e o c=some (e',z)):V.set c.den [.f o] (GN e)=GN e'∧c.den.solid=true∧(GN e).ok [.f o]∧c.den.size=z∧((GN e).get [.f o]).size=z:=by
 unfold bfS at h;split at h <;> cases h <;> simp only [GN]
 ·exact ⟨rfl,rfl,⟨rfl,trivial⟩,rfl,rfl⟩
 ·exact ⟨rfl,rfl,⟨rfl,trivial⟩,rfl,rfl⟩
 ·exact ⟨rfl,Al _,⟨rfl,trivial⟩,An _,An _⟩
 ·exact ⟨rfl,Al _,⟨rfl,trivial⟩,An _,An _⟩
 ·exact ⟨rfl,A8 _,⟨rfl,trivial⟩,A7 _,A7 _⟩
 ·exact ⟨rfl,rfl,⟨rfl,trivial⟩,rfl,A7 _⟩
 ·exact ⟨rfl,A8 _,⟨rfl,trivial⟩,A7 _,A7 _⟩
 ·exact ⟨rfl,rfl,⟨rfl,trivial⟩,rfl,A7 _⟩
def bbd (A:BA):BV→List (Stp × Nat × X)→Option BV
 | b,[]=>some b
 | .x e, (.f o, sz, x) :: r => match bx A x with
   | some c => match bfE e o c with
     | some e'=>if sz=1 then bbd A (.x e') r else none
     | none=>none
   | none=>none
 | .s e, (.f o, sz, x) :: r => match bx A x with
   | some c => match bfS e o c with
     | some (e',z)=>if sz=z then bbd A (.s e') r else none
     | none=>none
   | none=>none
 | _,_=>none
theorem As5 {nt:Nat} {A:BA} (hA:ltA nt A):∀ {ps:List (Stp × Nat × X)} {b b':BV},bbd A b ps=some b'→Bu b.den (fr nt (dA A)) ps∧BY b.den (fr nt (dA A)) ps=b'.den
 | [], b, b', e => by
   have:b'=b:=by cases b <;> cases e <;> rfl
   subst this;exact ⟨trivial,rfl⟩
 | (p, sz, x) :: r, b, b', e => by
   unfold bbd at e;split at e
   ·rename_i h0;cases h0
   ·rename_i y o sz' x' r' h0;cases h0;split at e;case h_2=>cases e
    rename_i c hx;split at e;case h_2=>cases e
    rename_i e' he;split at e;case isFalse=>cases e
    rename_i hz;subst hz;obtain ⟨k1,k2,k3,k4,k5⟩:=Awy he;obtain ⟨i1,i2⟩:=As5 hA e;have ev:=L1 hA hx;simp only [BY,Bu,ev];exact ⟨⟨⟨k2,k3,k4,k5⟩,by show Bu (V.set c.den [.f o] (AE y)) _ _;rw [k1];exact i1⟩,by show BY (V.set c.den [.f o] (AE y)) _ _=_;rw [k1];exact i2⟩
   ·rename_i y o sz' x' r' h0;cases h0;split at e;case h_2=>cases e
    rename_i c hx;split at e;case h_2=>cases e
    rename_i e' z he;split at e;case isFalse=>cases e
    rename_i hz;subst hz;obtain ⟨k1,k2,k3,k4,k5⟩:=Ayf he;obtain ⟨i1,i2⟩:=As5 hA e;have ev:=L1 hA hx;simp only [BY,Bu,ev];exact ⟨⟨⟨k2,k3,k4,k5⟩,by show Bu (V.set c.den [.f o] (GN y)) _ _;rw [k1];exact i1⟩,by show BY (V.set c.den [.f o] (GN y)) _ _=_;rw [k1];exact i2⟩
   ·cases e
def bbz (A:BA) (z:Z) (ps:List (Stp × Nat × X)):Option BV :=
 match bfu A z ps with
 | some b=>some b
 | none => match zOf z with
   | some b=>bbd A b ps
   | none=>none
theorem Ayl {nt:Nat} {A:BA} (hA:ltA nt A) {z:Z} {ps:List (Stp × Nat × X)} {b:BV} (e:bbz A z ps=some b):Bu (z.v 0) (fr nt (dA A)) ps∧BY (z.v 0) (fr nt (dA A)) ps=b.den:=by
 unfold bbz at e;split at e
 ·rename_i c hc;cases e;exact Awo hA hc
 ·split at e
  ·rename_i c hz;rw [As9 hz];exact As5 hA e
  ·cases e
def Ax0:BinOp→Int→Int→Option Int
 | .add,a,b=>some (IntKind.u64.wrap (a + b))
 | .sub,a,b=>some (IntKind.u64.wrap (a - b))
 | .or,a,b=>some (IntKind.u64.wrap ((BitVec.ofInt 64 a ||| BitVec.ofInt 64 b).toNat))
 | .shl,a,b=>if 0≤b then some (IntKind.u64.wrap (a * 2 ^ min b.toNat 64)) else none
 | _,_,_=>none
theorem Avn {op:BinOp} {a b c:Int} (e:Ax0 op a b=some c) (H:Hp):(AT op (.int .u64 a) (.int .u64 b) H).pre∧(AT op (.int .u64 a) (.int .u64 b) H).v = .int .u64 c∧(AT op (.int .u64 a) (.int .u64 b) H).H=H:=by
 unfold Ax0 at e;split at e
 ·cases e;exact ⟨rfl,rfl,rfl⟩
 ·cases e;exact ⟨rfl,rfl,rfl⟩
 ·cases e;exact ⟨rfl,rfl,rfl⟩
 ·split at e
  ·rename_i h;cases e;exact ⟨h,rfl,rfl⟩
  ·cases e
 ·cases e
def bop (A:BA) (h:BH) (n:Nat):LO→Option (BV × BH)
 | .mv x=>(bx A x).map fun b=>(b,h)
 | .alloc z=>(zOf z).map fun b=>(.p n,(n,.c b) :: h)
 | .box x => match bx A x with
   | some b=>if bsz b ≠ 0 then some (.p n,(n,.c b) :: h) else none
   | none=>none
 | .build z ps=>(bbz A z ps).map fun b=>(b,h)
 | .conv .u64 x => match bx A x with
   | some (.i k)=>if 0≤k∧k < 18446744073709551616 then some (.w (BitVec.ofInt 64 k),h) else none
   | _=>none
 | .ari op x y => match bx A x, bx A y with
   | some (.w a), some (.w b) => match Ax0 op a.toNat b.toNat with
     | some c=>if 0≤c∧c < 18446744073709551616 then some (.w (BitVec.ofInt 64 c),h) else none
     | none=>none
   | _,_=>none
 | .bsl sz m z ps => match zOf z, bel A sz 0 ps with
   | some b0,some l=>if sz ≠ 0∧bsz b0=sz∧ps.length=m then some (.q n m sz,(n,.a sz l) :: h) else none
   | _,_=>none
 | .store sz x y => match bx A x, bx A y with
   | some (.p id), some b => match R3 h id with
     | some (.c b0)=>if sz ≠ 0∧bsz b0=sz∧bsz b=sz then some (.vo,At4 h id (.c b)) else none
     | _=>none
   | _,_=>none
 | .load true sz x => match bx A x with
   | some (.p id) => match R3 h id with
     | some (.c b)=>if sz ≠ 0∧bsz b=sz then some (b,h) else none
     | _=>none
   | _=>none
 | _=>none
theorem Ar9 {nt:Nat} {A:BA} (hA:ltA nt A) {h h':BH} {H:Hp} (hr:HR h H) {n:Nat} {o:LO} {b:BV} (e:bop A h n o=some (b,h')) :
 (Ag (fr nt (dA A)) H n o).pre∧(Ag (fr nt (dA A)) H n o).v=b.den∧HR h' (Ag (fr nt (dA A)) H n o).H:=by
 unfold bop at e;split at e
 ·rename_i x;cases hx:bx A x with
  | none=>rw [hx] at e;cases e
  | some c=>rw [hx] at e;cases e;exact ⟨trivial,L1 hA hx,hr⟩
 ·rename_i z;cases hz:zOf z with
  | none=>rw [hz] at e;cases e
  | some c=>rw [hz] at e;cases e;exact ⟨trivial,rfl,⟨rfl,As9 hz⟩,hr⟩
 ·rename_i x;split at e;case h_2=>cases e
  rename_i c hx;split at e;case isFalse=>cases e
  rename_i hb;cases e;have ev:=L1 hA hx;simp only [Ag,ev];exact ⟨(W1 rfl hb).1,rfl,⟨rfl,rfl⟩,hr⟩
 ·rename_i z ps;cases hz:bbz A z ps with
  | none=>rw [hz] at e;cases e
  | some c =>
    rw [hz] at e;cases e;have:=Ayl hA hz;exact ⟨this.1,this.2,hr⟩
 ·rename_i x;split at e;case h_2=>cases e
  rename_i k hx;split at e;case isFalse=>cases e
  rename_i hk;cases e;have ev:=L1 hA hx;simp only [Ag,ev];refine ⟨trivial,?_,hr⟩;show V.int .u64 (IntKind.u64.wrap k)=W (BitVec.ofInt 64 k);rw [FE hk,Arz hk]
 ·rename_i op x y;split at e;case h_2=>cases e
  rename_i a b hx hy;split at e;case h_2=>cases e
  rename_i c hz;split at e;case isFalse=>cases e
  rename_i hk;cases e;have ex:=L1 hA hx;have ey:=L1 hA hy;simp only [Ag,ex,ey];have:=Avn hz H;exact ⟨this.1,by show _=W (BitVec.ofInt 64 c);rw [Arz hk];exact this.2.1,by rw [show (AT op (BV.w a).den (BV.w b).den H).H=H from this.2.2];exact hr⟩
 ·rename_i sz m z ps;split at e;case h_2=>cases e
  rename_i b0 l hz hl;split at e;case isFalse=>cases e
  rename_i hh;obtain ⟨h0,h1,h2⟩:=hh;cases e
  obtain ⟨i1,i2,g',i3,_,i5⟩:=Avj hA h0 hl (fun _=>z.v 0) m Aa (fun i _=>by
   show (z.v 0).size=_
   rw [As9 hz];exact (W1 h1 h0).2.1)
  refine ⟨i2,rfl,⟨rfl,g',?_,fun i hi=>?_⟩,hr⟩
  ·show BY _ _ _=_;rw [i3,i1,h2]
  ·have:=i5 i hi;rwa [Nat.zero_add] at this
 ·rename_i sz x y;split at e;case h_2=>cases e
  rename_i id c hx hy;split at e;case h_2=>cases e
  rename_i b0 hb;split at e;case isFalse=>cases e
  rename_i hh;obtain ⟨h0,h1,h2⟩:=hh;cases e;have ex:=L1 hA hx;have ey:=L1 hA hy;obtain ⟨g1,g2⟩:=Arm hr hb;have g2':hget H id=b0.den:=g2;have s0:=W1 h1 h0;have s1:=W1 h2 h0;simp only [Ag,ex,ey];show (_∧_)∧_∧_;refine ⟨⟨⟨g1,?_,trivial,rfl⟩,s1.1,s1.2.1,?_⟩,rfl,Au4 hr rfl⟩
  ·rw [g2'];exact s0.1
  ·show (hget H id).size=sz;rw [g2'];exact s0.2.1
 ·rename_i sz x;split at e;case h_2=>cases e
  rename_i id hx;split at e;case h_2=>cases e
  rename_i c hb;split at e;case isFalse=>cases e
  rename_i hh;obtain ⟨h0,h1⟩:=hh;cases e;have ex:=L1 hA hx;obtain ⟨g1,g2⟩:=Arm hr hb;have g2':hget H id=b.den:=g2;have s0:=W1 h1 h0;simp only [Ag,ex];show ((_∧_)∧_)∧_∧_;refine ⟨⟨⟨g1,?_,trivial⟩,?_,?_,?_⟩,g2',hr⟩
  ·rw [g2'];exact s0.1
  ·show (hget H id).solid=true;rw [g2'];exact s0.1
  ·show (hget H id).size=sz;rw [g2'];exact s0.2.1
  ·show (hget H id).isAgg=true;rw [g2'];exact s0.2.2
 ·cases e
abbrev Con:=Nat→List BV→Option BV
def bk (con:Con) (fns:List Nat) (A:BA) (h:BH) (n:Nat):LK→Option (BV × BH)
 | .lo o=>bop A h n o
 | .call f xs => match bxs A xs with
   | some us => match Asm con h f us with
     | some (b,z)=>some (b,Aq6 h z)
     | none=>none
   | none=>none
 | .dyn x xs => match bx A x, bxs A xs with
   | some (.f f), some us => if fns.contains f then match Asm con h f us with
     | some (b,z)=>some (b,Aq6 h z)
     | none=>none
     else none
   | _,_=>none
def bRo (con:Con) (fns:List Nat) (nt:Nat):List LOp→Nat→BA→BH→Option (BA × BH)
 | [],_,A,h=>some (A,h)
 | ⟨d, k, none⟩ :: r, n, A, h => match bk con fns A h n k with
   | some (b, h') => match Av3 nt A d b with
     | some A'=>bRo con fns nt r (n + 16) A' h'
     | none=>none
   | none=>none
 | ⟨_,_,some _⟩ :: _,_,_,_=>none
theorem Ar8 {M:Seat} {con:Con} {fns:List Nat} (hc:BCon M con fns) {nt:Nat} {K:List V→Hp→Prop}:∀ {ops:List LOp} {n:Nat} {A A':BA} {h h':BH} {H:Hp},ltA nt A→HR h H→bRo con fns nt ops n A h=some (A',h') →
 (∀ H',HR h' H'→ltA nt A'→K (fr nt (dA A')) H')→Ro M K ops n (fr nt (dA A)) H
 | [],n,A,A',h,h',H,hA,hr,e,hK=>by cases e;exact hK H hr hA
 | ⟨d,k,some g⟩ :: r,n,A,A',h,h',H,hA,hr,e,hK=>by cases e
 | ⟨d, k, none⟩ :: r, n, A, A', h, h', H, hA, hr, e, hK => by
   simp only [bRo] at e;split at e;case h_2=>cases e
   rename_i b h1 e1;split at e;case h_2=>cases e
   rename_i A1 e2;obtain ⟨p1,p2⟩:=Arx hA e2;cases k with
   | lo o =>
     have s:=Ar9 hA hr e1;simp only [Ro];refine ⟨s.1,?_⟩;rw [s.2.1,p2];exact Ar8 hc p1 s.2.2 e hK
   | call f xs =>
     simp only [bk] at e1;split at e1;case h_2=>cases e1
     rename_i us hu;split at e1;case h_2=>cases e1
     rename_i c z hb;cases e1;simp only [Ro];rw [Arv hA hu];refine Arj hc hr hb ?_;rw [p2];exact Ar8 hc p1 (Ara hr z) e hK
   | dyn x xs =>
     simp only [bk] at e1;split at e1;case h_2=>cases e1
     rename_i f us hx hu;split at e1;case isFalse=>cases e1
     rename_i hf;split at e1;case h_2=>cases e1
     rename_i c z hb;cases e1;simp only [Ro];rw [Arv hA hu,L1 hA hx];refine .inl ⟨⟨hc.fn f hf,rfl⟩,?_⟩;rw [show (us.map BV.den) ++ (List.range 0).map (fun i=>V.fnil.fget i)=us.map BV.den by simp];refine Arj hc hr hb ?_;rw [p2];exact Ar8 hc p1 (Ara hr z) e hK
def bld (A:BA) (N bf:Nat) (F:BH):LO→Bool
 | .load true sz x => match bx A x with
   | some (.p id) => decide (id < N) && bf == 0 && (match R3 F id with
     | some (.c b)=>decide (sz ≠ 0) && bsz b == sz
     | _=>false)
   | _=>false
 | _=>false
def A1c:LO→Bool
 | .store ..=>true
 | _=>false
def bkD (con:Con) (A:BA) (h F:BH) (N m p bf:Nat) (fin:Bool):LK→Option (BV × BH)
 | .lo o=>if A1c o then (if fin then bop A h (bs N m p (.lo o)) o else none) else if (LK.lo o).isW then none else if (LK.lo o).isP || bld A N bf F o then bop A h (N + 16 * p) o else none
 | .call f xs => match bxs A xs with
   | some us => match Asm con h f us with
     | some (b,z)=>if z.all (fun i=>decide (N≤i)) then some (b,Aq6 h z) else none
     | none=>none
   | none=>none
 | .dyn ..=>none
def Aum (con:Con) (nt m N:Nat) (F:BH):List DOp→Nat→BA→BH→Option (BA × BH)
 | [],_,A,h=>some (A,h)
 | ⟨_, bf, ⟨d, k, none⟩⟩ :: r, p, A, h => match bkD con A h F N m p bf r.isEmpty k with
   | some (b, h') => match Av3 nt A d b with
     | some A'=>Aum con nt m N F r (p + 1) A' h'
     | none=>none
   | none=>none
 | ⟨_,_,⟨_,_,some _⟩⟩ :: _,_,_,_=>none
def FHb (N:Nat) (F h:BH):Prop:=∀ id,id < N→R3 h id=R3 F id
theorem Auf {h:BH} {j id:Nat} (e:id ≠ j):R3 (Asb h j) id=R3 h id:=by
 induction h with
 | nil=>rfl
 | cons q r ih =>
   obtain ⟨i,b⟩:=q;simp only [Asb,R3];by_cases k:i=j
   ·rw [if_pos k,ih,if_neg Aa]
   ·rw [if_neg k];simp only [R3,ih]
theorem Ato {N:Nat} {F h:BH} (hF:FHb N F h):∀ z:List Nat,z.all (fun i=>decide (N≤i))=true→FHb N F (Aq6 h z)
 | [],_=>hF
 | i :: r, hz => by
   simp only [List.all_cons,Bool.and_eq_true,decide_eq_true_eq] at hz;intro id hid;simp only [Aq6];rw [Auf Aa];exact Ato hF r hz.2 id hid
def LTb (n:Nat) (h:BH):Prop:=∀ q ∈ h,q.1 < n
theorem Awr {n:Nat} {h:BH} (e:LTb n h) (j:Nat):LTb n (Asb h j):=by
 induction h with
 | nil=>exact e
 | cons q r ih =>
   obtain ⟨i,b⟩:=q;have hr:LTb n r:=fun q hq=>e q (by simp [hq]);simp only [Asb];split
   ·exact ih hr
   ·intro q hq;simp only [List.mem_cons] at hq;rcases hq with rfl | hq
    ·exact e _ BF
    ·exact ih hr q hq
theorem Atq {n:Nat} {h:BH} (e:LTb n h):∀ z,LTb n (Aq6 h z)
 | []=>e
 | i :: r=>Awr (Atq e r) i
theorem Ax8 {n:Nat} {h:BH} (e:LTb n h) (j:Nat) (c:BB):LTb n (At4 h j c):=by
 induction h with
 | nil=>exact e
 | cons q r ih =>
   obtain ⟨i,b⟩:=q;have hr:LTb n r:=fun q hq=>e q (by simp [hq]);have hi:i < n:=e (i,b) BF;simp only [At4];split
   ·intro q hq;simp only [List.mem_cons] at hq;rcases hq with rfl | hq
    ·exact hi
    ·exact hr q hq
   ·intro q hq;simp only [List.mem_cons] at hq;rcases hq with rfl | hq
    ·exact hi
    ·exact ih hr q hq
theorem Atb {lo hi:Nat}:∀ {h:BH} {H:Hp},HR h H→LTb lo h→Dq lo hi H
 | [],[],_,_=>trivial
 | (i, b) :: r, (j, v) :: s, hr, e => by
   obtain ⟨⟨rfl,_⟩,h2⟩:=hr;exact ⟨.inl (e (i,b) BF),Atb h2 fun q hq=>e q (by simp [hq])⟩
 | [],_ :: _,h,_=>h.elim
 | _ :: _,[],h,_=>h.elim
theorem Awb {A:BA} {h h':BH} {n:Nat} {o:LO} {b:BV} (hs:(LK.lo o).isW=false) (e:bop A h n o=some (b,h')):h'=h ∨ ∃ c,h'=(n,c) :: h:=by
 unfold bop at e;split at e
 ·rename_i x;cases hx:bx A x with
  | none=>rw [hx] at e;cases e
  | some c=>rw [hx] at e;cases e;exact .inl rfl
 ·rename_i z;cases hx:zOf z with
  | none=>rw [hx] at e;cases e
  | some c=>rw [hx] at e;cases e;exact .inr ⟨_,rfl⟩
 ·split at e
  ·split at e
   ·cases e;exact .inr ⟨_,rfl⟩
   ·cases e
  ·cases e
 ·rename_i z ps;cases hx:bbz A z ps with
  | none=>rw [hx] at e;cases e
  | some c=>rw [hx] at e;cases e;exact .inl rfl
 ·split at e
  ·split at e
   ·cases e;exact .inl rfl
   ·cases e
  ·cases e
 ·rename_i op x y;split at e
  ·split at e
   ·split at e
    ·cases e;exact .inl rfl
    ·cases e
   ·cases e
  ·cases e
 ·split at e
  ·split at e
   ·cases e;exact .inr ⟨_,rfl⟩
   ·cases e
  ·cases e
 ·simp [LK.isW] at hs
 ·split at e
  ·split at e
   ·split at e
    ·cases e;exact .inl rfl
    ·cases e
   ·cases e
  ·cases e
 ·cases e
theorem epo {A:List V} {b n:Nat} {o:LO} {v:V} {wm:Nat} {al:List (Nat × Nat × V)}:∀ {bd:List (Nat × Hp)},(∀ q ∈ bd,(Ag A q.2 b o).pre∧(Ag A q.2 b o).v=v)→Gg A b o v wm 0 al bd
 | [],_=>trivial
 | (P, E) :: r, h => by
   have hz:hx al P 0 E=E:=by simp [hx]
   refine ⟨?_,epo (n:=n) fun q hq=>h q (by simp [hq])⟩;rw [hz];have:=h (P,E) BF;cases (0 &&& wm) >>> P == 0 <;> first | exact trivial | exact this
theorem Ar6 {M:Seat} {con:Con} {fns:List Nat} (hc:BCon M con fns) {nt m N wm:Nat} {F:BH} {K:List V→Hp→Prop}:∀ {ops:List DOp} {p:Nat} {A A':BA} {h h':BH} {H:Hp} {bd:List (Nat × Hp)} {al:List (Nat × Nat × V)},ltA nt A→HR h H→FHb N F h→LTb (N + 16 * p) h →
 (∀ q ∈ bd,∃ hE,HR hE q.2∧FHb N F hE)→Aum con nt m N F ops p A h=some (A',h')→(∀ H',HR h' H'→ltA nt A'→K (fr nt (dA A')) H')→Cr M K m N wm ops p (fr nt (dA A)) H bd al
 | [],p,A,A',h,h',H,bd,al,hA,hr,hF,hL,hbd,e,hK=>by cases e;exact hK H hr hA
 | ⟨_,bf,⟨d,k,some g⟩⟩ :: r,p,A,A',h,h',H,bd,al,hA,hr,hF,hL,hbd,e,hK=>by cases e
 | ⟨_,bf,⟨d,.dyn x xs,none⟩⟩ :: r,p,A,A',h,h',H,bd,al,hA,hr,hF,hL,hbd,e,hK=>by cases e
 | ⟨ix, bf, ⟨d, .call f xs, none⟩⟩ :: r, p, A, A', h, h', H, bd, al, hA, hr, hF, hL, hbd, e, hK => by
   simp only [Aum] at e;split at e;case h_2=>cases e
   rename_i b h1 e1;split at e;case h_2=>cases e
   rename_i A1 e2;obtain ⟨p1,p2⟩:=Arx hA e2;simp only [bkD] at e1;split at e1;case h_2=>cases e1
   rename_i us hu;split at e1;case h_2=>cases e1
   rename_i c z hb;split at e1;case isFalse=>cases e1
   rename_i hz;cases e1;have hL1:=Atq hL z;have hr1:=Ara hr z;have hF1:=Ato hF z hz;simp only [Cr,Dy];rw [Arv hA hu];refine ⟨b.den,AH H z,Arj hc hr hb ⟨rfl,rfl⟩,⟨trivial,Atb hr1 hL1⟩,?_⟩;rw [p2]
   exact Ar6 hc p1 hr1 hF1 (fun q hq=>Nat.lt_of_lt_of_le (hL1 q hq) Aa) (fun q hq=>by
    simp only [LK.isW,cond_true,List.mem_cons] at hq;rcases hq with rfl | hq
    ·exact ⟨_,hr1,hF1⟩
    ·exact hbd q hq) e hK
 | ⟨ix, bf, ⟨d, .lo o, none⟩⟩ :: r, p, A, A', h, h', H, bd, al, hA, hr, hF, hL, hbd, e, hK => by
   simp only [Aum] at e;split at e;case h_2=>cases e
   rename_i b h1 e1;split at e;case h_2=>cases e
   rename_i A1 e2;obtain ⟨p1,p2⟩:=Arx hA e2;simp only [bkD] at e1;split at e1
   ·rename_i hs;split at e1;case isFalse=>cases e1
    rename_i hfin;have hr0:r=[]:=List.isEmpty_iff.1 hfin;subst hr0;have s:=Ar9 hA hr e1;have hw:(LK.lo o).isW=true:=by cases o <;> first | rfl | cases hs
    have hL1:LTb (N + 16 * p) h1:=by
     cases o <;> first | cases hs | skip
     simp only [bop] at e1;split at e1
     ·split at e1
      ·split at e1
       ·cases e1;exact Ax8 hL _ _
       ·cases e1
      ·cases e1
     ·cases e1
    simp only [Cr,Dy];refine ⟨s.1,⟨?_,?_⟩,?_⟩
    ·simp only [Vy,hw,Bool.or_true,cond_true]
    ·simp only [hw,cond_true];exact Atb s.2.2 hL1
    ·rw [s.2.1,p2];cases e;exact hK _ s.2.2 p1
   ·rename_i hs;split at e1;case isTrue=>cases e1
    rename_i hw;have hw:(LK.lo o).isW=false:=by simpa using hw
    split at e1;case isFalse=>cases e1
    rename_i hp;have eb:bs N m p (.lo o)=N + 16 * p:=by simp [bs,hw]
    have s:=Ar9 hA hr e1;have hF1:FHb N F h1:=by
     rcases Awb hw e1 with rfl | ⟨c,rfl⟩
     ·exact hF
     ·intro id hid;simp only [R3];rw [if_neg Aa];exact hF id hid
    have hL1:LTb (N + 16 * (p + 1)) h1:=by
     rcases Awb hw e1 with rfl | ⟨c,rfl⟩
     ·exact fun q hq=>Nat.lt_of_lt_of_le (hL q hq) Aa
     ·intro q hq;simp only [List.mem_cons] at hq;rcases hq with rfl | hq
      ·show N + 16 * p < _;omega
      ·exact Nat.lt_of_lt_of_le (hL q hq) Aa
    simp only [Cr,Dy,eb,hw,cond_false];refine ⟨s.1,⟨?_,trivial⟩,?_⟩
    ·simp only [Vy,hw,Bool.or_false];cases hP:(LK.lo o).isP
     ·simp only [cond_false];rw [hP,Bool.false_or] at hp;unfold bld at hp;split at hp
      ·rename_i sz x _;split at hp
       ·rename_i id hx;simp only [Bool.and_eq_true,decide_eq_true_eq,beq_iff_eq] at hp;obtain ⟨⟨hid,rfl⟩,hp⟩:=hp;split at hp
        ·rename_i c hb;simp only [Bool.and_eq_true,decide_eq_true_eq,beq_iff_eq] at hp;have hop:∀ hE,FHb N F hE→bop A hE (N + 16 * p) (.load true sz x)=some (c,hE):=by
          intro hE hf;simp only [bop,hx];rw [hf id hid,hb];simp only [hp];simp [hp.1]
         have hb0:=hop h hF;rw [hb0] at e1;cases e1;refine epo (n:=0) fun q hq=>?_;obtain ⟨hE,k1,k2⟩:=hbd q hq;have t:=Ar9 hA k1 (hop hE k2);exact ⟨t.1,t.2.1.trans s.2.1.symm⟩
        ·cases hp
       ·cases hp
      ·cases hp
     ·simp only [cond_true]
    ·rw [s.2.1,p2];exact Ar6 hc p1 s.2.2 hF1 hL1 hbd e hK
end Mv
