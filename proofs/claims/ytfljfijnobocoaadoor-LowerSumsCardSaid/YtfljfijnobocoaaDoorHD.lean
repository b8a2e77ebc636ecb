/- A part. -/
import Derived.Test.YtfljfijnobocoaaDoorHC
set_option linter.all false
set_option maxRecDepth 20000
set_option maxHeartbeats 4000000
namespace Mv
open Go
theorem N7 (a b i:Nat) (h:b < 2 ^ i):a <<< i ||| b=a * 2 ^ i + b:=by
 rw [← Nat.shiftLeft_add_eq_or_of_lt h,Nat.shiftLeft_eq]
theorem Adz (n:Int):IntKind.u32.wrap n=n % 4294967296:=rfl
def cdN (op d a b c l:Nat):Nat:=((((op * 16 + d) * 16 + a) * 16 + b) * 16 + c) * 1099511627776 + l
theorem Abj (x:BitVec 64) (d:Nat) (hx:x.toNat < 72057594037927936) (hd:d < 16):(x <<< 4 ||| BitVec.ofInt 64 d).toNat=x.toNat * 16 + d:=by
 rw [BitVec.toNat_or,BitVec.toNat_shiftLeft,BitVec.ofInt_natCast,BitVec.toNat_ofNat,Nat.shiftLeft_eq,Nat.mod_eq_of_lt Aa,Nat.mod_eq_of_lt Aa];have:=N7 x.toNat d 4 Aa;rw [Nat.shiftLeft_eq] at this;exact this
theorem QF (op d a b c:Nat) (n:Int) (ho:op < 64) (hd:d < 16) (ha:a < 16) (hb:b < 16) (hc:c < 16):(Bn op d a b c n).toNat=cdN op d a b c (n % 4294967296).toNat:=by
 have h0:(BitVec.ofInt 64 (op:Int)).toNat=op:=by rw [BitVec.ofInt_natCast,BitVec.toNat_ofNat,Nat.mod_eq_of_lt Aa]
 have h1:=Abj (BitVec.ofInt 64 (op:Int)) d Aa hd;have h2:=Abj (BitVec.ofInt 64 (op:Int) <<< 4 ||| BitVec.ofInt 64 d) a Aa ha;have h3:=Abj ((BitVec.ofInt 64 (op:Int) <<< 4 ||| BitVec.ofInt 64 d) <<< 4 ||| BitVec.ofInt 64 a) b Aa hb;have h4:=Abj (((BitVec.ofInt 64 (op:Int) <<< 4 ||| BitVec.ofInt 64 d) <<< 4 ||| BitVec.ofInt 64 a) <<< 4 ||| BitVec.ofInt 64 b) c Aa hc;unfold Bn cdN;generalize (((BitVec.ofInt 64 (op:Int) <<< 4 ||| BitVec.ofInt 64 d) <<< 4 ||| BitVec.ofInt 64 a) <<< 4 ||| BitVec.ofInt 64 b) <<< 4 ||| BitVec.ofInt 64 c=X at *
 obtain ⟨l,hl⟩:∃ l:Nat,n % 4294967296=l:=⟨(n % 4294967296).toNat,by omega⟩
 have hl2:l < 4294967296:=Aa;rw [Adz,hl,BitVec.ofInt_natCast,BitVec.toNat_or,BitVec.toNat_shiftLeft,BitVec.toNat_ofNat,Nat.shiftLeft_eq,Nat.mod_eq_of_lt Aa,Nat.mod_eq_of_lt Aa,Int.toNat_natCast];have:=N7 X.toNat l 40 Aa;rw [Nat.shiftLeft_eq] at this;rw [show (2:Nat) ^ 40=1099511627776 by decide] at this ⊢;rw [this];omega
theorem Apl (x:Nat):x &&& 15=x % 16:=Nat.and_two_pow_sub_one_eq_mod x 4
theorem Ahj (x:Nat):x &&& 255=x % 256:=Nat.and_two_pow_sub_one_eq_mod x 8
structure Dec (w:BitVec 64) (op d a b c:Nat) (n:Int):Prop where
 op:Xf w=op
 d:pF w 52=d
 a:pF w 48=a
 b:pF w 44=b
 c:pF w 40=c
 n:BitVec.ofInt 64 (pN w)=BitVec.ofInt 64 n
 z:w >>> 32 &&& 255#64=0#64
theorem Ef (op d a b c:Nat) (n:Int) (ho:op < 64) (hd:d < 16) (ha:a < 16) (hb:b < 16) (hc:c < 16) (hn:-2147483648≤n∧n < 2147483648):Dec (Bn op d a b c n) op d a b c n:=by
 have h:=QF op d a b c n ho hd ha hb hc;generalize Bn op d a b c n=w at *
 obtain ⟨l,hl⟩:∃ l:Nat,(n % 4294967296).toNat=l:=⟨_,rfl⟩
 have hl2:l < 4294967296:=Aa;rw [hl] at h;unfold cdN at h;have pf:∀ k,pF w k=w.toNat / 2 ^ k % 16:=fun k=>by
  unfold pF;rw [BitVec.toNat_and,BitVec.toNat_ushiftRight,Nat.shiftRight_eq_div_pow];exact Apl _
 refine ⟨?_,?_,?_,?_,?_,?_,?_⟩
 ·unfold Xf;rw [BitVec.toNat_ushiftRight,Nat.shiftRight_eq_div_pow,show (2:Nat) ^ 56=72057594037927936 by decide];omega
 ·rw [pf,show (2:Nat) ^ 52=4503599627370496 by decide];omega
 ·rw [pf,show (2:Nat) ^ 48=281474976710656 by decide];omega
 ·rw [pf,show (2:Nat) ^ 44=17592186044416 by decide];omega
 ·rw [pf,show (2:Nat) ^ 40=1099511627776 by decide];omega
 ·have e:pN w=n:=by
   unfold pN;rw [BitVec.toInt_eq_toNat_cond,BitVec.toNat_setWidth,show (2:Nat) ^ 32=4294967296 by decide];have:w.toNat % 4294967296=l:=Aa;rw [this];split <;> omega
  rw [e]
 ·apply BitVec.eq_of_toNat_eq;rw [BitVec.toNat_and,BitVec.toNat_ushiftRight,Nat.shiftRight_eq_div_pow,show (2:Nat) ^ 32=4294967296 by decide];show w.toNat / 4294967296 &&& 255=0;rw [Ahj];omega
theorem IZ (op d a b c:Nat) (m:Int) (n:Nat) (ho:op < 64) (hd:d < 16) (ha:a < 16) (hb:b < 16) (hc:c < 16) (hn:n < 2147483648):O4 (Bn op d a b c m) n=Bn op d a b c n:=by
 apply BitVec.eq_of_toNat_eq;have h:=QF op d a b c m ho hd ha hb hc;rw [QF op d a b c n ho hd ha hb hc];obtain ⟨l,hl⟩:∃ l:Nat,(m % 4294967296).toNat=l:=⟨_,rfl⟩
 have hl2:l < 4294967296:=Aa;rw [hl] at h;rw [show ((n:Int) % 4294967296).toNat=n by omega];generalize Bn op d a b c m=w at *
 have hw:=w.isLt;unfold O4;unfold cdN at *
 rw [BitVec.toNat_or,BitVec.toNat_shiftLeft,BitVec.toNat_ushiftRight,BitVec.toNat_ofNat,Nat.shiftRight_eq_div_pow,Nat.shiftLeft_eq,show (2:Nat) ^ 32=4294967296 by decide,Nat.mod_eq_of_lt Aa,Nat.mod_eq_of_lt Aa];have:=N7 (w.toNat / 4294967296) n 32 Aa;rw [Nat.shiftLeft_eq,show (2:Nat) ^ 32=4294967296 by decide] at this;rw [this];omega
def Rn (M:Seat) (m m':Mc) (k:Nat):Prop:=∃ ms:Nat→Mc,ms 0=m∧ms k=m'∧∀ i,i < k→(ms i).hl=false∧BV M (ms i) (ms (i + 1))
theorem Rn.refl (M:Seat) (m:Mc):Rn M m m 0:=⟨fun _=>m,rfl,rfl,fun i h=>by omega⟩
theorem Rn.step {M:Seat} {m m' m'':Mc} {k:Nat} (h0:m.hl=false) (h:BV M m m') (g:Rn M m' m'' k):Rn M m m'' (k + 1):=by
 obtain ⟨ms,e0,e1,hs⟩:=g;refine ⟨fun i=>match i with | 0=>m | j + 1=>ms j,rfl,e1,fun i hi=>?_⟩;cases i with
 | zero=>exact ⟨h0,by show BV M m (ms 0);rw [e0];exact h⟩
 | succ j=>exact hs j Aa
theorem Rn.trans {M:Seat} {m m' m'':Mc} {k l:Nat} (h:Rn M m m' k) (g:Rn M m' m'' l):Rn M m m'' (k + l):=by
 obtain ⟨ms,e0,e1,hs⟩:=h;induction k generalizing ms m with
 | zero=>rw [Nat.zero_add];rw [← e0,e1];exact g
 | succ k ih =>
   have a:=hs 0 Aa;rw [e0] at a;have b:Rn M (ms 1) m'' (k + l):=ih (fun i=>ms (i + 1)) rfl e1 (fun i hi=>hs (i + 1) Aa);rw [Nat.add_right_comm];exact Rn.step a.1 a.2 b
theorem E9 {p:Nat} (h:p < 8192):¬ 8192#64≤BitVec.ofNat 64 p:=by
 rw [BitVec.le_def,BitVec.toNat_ofNat,BitVec.toNat_ofNat];omega
theorem Qy {p:Nat} (h:p < 8192):(BitVec.ofNat 64 p).toNat=p:=by
 rw [BitVec.toNat_ofNat];omega
theorem Y1 (p:Nat):BitVec.ofNat 64 p + 1#64=BitVec.ofNat 64 (p + 1):=by
 rw [BitVec.ofNat_add]
def DY (f g:Nat→BitVec 64) (p:Nat):Mc:=⟨f,g,BitVec.ofNat 64 p,false,0#64⟩
variable {M:Seat} {f g:Nat→BitVec 64} {p:Nat}
theorem RI (ok:OkV M) (hp:p < 8192) {d a b c:Nat} {n:Int} (h:Dec (f p) 26 d a b c n):BV M (DY f g p) (DY f (Df g d (BitVec.ofInt 64 n)) (p + 1)):=by
 have r:=FJ ok f g (BitVec.ofNat 64 p) 0#64 (E9 hp) (f p) Oa h.op h.z;rw [h.d,h.n,Y1] at r;exact r
theorem Ms (ok:OkV M) (hp:p < 8192) {d a b c:Nat} {n:Int} (h:Dec (f p) 27 d a b c n) (q:Nat) (hq:q < 8192) (e:g a + BitVec.ofInt 64 n=BitVec.ofNat 64 q):BV M (DY f g p) (DY f (Df g d (f q)) (p + 1)):=by
 have r:=KX ok f g (BitVec.ofNat 64 p) 0#64 (E9 hp) (f p) Oa h.op h.z (BitVec.ofNat 64 q) (by rw [h.a,h.n,e]) (E9 hq);rw [h.d,Qy hq,Y1] at r;exact r
theorem Lt (ok:OkV M) (hp:p < 8192) {d a b c:Nat} {n:Int} (h:Dec (f p) 28 d a b c n) (q:Nat) (hq:q < 8192) (e:g a + BitVec.ofInt 64 n=BitVec.ofNat 64 q):BV M (DY f g p) (DY (Df f q (g b)) g (p + 1)):=by
 have r:=FF ok f g (BitVec.ofNat 64 p) 0#64 (E9 hp) (f p) Oa h.op h.z (BitVec.ofNat 64 q) (by rw [h.a,h.n,e]) (E9 hq);rw [h.b,Qy hq,Y1] at r;exact r
theorem Ab7 (ok:OkV M) (hp:p < 8192) {d a b c:Nat} {n:Int} (h:Dec (f p) 0 d a b c n):BV M (DY f g p) ⟨f,g,BitVec.ofNat 64 p,true,g a⟩:=by
 have r:=GE ok f g (BitVec.ofNat 64 p) 0#64 (E9 hp) (f p) Oa h.op h.z;rw [h.a] at r;exact r
theorem YR (ok:OkV M) (hp:p < 8192) {d a b c:Nat} {q:Nat} (h:Dec (f p) 29 d a b c q) (hq:q < 8192):BV M (DY f g p) (DY f g q):=by
 have r:=Es ok 29 (.inl rfl) f g (BitVec.ofNat 64 p) 0#64 (E9 hp) (f p) Oa h.op h.z
 rw [h.n,BitVec.ofInt_natCast,show jmp 29 f g (BitVec.ofNat 64 p) 0#64 (pF (f p) 52) (pF (f p) 48) (BitVec.ofNat 64 q)=AL f g (BitVec.ofNat 64 q) false 0#64 by
  unfold jmp;rw [if_neg Aa,if_neg (by rw [if_neg Aa];exact E9 hq),if_neg Aa,if_neg Aa]] at r
 exact r
theorem Af8 (ok:OkV M) (hp:p < 8192) {d a b c:Nat} {q:Nat} (h:Dec (f p) 32 d a b c q) (hq:q < 8192):BV M (DY f g p) (DY f (Df g d (BitVec.ofNat 64 (p + 1))) q):=by
 have r:=Es ok 32 Aa f g (BitVec.ofNat 64 p) 0#64 (E9 hp) (f p) Oa h.op h.z
 rw [h.n,h.d,BitVec.ofInt_natCast,show jmp 32 f g (BitVec.ofNat 64 p) 0#64 d (pF (f p) 48) (BitVec.ofNat 64 q)=AL f (Df g d (BitVec.ofNat 64 (p + 1))) (BitVec.ofNat 64 q) false 0#64 by
  unfold jmp;rw [if_neg Aa,if_neg (by rw [if_neg Aa];exact E9 hq),if_pos rfl,if_neg Aa,Y1]] at r
 exact r
theorem Ang (ok:OkV M) (hp:p < 8192) {d a b c:Nat} {n:Int} (h:Dec (f p) 33 d a b c n) {q:Nat} (hq:q < 8192) (e:g a=BitVec.ofNat 64 q):BV M (DY f g p) (DY f g q):=by
 have r:=Es ok 33 Aa f g (BitVec.ofNat 64 p) 0#64 (E9 hp) (f p) Oa h.op h.z
 rw [h.a,show ∀ x y,jmp 33 f g (BitVec.ofNat 64 p) 0#64 x a y=AL f g (BitVec.ofNat 64 q) false 0#64 from fun x y=>by
  unfold jmp;rw [if_neg Aa,if_neg (by rw [if_pos rfl,e];exact E9 hq),if_neg Aa,if_pos rfl,e]] at r
 exact r
theorem M2 (ok:OkV M) (okP:OkP M) (hp:p < 8192) {op d a b c:Nat} {n:Int} (h:Dec (f p) op d a b c n) (h1:1≤op) (h25:op≤25):BV M (DY f g p) (DY f (Df g d (Dn op (g a) (g b) (g c))) (p + 1)):=by
 have hpc:=E9 hp;have hop:=h.op;have h2:=h.z;have ed:=h.d;have ea:=h.a;have eb:=h.b;have ec:=h.c;have hv:=Q8 okP op h1 h25 (g a) (g b) (g c);have hw:f (BitVec.ofNat 64 p).toNat=f p:=Oa;show As M 70 [.ptr 0 [],.ptr 1 []] [(0,AL f g (BitVec.ofNat 64 p) false 0#64)] 2 _;rw [show (DY f (Df g d (Dn op (g a) (g b) (g c))) (p + 1)).v=AL f (Df g d (Dn op (g a) (g b) (g c))) (BitVec.ofNat 64 p + 1#64) false 0#64 by rw [Y1];rfl];generalize BitVec.ofNat 64 p=pc at *
 generalize f p=w at *
 refine Ac ok.k70 rfl fun x hx=>?_;have hp:pc.toNat < 8192:=Um;have a1:=Cf w 52;have a2:=Cf w 48;have a3:=Cf w 44;have a4:=Cf w 40;rw [ed] at a1;rw [ea] at a2;rw [eb] at a3;rw [ec] at a4;have d1:((op:Int)=0)=False:=eq_false Aa;have d2:((op:Int) < 26)=True:=eq_true Aa;refine eX ?_;simp only [Lcb,hpc,hw,seval];repeat refine sd ?_
 have zz:=@c8;refine opY (CY ok w Aa h2) ?_;simp only [Lba,hop,ed,ea,eb,ec,d1,d2,seval];repeat refine sd ?_
 refine Ai0 (hv) ?_;simp only [EM,seval];repeat refine sd ?_
 have zz:=BK @b5 Lc1;exact DD hx [0,1] ⟨rfl,rfl,rfl⟩
end Mv
namespace Mv
open Go
structure WFc (S:Cd):Prop where
 bl:S.bad.length≤S.words.length
 sl:S.steps.length≤S.words.length
 kll:S.backs.length≤S.words.length
 cl:S.calls.length≤S.words.length
 ck:∀ p ∈ S.calls,p.1 < S.words.length
 bk:∀ p ∈ S.bad,p < S.words.length
 sk:∀ p ∈ S.steps,p < S.words.length
 kk:∀ p ∈ S.backs,p < S.words.length
 cs:S.calls.Pairwise fun p q=>p.1 < q.1
structure Sta (S T:Cd) (k m w:Nat):Prop where
 P:T.P=S.P
 base:T.base=S.base
 fn:T.fn=S.fn
 frames:T.frames=S.frames
 entries:T.entries=S.entries
 temps:T.temps=S.temps + k
 most:T.most≤max S.most m
 words:T.words.length≤S.words.length + w
 grow:S.words.length≤T.words.length
 wf:WFc S→WFc T
theorem Sta.refl (S:Cd) (m:Nat):Sta S S 0 m 0:=⟨rfl,rfl,rfl,rfl,rfl,rfl,Nat.le_max_left _ _,Nat.le_refl _,Nat.le_refl _,fun h=>h⟩
theorem Sta.trans {S T U:Cd} {k k' m m' w w':Nat} (h:Sta S T k m w) (g:Sta T U k' m' w') (M:Nat) (hm:m≤M) (hm':m'≤M):Sta S U (k + k') M (w + w') where
 P:=g.P.trans h.P
 base:=g.base.trans h.base
 fn:=g.fn.trans h.fn
 frames:=g.frames.trans h.frames
 entries:=g.entries.trans h.entries
 temps:=by rw [g.temps,h.temps];omega
 most:=by have:=g.most;have:=h.most;omega
 words:=by have:=g.words;have:=h.words;omega
 grow:=Nat.le_trans h.grow g.grow
 wf:=fun q=>g.wf (h.wf q)
theorem Sta.mono {S T:Cd} {k m w:Nat} (h:Sta S T k m w) {M W:Nat} (hm:m≤M) (hw:w≤W):Sta S T k M W :=
 { h with most:=by have:=h.most;omega,words:=by have:=h.words;omega }
theorem WFc.em {S:Cd} (h:WFc S) (w:BitVec 64):WFc (IW S w):=by
 have hl:(IW S w).words.length=S.words.length + 1:=by simp [IW]
 have h1:=h.bl;have h2:=h.sl;have h3:=h.kll;have h4:=h.cl;refine ⟨?_,?_,?_,?_,fun p hp=>?_,fun p hp=>?_,fun p hp=>?_,fun p hp=>?_,h.cs⟩ <;> rw [hl]
 ·show S.bad.length≤_;omega
 ·show S.steps.length≤_;omega
 ·show S.backs.length≤_;omega
 ·show S.calls.length≤_;omega
 ·have:=h.ck p hp;omega
 ·have:=h.bk p hp;omega
 ·have:=h.sk p hp;omega
 ·have:=h.kk p hp;omega
theorem Sta.em (S:Cd) (op:Int) (d a b c:Nat) (n:Int):Sta S (A5 S op d a b c n) 0 0 1 :=
 ⟨rfl,rfl,rfl,rfl,rfl,rfl,Nat.le_max_left _ _,by rw [Aj];exact Nat.le_refl _,by rw [Aj];omega,fun h=>h.em _⟩
theorem Sta.cn (S:Cd) (reg:Nat) (v:BitVec 64):Sta S (H4 S reg v) 0 0 7:=by
 unfold H4;split
 ·exact (Sta.em S _ _ _ _ _ _).mono Aa Aa
 ·have t:=fun (S:Cd) op d a b c n=>Sta.em S op d a b c n;exact (((((((t S _ _ _ _ _ _).trans (t _ _ _ _ _ _ _) 0 Aa Aa).trans (t _ _ _ _ _ _ _) 0 Aa Aa).trans (t _ _ _ _ _ _ _) 0 Aa Aa).trans (t _ _ _ _ _ _ _) 0 Aa Aa).trans (t _ _ _ _ _ _ _) 0 Aa Aa).trans (t _ _ _ _ _ _ _) 0 Aa Aa).mono Aa Aa
theorem Sta.bd2 (S:Cd):Sta S (bd2 S) 0 0 1:=by
 have e:=Sta.em S 30 0 10 0 0 0;have hl:(Mv.bd2 S).words.length=S.words.length + 1:=Aj S 30 0 10 0 0 0;refine ⟨rfl,rfl,rfl,rfl,rfl,rfl,e.most,e.words,e.grow,fun h=>?_⟩;have g:=e.wf h;have hb:=h.bl;refine ⟨?_,g.sl,g.kll,g.cl,g.ck,fun p hp=>?_,g.sk,g.kk,g.cs⟩
 ·rw [hl];show (S.bad ++ [S.words.length]).length≤_;rw [Ew];omega
 ·rw [hl];rcases List.mem_append.1 (show p ∈ S.bad ++ [S.words.length] from hp) with hp | hp
  ·have:=h.bk p hp;omega
  ·simp at hp;omega
theorem Sta.bd (S:Cd) (reg:Nat) (n:Int):Sta S (F4 S reg n) 0 0 3 :=
 ((Sta.em S _ _ _ _ _ _).trans (Sta.em _ _ _ _ _ _ _) 0 Aa Aa).trans (Sta.bd2 _) 0 Aa Aa
theorem Sta.tm (S:Cd):Sta S (OK S) 1 (S.temps + 1) 0:=⟨rfl,rfl,rfl,rfl,rfl,rfl,Nat.le_refl _,Nat.le_refl _,Nat.le_refl _,fun h=>⟨h.bl,h.sl,h.kll,h.cl,h.ck,h.bk,h.sk,h.kk,h.cs⟩⟩
theorem Sta.sv (S:Cd) (r:Nat):Sta S (CI S r) 1 (S.temps + 1) 1:=(Sta.em S _ _ _ _ _ _).trans (Sta.tm _) (S.temps + 1) Aa (Nat.le_refl _)
theorem Sta.tp {S T:Cd} {k m w:Nat} (h:Sta S T k m w):Sta S (Bp T S.temps) 0 m w :=
 ⟨h.P,h.base,h.fn,h.frames,h.entries,rfl,h.most,h.words,h.grow,fun q=>let g:=h.wf q;⟨g.bl,g.sl,g.kll,g.cl,g.ck,g.bk,g.sk,g.kk,g.cs⟩⟩
def Be (c:Nat→Nat) (n:Nat):Nat:=((List.range n).map c).sum
theorem C8 (c:Nat→Nat) (n:Nat):Be c (n + 1)=Be c n + c n:=CO c n
theorem DF (c:Nat→Nat) {j n:Nat} (h:j < n):Be c j + c j≤Be c n:=by
 have h1:=FZ c (j + 1) (n - (j + 1));rw [show j + 1 + (n - (j + 1))=n by omega] at h1;have h2:=C8 c j;unfold Be at *
 omega
def SA (f:Ex→Nat→Cd→Cd) (xs:List Ex) (c:Nat→Nat):Prop:=∀ j,j < xs.length→1≤c j∧∀ r S,Sta S (f (xs.getD j Ch) r S) 0 (S.temps + c j) (24 * c j - 3)
theorem DE {f:Ex→Nat→Cd→Cd} {xs:List Ex} {c:Nat→Nat} (hf:SA f xs c):∀ j,j≤xs.length→j≤Be c j
 | 0,_=>Nat.zero_le _
 | j + 1, h => by
   have:=DE hf j Aa;have h1:=(hf j Aa).1;rw [C8];omega
def wA (xs:List Ex) (c:Nat→Nat):Nat→Nat
 | 0=>0
 | j + 1=>wA xs c j + if Jl (xs.getD j Ch) then 0 else 24 * c j - 2
def wC (xs:List Ex) (c:Nat→Nat):Nat→Nat
 | 0=>0
 | j + 1=>wC xs c j + if Jl (xs.getD j Ch) then 24 * c j - 3 else 0
theorem wAC {f:Ex→Nat→Cd→Cd} {xs:List Ex} {c:Nat→Nat} (hf:SA f xs c):∀ j,j≤xs.length→wA xs c j + wC xs c j + 2 * j≤24 * Be c j
 | 0,_=>Nat.zero_le _
 | j + 1, h => by
   have:=wAC hf j Aa;have h1:=(hf j Aa).1;rw [C8];simp only [wA,wC];split <;> omega
theorem Pu {f:Ex→Nat→Cd→Cd} {xs:List Ex} {c:Nat→Nat} (hf:SA f xs c) (j:Nat):∀ d,j + d≤xs.length→Be c j + d≤Be c (j + d)
 | 0,_=>Nat.le_refl _
 | d + 1, h => by
   have h1:=Pu hf j d Aa;have h2:=(hf (j + d) Aa).1;have h3:=C8 c (j + d);rw [show j + (d + 1)=j + d + 1 by omega,h3];omega
theorem Yg {f:Ex→Nat→Cd→Cd} {xs:List Ex} {c:Nat→Nat} (hf:SA f xs c) {j:Nat} (h:j < xs.length):c j + xs.length≤Be c xs.length + 1:=by
 have h1:=Pu hf (j + 1) (xs.length - (j + 1)) Aa;have h2:=DE hf j Aa;have h3:=C8 c j;rw [show j + 1 + (xs.length - (j + 1))=xs.length by omega] at h1;omega
theorem SB (xs:List Ex) (c:Nat→Nat) (a:Nat):∀ d,wC xs c a≤wC xs c (a + d)
 | 0=>Nat.le_refl _
 | d + 1=>Nat.le_trans (SB xs c a d) (by show _≤wC xs c (a + d + 1);simp only [wC];omega)
theorem Nc {f:Ex→Nat→Cd→Cd} {xs:List Ex} {c:Nat→Nat} (hf:SA f xs c) (last:Int) (S:Cd):∀ j,j≤xs.length →
 Sta S (Fz f xs last S j).2 (Fz f xs last S j).1.length (S.temps + Be c j) (wA xs c j)∧(Fz f xs last S j).1.length≤j∧∀ i ∈ (Fz f xs last S j).1,i < j
 | 0,_=>⟨(Sta.refl S _).mono (Nat.le_refl _) (Nat.le_refl _),Nat.le_refl _,fun i h=>by simp [Fz] at h⟩
 | j + 1, h => by
   obtain ⟨h1,h2,h3⟩:=Nc hf last S j Aa;obtain ⟨hc,hs⟩:=hf j Aa;have hj:=DE hf j Aa;have e:=C8 c j;simp only [Fz];split
   ·rename_i hl;exact ⟨h1.mono TK (by simp only [wA];omega),by omega,fun i hi=>by have:=h3 i hi;omega⟩
   ·rename_i hl;have g:=hs (1 + j) (Fz f xs last S j).2;have t:=h1.temps;have g1:=h1.trans g (S.temps + Be c (j + 1)) TK (by rw [t,e];omega);split
    ·refine ⟨g1.mono (Nat.le_refl _) (by simp only [wA];rw [if_neg hl];omega),by show (Fz f xs last S j).1.length≤_;omega,fun i hi=>by have:=h3 i hi;omega⟩
    ·have g2:=g1.trans (Sta.sv _ (1 + j)) (S.temps + Be c (j + 1)) (Nat.le_refl _) (by rw [g1.temps,e];omega);refine ⟨?_,by rw [Ew];omega,fun i hi=>?_⟩
     ·rw [Ew];exact g2.mono (Nat.le_refl _) (by simp only [wA];rw [if_neg hl];omega)
     ·rcases List.mem_append.1 hi with hi | hi
      ·have:=h3 i hi;omega
      ·simp at hi;omega
theorem Nt (first:Nat) (S:Cd) (sv:List Nat):∀ k,Sta S (QN first S sv k) 0 0 k
 | 0=>Sta.refl S _
 | k + 1=>(Nt first S sv k).trans (Sta.em _ _ _ _ _ _ _) 0 Aa Aa
theorem Sa {f:Ex→Nat→Cd→Cd} {xs:List Ex} {c:Nat→Nat} (hf:SA f xs c) (S:Cd):∀ j,j≤xs.length→Sta S (Lj f xs S j) 0 (S.temps + Be c j) (wC xs c j)
 | 0,_=>Sta.refl S _
 | j + 1, h => by
   have h1:=Sa hf S j Aa;have e:=C8 c j;obtain ⟨hc,hs⟩:=hf j Aa;simp only [Lj];split
   ·rename_i hl;exact (h1.trans (hs (1 + j) _) (S.temps + Be c (j + 1)) TK (by rw [h1.temps,e];omega)).mono (Nat.le_refl _) (by simp only [wC];rw [if_pos hl];omega)
   ·rename_i hl;exact h1.mono TK (by simp only [wC];omega)
theorem Js {f:Ex→Nat→Cd→Cd} {xs:List Ex} {c:Nat→Nat} (hf:SA f xs c) (hl:∀ j,j < xs.length→Jl (xs.getD j Ch)=true→∀ r S,Sta S (f (xs.getD j Ch) r S) 0 0 (24 * c j - 3)) (S:Cd) :
 Sta S (NO f xs S) 0 (S.temps + Be c xs.length) (24 * Be c xs.length):=by
 obtain ⟨h1,h2,h3⟩:=Nc hf (BB xs xs.length) S xs.length (Nat.le_refl _);have hw:=wAC hf xs.length (Nat.le_refl _);have hC:∀ (T:Cd) j,j≤xs.length→Sta T (Lj f xs T j) 0 0 (wC xs c j):=fun T j=>by
  induction j with
  | zero=>intro _;exact Sta.refl T _
  | succ j ih =>
    intro h;simp only [Lj];split
    ·rename_i hq;exact ((ih Aa).trans (hl j Aa hq (1 + j) _) 0 Aa Aa).mono (Nat.le_refl _) (by simp only [wC];rw [if_pos hq];omega)
    ·exact (ih Aa).mono (Nat.le_refl _) (by simp only [wC];omega)
 have g:=(h1.trans (Nt S.temps _ (Fz f xs (BB xs xs.length) S xs.length).1 (Fz f xs (BB xs xs.length) S xs.length).1.length) (S.temps + Be c xs.length) (Nat.le_refl _) Aa).trans (hC _ xs.length (Nat.le_refl _)) (S.temps + Be c xs.length) (Nat.le_refl _) Aa;exact g.tp.mono (Nat.le_refl _) Aa
theorem Jp {f:Ex→Nat→Cd→Cd} {xs:List Ex} {c:Nat→Nat} (hf:SA f xs c) (S:Cd):∀ j,j≤xs.length→Sta S (GM f xs S j) j (S.temps + Be c j) (24 * Be c j - 2 * j)∧3 * j≤24 * Be c j
 | 0,_=>⟨Sta.refl S _,Nat.zero_le _⟩
 | j + 1, h => by
   obtain ⟨h1,h2⟩:=Jp hf S j Aa;have e:=C8 c j;have hj:=DE hf j Aa;obtain ⟨hc,hs⟩:=hf j Aa;have g1:=h1.trans (hs 0 (GM f xs S j)) (S.temps + Be c (j + 1)) TK (by rw [h1.temps,e];omega);have g2:=g1.trans (Sta.sv _ 0) (S.temps + Be c (j + 1)) (Nat.le_refl _) (by rw [g1.temps,e];omega);refine ⟨?_,by rw [e];omega⟩;simp only [GM];exact g2.mono (Nat.le_refl _) TK
theorem Jg (first:Nat) (S:Cd):∀ j,Sta S (caB first S j) 0 0 (2 * j)
 | 0=>Sta.refl S _
 | j + 1=>(((Jg first S j).trans (Sta.em _ _ _ _ _ _ _) 0 Aa Aa).trans (Sta.em _ _ _ _ _ _ _) 0 Aa Aa).mono Aa Aa
theorem RK (S:Cd) (n:Nat):Sta S (caC S n) 0 0 1:=by
 have e:=Sta.em S 32 15 0 0 0 0;have hl:(caC S n).words.length=S.words.length + 1:=Aj S 32 15 0 0 0 0;refine ⟨rfl,rfl,rfl,rfl,rfl,rfl,e.most,e.words,e.grow,fun h=>?_⟩;have g:=e.wf h;have hb:=h.cl;refine ⟨g.bl,g.sl,g.kll,?_,fun p hp=>?_,g.bk,g.sk,g.kk,?_⟩
 ·rw [hl];show (S.calls ++ [(S.words.length,n)]).length≤_;simp;omega
 ·rw [hl];rcases List.mem_append.1 (show p ∈ S.calls ++ [(S.words.length,n)] from hp) with hp | hp
  ·have:=h.ck p hp;omega
  ·simp at hp;subst hp;exact Nat.lt_succ_self _
 ·show (S.calls ++ [(S.words.length,n)]).Pairwise _;rw [List.pairwise_append];refine ⟨h.cs,List.pairwise_singleton _ _,fun a ha b hb=>?_⟩;simp at hb;subst hb;exact h.ck a ha
theorem Na (S:Cd) (r:Nat):Sta S (caD S r) 0 0 1:=by
 unfold caD;split
 ·exact (Sta.refl S 0).mono Aa Aa
 ·exact Sta.em _ _ _ _ _ _ _
theorem RG (S:Cd) (first m n reg:Nat):Sta S (caF S first m n reg) 0 0 (7 + 2 * m):=by
 have h1:=((Sta.em S 26 11 0 0 0 0).trans (Sta.em _ 1 10 14 11 0 0) 0 Aa Aa).trans (Jg first _ m) 0 Aa Aa;have h2:=(h1.trans (Sta.em _ 1 14 10 12 0 0) 0 Aa Aa).trans (RK _ n) 0 Aa Aa;have h3:=(((h2.trans (Sta.em _ 26 10 0 0 0 0) 0 Aa Aa).trans (Sta.em _ 2 14 14 10 0 0) 0 Aa Aa).trans (Na _ reg) 0 Aa Aa)
 have g2:=h2.grow;have e1:(A5 (A5 S 26 11 0 0 0 0) 1 10 14 11 0 0).words.length=S.words.length + 2:=by rw [Aj,Aj]
 have g5:=(((Jg first (A5 (A5 S 26 11 0 0 0 0) 1 10 14 11 0 0) m).trans (Sta.em _ 1 14 10 12 0 0) 0 Aa Aa).trans (RK _ n) 0 Aa Aa).grow;have hst:(caC (A5 (caB first (A5 (A5 S 26 11 0 0 0 0) 1 10 14 11 0 0) m) 1 14 10 12 0 0) n).steps=S.steps:=by
  have hB:∀ (T:Cd) j,(caB first T j).steps=T.steps:=fun T j=>by
   induction j with
   | zero=>rfl
   | succ j ih=>exact ih
  exact hB _ m
 unfold caF caG;generalize caC (A5 (caB first (A5 (A5 S 26 11 0 0 0 0) 1 10 14 11 0 0) m) 1 14 10 12 0 0) n=S4 at *
 have g3:=((Sta.em S4 26 10 0 0 0 0).trans (Sta.em _ 2 14 14 10 0 0) 0 Aa Aa).trans (Na _ reg) 0 Aa Aa;have e4:S4.words.length + 2≤(caD (A5 (A5 S4 26 10 0 0 0 0) 2 14 14 10 0 0) reg).words.length:=by
  have:=(Na (A5 (A5 S4 26 10 0 0 0 0) 2 14 14 10 0 0) reg).grow;rw [Aj,Aj] at this;exact this
 have hs5:(caD (A5 (A5 S4 26 10 0 0 0 0) 2 14 14 10 0 0) reg).steps=S4.steps:=by unfold caD;split <;> rfl
 generalize caD (A5 (A5 S4 26 10 0 0 0 0) 2 14 14 10 0 0) reg=S5 at *
 refine ⟨h3.P,h3.base,h3.fn,h3.frames,h3.entries,h3.temps,h3.most,by have:=h3.words;show S5.words.length≤_;omega,h3.grow,fun h=>?_⟩;have g:=h3.wf h;have hsl:=h.sl;refine ⟨g.bl,?_,g.kll,g.cl,g.ck,g.bk,fun p hp=>?_,g.kk,g.cs⟩
 ·show (S5.steps ++ [S.words.length,S4.words.length]).length≤S5.words.length;rw [WC,hs5,hst];omega
 ·show p < S5.words.length;rcases List.mem_append.1 (show p ∈ S5.steps ++ [S.words.length,S4.words.length] from hp) with hp | hp
  ·exact g.sk p hp
  ·simp only [Laq] at hp;rcases hp with rfl | rfl
   ·have:=h3.grow;omega
   ·omega
theorem Adm {f:Ex→Nat→Cd→Cd} {xs:List Ex} {c:Nat→Nat} (hf:SA f xs c) (n reg:Nat) (S:Cd):Sta S (caS f xs n reg S) 0 (S.temps + Be c xs.length) (24 * Be c xs.length + 7):=by
 obtain ⟨h1,h2⟩:=Jp hf S xs.length (Nat.le_refl _);exact (h1.tp.trans (RG _ S.temps xs.length n reg) (S.temps + Be c xs.length) (Nat.le_refl _) Aa).mono (Nat.le_refl _) Aa
theorem Hq (P:List Fu) (i:Nat):∀ (k:Nat) (y:Ex) (c:Nat),RE P i k y c→Jl y=true→∀ r S,Sta S (AO k y r S) 0 0 (24 * c - 3)
 | 0,_,_,h,_,_,_=>by cases h
 | k + 1, .mk op n bs, _, .mk _ _ _ _ c hn hl ha, hq, r, S => by
   simp only [Jl,Ex.op,Bool.or_eq_true] at hq;simp only [AO];replace hq:op=26 ∨ op=27:=hq.imp of_decide_eq_true of_decide_eq_true;rcases hq with rfl | rfl
   ·exact (Sta.cn S r n).mono Aa Aa
   ·exact (Sta.em S _ _ _ _ _ _).mono Aa Aa
theorem Ce (P:List Fu) (i:Nat):∀ (k:Nat) (x:Ex) (c:Nat),RE P i k x c→1≤c∧∀ r S,Sta S (AO k x r S) 0 (S.temps + c) (24 * c - 3)
 | 0,_,_,h=>by cases h
 | k + 1, .mk op n as, _, .mk _ _ _ _ c hn hl ha => by
   refine ⟨by omega,fun r S=>?_⟩;have es:((List.range as.length).map c).sum=Be c as.length:=rfl;rw [es];have hf:SA (AO k) as c:=fun j hj=>by
    rw [List.getD_eq_getElem?_getD,List.getElem?_eq_getElem hj];exact Ce P i k as[j] (c j) (ha j hj)
   have hlv:∀ j,j < as.length→Jl (as.getD j Ch)=true→∀ r S,Sta S (AO k (as.getD j Ch) r S) 0 0 (24 * c j - 3):=fun j hj hq r S=>by
    have hh:=ha j hj;rw [List.getD_eq_getElem?_getD,List.getElem?_eq_getElem hj] at hq ⊢;exact Hq P i k as[j] (c j) hh hq r S
   have hO:=fun S=>Js hf hlv S;have hg:=DE hf as.length (Nat.le_refl _);simp only [AO];split
   ·exact ((hO S).trans (Sta.em _ _ _ _ _ _ _) (S.temps + Be c as.length) (Nat.le_refl _) Aa).mono Aa Aa
   split
   ·exact (Sta.cn S r n).mono Aa Aa
   split
   ·exact (Sta.em S _ _ _ _ _ _).mono Aa Aa
   split
   ·split
    ·exact (Sta.em S _ _ _ _ _ _).mono Aa Aa
    ·exact (((hO S).trans (Sta.bd _ _ _) (S.temps + Be c as.length) (Nat.le_refl _) Aa).trans (Sta.em _ _ _ _ _ _ _) (S.temps + Be c as.length) (Nat.le_refl _) Aa).mono Aa Aa
   split
   ·exact (Adm hf n.toNat r S).mono Aa Aa
   ·have h1:=((hO S).trans (Sta.bd _ 1 (if op=31 then 2045 else 2041)) (S.temps + Be c as.length) (Nat.le_refl _) Aa).trans (Sta.bd _ 2 (if op=31 then 2041 else 2045)) (S.temps + Be c as.length) (Nat.le_refl _) Aa;have t:=fun (T:Cd) op d a b c n=>Sta.em T op d a b c n;exact (((((h1.trans (t _ _ _ _ _ _ _) (S.temps + Be c as.length) (Nat.le_refl _) Aa).trans (t _ _ _ _ _ _ _) (S.temps + Be c as.length) (Nat.le_refl _) Aa).trans (t _ _ _ _ _ _ _) (S.temps + Be c as.length) (Nat.le_refl _) Aa).trans (t _ _ _ _ _ _ _) (S.temps + Be c as.length) (Nat.le_refl _) Aa).trans (t _ _ _ _ _ _ _) (S.temps + Be c as.length) (Nat.le_refl _) Aa).mono Aa Aa
end Mv
