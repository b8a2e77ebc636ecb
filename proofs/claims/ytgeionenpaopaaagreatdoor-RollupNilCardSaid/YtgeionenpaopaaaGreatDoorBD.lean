/- A part. -/
import Derived.Test.YtgeionenpaopaaaGreatDoorBC
set_option linter.all false
set_option maxRecDepth 20000
set_option maxHeartbeats 4000000
namespace Mv
open Go
variable {M:Seat}
def bLC (con:Con) (fns:List Nat) (nt:Nat):Nat→List LC→Nat→BA→BH→Option (BA × BH)
 | 0,_,_,_,_=>none
 | n + 1,.seq c d :: k,N,A,h=>bLC con fns nt n (c :: d :: k) N A h
 | n + 1, .reg ops :: k, N, A, h => match bRo con fns nt ops N A h with
   | some (A',h')=>bLC con fns nt n k (N + 16 * ops.length) A' h'
   | none=>none
 | n + 1, .regd L :: k, N, A, h => if h.all (fun q => decide (q.1 < N)) then match Aum con nt L.length N h L 0 A h with
   | some (A',h')=>bLC con fns nt n k (N + 32 * L.length) A' h'
   | none=>none
   else none
 | _ + 1,.ret :: _,_,A,h=>some (A,h)
 | _ + 1,_,_,_,_=>none
theorem Ayb {con:Con} {fns:List Nat} (hc:BCon M con fns) {nt:Nat} {x:Ctx} {Q:List V→Hp→Nat→Prop}:∀ {n:Nat} {cs:List LC} {N:Nat} {A A':BA} {h h':BH} {H:Hp},ltA nt A→HR h H→bLC con fns nt n cs N A h=some (A',h') →
 (∀ H' N',HR h' H'→ltA nt A'→Q (fr nt (dA A')) H' N')→ex M x Q n (cs.map .code) N (fr nt (dA A)) H:=by
 intro n;induction n with
 | zero=>intro cs N A A' h h' H hA hr e hQ;simp [bLC] at e
 | succ n ih =>
   intro cs N A A' h h' H hA hr e hQ;cases cs with
   | nil=>cases e
   | cons c k =>
     cases c with
     | seq c d=>exact ih (cs:=c :: d :: k) hA hr e hQ
     | reg ops =>
       simp only [bLC] at e;split at e;case h_2=>cases e
       rename_i A1 h1 e1;exact Ar8 hc hA hr e1 fun H' hr' hA'=>ih hA' hr' e hQ
     | regd L =>
       simp only [bLC] at e;split at e;case isFalse=>cases e
       rename_i hl;split at e;case h_2=>cases e
       rename_i A1 h1 e1;rw [List.all_eq_true] at hl
       exact Ar6 hc hA hr (fun _ _=>rfl) (fun q hq=>by simpa using hl q hq) (fun q hq=>by
        simp only [List.mem_singleton] at hq;subst hq
        exact ⟨_,hr,fun _ _=>rfl⟩) e1 fun H' hr' hA'=>ih hA' hr' e hQ
     | ret =>
       cases e;exact hQ H _ hr hA
     | skip=>cases e
     | cond=>cases e
     | block=>cases e
     | loop=>cases e
     | exit=>cases e
def Avs (A:BA) (h:BH):List RVr→Option (BV × List Nat)
 | [.cell a true sz] => match blk A a with
   | .p id => match R3 h id with
     | some (.c (.uf p q id' n)) => match R3 h id' with
       | some (.a 10 l)=>if l.length=n∧0 < n∧sz=3 then (sts l).map fun t=>(.u ⟨p,q,t⟩,[id']) else none
       | _=>none
     | some (.c b)=>if b.clo=true∧bsz b=sz∧sz ≠ 0 then some (b,[]) else none
     | _=>none
   | _=>none
 | [.tmp t] => match blk A t with
   | .q id n 3 => match R3 h id with
     | some (.a 3 l)=>if l.length=n∧0 < n then (fus l).map fun t=>(.ul t,[id]) else none
     | _=>none
   | _=>none
 | _=>none
theorem Aun:∀ {l:List BV} {e:List Fu},fus l=some e→l.length=e.length∧∀ i (h:i < l.length) (h':i < e.length),l[i] = .u e[i]
 | [],e,h=>by cases h;exact ⟨rfl,fun i h=>absurd h (Nat.not_lt_zero _)⟩
 | b :: r, e, h => by
   unfold fus at h;split at h
   ·rename_i h0;cases h0
   ·rename_i a r' h0;cases h0;cases hr:fus r with
    | none=>rw [hr] at h;cases h
    | some y =>
      rw [hr] at h;cases h;have:=Aun hr;refine ⟨by simp [this.1],fun i h1 h2=>?_⟩;cases i with
      | zero=>rfl
      | succ i=>exact this.2 i Uz (by simpa using h2)
   ·cases h
theorem Awe {nt:Nat} {A:BA} (hA:ltA nt A) {h:BH} {H:Hp} (hr:HR h H) {a id sz:Nat} {b:BV} (e1:blk A a = .p id) (e2:R3 h id=some (.c b)) (hb:bsz b=sz) (h0:sz ≠ 0) :
 (EO (fr nt (dA A)) H [.cell a true sz]).1∧(EO (fr nt (dA A)) H [.cell a true sz]).2=b.den:=by
 have ex:(fr nt (dA A)).getD a .junk = .ptr id []:=by rw [Ar1 A hA a,e1];rfl
 obtain ⟨g1,g2⟩:=Arm hr e2;have g2':hget H id=b.den:=g2;have s0:=W1 hb h0;simp only [EO,H9,Ez,Ag,X.ev,ex];refine ⟨⟨trivial,⟨g1,?_,trivial⟩,?_,?_,?_⟩,g2'⟩
 ·rw [g2'];exact s0.1
 ·show (hget H id).solid=true;rw [g2'];exact s0.1
 ·show (hget H id).size=sz;rw [g2'];exact s0.2.1
 ·show (hget H id).isAgg=true;rw [g2'];exact s0.2.2
theorem Av7 {nt:Nat} {A:BA} (hA:ltA nt A) {h:BH} {H:Hp} (hr:HR h H) {rs:List RVr} {b:BV} {z:List Nat} (e:Avs A h rs=some (b,z)) {x:Ctx} (hx:x.k=0) {N:Nat} :
 Ay M x rs (Q3 b.den [] 0) (fr nt (dA A)) H N:=by
 have key:(EO (fr nt (dA A)) H rs).1→B5 H [] z b.den (EO (fr nt (dA A)) H rs).2→Ay M x rs (Q3 b.den [] 0) (fr nt (dA A)) H N:=fun h1 h2 =>
  Ay.mk hx [] z b.den [] 0 BF h1 h2 trivial ⟨rfl,rfl,rfl⟩
 unfold Avs at e;split at e
 ·rename_i a sz;split at e;case h_2=>cases e
  rename_i id e1;split at e
  ·rename_i p q id' n e2;split at e;case h_2=>cases e
   rename_i l e3;split at e;case isFalse=>cases e
   rename_i hh;obtain ⟨hn,hp,rfl⟩:=hh;cases hs:sts l with
   | none=>rw [hs] at e;cases e
   | some t =>
     rw [hs] at e;cases e;have k:=Awe (sz:=3) hA hr e1 e2 rfl Ab;refine key k.1 ?_;rw [k.2];have ht:=Atn hs;have hq:=Atp hr e3 hn (z:=[id']) BF (f:=Fb t) fun i hi=>by
      rw [ht.2 i hi Aa,Jn t i Aa];exact NG H [] _ _
     have hL:DZ t = .lst 10 n (Fb t):=by rw [Bq t (by intro h0;subst h0;simp at ht;subst ht;simp at hn;omega),← ht.1,hn]
     have hq':Aw H [] [id'] (.lst 10 n (Fb t)) (.sl id' [] 0 n 10):=by simpa only [B5] using hq
     simp only [BV.den,fuV,hL,B5];rw [Aw.eq_def];refine ⟨rfl,?_⟩;rw [Aw.eq_def];refine ⟨rfl,by simp only [Aw],?_⟩;rw [Aw.eq_def];refine ⟨rfl,by simp only [Aw],?_⟩;rw [Aw.eq_def];exact ⟨rfl,hq',by simp only [Aw]⟩
  ·rename_i c _ e2;split at e;case isFalse=>cases e
   rename_i hh;cases e;have k:=Awe hA hr e1 e2 hh.2.1 hh.2.2;refine key k.1 ?_;rw [k.2];exact Att H [] [] _ hh.1
  ·cases e
 ·rename_i t;split at e;case h_2=>cases e
  rename_i id n e1;split at e;case h_2=>cases e
  rename_i l e2;split at e;case isFalse=>cases e
  rename_i hh;cases hs:fus l with
  | none=>rw [hs] at e;cases e
  | some y =>
    rw [hs] at e;cases e;have ht:=Aun hs;refine key trivial ?_;have ev:(EO (fr nt (dA A)) H [.tmp t]).2 = .sl id [] 0 n 3:=by
     show (fr nt (dA A)).getD t .junk=_;rw [Ar1 A hA t,e1];rfl
    rw [ev];show B5 H [] _ (FC y) _;rw [BD y (by intro h0;subst h0;simp at ht;subst ht;simp at hh;omega),← ht.1,hh.1];refine Atp hr e2 hh.1 BF fun i hi=>?_;rw [ht.2 i hi Aa];show Aw H [] _ (BW y i) (fuV y[i]);rw [← MW y i Aa];exact RL H [] _ y i
 ·cases e
def Avm:Nat→List BV→BA→BA
 | _,[],a=>a
 | i,b :: r,a=>Avm (i + 1) r ((i,b) :: a)
theorem Avf:∀ (us:List BV) (i:Nat) (a:BA),num i (us.map BV.den) (dA a)=dA (Avm i us a)
 | [],_,_=>rfl
 | b :: r,i,a=>Avf r (i + 1) ((i,b) :: a)
theorem Atr {nt:Nat}:∀ (us:List BV) (i:Nat) (a:BA),ltA nt a→i + us.length≤nt→ltA nt (Avm i us a)
 | [],_,_,h,_=>h
 | b :: r, i, a, h, hl => by
   simp only [List.length_cons] at hl;refine Atr r (i + 1) _ ?_ Aa;simp only [ltA,List.all_cons,Bool.and_eq_true,decide_eq_true_eq];exact ⟨by omega,h⟩
def bF (con:Con) (fns:List Nat) (lf:LF) (us:List BV):Option BV :=
 if us.length≤lf.nt then match bLC con fns lf.nt 60 [lf.c] 0 (Avm 0 us []) [] with
  | some (A,h)=>(Avs A h lf.rs).map (·.1)
  | none=>none
 else none
theorem Ats {con:Con} {fns:List Nat} (hc:BCon M con fns) {f:Nat} {lf:LF} (hf:Ar M f lf=true) {us:List BV} {b:BV} (e:bF con fns lf us=some b):As M f (us.map BV.den) [] 0 (Q3 b.den [] 0):=by
 unfold bF at e;split at e;case isFalse=>cases e
 rename_i hl;split at e;case h_2=>cases e
 rename_i A h e1;cases e2:Avs A h lf.rs with
 | none=>rw [e2] at e;cases e
 | some y =>
   obtain ⟨b',z⟩:=y;rw [e2] at e;cases e;refine Ac hf OG fun x hx=>?_;refine es 60 ?_;rw [show num 0 (us.map BV.den) []=dA (Avm 0 us []) from Avf us 0 []];exact Ayb hc (Atr us 0 [] DA Aa) (show HR [] [] from trivial) e1 fun H' N' hr' hA'=>Av7 hA' hr' e2 hx
def Atd (con:Con) (fns:List Nat) (T:List (Nat × LF)):Con:=fun f us=>match T.lookup f with
 | some lf=>bF con fns lf us
 | none=>con f us
theorem X2 {con:Con} {fns:List Nat} (hc:BCon M con fns) (T:List (Nat × LF)) (hT:∀ p ∈ T,Ar M p.1 p.2=true):BCon M (Atd con fns T) fns where
 run:=fun f us b e=>by
  unfold Atd at e;split at e
  ·rename_i lf hl;have:(f,lf) ∈ T:=by
    clear e;induction T with
    | nil=>cases hl
    | cons q r ih =>
      obtain ⟨i,g⟩:=q;simp only [List.lookup] at hl;split at hl
      ·rename_i hb;cases hl;rw [beq_iff_eq] at hb;subst hb;simp
      ·exact List.mem_cons_of_mem _ (ih (fun p hp=>hT p (by simp [hp])) hl)
   exact Ats hc (hT _ this) e
  ·exact hc.run f us b e
 fn:=hc.fn
end Mv
namespace Mv
open Go
def A13:LC:=(sr [A1 0 (.mv (.c .nils))] (sr [kl 1 288 [],kl 2 289 [],kl 3 290 [],kl 4 291 [],kl 5 292 [],kl 6 293 [],kl 7 294 [],kl 8 295 [],kl 9 296 [],kl 10 297 [],kl 11 298 [],kl 12 299 [],kl 13 300 [],kl 14 301 [],kl 15 302 [],kl 16 303 [],kl 17 304 [],kl 18 305 [],A1 19 (.bsl 3 18 (.st (.cons zI (.cons zI (.cons .slice .nil)))) [(.i 3 0,3,(.t 1)),(.i 3 1,3,(.t 2)),(.i 3 2,3,(.t 3)),(.i 3 3,3,(.t 4)),(.i 3 4,3,(.t 5)),(.i 3 5,3,(.t 6)),(.i 3 6,3,(.t 7)),(.i 3 7,3,(.t 8)),(.i 3 8,3,(.t 9)),(.i 3 9,3,(.t 10)),(.i 3 10,3,(.t 11)),(.i 3 11,3,(.t 12)),(.i 3 12,3,(.t 13)),(.i 3 13,3,(.t 14)),(.i 3 14,3,(.t 15)),(.i 3 15,3,(.t 16)),(.i 3 16,3,(.t 17)),(.i 3 17,3,(.t 18))]),mt 0 19] .ret))
def At9:LF:=⟨A13,0,0,20,[.tmp 0]⟩
def A1k:LC:=(sr [bX 2 0,
 bX 3 1,A1 4 (.alloc (.st (.cons zI (.cons zI (.cons (.st (.cons zI (.cons zU (.cons .slice .nil)))) (.cons (.st (.cons zI (.cons zU (.cons .slice .nil)))) (.cons .slice (.cons .slice .nil))))))))] (sr [la 5 3 2,la 6 3 3,A1 7 (.bsl 3 2 (.st (.cons zI (.cons zU (.cons .slice .nil)))) [(.i 3 0,3,(.t 5)),(.i 3 1,3,(.t 6))]),kl 8 385 [(cI 16),(.t 7)],kl 9 384 [(.t 8)],sb 10 4 9] .ret))
def Ay1:LF:=⟨A1k,2,0,10,[.cell 4 true 10]⟩
def A2g:LC:=(sr [A1 2 (.alloc (.st (.cons zI (.cons zU (.cons .slice .nil)))))] (sr [mt 3 0,A1 4 (.build (.st (.cons zI (.cons zU (.cons .slice .nil)))) [(.f 0,1,(cI 26)),(.f 1,1,(.t 3))]),sb 3 2 4] .ret))
def Ayg:LF:=⟨A2g,1,0,5,[.cell 2 true 3]⟩
def A1x:LC:=(sr [bX 2 0,A1 4 (.alloc (.st (.cons zI (.cons zI (.cons (.st (.cons zI (.cons zU (.cons .slice .nil)))) (.cons (.st (.cons zI (.cons zU (.cons .slice .nil)))) (.cons .slice (.cons .slice .nil))))))))] (sr [la 5 3 2,mt 6 1,A1 7 (.build (.st (.cons zI (.cons zI (.cons (.st (.cons zI (.cons zU (.cons .slice .nil)))) (.cons (.st (.cons zI (.cons zU (.cons .slice .nil)))) (.cons .slice (.cons .slice .nil))))))) [(.f 0,1,(cI 4)),(.f 2,3,(.t 5)),(.f 8,1,(.t 6))]),sb 10 4 7] .ret))
def Ay3:LF:=⟨A1x,2,0,8,[.cell 4 true 10]⟩
def A08:LC:=(sr [bX 2 0,
 bX 3 1,A1 4 (.alloc (.st (.cons zI (.cons zU (.cons .slice .nil)))))] (sr [la 5 3 2,la 6 3 3,A1 7 (.bsl 3 2 (.st (.cons zI (.cons zU (.cons .slice .nil)))) [(.i 3 0,3,(.t 5)),(.i 3 1,3,(.t 6))]),kl 8 404 [(cI 16),(.t 7)],sb 3 4 8] .ret))
def Azd:LF:=⟨A08,2,0,9,[.cell 4 true 3]⟩
def A14:LC:=(sr [A1 2 (.alloc (.st (.cons zI (.cons zU (.cons .slice .nil)))))] (sr [mt 3 0,
  Ea 4 .u64 3,A1 5 (.build (.st (.cons zI (.cons zU (.cons .slice .nil)))) [(.f 0,1,(cI 27)),(.f 1,1,(.t 4))]),sb 3 2 5] .ret))
def Axw:LF:=⟨A14,1,0,6,[.cell 2 true 3]⟩
def A0z:LC:=(sr [bX 3 1,A1 4 (.alloc (.st (.cons zI (.cons zI (.cons (.st (.cons zI (.cons zU (.cons .slice .nil)))) (.cons (.st (.cons zI (.cons zU (.cons .slice .nil)))) (.cons .slice (.cons .slice .nil))))))))] (sr [mt 5 0,la 6 3 3,A1 7 (.build (.st (.cons zI (.cons zI (.cons (.st (.cons zI (.cons zU (.cons .slice .nil)))) (.cons (.st (.cons zI (.cons zU (.cons .slice .nil)))) (.cons .slice (.cons .slice .nil))))))) [(.f 0,1,(cI 1)),(.f 1,1,(.t 5)),(.f 2,3,(.t 6))]),sb 10 4 7] .ret))
def Axt:LF:=⟨A0z,2,0,8,[.cell 4 true 10]⟩
def A1f:LC:=(sr [bX 1 0,A1 2 (.alloc (.st (.cons zI (.cons zI (.cons (.st (.cons zI (.cons zU (.cons .slice .nil)))) (.cons (.st (.cons zI (.cons zU (.cons .slice .nil)))) (.cons .slice (.cons .slice .nil))))))))] (.seq (.regd [⟨1,0,kl 4 370 [(cU 32)]⟩,⟨0,0,la 3 3 1⟩,⟨2,3,A1 5 (.bsl 3 2 (.st (.cons zI (.cons zU (.cons .slice .nil)))) [(.i 3 0,3,(.t 3)),(.i 3 1,3,(.t 4))])⟩,⟨3,7,kl 6 404 [(cI 31),(.t 5)]⟩,⟨4,15,kl 7 384 [(.t 6)]⟩,⟨5,31,sb 10 2 7⟩]) .ret))
def Awl:LF:=⟨A1f,1,0,8,[.cell 2 true 10]⟩
def A1g:LC:=(sr [bX 2 0,
 bX 3 1,A1 4 (.alloc (.st (.cons zI (.cons zU (.cons .slice .nil)))))] (sr [la 5 3 2,la 6 3 3,A1 7 (.bsl 3 2 (.st (.cons zI (.cons zU (.cons .slice .nil)))) [(.i 3 0,3,(.t 5)),(.i 3 1,3,(.t 6))]),kl 8 404 [(cI 1),(.t 7)],sb 3 4 8] .ret))
def Ax2:LF:=⟨A1g,2,0,9,[.cell 4 true 3]⟩
def A10:LC:=(sr [bX 2 0,
 bX 3 1,A1 4 (.alloc (.st (.cons zI (.cons zU (.cons .slice .nil)))))] (sr [la 5 3 2,la 6 3 3,A1 7 (.bsl 3 2 (.st (.cons zI (.cons zU (.cons .slice .nil)))) [(.i 3 0,3,(.t 5)),(.i 3 1,3,(.t 6))]),kl 8 404 [(cI 3),(.t 7)],sb 3 4 8] .ret))
def Ay9:LF:=⟨A10,2,0,9,[.cell 4 true 3]⟩
def A2i:LC:=(sr [bX 2 0,
 bX 3 1,A1 4 (.alloc (.st (.cons zI (.cons zU (.cons .slice .nil)))))] (sr [la 5 3 2,la 6 3 3,A1 7 (.bsl 3 2 (.st (.cons zI (.cons zU (.cons .slice .nil)))) [(.i 3 0,3,(.t 5)),(.i 3 1,3,(.t 6))]),kl 8 404 [(cI 22),(.t 7)],sb 3 4 8] .ret))
def Axf:LF:=⟨A2i,2,0,9,[.cell 4 true 3]⟩
def A16:LC:=(sr [bX 2 0,
 bX 3 1,A1 4 (.alloc (.st (.cons zI (.cons zU (.cons .slice .nil)))))] (sr [la 5 3 3,la 6 3 2,A1 7 (.bsl 3 2 (.st (.cons zI (.cons zU (.cons .slice .nil)))) [(.i 3 0,3,(.t 5)),(.i 3 1,3,(.t 6))]),kl 8 404 [(cI 14),(.t 7)],sb 3 4 8] .ret))
def Axu:LF:=⟨A16,2,0,9,[.cell 4 true 3]⟩
def A0y:LC:=(sr [bX 2 0,
 bX 3 1,A1 4 (.alloc (.st (.cons zI (.cons zU (.cons .slice .nil)))))] (sr [la 5 3 2,la 6 3 3,A1 7 (.bsl 3 2 (.st (.cons zI (.cons zU (.cons .slice .nil)))) [(.i 3 0,3,(.t 5)),(.i 3 1,3,(.t 6))]),kl 8 404 [(cI 2),(.t 7)],sb 3 4 8] .ret))
def Ayj:LF:=⟨A0y,2,0,9,[.cell 4 true 3]⟩
def A02:LC:=(sr [bX 2 0,A1 4 (.alloc (.st (.cons zI (.cons zI (.cons (.st (.cons zI (.cons zU (.cons .slice .nil)))) (.cons (.st (.cons zI (.cons zU (.cons .slice .nil)))) (.cons .slice (.cons .slice .nil))))))))] (sr [la 5 3 2,mt 6 1,A1 7 (.build (.st (.cons zI (.cons zI (.cons (.st (.cons zI (.cons zU (.cons .slice .nil)))) (.cons (.st (.cons zI (.cons zU (.cons .slice .nil)))) (.cons .slice (.cons .slice .nil))))))) [(.f 0,1,(cI 3)),(.f 2,3,(.t 5)),(.f 8,1,(.t 6))]),sb 10 4 7] .ret))
def Aww:LF:=⟨A02,2,0,8,[.cell 4 true 10]⟩
def A03:LC:=(sr [bX 2 0,
 bX 3 1,A1 4 (.alloc (.st (.cons zI (.cons zU (.cons .slice .nil)))))] (sr [la 5 3 2,la 6 3 3,A1 7 (.bsl 3 2 (.st (.cons zI (.cons zU (.cons .slice .nil)))) [(.i 3 0,3,(.t 5)),(.i 3 1,3,(.t 6))]),kl 8 404 [(cI 20),(.t 7)],sb 3 4 8] .ret))
def Awz:LF:=⟨A03,2,0,9,[.cell 4 true 3]⟩
def A2a:LC:=(sr [bX 1 0,A1 2 (.alloc (.st (.cons zI (.cons zU (.cons .slice .nil)))))] (sr [la 3 3 1,A1 4 (.bsl 3 1 (.st (.cons zI (.cons zU (.cons .slice .nil)))) [(.i 3 0,3,(.t 3))]),kl 5 404 [(cI 28),(.t 4)],sb 3 2 5] .ret))
def Axq:LF:=⟨A2a,1,0,6,[.cell 2 true 3]⟩
def A1e:LC:=(sr [bX 1 0,A1 2 (.alloc (.st (.cons zI (.cons zI (.cons (.st (.cons zI (.cons zU (.cons .slice .nil)))) (.cons (.st (.cons zI (.cons zU (.cons .slice .nil)))) (.cons .slice (.cons .slice .nil))))))))] (sr [la 3 3 1,A1 4 (.build (.st (.cons zI (.cons zI (.cons (.st (.cons zI (.cons zU (.cons .slice .nil)))) (.cons (.st (.cons zI (.cons zU (.cons .slice .nil)))) (.cons .slice (.cons .slice .nil))))))) [(.f 0,1,(cI 6)),(.f 2,3,(.t 3))]),sb 10 2 4] .ret))
def Axk:LF:=⟨A1e,1,0,5,[.cell 2 true 10]⟩
def A15:LC:=(sr [A1 4 (.alloc (.st (.cons zI (.cons zU (.cons .slice .nil)))))] (sr [mt 5 0,
  Ea 6 .u64 5,mt 7 1,A1 8 (.build (.st (.cons zI (.cons zU (.cons .slice .nil)))) [(.f 0,1,(cI 29)),(.f 1,1,(.t 6)),(.f 2,1,(.t 7))]),sb 3 4 8] .ret))
def Azo:LF:=⟨A15,2,0,9,[.cell 4 true 3]⟩
def A05:LC:=(sr [bX 1 0,A1 2 (.alloc (.st (.cons zI (.cons zI (.cons (.st (.cons zI (.cons zU (.cons .slice .nil)))) (.cons (.st (.cons zI (.cons zU (.cons .slice .nil)))) (.cons .slice (.cons .slice .nil))))))))] (.seq (.regd [⟨0,0,kl 3 370 [(cU 40)]⟩,⟨1,0,la 4 3 1⟩,⟨2,3,A1 5 (.bsl 3 2 (.st (.cons zI (.cons zU (.cons .slice .nil)))) [(.i 3 0,3,(.t 3)),(.i 3 1,3,(.t 4))])⟩,⟨3,7,kl 6 404 [(cI 30),(.t 5)]⟩,⟨4,15,kl 7 384 [(.t 6)]⟩,⟨5,31,sb 10 2 7⟩]) .ret))
def Ax5:LF:=⟨A05,1,0,8,[.cell 2 true 10]⟩
def A1h:LC:=(sr [bX 1 0,A1 2 (.alloc (.st (.cons zI (.cons zI (.cons (.st (.cons zI (.cons zU (.cons .slice .nil)))) (.cons (.st (.cons zI (.cons zU (.cons .slice .nil)))) (.cons .slice (.cons .slice .nil))))))))] (sr [la 3 3 1,A1 4 (.build (.st (.cons zI (.cons zI (.cons (.st (.cons zI (.cons zU (.cons .slice .nil)))) (.cons (.st (.cons zI (.cons zU (.cons .slice .nil)))) (.cons .slice (.cons .slice .nil))))))) [(.f 0,1,(cI 5)),(.f 2,3,(.t 3))]),sb 10 2 4] .ret))
def Ayv:LF:=⟨A1h,1,0,5,[.cell 2 true 10]⟩
def A06:LC:=(sr [bX 1 0,A1 2 (.alloc (.st (.cons zI (.cons zU (.cons .slice .nil)))))] (sr [la 3 3 1,A1 4 (.bsl 3 1 (.st (.cons zI (.cons zU (.cons .slice .nil)))) [(.i 3 0,3,(.t 3))]),kl 5 385 [(cI 14),(.t 4)],sb 3 2 5] .ret))
def Ax1:LF:=⟨A06,1,0,6,[.cell 2 true 3]⟩
def A00:LC:=(sr [bX 2 0,A1 4 (.alloc (.st (.cons zI (.cons zU (.cons .slice .nil)))))] (.seq (.regd [⟨1,0,kl 6 370 [(cU 32)]⟩,⟨0,0,la 5 3 2⟩,⟨2,3,kl 7 377 [(.t 5),(.t 6)]⟩,⟨3,0,mt 8 1⟩,⟨4,15,kl 9 370 [(.t 8)]⟩,⟨5,31,kl 10 376 [(.t 7),(.t 9)]⟩,⟨6,63,sb 3 4 10⟩]) .ret))
def Azr:LF:=⟨A00,2,0,11,[.cell 4 true 3]⟩
def A1a:LC:=(sr [bX 2 0,
 bX 3 1,A1 4 (.alloc (.st (.cons zI (.cons zU (.cons .slice .nil)))))] (sr [la 5 3 2,la 6 3 3,A1 7 (.bsl 3 2 (.st (.cons zI (.cons zU (.cons .slice .nil)))) [(.i 3 0,3,(.t 5)),(.i 3 1,3,(.t 6))]),kl 8 404 [(cI 23),(.t 7)],sb 3 4 8] .ret))
def Ayk:LF:=⟨A1a,2,0,9,[.cell 4 true 3]⟩
def A1j:LC:=(sr [bX 1 0,A1 2 (.alloc (.st (.cons zI (.cons zU (.cons .slice .nil)))))] (sr [la 3 3 1,A1 4 (.bsl 3 1 (.st (.cons zI (.cons zU (.cons .slice .nil)))) [(.i 3 0,3,(.t 3))]),kl 5 404 [(cI 21),(.t 4)],sb 3 2 5] .ret))
def Ay6:LF:=⟨A1j,1,0,6,[.cell 2 true 3]⟩
def A07:LC:=(sr [bX 2 0,
 bX 3 1,A1 4 (.alloc (.st (.cons zI (.cons zI (.cons (.st (.cons zI (.cons zU (.cons .slice .nil)))) (.cons (.st (.cons zI (.cons zU (.cons .slice .nil)))) (.cons .slice (.cons .slice .nil))))))))] (sr [la 5 3 2,la 6 3 3,A1 7 (.bsl 3 2 (.st (.cons zI (.cons zU (.cons .slice .nil)))) [(.i 3 0,3,(.t 5)),(.i 3 1,3,(.t 6))]),kl 8 385 [(cI 13),(.t 7)],kl 9 384 [(.t 8)],sb 10 4 9] .ret))
def Azb:LF:=⟨A07,2,0,10,[.cell 4 true 10]⟩
def A2h:LC:=(sr [bX 2 0,
 bX 3 1,A1 4 (.alloc (.st (.cons zI (.cons zI (.cons (.st (.cons zI (.cons zU (.cons .slice .nil)))) (.cons (.st (.cons zI (.cons zU (.cons .slice .nil)))) (.cons .slice (.cons .slice .nil))))))))] (sr [la 5 3 2,la 6 3 3,A1 7 (.build (.st (.cons zI (.cons zI (.cons (.st (.cons zI (.cons zU (.cons .slice .nil)))) (.cons (.st (.cons zI (.cons zU (.cons .slice .nil)))) (.cons .slice (.cons .slice .nil))))))) [(.f 0,1,(cI 2)),(.f 2,3,(.t 5)),(.f 5,3,(.t 6))]),sb 10 4 7] .ret))
def Azs:LF:=⟨A2h,2,0,8,[.cell 4 true 10]⟩
def A1q:LC:=(sr [bX 3 0,A1 6 (.alloc (.st (.cons zI (.cons zI (.cons (.st (.cons zI (.cons zU (.cons .slice .nil)))) (.cons (.st (.cons zI (.cons zU (.cons .slice .nil)))) (.cons .slice (.cons .slice .nil))))))))] (sr [la 7 3 3,mt 8 1,mt 9 2,A1 10 (.build (.st (.cons zI (.cons zI (.cons (.st (.cons zI (.cons zU (.cons .slice .nil)))) (.cons (.st (.cons zI (.cons zU (.cons .slice .nil)))) (.cons .slice (.cons .slice .nil))))))) [(.f 0,1,(cI 3)),(.f 2,3,(.t 7)),(.f 8,1,(.t 8)),(.f 9,1,(.t 9))]),sb 10 6 10] .ret))
def Azj:LF:=⟨A1q,3,0,11,[.cell 6 true 10]⟩
def A1v:LC:=(sr [A1 4 (.alloc (.st (.cons zI (.cons zU (.cons .slice .nil)))))] (sr [mt 5 0,kl 6 373 [(.t 5)],mt 7 1,kl 8 370 [(.t 7)],kl 9 376 [(.t 6),(.t 8)],kl 10 383 [(.t 9)],sb 3 4 10] .ret))
def Ayq:LF:=⟨A1v,2,0,11,[.cell 4 true 3]⟩
def A1b:LC:=(sr [bX 5 2,A1 6 (.alloc (.st (.cons zI (.cons zI (.cons (.st (.cons zI (.cons zU (.cons .slice .nil)))) (.cons (.st (.cons zI (.cons zU (.cons .slice .nil)))) (.cons .slice (.cons .slice .nil))))))))] (.seq (.regd [⟨0,0,mt 7 0⟩,⟨1,1,kl 8 373 [(.t 7)]⟩,⟨2,0,mt 9 1⟩,⟨3,7,kl 10 370 [(.t 9)]⟩,⟨4,15,kl 11 376 [(.t 8),(.t 10)]⟩,⟨5,0,la 12 3 5⟩,⟨6,63,kl 13 393 [(.t 11),(.t 12)]⟩,⟨7,127,sb 10 6 13⟩]) .ret))
def Ax9:LF:=⟨A1b,3,0,14,[.cell 6 true 10]⟩
def A1w:LC:=(sr [bX 1 0,A1 2 (.alloc (.st (.cons zI (.cons zI (.cons (.st (.cons zI (.cons zU (.cons .slice .nil)))) (.cons (.st (.cons zI (.cons zU (.cons .slice .nil)))) (.cons .slice (.cons .slice .nil))))))))] (sr [la 3 3 1,A1 4 (.build (.st (.cons zI (.cons zI (.cons (.st (.cons zI (.cons zU (.cons .slice .nil)))) (.cons (.st (.cons zI (.cons zU (.cons .slice .nil)))) (.cons .slice (.cons .slice .nil))))))) [(.f 0,1,(cI 7)),(.f 2,3,(.t 3))]),sb 10 2 4] .ret))
def Axo:LF:=⟨A1w,1,0,5,[.cell 2 true 10]⟩
def A18:LC:=(sr [bX 2 0,
 bX 3 1,A1 4 (.alloc (.st (.cons zI (.cons zU (.cons .slice .nil)))))] (sr [la 5 3 3,la 6 3 2,A1 7 (.bsl 3 2 (.st (.cons zI (.cons zU (.cons .slice .nil)))) [(.i 3 0,3,(.t 5)),(.i 3 1,3,(.t 6))]),kl 8 404 [(cI 13),(.t 7)],sb 3 4 8] .ret))
def Ayx:LF:=⟨A18,2,0,9,[.cell 4 true 3]⟩
def A12:LC:=(sr [bX 3 1,A1 4 (.alloc (.st (.cons zI (.cons zI (.cons (.st (.cons zI (.cons zU (.cons .slice .nil)))) (.cons (.st (.cons zI (.cons zU (.cons .slice .nil)))) (.cons .slice (.cons .slice .nil))))))))] (.seq (.regd [⟨0,0,kl 5 373 [(cI 1)]⟩,⟨1,0,mt 6 0⟩,⟨2,3,kl 7 370 [(.t 6)]⟩,⟨3,7,kl 8 382 [(.t 5),(.t 7)]⟩,⟨4,15,kl 9 373 [(cI 0)]⟩,⟨5,0,la 10 3 3⟩,⟨6,63,A1 11 (.bsl 3 2 (.st (.cons zI (.cons zU (.cons .slice .nil)))) [(.i 3 0,3,(.t 9)),(.i 3 1,3,(.t 10))])⟩,⟨7,127,kl 12 385 [(cI 11),(.t 11)]⟩,⟨8,255,kl 13 384 [(.t 12)]⟩,⟨9,511,kl 14 370 [(cU 0)]⟩,⟨10,1023,kl 15 387 [(.t 14)]⟩,⟨11,2047,A1 16 (.bsl 10 2 (.st (.cons zI (.cons zI (.cons (.st (.cons zI (.cons zU (.cons .slice .nil)))) (.cons (.st (.cons zI (.cons zU (.cons .slice .nil)))) (.cons .slice (.cons .slice .nil))))))) [(.i 10 0,10,(.t 13)),(.i 10 1,10,(.t 15))])⟩,⟨12,4095,kl 17 381 [(.t 8),(.t 16)]⟩,⟨13,8191,sb 10 4 17⟩]) .ret))
def Ax4:LF:=⟨A12,2,0,18,[.cell 4 true 10]⟩
def A1s:LC:=(sr [bX 1 0,A1 2 (.alloc (.st (.cons zI (.cons zU (.cons .slice .nil)))))] (.seq (.regd [⟨0,0,kl 3 373 [(cI 0)]⟩,⟨1,1,kl 4 370 [(cU 15)]⟩,⟨2,3,kl 5 395 [(cI 0),(cU 6)]⟩,⟨3,7,kl 6 376 [(.t 4),(.t 5)]⟩,⟨4,0,la 7 3 1⟩,⟨5,31,kl 8 380 [(.t 6),(.t 7)]⟩,⟨6,63,kl 9 376 [(.t 3),(.t 8)]⟩,⟨7,127,sb 3 2 9⟩]) .ret))
def Axg:LF:=⟨A1s,1,0,10,[.cell 2 true 3]⟩
def A1y:LC:=(sr [A1 2 (.alloc (.st (.cons zI (.cons zU (.cons .slice .nil)))))] (sr [kl 3 373 [(cI 0)],mt 4 0,kl 5 370 [(.t 4)],kl 6 382 [(.t 3),(.t 5)],sb 3 2 6] .ret))
def Axj:LF:=⟨A1y,1,0,7,[.cell 2 true 3]⟩
def A1l:LC:=(sr [A1 4 (.alloc (.st (.cons zI (.cons zU (.cons .slice .nil)))))] (sr [kl 5 373 [(cI 0)],mt 6 0,kl 7 370 [(.t 6)],kl 8 380 [(.t 5),(.t 7)],mt 9 1,mt 10 0,ak 11 .sub 9 10,
  aU 12 .add 11 1,kl 13 370 [(.t 12)],kl 14 372 [(.t 8),(.t 13)],sb 3 4 14] .ret))
def Axe:LF:=⟨A1l,2,0,15,[.cell 4 true 3]⟩
def A1i:LC:=(sr [A1 8 (.alloc (.st (.cons zI (.cons zI (.cons (.st (.cons zI (.cons zU (.cons .slice .nil)))) (.cons (.st (.cons zI (.cons zU (.cons .slice .nil)))) (.cons .slice (.cons .slice .nil))))))))] (sr [mt 9 3,
  aU 10 .shl 9 24,
  aV 11 .or 4294967296 10,mt 12 2,
  aU 13 .shl 12 16,ak 14 .or 11 13,mt 15 1,
  aU 16 .shl 15 8,ak 17 .or 14 16,mt 18 0,ak 19 .or 17 18,kl 20 370 [(.t 19)],kl 21 387 [(.t 20)],sb 10 8 21] .ret))
def Axh:LF:=⟨A1i,4,0,22,[.cell 8 true 10]⟩
def A09:LC:=(sr [A1 4 (.alloc (.st (.cons zI (.cons zU (.cons .slice .nil)))))] (sr [mt 5 0,mt 6 1,A1 7 (.build (.st (.cons zI (.cons zU (.cons .slice .nil)))) [(.f 0,1,(.t 5)),(.f 2,1,(.t 6))]),sb 3 4 7] .ret))
def Ay0:LF:=⟨A09,2,0,8,[.cell 4 true 3]⟩
end Mv
