/- A part. -/
import Derived.Test.YtgeionenpaopaaaGreatDoorAI
set_option linter.all false
namespace Mv
open Go
variable {M:Seat}
def put (A:List V) (d:Option Nat) (v:V):List V :=
 match d with
 | some i=>A.set i v
 | none=>A
theorem Qk {e e':Env} (hle:e.le e') {A:List V} {a:Act} (h:FR e A a.tmps) {v:V} {x:Value} (hv:RV e' v x) (d:Option Nat):FR e' (put A d v) (a.put d x).tmps:=by
 cases d with
 | none=>exact ⟨h.len,fun t=>HH hle (h.val t)⟩
 | some i =>
   refine ⟨by simp [put,Act.put,h.len],fun t=>?_⟩;simp only [put,Act.put];have hl:=h.len;by_cases hti:i=t
   ·subst hti;by_cases hlt:i < A.length
    ·have e1:(A.set i v).getD i .junk=v:=by simp [List.getD,hlt]
     have e2:(a.tmps.setIfInBounds i x).getD i undef=x:=by simp [hl,hlt]
     rw [e1,e2];exact hv
    ·have e1:(A.set i v).getD i .junk = .junk:=by simp [List.getD,hlt]
     rw [e1];trivial
   ·have e1:(A.set i v).getD t .junk=A.getD t .junk:=by simp [List.getD,List.getElem?_set_ne hti]
    have e2:(a.tmps.setIfInBounds i x).getD t undef=a.tmps.getD t undef:=by
     simp [Array.getElem?_setIfInBounds_ne hti]
    rw [e1,e2];exact HH hle (h.val t)
inductive LK where
 | lo (o:LO)
 | call (f:Nat) (xs:List X)
 | dyn (x:X) (xs:List X)
structure LOp where
 d:Option Nat
 k:LK
 g:Option (Nat × Bool):=none
structure DOp where
 ix:Nat
 bf:Nat
 o:LOp
inductive LC where
 | skip
 | reg (ops:List LOp)
 | regd (ops:List DOp)
 | seq (a b:LC)
 | cond (x:X) (a b:LC)
 | block (id:Nat) (c:LC)
 | loop (c:LC)
 | exit (id:Nat)
 | ret
def Ob (e:Env) (us:List V) (vs:Array Value):Prop:=vs.size=us.length∧∀ i,RV e (us.getD i .junk) (vs.getD i undef)
def Bk (M:Seat) (f:Nat) (us:List V) (H:Hp) (n:Nat) (K:V→Hp→Prop):Prop :=
 ∀ (c:Ctx) (e:Env) (vs:Array Value),Inv M c e H→(∀ id,n≤id→¬ e.D id)→c.k≤n→Ob e us vs →
  Calls M.P (M.φ f) vs e.w fun en w'=>∃ x v e' H',en = .returned x∧e'.w=w'∧e.le e'∧Inv M c e' H'∧RV e' v x∧(∀ id,e'.D id→e.D id ∨ (n≤id∧id < n + 16))∧K v H'
def Fs (M : Seat) (f : Nat) : Prop := f < 1000000 ∧ ∃ fn, M.P.funcs[M.φ f]? = some fn ∧ (fn.name != "runtime.NumGoroutine") = true ∧ fn.body.isSome = true
def Aho (M:Seat) (t k f:Nat):Prop:=Fs M f∧∀ v w,(Go.method (M.P.types.size + Made.depth) (M.τ t) v (JE k)).run M.P w = .ok (M.φ f,v) w
def Hz (M:Seat) (u:V) (us:List V) (H:Hp) (n:Nat) (K:V→Hp→Prop):Prop :=
 match u with
 | .fn f (.st m caps) => ((Fs M f ∧ (List.range m).all (fun i => caps.fhas i && (caps.fget i).solid && !(caps.fget i).isAgg) = true) ∧ Bk M f (us ++ (List.range m).map (fun i => caps.fget i)) H n K) ∨
   (2000000≤f∧(Fs M (f - 2000000)∧(List.range m).all (fun i=>caps.fhas i && (caps.fget i).solid && !(caps.fget i).isAgg)=true)∧Bk M (f - 2000000) ((List.range m).map (fun i=>caps.fget i) ++ us) H n K)
 | .fcons k _ _ => (match us with
   | .ifc t v :: us'=>v.solid=true∧∃ f,Aho M t k f∧Bk M f (v :: us') H n K
   | _=>False)
 | _=>False
def Ro (M:Seat) (K:List V→Hp→Prop):List LOp→Nat→List V→Hp→Prop
 | [],_,A,H=>K A H
 | ⟨d, k, none⟩ :: r, n, A, H =>
   match k with
   | .lo o=>(Ag A H n o).pre∧Ro M K r (n + 16) (put A d (Ag A H n o).v) (Ag A H n o).H
   | .call f xs=>Bk M f (xs.map (X.ev A)) H n (fun v H'=>Ro M K r (n + 16) (put A d v) H')
   | .dyn x xs=>Hz M (x.ev A) (xs.map (X.ev A)) H n (fun v H'=>Ro M K r (n + 16) (put A d v) H')
 | ⟨d, k, some (t, b)⟩ :: r, n, A, H =>
   match A.getD t .junk with
   | .bool b' => (b' = b → (match k with
     | .lo o=>(Ag A H n o).pre∧Ro M K r (n + 16) (put A d (Ag A H n o).v) (Ag A H n o).H
     | .call f xs=>Bk M f (xs.map (X.ev A)) H n (fun v H'=>Ro M K r (n + 16) (put A d v) H')
     | .dyn x xs=>Hz M (x.ev A) (xs.map (X.ev A)) H n (fun v H'=>Ro M K r (n + 16) (put A d v) H')))∧(b' = !b→Ro M K r (n + 16) (put A d (.tup .fnil)) H)
   | .tup _=>Ro M K r (n + 16) (put A d (.tup .fnil)) H
   | _=>False
def Hv (M:Seat):List Operand→List X→Bool
 | [],[]=>true
 | x :: r,y :: r'=>A3 M x y && Hv M r r'
 | _,_=>false
def Pe (M:Seat) (op:Op) (k:LK):Bool :=
 match k with
 | .lo o=>R8 M op o
 | .call f xs => (match op with | .call c => (match c.callee with | .value (.func f') => M.φ f == f' && (match M.P.funcs[f']? with | some fn => fn.name != "runtime.NumGoroutine" && fn.body.isSome | none => false) | _ => false) && Hv M c.args.toList xs | _ => false)
 | .dyn x xs => (match op with
   | .call c => (match c.callee with
     | .value (.tmp t)=>A3 M (.tmp t) x && Hv M c.args.toList xs
     | .invoke r nm => (match x with
       | .c (.fcons k _ _)=>JE k == nm
       | _=>false) && Hv M (r :: c.args.toList) xs
     | _=>false)
   | _=>false)
def NL (ops:Array Oper) (g:Option (Nat × Bool)) (g':Option (Nat × Bool)):Bool :=
 match g,g' with
 | none,none=>true
 | some (j,b),some (t,b')=>b == b' && (match (ops[j]?).bind (·.dst) with | some t'=>t == t' | none=>false)
 | _,_=>false
def Gb (M:Seat) (ops:Array Oper):List Oper→List LOp→Bool
 | [],[]=>true
 | o :: r,l :: r'=>decide (o.dst=l.d) && Pe M o.op l.k && NL ops o.guard l.g && Gb M ops r r'
 | _,_=>false
def X.ts:X→List Nat
 | .t i=>[i]
 | _=>[]
def RX (l:List X):List Nat:=l.flatMap X.ts
def ots:Option X→List Nat
 | some x=>x.ts
 | none=>[]
def LO.ts:LO→List Nat
 | .mv x | .un _ x | .conv _ x | .box x | .load _ _ x | .nilc x | .fadr _ x | .fld _ _ _ x | .s2a _ _ x | .mkif _ x | .ext x _ | .len _ x=>x.ts
 | .pick c a b=>c.ts ++ a.ts ++ b.ts
 | .ari _ x y | .eq _ _ _ x y | .store _ x y | .iarr _ _ x y | .isl _ x y | .idx _ _ _ x y | .app _ _ x y | .copy _ x y | .mm _ x y | .mksl _ _ _ x y=>x.ts ++ y.ts
 | .alloc _=>[]
 | .build _ ps=>RX (ps.map fun q=>q.2.2)
 | .bsl _ _ _ ps=>RX (ps.map fun q=>q.2.2)
 | .slarr _ _ x lo hi | .slsl _ x lo hi=>x.ts ++ ots lo ++ ots hi
 | .mkfn _ xs=>RX xs
 | .mkmap _ _=>[]
 | .mlook _ _ _ x y=>x.ts ++ y.ts
 | .mupd _ x y z=>x.ts ++ y.ts ++ z.ts
 | .sidx x y=>x.ts ++ y.ts
 | .mkmth _ x | .nilm _ _ x | .mclone x | .tas _ x | .b2s x | .rng x | .nxt x | .ent x=>x.ts
 | .add64 x y z=>x.ts ++ y.ts ++ z.ts
 | .mm4 _ x y z w=>x.ts ++ y.ts ++ z.ts ++ w.ts
 | .nope=>[]
def LK.ts:LK→List Nat
 | .lo o=>o.ts
 | .call _ xs=>RX xs
 | .dyn x xs=>x.ts ++ RX xs
def LOp.ts (o:LOp):List Nat:=(match o.g with | some (t,_)=>[t] | none=>[]) ++ o.k.ts
def LK.isW:LK→Bool
 | .lo o=>(match o with | .store .. | .app .. | .copy .. | .mupd .. | .mclone .. | .rng ..=>true | _=>false)
 | _=>true
def LK.isA:LK→Bool
 | .lo o=>(match o with | .alloc .. | .box .. | .bsl .. | .mksl .. | .mkmap ..=>true | _=>false)
 | _=>false
def LK.isP:LK→Bool
 | .lo o=>(match o with | .store .. | .app .. | .copy .. | .load .. | .slarr .. | .len .. | .mlook .. | .mupd .. | .mclone .. | .b2s .. | .rng .. | .nxt .. | .ent ..=>false | _=>true)
 | _=>false
def D7 (L:List DOp) (i:Nat):Nat:=L.findIdx (fun d=>d.ix == i)
def BX (L:List DOp) (p:Nat):Nat:=((L[p]?).map (·.bf)).getD 0
def clo (L:List DOp) (es:List Edge):Nat:=es.foldl (fun b e=>if Region.binds .any e then b ||| (2 ^ D7 L e.on) ||| BX L (D7 L e.on) else b) 0
def XW (M:Seat) (ops:Array Oper) (L:List DOp) (p:Nat):Bool :=
 match L[p]? with
 | none=>false
 | some d => (match ops[d.ix]? with
   | none=>false
   | some o=>(decide (o.dst=d.o.d) && Pe M o.op d.o.k && NL ops o.guard d.o.g) && (D7 L d.ix == p) && (d.bf == clo L o.after.toList) &&
    o.after.toList.all (fun e=>!Region.binds .any e || decide (D7 L e.on < p)) &&
    (!d.o.k.isW || d.bf == 2 ^ p - 1) &&
    d.o.ts.all (fun t=>(List.range L.length).all (fun j=>!((L[j]?).bind (·.o.d) == some t) || d.bf.testBit j || (decide (p < j) && (BX L j).testBit p) || j == p)))
def Aaa (M:Seat) (ops:Array Oper) (L:List DOp):Bool :=
 M.P.follows .mixedOrders && L.length == ops.size && (List.range ops.size).all (fun i=>decide (D7 L i < ops.size)) && (List.range L.length).all (fun p=>XW M ops L p) &&
 (List.range L.length).all (fun p=>(List.range L.length).all (fun q=>p == q || (match (L[p]?).bind (·.o.d),(L[q]?).bind (·.o.d) with | some a,some b=>a != b | _,_=>true)))
def Bw (M:Seat):Code→LC→Bool
 | .skip,.skip=>true
 | .region _ ops draw,.reg l=>draw == false && Gb M ops ops.toList l
 | .region _ ops draw,.regd L=>draw == true && Aaa M ops L
 | .seq a b,.seq a' b'=>Bw M a a' && Bw M b b'
 | .cond x a b,.cond y a' b'=>A3 M x y && Bw M a a' && Bw M b b'
 | .block i c,.block i' c'=>i == i' && Bw M c c'
 | .loop c,.loop c'=>Bw M c c'
 | .exit i,.exit i'=>i == i'
 | .ret,.ret=>true
 | _,_=>false
def U5 (M:Seat) (c:Ctx) (A:List V) (H:Hp) (N:Nat) (a:Act) (w:World):Prop :=
 ∃ e,e.w=w∧Inv M c e H∧FR e A a.tmps∧(∀ id,N≤id→¬ e.D id)∧c.k≤N∧a.defers=[]
theorem Jo {c:Ctx} {e:Env} {H:Hp} (hI:Inv M c e H) {A:List V} {a:Act} (hA:FR e A a.tmps):∀ (xs:List Operand) (ys:List X),Hv M xs ys=true→Ob e (ys.map (X.ev A)) (xs.map a.eval).toArray
 | [],[],_=>⟨rfl,fun i=>by simp [RV]⟩
 | x :: xs, y :: ys, h => by
   simp only [Hv,Bool.and_eq_true] at h;obtain ⟨h1,h2⟩:=Jo hI hA xs ys h.2;refine ⟨by simpa using h1,fun i=>?_⟩;cases i with
   | zero=>simpa [List.getD] using Az hI.φ hA h.1 (Ct hI h.1)
   | succ i =>
     have:=h2 i;simpa [List.getD] using this
 | [],_ :: _,h=>by simp [Hv] at h
 | _ :: _,[],h=>by simp [Hv] at h
theorem Kz {ρ : Operand → Value} {k : Call} {ty : TypeId} {f : Nat} {first cap : Array Value} {w : World} {x : Operand} {fn : Func} (hc : k.callee = .value x) (hx : ρ x = .func (.func f) first cap) (hf : M.P.funcs[f]? = some fn) (hn : fn.name != "runtime.NumGoroutine") (hb : fn.body.isSome = true) :
 Sem.run M.P (do let d ← resolve ρ k ty;invoke d.target d.args) w = .ok (.enter f (first ++ k.args.map ρ ++ cap)) w:=by
 have hn' : (fn.name == "runtime.NumGoroutine") = false := by simpa [bne] using hn
 have hb':fn.body.isNone=false:=by cases hfb:fn.body <;> simp_all
 unfold resolve;simp only [hc,hx,Deferred.ofValue,EP,invoke,callFunc,run_program,hf,hn',hb',O3]
theorem Adg {ρ : Operand → Value} {k : Call} {ty : TypeId} {r : Operand} {nm : String} {t : TypeId} {v : Value} {f : Nat} {w : World} {fn : Func} (hc : k.callee = .invoke r nm) (hx : ρ r = .iface t v) (hm : (Go.method (M.P.types.size + Made.depth) t v nm).run M.P w = .ok (f, v) w) (hf : M.P.funcs[f]? = some fn) (hn : fn.name != "runtime.NumGoroutine") (hb : fn.body.isSome = true) :
 Sem.run M.P (do let d ← resolve ρ k ty;invoke d.target d.args) w = .ok (.enter f (#[v] ++ k.args.map ρ)) w:=by
 have hn' : (fn.name == "runtime.NumGoroutine") = false := by simpa [bne] using hn
 have hb':fn.body.isNone=false:=by cases hfb:fn.body <;> simp_all
 unfold resolve;have e1:(#[Value.iface t v] ++ k.args.map ρ).extract 1 (#[Value.iface t v] ++ k.args.map ρ).size=k.args.map ρ:=by apply Array.ext';simp [List.take_of_length_le]
 simp only [hc,hx,EP,invoke];have e0:(#[Value.iface t v] ++ k.args.map ρ)[0]?=some (Value.iface t v):=by rw [Array.getElem?_append_left (by show 0 < 1;omega)];rfl
 split;case h_2 h=>exact (h _ e0).elim
 rename_i recv hr;cases (hr.symm.trans e0);simp only [e1,callMethod,EP,run_program,hm,callFunc,hf,hn',hb',O3]
def OpK (M:Seat) (A:List V) (H:Hp) (n:Nat) (k:LK) (K:V→Hp→Prop):Prop :=
 match k with
 | .lo lo=>(Ag A H n lo).pre∧K (Ag A H n lo).v (Ag A H n lo).H
 | .call f xs=>Bk M f (xs.map (X.ev A)) H n K
 | .dyn x xs=>Hz M (x.ev A) (xs.map (X.ev A)) H n K
theorem QB {c:Ctx} {K:V→Hp→Prop} {Q:Exit→Act→World→Prop} {next:Act→World→Prop} {A:List V} {H:Hp} {n:Nat} {e:Env} {a:Act} {o:Oper} {d:Option Nat} {k:LK}
 (hI:Inv M c e H) (hA:FR e A a.tmps) (hD0:¬ e.D n) (hD:(∀ lo,k ≠ .lo lo)→∀ id,n≤id→¬ e.D id) (hk:c.k≤n) (hd:o.dst=d) (hc:Pe M o.op k=true)
 (hr:∀ v x H' e',Inv M c e' H'→RV e' v x→e.le e'→(∀ id,e'.D id→e.D id ∨ (n≤id∧id < n + 16))→K v H'→next (a.put d x) e'.w)
 (h:OpK M A H n k K) :
 o.wp M.P a e.w next Q:=by
 subst hd;have callcase:(∀ id,n≤id→¬ e.D id)→∀ (f:Nat) (us:List V) (vs:Array Value),(execOp a.eval o).run M.P e.w = .ok (.enter (M.φ f) vs) e.w→Ob e us vs→Bk M f us H n K→o.wp M.P a e.w next Q:=by
  intro hD f us vs hrun hargs hcall;unfold Oper.wp;rw [hrun];simp only [Oper.upon];refine (hcall c e vs hI hD hk hargs).mono ?_;rintro en w' ⟨x,v,e',H',rfl,rfl,hle,hI',hv,hD',hK⟩;exact hr _ _ _ e' hI' hv hle hD' hK
 cases k with
 | lo lo =>
   obtain ⟨hp,hK⟩:=h;obtain ⟨x,e',hrun,hle,hI',hv,hD'⟩:=Qi hI hA hD0 hk hc hp;unfold Oper.wp;rcases hrun with hrun | ⟨hrun,hx⟩
   ·rw [hrun];exact hr _ _ _ e' hI' hv hle (fun id h=>(hD' id h).imp_right (fun h=>by omega)) hK
   ·subst hx;rw [hrun];exact hr _ _ _ e' hI' hv hle (fun id h=>(hD' id h).imp_right (fun h=>by omega)) hK
 | call f xs =>
   simp only [Pe] at hc;split at hc;case h_2=>cases hc
   rename_i kc hop;simp only [Bool.and_eq_true] at hc;obtain ⟨h1,h2⟩:=hc;split at h1;case h_2=>cases h1
   rename_i f' hcal;simp only [Bool.and_eq_true,beq_iff_eq] at h1;obtain ⟨rfl,h1⟩:=h1;split at h1;case h_2=>cases h1
   rename_i fn hfn;simp only [Bool.and_eq_true] at h1;have hrun:(execOp a.eval o).run M.P e.w = .ok (.enter (M.φ f) ((#[]:Array Value) ++ kc.args.map a.eval ++ #[])) e.w:=by
    unfold execOp;rw [hop];exact Kz hcal rfl hfn h1.1 h1.2
   refine callcase (hD (fun _ h=>by cases h)) f _ _ hrun ?_ h;have:=Jo hI hA _ _ h2;have e1:((#[]:Array Value) ++ kc.args.map a.eval ++ #[])=(kc.args.toList.map a.eval).toArray:=by apply Array.ext';simp
   rw [e1];exact this
 | dyn x xs =>
   simp only [Pe] at hc;split at hc;case h_2=>cases hc
   rename_i kc hop;split at hc;case h_3=>cases hc
   case h_2 r nm hcal =>
    simp only [Bool.and_eq_true] at hc;obtain ⟨h1,h2⟩:=hc;split at h1;case h_2=>cases h1
    rename_i x k u1 u2;simp only [beq_iff_eq] at h1;subst h1;have h:Hz M (.fcons k u1 u2) (xs.map (X.ev A)) H n K:=h;cases xs with
    | nil=>exact h.elim
    | cons y xs' =>
      have hy:=h2;simp only [Hv,Bool.and_eq_true] at hy;have hv:=Az hI.φ hA hy.1 (Ct hI hy.1);simp only [Hz,List.map_cons] at h;generalize hx:X.ev A y=u at h;cases u <;> try exact h.elim
      rename_i t v;obtain ⟨hs,f,⟨⟨_,fn,hfn,hnm,hbd⟩,hm⟩,hcall⟩:=h;rw [hx] at hv;simp only [RV,RS,V.isAgg,R,E0] at hv;obtain ⟨z,hval,_,hz⟩:=hv;rw [hI.τ] at hval;have hrun:(execOp a.eval o).run M.P e.w = .ok (.enter (M.φ f) (#[z] ++ kc.args.map a.eval)) e.w:=by
       unfold execOp;rw [hop];exact Adg hcal hval (hm z e.w) hfn hnm hbd
      refine callcase (hD (fun _ h=>by cases h)) f _ _ hrun ?_ hcall;obtain ⟨q1,q2⟩:=Jo hI hA _ _ hy.2;have e1:(#[z] ++ kc.args.map a.eval)=(z :: kc.args.toList.map a.eval).toArray:=by apply Array.ext';simp
      rw [e1];refine ⟨by simpa using q1,fun i=>?_⟩;cases i with
      | zero =>
        rw [show (v :: List.map (X.ev A) xs').getD 0 .junk=v from rfl,Bb hs];exact hz
      | succ i =>
        have:=q2 i;simpa [List.getD] using this
   simp only [Bool.and_eq_true] at hc;obtain ⟨h1,h2⟩:=hc;rename_i t hcal;have hv:=Az hI.φ hA h1 (Ct hI h1);have h:Hz M (x.ev A) (xs.map (X.ev A)) H n K:=h;unfold Hz at h;split at h;case h_3=>exact h.elim
   case h_2 hx=>rw [hx] at hv;exact hv.elim
   rename_i f m caps hx;rw [hx] at hv;simp only [RV,RS,V.isAgg,R,E0] at hv;obtain ⟨xsv,hval,hlen,⟨_,hone⟩,hR⟩:=hv;have hcapi:∀ (_:(List.range m).all (fun i=>caps.fhas i && (caps.fget i).solid && !(caps.fget i).isAgg)=true) j,j < m→RV e (caps.fget j) (xsv.getD j undef):=by
    intro hcaps j hj;have:=List.all_eq_true.1 hcaps j (List.mem_range.2 hj);simp only [X5] at this;obtain ⟨⟨k1,k2⟩,k3⟩:=this;obtain ⟨g1,g2⟩:=GW hR k1;have hs1:(caps.fget j).size=1:=by
     have:=Mm k2 g2;cases hc:caps.fget j <;> rw [hc] at k2 k3 <;> simp_all [V.solid,V.isAgg,V.size]
    rw [hs1] at g2;rw [Bb k2];unfold RS;rw [k3];have hlt:j < xsv.length:=Aa;have:(xsv.drop j).take 1=[xsv.getD j undef]:=by
     rw [List.drop_eq_getElem_cons hlt,List.take_succ_cons,List.take_zero];simp [List.getD,hlt]
    rw [this] at g2;exact g2
   have hcm:∀ j,j < m→((List.range m).map (fun i=>caps.fget i)).getD j .junk=caps.fget j:=fun j hj=>by
    rw [List.getD_eq_getElem?_getD,List.getElem?_map,List.getElem?_range hj];rfl
   obtain ⟨q1,q2⟩:=Jo hI hA _ _ h2;have hsz:(kc.args.map a.eval).size=(xs.map (X.ev A)).length:=by simpa using q1
   rcases h with ⟨⟨⟨hlt,fn,hfn,hnm,hbd⟩,hcaps⟩,hcall⟩ | ⟨h2m,⟨⟨hlt,fn,hfn,hnm,hbd⟩,hcaps⟩,hcall⟩
   ·have hcapi:=hcapi hcaps;rw [hI.φ,P7,if_pos hlt] at hval;have hrun:(execOp a.eval o).run M.P e.w = .ok (.enter (M.φ f) ((#[]:Array Value) ++ kc.args.map a.eval ++ xsv.toArray)) e.w:=by
     unfold execOp;rw [hop];exact Kz hcal hval hfn hnm hbd
    refine callcase (hD (fun _ h=>by cases h)) f _ _ hrun ?_ hcall;refine ⟨?_,fun i=>?_⟩
    ·simp only [List.size_toArray,List.length_map] at q1;simp [hlen];exact q1
    ·by_cases hi:i < (xs.map (X.ev A)).length
     ·have e1:((xs.map (X.ev A)) ++ (List.range m).map (fun i=>caps.fget i)).getD i .junk=(xs.map (X.ev A)).getD i .junk:=by
       simp only [List.getD,List.getElem?_append,hi,if_true]
      have e2:(((#[]:Array Value) ++ kc.args.map a.eval ++ xsv.toArray)).getD i undef=((kc.args.toList.map a.eval).toArray).getD i undef:=by
       have hi':i < kc.args.size:=by
        have:kc.args.size=(xs.map (X.ev A)).length:=by simpa using hsz
        omega
       simp [Array.getElem?_append,hi']
      rw [e1,e2];exact q2 i
     ·have hge:¬ i < kc.args.size:=by
       have:kc.args.size=(xs.map (X.ev A)).length:=by simpa using hsz
       omega
      have e1:((xs.map (X.ev A)) ++ (List.range m).map (fun i=>caps.fget i)).getD i .junk=(((List.range m).map (fun i=>caps.fget i)).getD (i - (xs.map (X.ev A)).length) .junk):=by
       simp only [List.getD,List.getElem?_append,hi,if_false]
      have e2:(((#[]:Array Value) ++ kc.args.map a.eval ++ xsv.toArray)).getD i undef=xsv.getD (i - (xs.map (X.ev A)).length) undef:=by
       have:kc.args.size=(xs.map (X.ev A)).length:=by simpa using hsz
       rw [← this];simp [Array.getElem?_append,hge,List.getD]
      rw [e1,e2];by_cases hj:i - (xs.map (X.ev A)).length < m
      ·rw [hcm _ hj];exact hcapi _ hj
      ·have:((List.range m).map (fun i=>caps.fget i)).getD (i - (xs.map (X.ev A)).length) .junk = .junk:=by
        rw [List.getD_eq_getElem?_getD,List.getElem?_eq_none (by rw [List.length_map,List.length_range];exact Nat.le_of_not_lt hj)];rfl
       rw [this];trivial
   ·have hcapi:=hcapi hcaps;rw [hI.φ,P7,if_neg Aa,if_neg Aa] at hval;have hrun:(execOp a.eval o).run M.P e.w = .ok (.enter (M.φ (f - 2000000)) (xsv.toArray ++ kc.args.map a.eval ++ (#[]:Array Value))) e.w:=by
     unfold execOp;rw [hop];exact Kz hcal hval hfn hnm hbd
    refine callcase (hD (fun _ h=>by cases h)) (f - 2000000) _ _ hrun ?_ hcall;refine ⟨?_,fun i=>?_⟩
    ·simp only [List.size_toArray,List.length_map] at q1;simp [hlen];omega
    ·by_cases hi:i < m
     ·have e1:((List.range m).map (fun i=>caps.fget i) ++ (xs.map (X.ev A))).getD i .junk=((List.range m).map (fun i=>caps.fget i)).getD i .junk:=by
       simp only [List.getD,List.getElem?_append,List.length_map,List.length_range,hi,if_true]
      have e2:((xsv.toArray ++ kc.args.map a.eval ++ (#[]:Array Value))).getD i undef=xsv.getD i undef:=by
       have:i < xsv.length:=Aa;simp [Array.getElem?_append,this,List.getD]
      rw [e1,e2,hcm i hi];exact hcapi i hi
     ·have e1:((List.range m).map (fun i=>caps.fget i) ++ (xs.map (X.ev A))).getD i .junk=(xs.map (X.ev A)).getD (i - m) .junk:=by
       simp only [List.getD,List.getElem?_append,List.length_map,List.length_range,hi,if_false]
      have e2:((xsv.toArray ++ kc.args.map a.eval ++ (#[]:Array Value))).getD i undef=((kc.args.toList.map a.eval).toArray).getD (i - m) undef:=by
       have:¬ i < xsv.length:=Aa;rw [Array.append_empty,Array.getD_eq_getD_getElem?,Array.getElem?_append,if_neg (by simpa using this)];simp [hlen]
      rw [e1,e2];exact q2 (i - m)
theorem Am7 {c:Ctx} {K:List V→Hp→Prop} {Q:Exit→Act→World→Prop} {next:Act→World→Prop} {A:List V} {H:Hp} {n:Nat} {e:Env} {a:Act} {o:Oper} {d:Option Nat} {k:LK}
 (hI:Inv M c e H) (hA:FR e A a.tmps) (hD:∀ id,n≤id→¬ e.D id) (hk:c.k≤n) (hdef:a.defers=[]) (hd:o.dst=d) (hc:Pe M o.op k=true)
 (hr:∀ A' H' a' e',Inv M c e' H'→FR e' A' a'.tmps→(∀ id,n + 16≤id→¬ e'.D id)→a'.defers=[]→K A' H'→next a' e'.w)
 (h:match k with
  | .lo lo=>(Ag A H n lo).pre∧K (put A d (Ag A H n lo).v) (Ag A H n lo).H
  | .call f xs=>Bk M f (xs.map (X.ev A)) H n (fun v H'=>K (put A d v) H')
  | .dyn x xs=>Hz M (x.ev A) (xs.map (X.ev A)) H n (fun v H'=>K (put A d v) H')) :
 o.wp M.P a e.w next Q:=by
 refine QB (K:=fun v H'=>K (put A d v) H') hI hA (hD n (Nat.le_refl n)) (fun _=>hD) hk hd hc (fun v x H' e' hI' hv hle hD' hK=>?_) (by cases k <;> exact h);refine hr _ _ _ e' hI' (Qk hle hA hv d) (fun id hid hd'=>?_) (by cases d <;> exact hdef) hK;rcases hD' id hd' with h1 | h1
 ·exact hD id Aa h1
 ·omega
theorem Mq {ops:Array Oper} {g:Option (Nat × Bool)} {t:Nat} {b:Bool} (h:NL ops g (some (t,b))=true) (tmps:Array Value) (o:Oper) (ho:o.guard=g) :
 Region.wanted o (yielded ops tmps)=(match tmps[t]? with | some (.bool b')=>b' == b | _=>false):=by
 subst ho;cases hg:o.guard with
 | none=>rw [hg] at h;simp [NL] at h
 | some q =>
   obtain ⟨j,w⟩:=q;rw [hg] at h;simp only [NL,Bool.and_eq_true,beq_iff_eq] at h;obtain ⟨rfl,h⟩:=h;split at h;case h_2=>cases h
   rename_i t' ht';simp only [beq_iff_eq] at h;subst h;simp only [Region.wanted,hg,yielded,ht',Option.bind_some];split
   ·rename_i b' hb';simp only [hb'];cases b' <;> cases w <;> rfl
   ·rename_i hb';split
    ·rename_i b' hb'';exact absurd hb'' (hb' b')
    ·cases w <;> rfl
theorem K8 {c:Ctx} {K:List V→Hp→Prop} {Q:Exit→Act→World→Prop} {ops:Array Oper} :
 ∀ (l:List Oper) (ls:List LOp) (n:Nat) (A:List V) (H:Hp) (e:Env) (a:Act),Gb M ops l ls=true→Inv M c e H→FR e A a.tmps→(∀ id,n≤id→¬ e.D id)→c.k≤n→a.defers=[] →
  (∀ A' H' N' a' w',U5 M c A' H' N' a' w'→N'=n + 16 * ls.length→K A' H'→Q .normal a' w')→Ro M K ls n A H→wpList M.P ops Q l a e.w
 | [], [], n, A, H, e, a, _, hI, hA, hD, hk, hdef, hK, h => by
   simp only [Ro] at h;exact hK A H n a e.w ⟨e,rfl,hI,hA,hD,hk,hdef⟩ BF h
 | o :: l, ⟨d, k, g⟩ :: ls, n, A, H, e, a, hc, hI, hA, hD, hk, hdef, hK, h => by
   simp only [Gb,Bool.and_eq_true,decide_eq_true_eq] at hc;obtain ⟨⟨⟨hd,hck⟩,hcg⟩,hcl⟩:=hc;have AH:∀ A' H' a' e',Inv M c e' H'→FR e' A' a'.tmps→(∀ id,n + 16≤id→¬ e'.D id)→a'.defers=[]→Ro M K ls (n + 16) A' H'→wpList M.P ops Q l a' e'.w:=by
    intro A' H' a' e' hI' hA' hD' hdef' hR;refine K8 l ls (n + 16) A' H' e' a' hcl hI' hA' hD' Aa hdef' ?_ hR;intro A'' H'' N'' a'' w'' hs hN hKK;exact hK A'' H'' N'' a'' w'' hs (by simp only [List.length_cons];omega) hKK
   have hexec:(match k with
    | .lo o=>(Ag A H n o).pre∧Ro M K ls (n + 16) (put A d (Ag A H n o).v) (Ag A H n o).H
    | .call f xs=>Bk M f (xs.map (X.ev A)) H n (fun v H'=>Ro M K ls (n + 16) (put A d v) H')
    | .dyn x xs=>Hz M (x.ev A) (xs.map (X.ev A)) H n (fun v H'=>Ro M K ls (n + 16) (put A d v) H'))→o.wp M.P a e.w (wpList M.P ops Q l) Q:=by
    intro hx;refine Am7 (K:=fun A' H'=>Ro M K ls (n + 16) A' H') hI hA hD hk hdef hd hck AH ?_;cases k <;> exact hx
   have hskip:Ro M K ls (n + 16) (put A d (.tup .fnil)) H→wpList M.P ops Q l (a.put o.dst undef) e.w:=by
    intro hx;subst hd;exact AH _ _ _ e hI (Qk (Env.le_refl e) hA (v:=.tup .fnil) (x:=undef) ⟨#[],rfl,trivial⟩ o.dst) (fun id hid=>hD id Aa) (by cases o.dst <;> exact hdef) hx
   cases g with
   | none =>
     have hg:o.guard=none:=by
      cases ho:o.guard with
      | none=>rfl
      | some q=>rw [ho] at hcg;simp [NL] at hcg
     unfold wpList;have hw:Region.wanted o (yielded ops a.tmps)=true:=by simp [Region.wanted,hg]
     rw [if_pos hw];left;refine hexec ?_;cases k <;> simpa only [Ro] using h
   | some q =>
     obtain ⟨t,b⟩:=q;have hw:=Mq hcg a.tmps o rfl;have hvt:=hA.val t;have hget:a.tmps.getD t undef=(a.tmps[t]?).getD undef:=BF;unfold wpList;simp only [Ro] at h;split at h
     ·rename_i b' hb';rw [hb'] at hvt;have hbv:=Fk hvt;have htv:a.tmps[t]?=some (.bool b'):=by
       rw [hget] at hbv;cases hq:a.tmps[t]? with
       | none=>rw [hq] at hbv;simp [undef] at hbv
       | some y=>rw [hq] at hbv;simp at hbv;rw [hbv]
      rw [htv] at hw;simp only at hw;by_cases hbb:b'=b
      ·subst hbb;rw [if_pos (by rw [hw];simp)];left;refine hexec ?_;have:=h.1 rfl;cases k <;> exact this
      ·rw [if_neg (by rw [hw];simpa using hbb)];exact hskip (h.2 (by cases b' <;> cases b <;> simp_all))
     ·rename_i fs hb';rw [hb'] at hvt;simp only [RV] at hvt;obtain ⟨xs,hx,_⟩:=hvt;have hnb:∀ b',a.tmps[t]? ≠ some (.bool b'):=by
       intro b' hq;rw [hget,hq] at hx;simp at hx
      have:(match a.tmps[t]? with | some (.bool b')=>b' == b | _=>false)=false:=by
       split
       ·rename_i b' hq;exact absurd hq (hnb b')
       ·rfl
      rw [if_neg (by rw [hw,this];simp)];exact hskip h
     ·exact h.elim
 | [],_ :: _,_,_,_,_,_,hc,_,_,_,_,_,_,_=>by simp [Gb] at hc
 | _ :: _,[],_,_,_,_,_,hc,_,_,_,_,_,_,_=>by simp [Gb] at hc
def b6:=@LK.isP.eq_1
end Mv
