/- A part. -/
import Derived.Test.YtlfkjfonpacelaaGreatDoorIH
set_option linter.all false
namespace Mv
open Go
variable {M:Seat}
def put (A:List V) (d:Option Nat) (v:V):List V :=
 match d with
 | some i=>A.set i v
 | none=>A
theorem Abe {e e':Env} (hle:e.le e') {A:List V} {a:Act} (h:FR e A a.tmps) {v:V} {x:Value} (hv:RV e' v x) (d:Option Nat):FR e' (put A d v) (a.put d x).tmps:=by
 cases d with
 | none=>exact ⟨h.len,fun t=>Ic hle (h.val t)⟩
 | some i =>
   refine ⟨by simp [put,Act.put,h.len],fun t=>?_⟩;simp only [put,Act.put];have hl:=h.len;by_cases hti:i=t
   ·subst hti;by_cases hlt:i < A.length
    ·have e1:(A.set i v).getD i .junk=v:=by simp [List.getD,hlt]
     have e2:(a.tmps.setIfInBounds i x).getD i undef=x:=by simp [hl,hlt]
     rw [e1,e2];exact hv
    ·have e1:(A.set i v).getD i .junk = .junk:=by simp [List.getD,hlt]
     rw [e1];trivial
   ·have e1:(A.set i v).getD t .junk=A.getD t .junk:=by simp [List.getD,List.getElem?_set_ne hti]
    have e2:(a.tmps.setIfInBounds i x).getD t undef=a.tmps.getD t undef:=by
     simp [Array.getElem?_setIfInBounds_ne hti]
    rw [e1,e2];exact Ic hle (h.val t)
inductive LK where
 | lo (o:LO)
 | call (f:Nat) (xs:List X)
 | dyn (x:X) (xs:List X)
structure LOp where
 d:Option Nat
 k:LK
 g:Option (Nat × Bool):=none
structure DOp where
 ix:Nat
 bf:Nat
 o:LOp
inductive LC where
 | skip
 | reg (ops:List LOp)
 | regd (ops:List DOp)
 | seq (a b:LC)
 | cond (x:X) (a b:LC)
 | block (id:Nat) (c:LC)
 | loop (c:LC)
 | exit (id:Nat)
 | ret
def Rc (e:Env) (us:List V) (vs:Array Value):Prop:=vs.size=us.length∧∀ i,RV e (us.getD i .junk) (vs.getD i undef)
def Bg (M:Seat) (f:Nat) (us:List V) (H:Hp) (n:Nat) (K:V→Hp→Prop):Prop :=
 ∀ (c:Ctx) (e:Env) (vs:Array Value),Inv M c e H→(∀ id,n≤id→¬ e.D id)→c.k≤n→Rc e us vs →
  Calls M.P (M.φ f) vs e.w fun en w'=>∃ x v e' H',en = .returned x∧e'.w=w'∧e.le e'∧Inv M c e' H'∧RV e' v x∧(∀ id,e'.D id→e.D id ∨ (n≤id∧id < n + 16))∧K v H'
def Gf (M : Seat) (f : Nat) : Prop := f < 1000000 ∧ ∃ fn, M.P.funcs[M.φ f]? = some fn ∧ (fn.name != "runtime.NumGoroutine") = true ∧ fn.body.isSome = true
def Dc (M:Seat) (t k f:Nat):Prop:=Gf M f∧∀ v w,(Go.method (M.P.types.size + Made.depth) (M.τ t) v (L6 k)).run M.P w = .ok (M.φ f,v) w
def Fl (M:Seat) (u:V) (us:List V) (H:Hp) (n:Nat) (K:V→Hp→Prop):Prop :=
 match u with
 | .fn f (.st m caps) => ((Gf M f ∧ (List.range m).all (fun i => caps.fhas i && (caps.fget i).solid && !(caps.fget i).isAgg) = true) ∧ Bg M f (us ++ (List.range m).map (fun i => caps.fget i)) H n K) ∨
   (2000000≤f∧(Gf M (f - 2000000)∧(List.range m).all (fun i=>caps.fhas i && (caps.fget i).solid && !(caps.fget i).isAgg)=true)∧Bg M (f - 2000000) ((List.range m).map (fun i=>caps.fget i) ++ us) H n K)
 | .fcons k _ _ => (match us with
   | .ifc t v :: us'=>v.solid=true∧∃ f,Dc M t k f∧Bg M f (v :: us') H n K
   | _=>False)
 | _=>False
def Ro (M:Seat) (K:List V→Hp→Prop):List LOp→Nat→List V→Hp→Prop
 | [],_,A,H=>K A H
 | ⟨d, k, none⟩ :: r, n, A, H =>
   match k with
   | .lo o=>(Af A H n o).pre∧Ro M K r (n + 16) (put A d (Af A H n o).v) (Af A H n o).H
   | .call f xs=>Bg M f (xs.map (X.ev A)) H n (fun v H'=>Ro M K r (n + 16) (put A d v) H')
   | .dyn x xs=>Fl M (x.ev A) (xs.map (X.ev A)) H n (fun v H'=>Ro M K r (n + 16) (put A d v) H')
 | ⟨d, k, some (t, b)⟩ :: r, n, A, H =>
   match A.getD t .junk with
   | .bool b' => (b' = b → (match k with
     | .lo o=>(Af A H n o).pre∧Ro M K r (n + 16) (put A d (Af A H n o).v) (Af A H n o).H
     | .call f xs=>Bg M f (xs.map (X.ev A)) H n (fun v H'=>Ro M K r (n + 16) (put A d v) H')
     | .dyn x xs=>Fl M (x.ev A) (xs.map (X.ev A)) H n (fun v H'=>Ro M K r (n + 16) (put A d v) H')))∧(b' = !b→Ro M K r (n + 16) (put A d (.tup .fnil)) H)
   | .tup _=>Ro M K r (n + 16) (put A d (.tup .fnil)) H
   | _=>False
def I3 (M:Seat):List Operand→List X→Bool
 | [],[]=>true
 | x :: r,y :: r'=>A8 M x y && I3 M r r'
 | _,_=>false
def Sx (M:Seat) (op:Op) (k:LK):Bool :=
 match k with
 | .lo o=>Ab2 M op o
 | .call f xs => (match op with | .call c => (match c.callee with | .value (.func f') => M.φ f == f' && (match M.P.funcs[f']? with | some fn => fn.name != "runtime.NumGoroutine" && fn.body.isSome | none => false) | _ => false) && I3 M c.args.toList xs | _ => false)
 | .dyn x xs => (match op with
   | .call c => (match c.callee with
     | .value (.tmp t)=>A8 M (.tmp t) x && I3 M c.args.toList xs
     | .invoke r nm => (match x with
       | .c (.fcons k _ _)=>L6 k == nm
       | _=>false) && I3 M (r :: c.args.toList) xs
     | _=>false)
   | _=>false)
def QN (ops:Array Oper) (g:Option (Nat × Bool)) (g':Option (Nat × Bool)):Bool :=
 match g,g' with
 | none,none=>true
 | some (j,b),some (t,b')=>b == b' && (match (ops[j]?).bind (·.dst) with | some t'=>t == t' | none=>false)
 | _,_=>false
def Ji (M:Seat) (ops:Array Oper):List Oper→List LOp→Bool
 | [],[]=>true
 | o :: r,l :: r'=>decide (o.dst=l.d) && Sx M o.op l.k && QN ops o.guard l.g && Ji M ops r r'
 | _,_=>false
def X.ts:X→List Nat
 | .t i=>[i]
 | _=>[]
def UC (l:List X):List Nat:=l.flatMap X.ts
def ots:Option X→List Nat
 | some x=>x.ts
 | none=>[]
def LO.ts:LO→List Nat
 | .mv x | .un _ x | .conv _ x | .box x | .load _ _ x | .nilc x | .fadr _ x | .fld _ _ _ x | .s2a _ _ x | .mkif _ x | .ext x _ | .len _ x=>x.ts
 | .pick c a b=>c.ts ++ a.ts ++ b.ts
 | .ari _ x y | .eq _ _ _ x y | .store _ x y | .iarr _ _ x y | .isl _ x y | .idx _ _ _ x y | .app _ _ x y | .copy _ x y | .mm _ x y | .mksl _ _ _ x y=>x.ts ++ y.ts
 | .alloc _=>[]
 | .build _ ps=>UC (ps.map fun q=>q.2.2)
 | .bsl _ _ _ ps=>UC (ps.map fun q=>q.2.2)
 | .slarr _ _ x lo hi | .slsl _ x lo hi=>x.ts ++ ots lo ++ ots hi
 | .mkfn _ xs=>UC xs
 | .mkmap _ _=>[]
 | .mlook _ _ _ x y=>x.ts ++ y.ts
 | .mupd _ x y z=>x.ts ++ y.ts ++ z.ts
 | .sidx x y=>x.ts ++ y.ts
 | .mkmth _ x | .nilm _ _ x | .mclone x | .tas _ x | .b2s x | .rng x | .nxt x=>x.ts
 | .add64 x y z=>x.ts ++ y.ts ++ z.ts
 | .mm4 _ x y z w=>x.ts ++ y.ts ++ z.ts ++ w.ts
 | .nope=>[]
def LK.ts:LK→List Nat
 | .lo o=>o.ts
 | .call _ xs=>UC xs
 | .dyn x xs=>x.ts ++ UC xs
def LOp.ts (o:LOp):List Nat:=(match o.g with | some (t,_)=>[t] | none=>[]) ++ o.k.ts
def LK.isW:LK→Bool
 | .lo o=>(match o with | .store .. | .app .. | .copy .. | .mupd .. | .mclone .. | .rng ..=>true | _=>false)
 | _=>true
def LK.isA:LK→Bool
 | .lo o=>(match o with | .alloc .. | .box .. | .bsl .. | .mksl .. | .mkmap ..=>true | _=>false)
 | _=>false
def LK.isP:LK→Bool
 | .lo o=>(match o with | .store .. | .app .. | .copy .. | .load .. | .slarr .. | .len .. | .mlook .. | .mupd .. | .mclone .. | .b2s .. | .rng .. | .nxt ..=>false | _=>true)
 | _=>false
def C6 (L:List DOp) (i:Nat):Nat:=L.findIdx (fun d=>d.ix == i)
def CL (L:List DOp) (p:Nat):Nat:=((L[p]?).map (·.bf)).getD 0
def clo (L:List DOp) (es:List Edge):Nat:=es.foldl (fun b e=>if Region.binds .any e then b ||| (2 ^ C6 L e.on) ||| CL L (C6 L e.on) else b) 0
def XD (M:Seat) (ops:Array Oper) (L:List DOp) (p:Nat):Bool :=
 match L[p]? with
 | none=>false
 | some d => (match ops[d.ix]? with
   | none=>false
   | some o=>(decide (o.dst=d.o.d) && Sx M o.op d.o.k && QN ops o.guard d.o.g) && (C6 L d.ix == p) && (d.bf == clo L o.after.toList) &&
    o.after.toList.all (fun e=>!Region.binds .any e || decide (C6 L e.on < p)) &&
    (!d.o.k.isW || d.bf == 2 ^ p - 1) &&
    d.o.ts.all (fun t=>(List.range L.length).all (fun j=>!((L[j]?).bind (·.o.d) == some t) || d.bf.testBit j || (decide (p < j) && (CL L j).testBit p) || j == p)))
def Afa (M:Seat) (ops:Array Oper) (L:List DOp):Bool :=
 M.P.follows .mixedOrders && L.length == ops.size && (List.range ops.size).all (fun i=>decide (C6 L i < ops.size)) && (List.range L.length).all (fun p=>XD M ops L p) &&
 (List.range L.length).all (fun p=>(List.range L.length).all (fun q=>p == q || (match (L[p]?).bind (·.o.d),(L[q]?).bind (·.o.d) with | some a,some b=>a != b | _,_=>true)))
def Cm (M:Seat):Code→LC→Bool
 | .skip,.skip=>true
 | .region _ ops draw,.reg l=>draw == false && Ji M ops ops.toList l
 | .region _ ops draw,.regd L=>draw == true && Afa M ops L
 | .seq a b,.seq a' b'=>Cm M a a' && Cm M b b'
 | .cond x a b,.cond y a' b'=>A8 M x y && Cm M a a' && Cm M b b'
 | .block i c,.block i' c'=>i == i' && Cm M c c'
 | .loop c,.loop c'=>Cm M c c'
 | .exit i,.exit i'=>i == i'
 | .ret,.ret=>true
 | _,_=>false
def VP (M:Seat) (c:Ctx) (A:List V) (H:Hp) (N:Nat) (a:Act) (w:World):Prop :=
 ∃ e,e.w=w∧Inv M c e H∧FR e A a.tmps∧(∀ id,N≤id→¬ e.D id)∧c.k≤N∧a.defers=[]
theorem Kt {c:Ctx} {e:Env} {H:Hp} (hI:Inv M c e H) {A:List V} {a:Act} (hA:FR e A a.tmps):∀ (xs:List Operand) (ys:List X),I3 M xs ys=true→Rc e (ys.map (X.ev A)) (xs.map a.eval).toArray
 | [],[],_=>⟨rfl,fun i=>by simp [RV]⟩
 | x :: xs, y :: ys, h => by
   simp only [I3,Bool.and_eq_true] at h;obtain ⟨h1,h2⟩:=Kt hI hA xs ys h.2;refine ⟨by simpa using h1,fun i=>?_⟩;cases i with
   | zero=>simpa [List.getD] using A9 hI.φ hA h.1 (Dd hI h.1)
   | succ i =>
     have:=h2 i;simpa [List.getD] using this
 | [],_ :: _,h=>by simp [I3] at h
 | _ :: _,[],h=>by simp [I3] at h
theorem Lr {ρ : Operand → Value} {k : Call} {ty : TypeId} {f : Nat} {first cap : Array Value} {w : World} {x : Operand} {fn : Func} (hc : k.callee = .value x) (hx : ρ x = .func (.func f) first cap) (hf : M.P.funcs[f]? = some fn) (hn : fn.name != "runtime.NumGoroutine") (hb : fn.body.isSome = true) :
 Sem.run M.P (do let d ← resolve ρ k ty;invoke d.target d.args) w = .ok (.enter f (first ++ k.args.map ρ ++ cap)) w:=by
 have hn' : (fn.name == "runtime.NumGoroutine") = false := by simpa [bne] using hn
 have hb':fn.body.isNone=false:=by cases hfb:fn.body <;> simp_all
 unfold resolve;simp only [hc,hx,Deferred.ofValue,FW,invoke,callFunc,run_program,hf,hn',hb',To]
theorem Aho {ρ : Operand → Value} {k : Call} {ty : TypeId} {r : Operand} {nm : String} {t : TypeId} {v : Value} {f : Nat} {w : World} {fn : Func} (hc : k.callee = .invoke r nm) (hx : ρ r = .iface t v) (hm : (Go.method (M.P.types.size + Made.depth) t v nm).run M.P w = .ok (f, v) w) (hf : M.P.funcs[f]? = some fn) (hn : fn.name != "runtime.NumGoroutine") (hb : fn.body.isSome = true) :
 Sem.run M.P (do let d ← resolve ρ k ty;invoke d.target d.args) w = .ok (.enter f (#[v] ++ k.args.map ρ)) w:=by
 have hn' : (fn.name == "runtime.NumGoroutine") = false := by simpa [bne] using hn
 have hb':fn.body.isNone=false:=by cases hfb:fn.body <;> simp_all
 unfold resolve;have e1:(#[Value.iface t v] ++ k.args.map ρ).extract 1 (#[Value.iface t v] ++ k.args.map ρ).size=k.args.map ρ:=by apply Array.ext';simp [List.take_of_length_le]
 simp only [hc,hx,FW,invoke];have e0:(#[Value.iface t v] ++ k.args.map ρ)[0]?=some (Value.iface t v):=by rw [Array.getElem?_append_left (by show 0 < 1;omega)];rfl
 split;case h_2 h=>exact (h _ e0).elim
 rename_i recv hr;cases (hr.symm.trans e0);simp only [e1,callMethod,FW,run_program,hm,callFunc,hf,hn',hb',To]
def OpK (M:Seat) (A:List V) (H:Hp) (n:Nat) (k:LK) (K:V→Hp→Prop):Prop :=
 match k with
 | .lo lo=>(Af A H n lo).pre∧K (Af A H n lo).v (Af A H n lo).H
 | .call f xs=>Bg M f (xs.map (X.ev A)) H n K
 | .dyn x xs=>Fl M (x.ev A) (xs.map (X.ev A)) H n K
theorem T9 {c:Ctx} {K:V→Hp→Prop} {Q:Exit→Act→World→Prop} {next:Act→World→Prop} {A:List V} {H:Hp} {n:Nat} {e:Env} {a:Act} {o:Oper} {d:Option Nat} {k:LK}
 (hI:Inv M c e H) (hA:FR e A a.tmps) (hD0:¬ e.D n) (hD:(∀ lo,k ≠ .lo lo)→∀ id,n≤id→¬ e.D id) (hk:c.k≤n) (hd:o.dst=d) (hc:Sx M o.op k=true)
 (hr:∀ v x H' e',Inv M c e' H'→RV e' v x→e.le e'→(∀ id,e'.D id→e.D id ∨ (n≤id∧id < n + 16))→K v H'→next (a.put d x) e'.w)
 (h:OpK M A H n k K) :
 o.wp M.P a e.w next Q:=by
 subst hd;have callcase:(∀ id,n≤id→¬ e.D id)→∀ (f:Nat) (us:List V) (vs:Array Value),(execOp a.eval o).run M.P e.w = .ok (.enter (M.φ f) vs) e.w→Rc e us vs→Bg M f us H n K→o.wp M.P a e.w next Q:=by
  intro hD f us vs hrun hargs hcall;unfold Oper.wp;rw [hrun];simp only [Oper.upon];refine (hcall c e vs hI hD hk hargs).mono ?_;rintro en w' ⟨x,v,e',H',rfl,rfl,hle,hI',hv,hD',hK⟩;exact hr _ _ _ e' hI' hv hle hD' hK
 cases k with
 | lo lo =>
   obtain ⟨hp,hK⟩:=h;obtain ⟨x,e',hrun,hle,hI',hv,hD'⟩:=T7 hI hA hD0 hk hc hp;unfold Oper.wp;rcases hrun with hrun | ⟨hrun,hx⟩
   ·rw [hrun];exact hr _ _ _ e' hI' hv hle (fun id h=>(hD' id h).imp_right (fun h=>by omega)) hK
   ·subst hx;rw [hrun];exact hr _ _ _ e' hI' hv hle (fun id h=>(hD' id h).imp_right (fun h=>by omega)) hK
 | call f xs =>
   simp only [Sx] at hc;split at hc;case h_2=>cases hc
   rename_i kc hop;simp only [Bool.and_eq_true] at hc;obtain ⟨h1,h2⟩:=hc;split at h1;case h_2=>cases h1
   rename_i f' hcal;simp only [Bool.and_eq_true,beq_iff_eq] at h1;obtain ⟨rfl,h1⟩:=h1;split at h1;case h_2=>cases h1
   rename_i fn hfn;simp only [Bool.and_eq_true] at h1;have hrun:(execOp a.eval o).run M.P e.w = .ok (.enter (M.φ f) ((#[]:Array Value) ++ kc.args.map a.eval ++ #[])) e.w:=by
    unfold execOp;rw [hop];exact Lr hcal rfl hfn h1.1 h1.2
   refine callcase (hD (fun _ h=>by cases h)) f _ _ hrun ?_ h;have:=Kt hI hA _ _ h2;have e1:((#[]:Array Value) ++ kc.args.map a.eval ++ #[])=(kc.args.toList.map a.eval).toArray:=by apply Array.ext';simp
   rw [e1];exact this
 | dyn x xs =>
   simp only [Sx] at hc;split at hc;case h_2=>cases hc
   rename_i kc hop;split at hc;case h_3=>cases hc
   case h_2 r nm hcal =>
    simp only [Bool.and_eq_true] at hc;obtain ⟨h1,h2⟩:=hc;split at h1;case h_2=>cases h1
    rename_i x k u1 u2;simp only [beq_iff_eq] at h1;subst h1;have h:Fl M (.fcons k u1 u2) (xs.map (X.ev A)) H n K:=h;cases xs with
    | nil=>exact h.elim
    | cons y xs' =>
      have hy:=h2;simp only [I3,Bool.and_eq_true] at hy;have hv:=A9 hI.φ hA hy.1 (Dd hI hy.1);simp only [Fl,List.map_cons] at h;generalize hx:X.ev A y=u at h;cases u <;> try exact h.elim
      rename_i t v;obtain ⟨hs,f,⟨⟨_,fn,hfn,hnm,hbd⟩,hm⟩,hcall⟩:=h;rw [hx] at hv;simp only [RV,RS,V.isAgg,R,Gd] at hv;obtain ⟨z,hval,_,hz⟩:=hv;rw [hI.τ] at hval;have hrun:(execOp a.eval o).run M.P e.w = .ok (.enter (M.φ f) (#[z] ++ kc.args.map a.eval)) e.w:=by
       unfold execOp;rw [hop];exact Aho hcal hval (hm z e.w) hfn hnm hbd
      refine callcase (hD (fun _ h=>by cases h)) f _ _ hrun ?_ hcall;obtain ⟨q1,q2⟩:=Kt hI hA _ _ hy.2;have e1:(#[z] ++ kc.args.map a.eval)=(z :: kc.args.toList.map a.eval).toArray:=by apply Array.ext';simp
      rw [e1];refine ⟨by simpa using q1,fun i=>?_⟩;cases i with
      | zero =>
        rw [show (v :: List.map (X.ev A) xs').getD 0 .junk=v from rfl,Bh hs];exact hz
      | succ i =>
        have:=q2 i;simpa [List.getD] using this
   simp only [Bool.and_eq_true] at hc;obtain ⟨h1,h2⟩:=hc;rename_i t hcal;have hv:=A9 hI.φ hA h1 (Dd hI h1);have h:Fl M (x.ev A) (xs.map (X.ev A)) H n K:=h;unfold Fl at h;split at h;case h_3=>exact h.elim
   case h_2 hx=>rw [hx] at hv;exact hv.elim
   rename_i f m caps hx;rw [hx] at hv;simp only [RV,RS,V.isAgg,R,Gd] at hv;obtain ⟨xsv,hval,hlen,⟨_,hone⟩,hR⟩:=hv;have hcapi:∀ (_:(List.range m).all (fun i=>caps.fhas i && (caps.fget i).solid && !(caps.fget i).isAgg)=true) j,j < m→RV e (caps.fget j) (xsv.getD j undef):=by
    intro hcaps j hj;have:=List.all_eq_true.1 hcaps j (List.mem_range.2 hj);simp only [Lb0] at this;obtain ⟨⟨k1,k2⟩,k3⟩:=this;obtain ⟨g1,g2⟩:=H7 hR k1;have hs1:(caps.fget j).size=1:=by
     have:=Nz k2 g2;cases hc:caps.fget j <;> rw [hc] at k2 k3 <;> simp_all [V.solid,V.isAgg,V.size]
    rw [hs1] at g2;rw [Bh k2];unfold RS;rw [k3];have hlt:j < xsv.length:=Aa;have:(xsv.drop j).take 1=[xsv.getD j undef]:=by
     rw [List.drop_eq_getElem_cons hlt,List.take_succ_cons,List.take_zero];simp [List.getD,hlt]
    rw [this] at g2;exact g2
   have hcm:∀ j,j < m→((List.range m).map (fun i=>caps.fget i)).getD j .junk=caps.fget j:=fun j hj=>by
    rw [List.getD_eq_getElem?_getD,List.getElem?_map,List.getElem?_range hj];rfl
   obtain ⟨q1,q2⟩:=Kt hI hA _ _ h2;have hsz:(kc.args.map a.eval).size=(xs.map (X.ev A)).length:=by simpa using q1
   rcases h with ⟨⟨⟨hlt,fn,hfn,hnm,hbd⟩,hcaps⟩,hcall⟩ | ⟨h2m,⟨⟨hlt,fn,hfn,hnm,hbd⟩,hcaps⟩,hcall⟩
   ·have hcapi:=hcapi hcaps;rw [hI.φ,Sa,if_pos hlt] at hval;have hrun:(execOp a.eval o).run M.P e.w = .ok (.enter (M.φ f) ((#[]:Array Value) ++ kc.args.map a.eval ++ xsv.toArray)) e.w:=by
     unfold execOp;rw [hop];exact Lr hcal hval hfn hnm hbd
    refine callcase (hD (fun _ h=>by cases h)) f _ _ hrun ?_ hcall;refine ⟨?_,fun i=>?_⟩
    ·simp only [List.size_toArray,List.length_map] at q1;simp [hlen];exact q1
    ·by_cases hi:i < (xs.map (X.ev A)).length
     ·have e1:((xs.map (X.ev A)) ++ (List.range m).map (fun i=>caps.fget i)).getD i .junk=(xs.map (X.ev A)).getD i .junk:=by
       simp only [List.getD,List.getElem?_append,hi,if_true]
      have e2:(((#[]:Array Value) ++ kc.args.map a.eval ++ xsv.toArray)).getD i undef=((kc.args.toList.map a.eval).toArray).getD i undef:=by
       have hi':i < kc.args.size:=by
        have:kc.args.size=(xs.map (X.ev A)).length:=by simpa using hsz
        omega
       simp [Array.getElem?_append,hi']
      rw [e1,e2];exact q2 i
     ·have hge:¬ i < kc.args.size:=by
       have:kc.args.size=(xs.map (X.ev A)).length:=by simpa using hsz
       omega
      have e1:((xs.map (X.ev A)) ++ (List.range m).map (fun i=>caps.fget i)).getD i .junk=(((List.range m).map (fun i=>caps.fget i)).getD (i - (xs.map (X.ev A)).length) .junk):=by
       simp only [List.getD,List.getElem?_append,hi,if_false]
      have e2:(((#[]:Array Value) ++ kc.args.map a.eval ++ xsv.toArray)).getD i undef=xsv.getD (i - (xs.map (X.ev A)).length) undef:=by
       have:kc.args.size=(xs.map (X.ev A)).length:=by simpa using hsz
       rw [← this];simp [Array.getElem?_append,hge,List.getD]
      rw [e1,e2];by_cases hj:i - (xs.map (X.ev A)).length < m
      ·rw [hcm _ hj];exact hcapi _ hj
      ·have:((List.range m).map (fun i=>caps.fget i)).getD (i - (xs.map (X.ev A)).length) .junk = .junk:=by
        rw [List.getD_eq_getElem?_getD,List.getElem?_eq_none (by rw [List.length_map,List.length_range];exact Nat.le_of_not_lt hj)];rfl
       rw [this];trivial
   ·have hcapi:=hcapi hcaps;rw [hI.φ,Sa,if_neg Aa,if_neg Aa] at hval;have hrun:(execOp a.eval o).run M.P e.w = .ok (.enter (M.φ (f - 2000000)) (xsv.toArray ++ kc.args.map a.eval ++ (#[]:Array Value))) e.w:=by
     unfold execOp;rw [hop];exact Lr hcal hval hfn hnm hbd
    refine callcase (hD (fun _ h=>by cases h)) (f - 2000000) _ _ hrun ?_ hcall;refine ⟨?_,fun i=>?_⟩
    ·simp only [List.size_toArray,List.length_map] at q1;simp [hlen];omega
    ·by_cases hi:i < m
     ·have e1:((List.range m).map (fun i=>caps.fget i) ++ (xs.map (X.ev A))).getD i .junk=((List.range m).map (fun i=>caps.fget i)).getD i .junk:=by
       simp only [List.getD,List.getElem?_append,List.length_map,List.length_range,hi,if_true]
      have e2:((xsv.toArray ++ kc.args.map a.eval ++ (#[]:Array Value))).getD i undef=xsv.getD i undef:=by
       have:i < xsv.length:=Aa;simp [Array.getElem?_append,this,List.getD]
      rw [e1,e2,hcm i hi];exact hcapi i hi
     ·have e1:((List.range m).map (fun i=>caps.fget i) ++ (xs.map (X.ev A))).getD i .junk=(xs.map (X.ev A)).getD (i - m) .junk:=by
       simp only [List.getD,List.getElem?_append,List.length_map,List.length_range,hi,if_false]
      have e2:((xsv.toArray ++ kc.args.map a.eval ++ (#[]:Array Value))).getD i undef=((kc.args.toList.map a.eval).toArray).getD (i - m) undef:=by
       have:¬ i < xsv.length:=Aa;rw [Array.append_empty,Array.getD_eq_getD_getElem?,Array.getElem?_append,if_neg (by simpa using this)];simp [hlen]
      rw [e1,e2];exact q2 (i - m)
theorem Aq8 {c:Ctx} {K:List V→Hp→Prop} {Q:Exit→Act→World→Prop} {next:Act→World→Prop} {A:List V} {H:Hp} {n:Nat} {e:Env} {a:Act} {o:Oper} {d:Option Nat} {k:LK}
 (hI:Inv M c e H) (hA:FR e A a.tmps) (hD:∀ id,n≤id→¬ e.D id) (hk:c.k≤n) (hdef:a.defers=[]) (hd:o.dst=d) (hc:Sx M o.op k=true)
 (hr:∀ A' H' a' e',Inv M c e' H'→FR e' A' a'.tmps→(∀ id,n + 16≤id→¬ e'.D id)→a'.defers=[]→K A' H'→next a' e'.w)
 (h:match k with
  | .lo lo=>(Af A H n lo).pre∧K (put A d (Af A H n lo).v) (Af A H n lo).H
  | .call f xs=>Bg M f (xs.map (X.ev A)) H n (fun v H'=>K (put A d v) H')
  | .dyn x xs=>Fl M (x.ev A) (xs.map (X.ev A)) H n (fun v H'=>K (put A d v) H')) :
 o.wp M.P a e.w next Q:=by
 refine T9 (K:=fun v H'=>K (put A d v) H') hI hA (hD n (Nat.le_refl n)) (fun _=>hD) hk hd hc (fun v x H' e' hI' hv hle hD' hK=>?_) (by cases k <;> exact h);refine hr _ _ _ e' hI' (Abe hle hA hv d) (fun id hid hd'=>?_) (by cases d <;> exact hdef) hK;rcases hD' id hd' with h1 | h1
 ·exact hD id Aa h1
 ·omega
theorem N6 {ops:Array Oper} {g:Option (Nat × Bool)} {t:Nat} {b:Bool} (h:QN ops g (some (t,b))=true) (tmps:Array Value) (o:Oper) (ho:o.guard=g) :
 Region.wanted o (yielded ops tmps)=(match tmps[t]? with | some (.bool b')=>b' == b | _=>false):=by
 subst ho;cases hg:o.guard with
 | none=>rw [hg] at h;simp [QN] at h
 | some q =>
   obtain ⟨j,w⟩:=q;rw [hg] at h;simp only [QN,Bool.and_eq_true,beq_iff_eq] at h;obtain ⟨rfl,h⟩:=h;split at h;case h_2=>cases h
   rename_i t' ht';simp only [beq_iff_eq] at h;subst h;simp only [Region.wanted,hg,yielded,ht',Option.bind_some];split
   ·rename_i b' hb';simp only [hb'];cases b' <;> cases w <;> rfl
   ·rename_i hb';split
    ·rename_i b' hb'';exact absurd hb'' (hb' b')
    ·cases w <;> rfl
theorem PJ {c:Ctx} {K:List V→Hp→Prop} {Q:Exit→Act→World→Prop} {ops:Array Oper} :
 ∀ (l:List Oper) (ls:List LOp) (n:Nat) (A:List V) (H:Hp) (e:Env) (a:Act),Ji M ops l ls=true→Inv M c e H→FR e A a.tmps→(∀ id,n≤id→¬ e.D id)→c.k≤n→a.defers=[] →
  (∀ A' H' N' a' w',VP M c A' H' N' a' w'→N'=n + 16 * ls.length→K A' H'→Q .normal a' w')→Ro M K ls n A H→wpList M.P ops Q l a e.w
 | [], [], n, A, H, e, a, _, hI, hA, hD, hk, hdef, hK, h => by
   simp only [Ro] at h;exact hK A H n a e.w ⟨e,rfl,hI,hA,hD,hk,hdef⟩ B9 h
 | o :: l, ⟨d, k, g⟩ :: ls, n, A, H, e, a, hc, hI, hA, hD, hk, hdef, hK, h => by
   simp only [Ji,Bool.and_eq_true,decide_eq_true_eq] at hc;obtain ⟨⟨⟨hd,hck⟩,hcg⟩,hcl⟩:=hc;have AB:∀ A' H' a' e',Inv M c e' H'→FR e' A' a'.tmps→(∀ id,n + 16≤id→¬ e'.D id)→a'.defers=[]→Ro M K ls (n + 16) A' H'→wpList M.P ops Q l a' e'.w:=by
    intro A' H' a' e' hI' hA' hD' hdef' hR;refine PJ l ls (n + 16) A' H' e' a' hcl hI' hA' hD' Aa hdef' ?_ hR;intro A'' H'' N'' a'' w'' hs hN hKK;exact hK A'' H'' N'' a'' w'' hs (by simp only [List.length_cons];omega) hKK
   have hexec:(match k with
    | .lo o=>(Af A H n o).pre∧Ro M K ls (n + 16) (put A d (Af A H n o).v) (Af A H n o).H
    | .call f xs=>Bg M f (xs.map (X.ev A)) H n (fun v H'=>Ro M K ls (n + 16) (put A d v) H')
    | .dyn x xs=>Fl M (x.ev A) (xs.map (X.ev A)) H n (fun v H'=>Ro M K ls (n + 16) (put A d v) H'))→o.wp M.P a e.w (wpList M.P ops Q l) Q:=by
    intro hx;refine Aq8 (K:=fun A' H'=>Ro M K ls (n + 16) A' H') hI hA hD hk hdef hd hck AB ?_;cases k <;> exact hx
   have hskip:Ro M K ls (n + 16) (put A d (.tup .fnil)) H→wpList M.P ops Q l (a.put o.dst undef) e.w:=by
    intro hx;subst hd;exact AB _ _ _ e hI (Abe (Env.le_refl e) hA (v:=.tup .fnil) (x:=undef) ⟨#[],rfl,trivial⟩ o.dst) (fun id hid=>hD id Aa) (by cases o.dst <;> exact hdef) hx
   cases g with
   | none =>
     have hg:o.guard=none:=by
      cases ho:o.guard with
      | none=>rfl
      | some q=>rw [ho] at hcg;simp [QN] at hcg
     unfold wpList;have hw:Region.wanted o (yielded ops a.tmps)=true:=by simp [Region.wanted,hg]
     rw [if_pos hw];left;refine hexec ?_;cases k <;> simpa only [Ro] using h
   | some q =>
     obtain ⟨t,b⟩:=q;have hw:=N6 hcg a.tmps o rfl;have hvt:=hA.val t;have hget:a.tmps.getD t undef=(a.tmps[t]?).getD undef:=B9;unfold wpList;simp only [Ro] at h;split at h
     ·rename_i b' hb';rw [hb'] at hvt;have hbv:=FL hvt;have htv:a.tmps[t]?=some (.bool b'):=by
       rw [hget] at hbv;cases hq:a.tmps[t]? with
       | none=>rw [hq] at hbv;simp [undef] at hbv
       | some y=>rw [hq] at hbv;simp at hbv;rw [hbv]
      rw [htv] at hw;simp only at hw;by_cases hbb:b'=b
      ·subst hbb;rw [if_pos (by rw [hw];simp)];left;refine hexec ?_;have:=h.1 rfl;cases k <;> exact this
      ·rw [if_neg (by rw [hw];simpa using hbb)];exact hskip (h.2 (by cases b' <;> cases b <;> simp_all))
     ·rename_i fs hb';rw [hb'] at hvt;simp only [RV] at hvt;obtain ⟨xs,hx,_⟩:=hvt;have hnb:∀ b',a.tmps[t]? ≠ some (.bool b'):=by
       intro b' hq;rw [hget,hq] at hx;simp at hx
      have:(match a.tmps[t]? with | some (.bool b')=>b' == b | _=>false)=false:=by
       split
       ·rename_i b' hq;exact absurd hq (hnb b')
       ·rfl
      rw [if_neg (by rw [hw,this];simp)];exact hskip h
     ·exact h.elim
 | [],_ :: _,_,_,_,_,_,hc,_,_,_,_,_,_,_=>by simp [Ji] at hc
 | _ :: _,[],_,_,_,_,_,hc,_,_,_,_,_,_,_=>by simp [Ji] at hc
def j6:=@LK.isP.eq_1
theorem Bq {A B:List V} {x:X} (h:∀ t ∈ x.ts,A.getD t .junk=B.getD t .junk):x.ev A=x.ev B:=by
 cases x <;> simp only [X.ev];exact h _ (by simp [X.ts])
theorem F4 {A B:List V}:∀ (ps:List (Stp × Nat × X)) (c:V),(∀ t ∈ UC (ps.map fun q=>q.2.2),A.getD t .junk=B.getD t .junk)→CK c A ps=CK c B ps∧(BT c A ps ↔ BT c B ps)
 | [],c,_=>⟨rfl,Iff.rfl⟩
 | (s, sz, x) :: r, c, h => by
   have hx:x.ev A=x.ev B:=Bq fun t ht=>h t (by simp [UC,ht]);have hr:=F4 r (V.set (x.ev B) [s] c) (fun t ht=>h t (by simp only [UC,List.map_cons,List.flatMap_cons,List.mem_append];exact .inr ht));simp only [CK,BT,hx];exact ⟨hr.1,by rw [hr.2]⟩
theorem JY {A B:List V}:∀ (xs:List X) (n:Nat),(∀ t ∈ UC xs,A.getD t .junk=B.getD t .junk)→EG A xs n=EG B xs n∧(Dq A xs ↔ Dq B xs)
 | [],_,_=>⟨rfl,Iff.rfl⟩
 | x :: r, n, h => by
   have hx:x.ev A=x.ev B:=Bq fun t ht=>h t (by simp [UC,ht]);have hr:=JY r (n + 1) (fun t ht=>h t (by simp only [UC,List.flatMap_cons,List.mem_append];exact .inr ht));simp only [EG,Dq,hx,hr.1,hr.2];exact ⟨trivial,trivial⟩
theorem Jj {A B:List V}:∀ (xs:List X),(∀ t ∈ UC xs,A.getD t .junk=B.getD t .junk)→xs.map (X.ev A)=xs.map (X.ev B)
 | [],_=>rfl
 | x :: r, h => by
   have hx:x.ev A=x.ev B:=Bq fun t ht=>h t (by simp [UC,ht]);rw [List.map_cons,List.map_cons,hx,Jj r (fun t ht=>h t (by simp only [UC,List.flatMap_cons,List.mem_append];exact .inr ht))]
theorem GU {A B:List V} {o:Option X} (h:∀ t ∈ ots o,A.getD t .junk=B.getD t .junk) (d:Int):AN A d o=AN B d o∧Cf A o=Cf B o:=by
 cases o with
 | none=>exact ⟨rfl,rfl⟩
 | some x =>
   have hx:x.ev A=x.ev B:=Bq h;simp only [AN,Cf,hx];exact ⟨trivial,trivial⟩
theorem HN {A B:List V} (H:Hp) (n:Nat):∀ (o:LO),(∀ t ∈ o.ts,A.getD t .junk=B.getD t .junk)→Af A H n o=Af B H n o:=by
 intro o h;cases o <;> simp only [LO.ts,List.mem_append] at h;case build z ps =>
  obtain ⟨h1,h2⟩:=F4 ps (z.v 0) h;simp only [Af,h1,propext h2]
 case bsl sz m z ps =>
  obtain ⟨h1,h2⟩:=F4 ps (.ar sz m (fun _=>z.v 0)) h;simp only [Af,h1,propext h2]
 case mkfn f xs =>
  obtain ⟨h1,h2⟩:=JY xs 0 h;simp only [Af,h1,propext h2]
 case slarr m sz x lo hi =>
  have hx:x.ev A=x.ev B:=Bq fun t ht=>h t (.inl (.inl ht));have hl:=fun d=>GU (o:=lo) (fun t ht=>h t (.inl (.inr ht))) d;have hh:=fun d=>GU (o:=hi) (fun t ht=>h t (.inr ht)) d;simp only [Af,hx,(hl 0).1,(hl 0).2,(hh m).1,(hh m).2]
 case slsl sz x lo hi =>
  have hx:x.ev A=x.ev B:=Bq fun t ht=>h t (.inl (.inl ht));have hl:=fun d=>GU (o:=lo) (fun t ht=>h t (.inl (.inr ht))) d;have hh:=fun d=>GU (o:=hi) (fun t ht=>h t (.inr ht)) d;have h3:∀ d,AN A d hi=AN B d hi:=fun d=>(hh d).1;simp only [Af,hx,(hl 0).1,(hl 0).2,h3,(hh 0).2]
 case pick c a b =>
  have h1:c.ev A=c.ev B:=Bq fun t ht=>h t (.inl (.inl ht));have h2:a.ev A=a.ev B:=Bq fun t ht=>h t (.inl (.inr ht));have h3:b.ev A=b.ev B:=Bq fun t ht=>h t (.inr ht);simp only [Af,h1,h2,h3]
 case alloc=>rfl
 case mkmap=>rfl
 case nope=>rfl
 case mm4 m a b c d =>
  have h1:a.ev A=a.ev B:=Bq fun t ht=>h t (.inl (.inl (.inl ht)));have h2:b.ev A=b.ev B:=Bq fun t ht=>h t (.inl (.inl (.inr ht)));have h3:c.ev A=c.ev B:=Bq fun t ht=>h t (.inl (.inr ht));have h4:d.ev A=d.ev B:=Bq fun t ht=>h t (.inr ht);simp only [Af,h1,h2,h3,h4]
 case add64 a b c =>
  have h1:a.ev A=a.ev B:=Bq fun t ht=>h t (.inl (.inl ht));have h2:b.ev A=b.ev B:=Bq fun t ht=>h t (.inl (.inr ht));have h3:c.ev A=c.ev B:=Bq fun t ht=>h t (.inr ht);simp only [Af,h1,h2,h3]
 case mupd s a b c =>
  have h1:a.ev A=a.ev B:=Bq fun t ht=>h t (.inl (.inl ht));have h2:b.ev A=b.ev B:=Bq fun t ht=>h t (.inl (.inr ht));have h3:c.ev A=c.ev B:=Bq fun t ht=>h t (.inr ht);simp only [Af,h1,h2,h3]
 case mv x | mclone x | rng x | nxt x | tas _ x | b2s x | mkmth _ x | nilm _ _ x | un _ x | conv _ x | box x | load _ _ x | nilc x | fadr _ x | fld _ _ _ x | s2a _ _ x | mkif _ x | ext x _ | len _ x =>
  have h1:x.ev A=x.ev B:=Bq h;simp only [Af,h1]
 case ari _ x y | eq _ _ _ x y | store _ x y | iarr _ _ x y | isl _ x y | idx _ _ _ x y | app _ _ x y | copy _ x y | mm _ x y | mksl _ _ _ x y | mlook _ _ _ x y | sidx x y =>
  have h1:x.ev A=x.ev B:=Bq fun t ht=>h t (.inl ht);have h2:y.ev A=y.ev B:=Bq fun t ht=>h t (.inr ht);simp only [Af,h1,h2]
theorem VG (op:BinOp) (x y:V) (H H':Hp):(Bm op x y H).pre=(Bm op x y H').pre∧(Bm op x y H).v=(Bm op x y H').v:=by
 cases x <;> cases y <;> try exact ⟨rfl,rfl⟩
 cases op <;> exact ⟨rfl,rfl⟩
theorem Acd (op:UnOp) (x:V) (H H':Hp):(XB op x H).pre=(XB op x H').pre∧(XB op x H).v=(XB op x H').v:=by
 cases op <;> cases x <;> exact ⟨rfl,rfl⟩
theorem VO (A:List V) (H H':Hp) (n:Nat) (o:LO) (h:LK.isP (.lo o)=true):(Af A H n o).pre=(Af A H' n o).pre∧(Af A H n o).v=(Af A H' n o).v:=by
 cases o <;> simp only [LK.isP,Bool.false_eq_true] at h;case ari op x y=>exact VG _ _ _ _ _
 case un op x=>exact Acd _ _ _ _
 case pick c a b=>simp only [Af];split <;> exact ⟨rfl,rfl⟩
 case conv k x=>simp only [Af];split <;> exact ⟨rfl,rfl⟩
 case nilc x=>simp only [Af];split <;> exact ⟨rfl,rfl⟩
 case fadr x=>simp only [Af];split <;> exact ⟨rfl,rfl⟩
 case iarr x=>simp only [Af];split <;> exact ⟨rfl,rfl⟩
 case isl x=>simp only [Af];split <;> exact ⟨rfl,rfl⟩
 case idx x=>simp only [Af];split <;> exact ⟨rfl,rfl⟩
 case fld x=>simp only [Af];split <;> exact ⟨rfl,rfl⟩
 case slsl x=>simp only [Af];split <;> exact ⟨rfl,rfl⟩
 case s2a x=>simp only [Af];split <;> exact ⟨rfl,rfl⟩
 case ext x=>simp only [Af];split <;> exact ⟨rfl,rfl⟩
 case mm x=>simp only [Af];split <;> exact ⟨rfl,rfl⟩
 case mksl x=>simp only [Af];split <;> exact ⟨rfl,rfl⟩
 case sidx x=>simp only [Af];split <;> exact ⟨rfl,rfl⟩
 case mkmth x=>simp only [Af];split <;> exact ⟨rfl,rfl⟩
 case nilm x=>simp only [Af];split <;> exact ⟨rfl,rfl⟩
 case add64 x=>simp only [Af];split <;> exact ⟨rfl,rfl⟩
 case mm4 x=>simp only [Af];split <;> exact ⟨rfl,rfl⟩
 case tas x=>simp only [Af];split <;> exact ⟨rfl,rfl⟩
 all_goals exact ⟨rfl,rfl⟩
theorem Ala (op:BinOp) (x y:V) (H:Hp):(Bm op x y H).H=H:=by
 cases x <;> cases y <;> try rfl
 cases op <;> rfl
theorem ZZ (A:List V) (H:Hp) (n:Nat) (o:LO) (h:LK.isW (.lo o)=false) (h2:LK.isA (.lo o)=false):(Af A H n o).H=H:=by
 cases o <;> simp only [LK.isW,LK.isA,reduceCtorEq] at h h2;case ari op x y=>exact Ala _ _ _ _
 case un op x=>simp only [Af];cases op <;> cases hx:x.ev A <;> rfl
 case len k x => simp only [Af]; repeat' split
                 all_goals rfl
 case slarr m sz x lo hi => simp only [Af]; repeat' split
                            all_goals rfl
 case mlook s z ok m k=>simp only [Af,Np];split <;> (try rfl);split <;> rfl
 case nxt x => simp only [Af]; repeat' split
               all_goals rfl
 all_goals (try rfl)
 all_goals (simp only [Af];split <;> rfl)
theorem Sl (A:List V) (n:Nat) (o:LO) (h:LK.isA (.lo o)=true):(∃ H,(Af A H n o).pre)→∃ c,∀ H,(Af A H n o).H=(n,c) :: H:=by
 rintro ⟨H0,hp⟩;cases o <;> simp only [LK.isA,Bool.false_eq_true] at h;case mksl sz b z l c =>
  simp only [Af] at hp ⊢;split at hp
  ·rename_i k a k' b' h1 h2;exact ⟨.ar sz b'.toNat (fun _=>z.v 0),fun H=>rfl⟩
  ·exact hp.elim
 all_goals exact ⟨_,fun H=>rfl⟩
end Mv
