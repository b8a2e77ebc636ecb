/- A part. -/
import Derived.WalkKit
import Derived.Orders
set_option linter.all false
namespace Mv
open Go
theorem Aa {P:Prop} (h:P:=by omega):P:=h
theorem Ab {P:Prop} (h:P:=by decide):P:=h
theorem Bg {P:Prop} (h:P:=by simp only [BS]):P:=h
theorem BF {P:Prop} (h:P:=by simp):P:=h
theorem DA {P:Prop} (h:P:=by rfl):P:=h
theorem zq6 {P:Prop} (h:P:=by rw [BitVec.lt_def,hs];show _ < 64;omega):P:=h
theorem F6 {P:Prop} (h:P:=by simp;omega):P:=h
theorem zq8 {P:Prop} (h:P:=by rw [Sem.run_bind,hguard];simp [binOp,Op.intCmp]):P:=h
theorem V0 {P:Prop} (h:P:=by simpa using h):P:=h
theorem Afa {P:Prop} (h:P:=by rw [hpl.eP,hpl.efn];exact hpl.lt):P:=h
theorem Ad0 {P:Prop} (h:P:=by rw [hP1];have:=hpl.loc;omega):P:=h
theorem U4 {P:Prop} (h:P:=by rw [Aj];omega):P:=h
theorem Oa {P:Prop} (h:P:=by rw [Qy hp]):P:=h
theorem OG {P:Prop} (h:P:=by simpa using hl):P:=h
theorem Acd {P:Prop} (h:P:=by rw [if_neg (tn b c1 c2)]):P:=h
theorem TK {P:Prop} (h:P:=by rw [e];omega):P:=h
theorem Zs {P:Prop} (h:P:=by simpa using hpos):P:=h
theorem Adi {P:Prop} (h:P:=by rw [if_pos (tl b c1)]):P:=h
theorem Abc {P:Prop} (h:P:=by rw [if_pos (tr b c2)]):P:=h
theorem Ad7 {P:Prop} (h:P:=by have:=hpl.wo;omega):P:=h
theorem Afe {P:Prop} (h:P:=by rw [r3];simp [At]):P:=h
theorem Aem {P:Prop} (h:P:=by have:=hwf.bl;omega):P:=h
theorem Aca {P:Prop} (h:P:=by rw [G5];omega):P:=h
theorem Uz {P:Prop} (h:P:=by simpa using h1):P:=h
theorem Q4 {P:Prop} (h:P:=by cases hp):P:=h
theorem PU {P:Prop} (h:P:=by simpa [RV,RS,V.isAgg,R] using h):P:=h
theorem HQ {P:Prop} (h:P:=by simp [AT]):P:=h
theorem Alb {P:Prop} (h:P:=by rw [BitVec.toNat_umod];exact Nat.mod_lt _ Ab):P:=h
theorem KA {P:Prop} (h:P:=by cases l <;> rfl):P:=h
theorem Adp {P:Prop} (h:P:=by rw [BitVec.toInt_eq_toNat_cond];split <;> omega):P:=h
theorem Aol {P:Prop} (h:P:=by rw [BitVec.toNat_sub];show (2 ^ 64 - w.toNat + 64) % 2 ^ 64=_;omega):P:=h
theorem Wh {P:Prop} (h:P:=by have:=of_eq_true hw;rw [BitVec.lt_def] at this;exact this):P:=h
theorem Pt {P:Prop} (h:P:=by rw [AR Aa]):P:=h
theorem Q0 {P:Prop} (h:P:=by simp [IntKind.wrap,IntKind.bits,IntKind.signed]):P:=h
theorem FP {P:Prop} (h:P:=by simp [HT,V.solid]):P:=h
theorem Aff {P:Prop} (h:P:=by rw [← Nat.pow_add];congr 1;omega):P:=h
theorem Um {P:Prop} (h:P:=by rw [BitVec.le_def] at hpc;simpa using hpc):P:=h
theorem Kg {P:Prop} (h:P:=by unfold H4;split <;> rfl):P:=h
theorem QQ {P:Prop} (h:P:=by simp [Env.new]):P:=h
theorem NK {P:Prop} (h:P:=by rintro rfl;exact absurd hlt BF):P:=h
theorem Aij {P:Prop} (h:P:=by rw [hy,Nat.mul_add,Nat.mul_assoc]):P:=h
theorem WL {P:Prop} (h:P:=by unfold Ee;split <;> rfl):P:=h
theorem B7 {P:Prop} (h:P:=by rw [AR Aa];omega):P:=h
theorem Aan {P:Prop} (h:P:=by rw [Lm,EH];omega):P:=h
theorem GC {P:Prop} (h:P:=by rw [hg];exact hb):P:=h
theorem BK {p0 p1:Prop} (h0:p0) (h1:p1):(p0∧p1):=⟨h0,h1⟩
theorem Jr {p0 p1 p2:Prop} (h0:p0) (h1:p1) (h2:p2):(p0∧(p1∧p2)):=⟨h0,⟨h1,h2⟩⟩
theorem aq4 {p0 p1 p2 p3:Prop} (h0:p0) (h1:p1) (h2:p2) (h3:p3):((p0∧p1)∧(p2∧p3)):=⟨⟨h0,h1⟩,⟨h2,h3⟩⟩
theorem aq5 {p0 p1 p2 p3 p4:Prop} (h0:p0) (h1:p1) (h2:p2) (h3:p3) (h4:p4):((p0∧p1)∧(p2∧(p3∧p4))):=⟨⟨h0,h1⟩,⟨h2,⟨h3,h4⟩⟩⟩
theorem aq6 {p0 p1 p2 p3 p4 p5:Prop} (h0:p0) (h1:p1) (h2:p2) (h3:p3) (h4:p4) (h5:p5):((p0∧(p1∧p2))∧(p3∧(p4∧p5))):=⟨⟨h0,⟨h1,h2⟩⟩,⟨h3,⟨h4,h5⟩⟩⟩
theorem aq7 {p0 p1 p2 p3 p4 p5 p6:Prop} (h0:p0) (h1:p1) (h2:p2) (h3:p3) (h4:p4) (h5:p5) (h6:p6):((p0∧(p1∧p2))∧((p3∧p4)∧(p5∧p6))):=⟨⟨h0,⟨h1,h2⟩⟩,⟨⟨h3,h4⟩,⟨h5,h6⟩⟩⟩
theorem aq8 {p0 p1 p2 p3 p4 p5 p6 p7:Prop} (h0:p0) (h1:p1) (h2:p2) (h3:p3) (h4:p4) (h5:p5) (h6:p6) (h7:p7):(((p0∧p1)∧(p2∧p3))∧((p4∧p5)∧(p6∧p7))):=⟨⟨⟨h0,h1⟩,⟨h2,h3⟩⟩,⟨⟨h4,h5⟩,⟨h6,h7⟩⟩⟩
theorem aq9 {p0 p1 p2 p3 p4 p5 p6 p7 p8:Prop} (h0:p0) (h1:p1) (h2:p2) (h3:p3) (h4:p4) (h5:p5) (h6:p6) (h7:p7) (h8:p8):(((p0∧p1)∧(p2∧p3))∧((p4∧p5)∧(p6∧(p7∧p8)))):=⟨⟨⟨h0,h1⟩,⟨h2,h3⟩⟩,⟨⟨h4,h5⟩,⟨h6,⟨h7,h8⟩⟩⟩⟩
theorem Acn {p0 p1 p2 p3 p4 p5 p6 p7 p8 p9:Prop} (h0:p0) (h1:p1) (h2:p2) (h3:p3) (h4:p4) (h5:p5) (h6:p6) (h7:p7) (h8:p8) (h9:p9):(((p0∧p1)∧(p2∧(p3∧p4)))∧((p5∧p6)∧(p7∧(p8∧p9)))):=⟨⟨⟨h0,h1⟩,⟨h2,⟨h3,h4⟩⟩⟩,⟨⟨h5,h6⟩,⟨h7,⟨h8,h9⟩⟩⟩⟩
theorem ED {p0 p1 p2 p3 p4 p5 p6 p7 p8 p9 p10:Prop} (h0:p0) (h1:p1) (h2:p2) (h3:p3) (h4:p4) (h5:p5) (h6:p6) (h7:p7) (h8:p8) (h9:p9) (h10:p10):(((p0∧p1)∧(p2∧(p3∧p4)))∧((p5∧(p6∧p7))∧(p8∧(p9∧p10)))):=⟨⟨⟨h0,h1⟩,⟨h2,⟨h3,h4⟩⟩⟩,⟨⟨h5,⟨h6,h7⟩⟩,⟨h8,⟨h9,h10⟩⟩⟩⟩
theorem De {p0 p1 p2 p3 p4 p5 p6 p7 p8 p9 p10 p11:Prop} (h0:p0) (h1:p1) (h2:p2) (h3:p3) (h4:p4) (h5:p5) (h6:p6) (h7:p7) (h8:p8) (h9:p9) (h10:p10) (h11:p11):(((p0∧(p1∧p2))∧(p3∧(p4∧p5)))∧((p6∧(p7∧p8))∧(p9∧(p10∧p11)))):=⟨⟨⟨h0,⟨h1,h2⟩⟩,⟨h3,⟨h4,h5⟩⟩⟩,⟨⟨h6,⟨h7,h8⟩⟩,⟨h9,⟨h10,h11⟩⟩⟩⟩
theorem KT {p0 p1 p2 p3 p4 p5 p6 p7 p8 p9 p10 p11 p12:Prop} (h0:p0) (h1:p1) (h2:p2) (h3:p3) (h4:p4) (h5:p5) (h6:p6) (h7:p7) (h8:p8) (h9:p9) (h10:p10) (h11:p11) (h12:p12):(((p0∧(p1∧p2))∧(p3∧(p4∧p5)))∧((p6∧(p7∧p8))∧((p9∧p10)∧(p11∧p12)))):=⟨⟨⟨h0,⟨h1,h2⟩⟩,⟨h3,⟨h4,h5⟩⟩⟩,⟨⟨h6,⟨h7,h8⟩⟩,⟨⟨h9,h10⟩,⟨h11,h12⟩⟩⟩⟩
theorem Ik {p0 p1 p2 p3 p4 p5 p6 p7 p8 p9 p10 p11 p12 p13:Prop} (h0:p0) (h1:p1) (h2:p2) (h3:p3) (h4:p4) (h5:p5) (h6:p6) (h7:p7) (h8:p8) (h9:p9) (h10:p10) (h11:p11) (h12:p12) (h13:p13):(((p0∧(p1∧p2))∧((p3∧p4)∧(p5∧p6)))∧((p7∧(p8∧p9))∧((p10∧p11)∧(p12∧p13)))):=⟨⟨⟨h0,⟨h1,h2⟩⟩,⟨⟨h3,h4⟩,⟨h5,h6⟩⟩⟩,⟨⟨h7,⟨h8,h9⟩⟩,⟨⟨h10,h11⟩,⟨h12,h13⟩⟩⟩⟩
theorem Dm {p0 p1 p2 p3 p4 p5 p6 p7 p8 p9 p10 p11 p12 p13 p14:Prop} (h0:p0) (h1:p1) (h2:p2) (h3:p3) (h4:p4) (h5:p5) (h6:p6) (h7:p7) (h8:p8) (h9:p9) (h10:p10) (h11:p11) (h12:p12) (h13:p13) (h14:p14):(((p0∧(p1∧p2))∧((p3∧p4)∧(p5∧p6)))∧(((p7∧p8)∧(p9∧p10))∧((p11∧p12)∧(p13∧p14)))):=⟨⟨⟨h0,⟨h1,h2⟩⟩,⟨⟨h3,h4⟩,⟨h5,h6⟩⟩⟩,⟨⟨⟨h7,h8⟩,⟨h9,h10⟩⟩,⟨⟨h11,h12⟩,⟨h13,h14⟩⟩⟩⟩
theorem DC {p0 p1 p2 p3 p4 p5 p6 p7 p8 p9 p10 p11 p12 p13 p14 p15:Prop} (h0:p0) (h1:p1) (h2:p2) (h3:p3) (h4:p4) (h5:p5) (h6:p6) (h7:p7) (h8:p8) (h9:p9) (h10:p10) (h11:p11) (h12:p12) (h13:p13) (h14:p14) (h15:p15):((((p0∧p1)∧(p2∧p3))∧((p4∧p5)∧(p6∧p7)))∧(((p8∧p9)∧(p10∧p11))∧((p12∧p13)∧(p14∧p15)))):=⟨⟨⟨⟨h0,h1⟩,⟨h2,h3⟩⟩,⟨⟨h4,h5⟩,⟨h6,h7⟩⟩⟩,⟨⟨⟨h8,h9⟩,⟨h10,h11⟩⟩,⟨⟨h12,h13⟩,⟨h14,h15⟩⟩⟩⟩
def Lc6:=(BK @Bool.and_eq_true @List.all_eq_true.{0})
def Lc4:=(Jr @List.length_append.{0} @List.length_cons.{0} @List.length_nil.{0})
def Lbu:=(Jr @List.getElem?_append.{0} @List.length_append.{0} @List.length_take.{0})
def Lb4:=(BK @BitVec.toNat_ushiftRight @Nat.shiftRight_eq_div_pow)
def X5:=(BK @Bool.and_eq_true @Bool.not_eq_true')
def O3:=(BK @Bool.false_eq_true @if_false.{1})
def Lav:=(BK @and_true @true_and)
def Lau:=(BK @List.cons_append.{0} @List.nil_append.{0})
def QP:=(BK @Go.Result.andThen_ok @Go.Sem.run_bind)
def Laq:=(Jr @List.mem_cons.{0} @List.not_mem_nil.{0} @or_false)
def Lag:=(BK @List.getElem?_cons_succ.{0} @List.getElem?_cons_zero.{0})
def E0:=(BK @List.cons.injEq.{0} @and_true)
def Dh:=(BK @if_false.{1} @if_true.{1})
def Lbn:=(BK @Bool.false_eq_true @Dh)
def Lb9:=(BK @Dh @not_true_eq_false)
def EP:=(Jr @Go.Result.andThen_ok @Go.Sem.run_bind @Go.Sem.run_pure)
inductive Stp where
 | f (off:Nat)
 | i (sz ix:Nat)
 | r (sz o n:Nat)
def Stp.off:Stp→Nat
 | .f o=>o
 | .i sz ix=>ix * sz
 | .r sz o _=>o * sz
def H2:List Stp→Bool
 | []=>true
 | .r .. :: _=>false
 | _ :: p=>H2 p
def CQ:List Stp→Stp→List Stp
 | [],s=>[s]
 | [.r sz o _],.i sz' ix=>if sz=sz' then [.i sz' (o + ix)] else [.r sz o 0,.i sz' ix]
 | x :: r,s=>x :: CQ r s
def At:List Stp→Nat
 | []=>0
 | s :: r=>s.off + At r
theorem CA:∀ (p:List Stp) (s:Stp),At (CQ p s)=At p + s.off
 | [],s=>by simp [CQ,At]
 | .f o :: p,s=>by simp only [CQ,At,CA p s];omega
 | .i sz ix :: p,s=>by simp only [CQ,At,CA p s];omega
 | .r sz o n :: x :: p,s=>by simp only [CQ,At,CA (x :: p) s];omega
 | [.r sz o n],.f _=>by simp [CQ,At]
 | [.r sz o n],.r ..=>by simp [CQ,At]
 | [.r sz o n], .i sz' ix => by
   simp only [CQ];split
   ·rename_i h;subst h;simp [At,Stp.off,Nat.add_mul]
   ·simp [At,Stp.off]
inductive V where
 | junk
 | int (k:IntKind) (n:Int)
 | bool (b:Bool)
 | str (s:ByteArray)
 | nilp
 | ptr (id:Nat) (p:List Stp)
 | imm (v:V)
 | nils
 | sl (id:Nat) (p:List Stp) (o len sz:Nat)
 | lst (sz n:Nat) (f:Nat→V)
 | nilm
 | map (id:Nat)
 | nilf
 | fn (f:Nat) (caps:V)
 | nili
 | ifc (t:Nat) (v:V)
 | st (n:Nat) (fs:V)
 | ar (sz n:Nat) (f:Nat→V)
 | fnil
 | fcons (o:Nat) (v:V) (r:V)
 | tup (fs:V)
 | mp (n:Nat) (ks vs:Nat→V)
 | fm (n:Nat) (ks vs:Nat→V)
instance:Inhabited V:=⟨.junk⟩
def V.size:V→Nat
 | .st n _=>n
 | .ar sz n _=>n * sz
 | _=>1
def V.isAgg:V→Bool
 | .st _ _=>true
 | .ar _ _ _=>true
 | _=>false
def V.solid:V→Bool
 | .junk | .fnil | .fcons .. | .tup _ | .mp ..=>false
 | _=>true
def V.flo (d:Nat):V→Nat
 | .fcons o _ _=>o
 | _=>d
def V.chain:V→Bool
 | .fnil | .fcons ..=>true
 | _=>false
def V.fget (k:Nat):V→V
 | .fcons o v r=>if o=k then v else V.fget k r
 | _=>.junk
def V.fhas (k:Nat):V→Bool
 | .fcons o _ r=>o == k || V.fhas k r
 | _=>false
def V.fset (k:Nat) (y:V):V→V
 | .fcons o v r=>if o=k then .fcons o y r else .fcons o v (V.fset k y r)
 | v=>v
def V.get:List Stp→V→V
 | [],v=>v
 | .f o :: p,.st _ fs=>V.get p (fs.fget o)
 | .i _ ix :: p,.ar _ _ f=>V.get p (f ix)
 | .r sz o n :: p,.ar _ _ f=>V.get p (.ar sz n (fun i=>f (o + i)))
 | _,_=>.junk
def V.ok:List Stp→V→Prop
 | [],_=>True
 | .f o :: p,.st _ fs=>fs.fhas o=true∧V.ok p (fs.fget o)
 | .i sz ix :: p,.ar sz' n f=>sz=sz'∧ix < n∧V.ok p (f ix)
 | .r sz o m :: p,.ar sz' n f=>sz=sz'∧o + m≤n∧V.ok p (.ar sz m (fun i=>f (o + i)))
 | _,_=>False
def V.set (y:V):List Stp→V→V
 | [],_=>y
 | .f o :: p,.st n fs=>.st n (V.fset o (V.set y p (fs.fget o)) fs)
 | .i _ ix :: p,.ar sz n f=>.ar sz n (fun j=>if j=ix then V.set y p (f ix) else f j)
 | _,v=>v
structure Env where
 ρ:Nat→Nat
 D:Nat→Prop
 im:Nat→Prop
 w:World
 φ:Nat→Nat
 τ:Nat→Nat
def BM (w:World) (b:Nat):Nat :=
 match w.heap[b]? with
 | some (.cells c _ _)=>c.size
 | _=>0
def JE:Nat→String
 | 0 => "moot/onestep.read" | 1 => "moot/onestep.write" | 2 => "moot/onestep.preimage" | 3 => "Error" | 4 => "Unwrap"
 | _ => ""
def P7 (φ:Nat→Nat) (f:Nat) (xs:List Value):Value :=
 if f < 1000000 then .func (.func (φ f)) #[] xs.toArray else if f < 2000000 then .func (.method (JE (f - 1000000))) xs.toArray #[] else .func (.func (φ (f - 2000000))) xs.toArray #[]
theorem Aez (φ:Nat→Nat) (f:Nat) (xs:List Value):(P7 φ f xs).oneCell'=true:=by unfold P7;split <;> (try split) <;> rfl
theorem Aek (φ:Nat→Nat) (f:Nat) (xs:List Value) (cs:Array Value):Value.agg cs ≠ P7 φ f xs:=by unfold P7;split <;> (try split) <;> (intro h;cases h)
def WfE (es:Array MapEntry) (ck:Nat):Prop:=(∀ (i:Nat) (x:MapEntry),es[i]?=some x→x.born < ck)∧∀ (i j:Nat) (x y:MapEntry),es[i]?=some x→es[j]?=some y→x.born=y.born→i=j
theorem Abs (ck:Nat):WfE #[] ck:=⟨fun i x h=>by simp at h,fun i j x y h=>by simp at h⟩
theorem Ym {es:Array MapEntry} {ck:Nat} (h:WfE es ck) (k v:Value):WfE (es.push { key:=k,val:=v,born:=ck }) (ck + 1):=by
 refine ⟨fun i x hx=>?_,fun i j x y hx hy hb=>?_⟩
 ·rw [Array.getElem?_push] at hx;split at hx
  ·cases hx;exact Nat.lt_succ_self _
  ·exact Nat.lt_succ_of_lt (h.1 i x hx)
 ·rw [Array.getElem?_push] at hx hy;split at hx <;> split at hy
  ·omega
  ·cases hx;have:=h.1 j y hy;simp only at hb;omega
  ·cases hy;have:=h.1 i x hx;simp only at hb;omega
  ·exact h.2 i j x y hx hy hb
theorem Qw {es:Array MapEntry} {ck:Nat} (h:WfE es ck) (q:Nat) (k v:Value):WfE (es.modify q fun x=>{ x with key:=k,val:=v }) ck:=by
 have hm:∀ (i:Nat) (x:MapEntry),(es.modify q fun x=>{ x with key:=k,val:=v })[i]?=some x→∃ y:MapEntry,es[i]?=some y∧y.born=x.born:=fun i x hx=>by
  rw [Array.getElem?_modify] at hx;split at hx
  ·cases he:es[i]? with
   | none=>rw [he] at hx;cases hx
   | some y=>rw [he] at hx;cases hx;exact ⟨y,rfl,rfl⟩
  ·exact ⟨x,hx,rfl⟩
 refine ⟨fun i x hx=>?_,fun i j x y hx hy hb=>?_⟩
 ·obtain ⟨y,h1,h2⟩:=hm i x hx;exact h2 ▸ h.1 i y h1
 ·obtain ⟨x',h1,h2⟩:=hm i x hx;obtain ⟨y',h3,h4⟩:=hm j y hy;exact h.2 i j x' y' h1 h3 (by rw [h2,h4,hb])
def R (e:Env):V→List Value→Prop
 | .junk,cs=>cs.length=1
 | .int k n,cs=>cs=[.int k n]
 | .bool b,cs=>cs=[.bool b]
 | .str s,cs=>cs=[.string s]
 | .nilp,cs=>cs=[.pointer none]
 | .ptr id p,cs=>e.D id∧cs=[.pointer (some ⟨e.ρ id,At p,none⟩)]
 | .imm v,cs=>∃ b o c el fz,cs=[.pointer (some ⟨b,o,none⟩)]∧e.im b∧e.w.heap[b]?=some (.cells c el fz)∧o + v.size≤c.size∧R e v ((c.toList.drop o).take v.size)
 | .nils,cs=>cs=[.slice none 0 0]
 | .sl id p o len sz,cs=>e.D id∧∃ b cap,cs=[.slice b len cap]∧(cap=0 ∨ b=some ⟨e.ρ id,At p + o * sz,none⟩)∧len≤cap∧At p + (o + cap) * sz≤BM e.w (e.ρ id)
 | .lst sz n f,cs=>∃ a cap,cs=[.slice a n cap]∧n≤cap∧(0 < n→∃ b o c el fz,a=some ⟨b,o,none⟩∧e.im b∧e.w.heap[b]?=some (.cells c el fz)∧o + n * sz≤c.size ∧
  ∀ i,i < n→((f i).solid=true∧(f i).size=sz)∧R e (f i) ((c.toList.drop (o + i * sz)).take sz))
 | .nilm,cs=>cs=[.map none]
 | .map id,cs=>e.D id∧cs=[.map (some (e.ρ id))]
 | .nilf,cs=>cs=[.nilFunc]
 | .fn f caps,cs=>∃ xs:List Value,cs=[P7 e.φ f xs]∧R e caps xs
 | .nili,cs=>cs=[.nilIface]
 | .ifc t v,cs=>∃ x,cs=[.iface (e.τ t) x]∧v.solid=true∧(match v.isAgg with | true=>∃ c:List Value,x = .agg c.toArray∧R e v c | false=>R e v [x])
 | .st n fs,cs=>cs.length=n∧(fs.chain=true∧∀ x ∈ cs,x.oneCell'=true)∧R e fs cs
 | .ar sz n f,cs=>cs.length=n * sz∧∀ i,i < n→((f i).solid=true∧(f i).size=sz)∧R e (f i) ((cs.drop (i * sz)).take sz)
 | .fnil,_=>True
 | .fcons o v r,cs=>r.chain=true∧o + v.size≤r.flo cs.length∧o + v.size≤cs.length∧R e v ((cs.drop o).take v.size)∧R e r cs
 | .tup _,_=>False
 | .mp ..,_=>False
 | .fm n ks vs,cs=>∃ b es clock,cs=[.map (some b)]∧e.im b∧e.w.heap[b]?=some (.map es clock)∧es.size=n∧WfE es clock∧∀ i x,es[i]?=some x →
  ((ks i).solid=true∧(match (ks i).isAgg with | true=>∃ c:List Value,x.key = .agg c.toArray∧R e (ks i) c | false=>R e (ks i) [x.key])) ∧
  (vs i).solid=true∧(match (vs i).isAgg with | true=>∃ c:List Value,x.val = .agg c.toArray∧R e (vs i) c | false=>R e (vs i) [x.val])
def RS (e:Env) (v:V) (x:Value):Prop :=
 match v.isAgg with
 | true=>∃ cs:List Value,x = .agg cs.toArray∧R e v cs
 | false=>R e v [x]
def RT (e:Env):V→Array Value→Prop
 | .fcons i v r,xs=>(v.solid=true∧∃ y,xs[i]?=some y∧RS e v y)∧RT e r xs
 | _,_=>True
def RV (e:Env) (v:V) (x:Value):Prop :=
 match v with
 | .junk=>True
 | .tup fs=>∃ xs,x = .tuple xs∧RT e fs xs
 | .fnil | .fcons .. | .mp ..=>False
 | v=>RS e v x
theorem Bb {e:Env} {v:V} {x:Value} (hs:v.solid=true):RV e v x ↔ RS e v x:=by
 cases v <;> simp_all [RV,V.solid]
theorem Jx {e:Env} {v:V} {x:Value} (hs:v.solid=true) (h:RS e v x):R e v x.cells.toList:=by
 unfold RS at h;cases v <;> simp only [V.isAgg,V.solid,Bool.false_eq_true] at h hs;case st n fs=>obtain ⟨cs,rfl,h⟩:=h;simpa [Value.cells] using h
 case ar sz n f=>obtain ⟨cs,rfl,h⟩:=h;simpa [Value.cells] using h
 all_goals
  have hx:∀ cs,x ≠ .agg cs:=by
   rintro cs rfl;simp [R] at h <;> (obtain ⟨xs,h,_⟩:=h;exact Aek _ _ _ _ h)
  have:x.cells = #[x]:=by
   unfold Value.cells;split
   ·exact absurd rfl (hx _)
   ·rfl
  rw [this];exact h
theorem Mm {e:Env} {v:V} {cs:List Value} (hs:v.solid=true) (h:R e v cs):cs.length=v.size:=by
 cases v <;> simp only [V.solid,Bool.false_eq_true] at hs <;> simp only [R] at h <;> simp only [V.size];case imm v=>obtain ⟨b,o,c,el,fz,rfl,_⟩:=h;rfl
 case ptr=>rw [h.2];rfl
 case map=>rw [h.2];rfl
 case sl=>obtain ⟨_,b,cap,rfl,_⟩:=h;rfl
 case lst=>obtain ⟨a,cap,rfl,_⟩:=h;rfl
 case fn=>obtain ⟨xs,rfl,_⟩:=h;rfl
 case ifc=>obtain ⟨x,rfl,_⟩:=h;rfl
 case fm=>obtain ⟨b,es,ck,rfl,_⟩:=h;rfl
 case st=>exact h.1
 case ar=>exact h.1
 all_goals rw [h];rfl
theorem JA {e:Env}:∀ {v:V} {cs:List Value},v.solid=true→R e v cs→∀ x ∈ cs,x.oneCell'=true
 | .ar sz n f, cs, _, h, x, hx => by
   simp only [R] at h;obtain ⟨hl,h⟩:=h;obtain ⟨j,hj,rfl⟩:=List.getElem_of_mem hx;have hpos:0 < sz:=by
    rcases Nat.eq_zero_or_pos sz with rfl | hp
    ·simp at hl;rw [hl] at hj;simp at hj
    ·exact hp
   have hd:j / sz < n:=by rw [Nat.div_lt_iff_lt_mul hpos];omega
   obtain ⟨⟨hsol,_⟩,hR⟩:=h (j / sz) hd;refine JA hsol hR _ ?_;rw [List.mem_iff_getElem?];refine ⟨j % sz,?_⟩;have hm:j % sz < sz:=Nat.mod_lt _ hpos;simp only [List.getElem?_take,hm,if_true,List.getElem?_drop];rw [Nat.mul_comm,Nat.div_add_mod];exact List.getElem?_eq_getElem hj
 | .st n fs, cs, _, h, x, hx => by
   simp only [R] at h;exact h.2.1.2 x hx
 | .int .., cs, _, h, x, hx | .bool _, cs, _, h, x, hx | .str _, cs, _, h, x, hx | .nilp, cs, _, h, x, hx | .nils, cs, _, h, x, hx | .nilm, cs, _, h, x, hx | .nilf, cs, _, h, x, hx | .nili, cs, _, h, x, hx => by
   simp only [R] at h;subst h;simp at hx;subst hx;rfl
 | .ptr .., cs, _, h, x, hx | .map _, cs, _, h, x, hx => by
   simp only [R] at h;rw [h.2] at hx;simp at hx;subst hx;rfl
 | .imm _, cs, _, h, x, hx => by
   simp only [R] at h;obtain ⟨b,o,c,el,fz,rfl,_⟩:=h;simp at hx;subst hx;rfl
 | .sl .., cs, _, h, x, hx => by
   simp only [R] at h;obtain ⟨_,b,cap,rfl,_⟩:=h;simp at hx;subst hx;rfl
 | .lst .., cs, _, h, x, hx => by
   simp only [R] at h;obtain ⟨a,cap,rfl,_⟩:=h;simp at hx;subst hx;rfl
 | .fm .., cs, _, h, x, hx => by
   simp only [R] at h;obtain ⟨b,es,ck,rfl,_⟩:=h;simp at hx;subst hx;rfl
 | .fn .., cs, _, h, x, hx => by
   simp only [R] at h;obtain ⟨xs,rfl,_⟩:=h;simp at hx;subst hx;exact Aez _ _ _
 | .ifc .., cs, _, h, x, hx => by
   simp only [R] at h;obtain ⟨y,rfl,_⟩:=h;simp at hx;subst hx;rfl
theorem AS (cs:List Value) (a n b m:Nat) (h:b + m≤n) :
 (((cs.drop a).take n).drop b).take m=(cs.drop (a + b)).take m:=by
 rw [List.drop_take,List.take_take,List.drop_drop,Nat.min_eq_left Aa]
theorem GW {e:Env} {k:Nat}:∀ {fs:V} {cs:List Value},R e fs cs→fs.fhas k=true →
 k + (fs.fget k).size≤cs.length∧R e (fs.fget k) ((cs.drop k).take (fs.fget k).size)
 | .fcons o v r, cs, h, hk => by
   simp only [R] at h;obtain ⟨_,_,h2,h3,h4⟩:=h;simp only [V.fget];split
   ·rename_i he;subst he;exact ⟨h2,h3⟩
   ·rename_i hne;simp only [V.fhas,Bool.or_eq_true,beq_iff_eq,hne,false_or] at hk;exact GW h4 hk
 | .junk,_,_,hk | .int ..,_,_,hk | .bool _,_,_,hk | .str _,_,_,hk | .nilp,_,_,hk | .ptr ..,_,_,hk | .imm _,_,_,hk | .nils,_,_,hk
 | .sl ..,_,_,hk | .lst ..,_,_,hk | .nilm,_,_,hk | .map _,_,_,hk | .nilf,_,_,hk | .fn ..,_,_,hk | .nili,_,_,hk | .ifc ..,_,_,hk
 | .st ..,_,_,hk | .ar ..,_,_,hk | .fnil,_,_,hk | .tup _,_,_,hk | .mp ..,_,_,hk | .fm ..,_,_,hk=>by simp [V.fhas] at hk
theorem Nh {e:Env} {sz n o m:Nat} {f:Nat→V} {cs:List Value} (h:R e (.ar sz n f) cs) (hm:o + m≤n):R e (.ar sz m (fun i=>f (o + i))) ((cs.drop (o * sz)).take (m * sz)):=by
 simp only [R] at h ⊢;have hmul:o * sz + m * sz≤n * sz:=by
  have:(o + m) * sz≤n * sz:=Nat.mul_le_mul_right _ hm;rw [Nat.add_mul] at this;omega
 refine ⟨by simp;omega,fun i hi=>?_⟩;obtain ⟨h1,h2⟩:=h.2 (o + i) Aa;refine ⟨h1,?_⟩;have hi':i * sz + sz≤m * sz:=by
  have:(i + 1) * sz≤m * sz:=Nat.mul_le_mul_right _ hi;rw [Nat.add_mul] at this;omega
 rw [AS _ _ _ _ _ hi',← Nat.add_mul];exact h2
theorem DP {e:Env}:∀ {p:List Stp} {c:V} {cs:List Value},R e c cs→cs.length=c.size→c.ok p →
 At p + (c.get p).size≤cs.length∧R e (c.get p) ((cs.drop (At p)).take (c.get p).size)
 | [], c, cs, h, hl, _ => by
   simp only [V.get,At,Nat.zero_add,List.drop_zero];refine ⟨Nat.le_of_eq hl.symm,?_⟩;rw [List.take_of_length_le Aa];exact h
 | .f o :: p, c, cs, h, hl, hk => by
   cases c <;> simp only [V.ok] at hk;rename_i n fs;simp only [R] at h;simp only [V.get,At,Stp.off];obtain ⟨h1,h2⟩:=GW h.2.2 hk.1;have hlen:((cs.drop o).take (fs.fget o).size).length=(fs.fget o).size:=F6;obtain ⟨h3,h4⟩:=DP h2 hlen hk.2;rw [hlen] at h3;refine ⟨by omega,?_⟩;rw [AS _ _ _ _ _ h3] at h4;exact h4
 | .i sz ix :: p, c, cs, h, hl, hk => by
   cases c <;> simp only [V.ok] at hk;rename_i sz' n f;obtain ⟨rfl,hix,hk⟩:=hk;simp only [R] at h;simp only [V.get,At,Stp.off];obtain ⟨⟨_,h1⟩,h2⟩:=h.2 ix hix;have hmul:ix * sz + sz≤n * sz:=by
    have:(ix + 1) * sz≤n * sz:=Nat.mul_le_mul_right _ hix;rw [Nat.add_mul] at this;omega
   have hlen:((cs.drop (ix * sz)).take sz).length=(f ix).size:=F6;obtain ⟨h3,h4⟩:=DP h2 hlen hk;rw [hlen] at h3;refine ⟨by omega,?_⟩;rw [AS _ _ _ _ _ Aa] at h4;exact h4
 | .r sz o m :: p, c, cs, h, hl, hk => by
   cases c <;> simp only [V.ok] at hk;rename_i sz' n f;obtain ⟨rfl,hix,hk⟩:=hk;simp only [V.get,At,Stp.off];have hw:=Nh h hix;simp only [R] at h;have hmul:o * sz + m * sz≤n * sz:=by
    have:(o + m) * sz≤n * sz:=Nat.mul_le_mul_right _ hix;rw [Nat.add_mul] at this;omega
   have hlen:((cs.drop (o * sz)).take (m * sz)).length=(V.ar sz m (fun i=>f (o + i))).size:=by simp [V.size];omega
   obtain ⟨h3,h4⟩:=DP hw hlen hk;rw [hlen] at h3;have h3:At p + ((V.ar sz m (fun i=>f (o + i))).get p).size≤m * sz:=h3;refine ⟨by omega,?_⟩;rw [AS _ _ _ _ _ Aa] at h4;exact h4
def A4 (cs:List Value) (o:Nat) (ys:List Value):List Value:=cs.take o ++ ys ++ cs.drop (o + ys.length)
theorem AN {cs ys:List Value} {o:Nat} (h:o + ys.length≤cs.length):(A4 cs o ys).length=cs.length:=by
 simp [A4];omega
theorem IJ {cs ys:List Value} {o n:Nat} (h:o + ys.length≤cs.length) (hn:n=ys.length):((A4 cs o ys).drop o).take n=ys:=by
 subst hn;have hm:min o cs.length=o:=Aa;simp [A4,hm]
theorem EK {cs ys:List Value} {o a n b:Nat} (h:o + ys.length≤cs.length) (ho:o=a + b) (hb:b + ys.length≤n) (ha:a + n≤cs.length) :
 ((A4 cs o ys).drop a).take n=A4 ((cs.drop a).take n) b ys:=by
 subst ho;apply List.ext_getElem?;intro i;simp only [A4,List.getElem?_take,List.getElem?_drop,Lbu,List.length_drop];by_cases h1:i < n
 ·simp only [h1,if_true];by_cases h2:i < b
  ·have a1:a + i < min (a + b) cs.length + ys.length:=Aa;have a2:a + i < min (a + b) cs.length:=Aa;have a3:i < min b (min n (cs.length - a)) + ys.length:=Aa;have a4:i < min b (min n (cs.length - a)):=Aa;have a5:a + i < a + b:=Aa;simp [a1,a2,a3,a4,a5,h2]
  ·by_cases h3:i < b + ys.length
   ·have a1:a + i < min (a + b) cs.length + ys.length:=Aa;have a2:¬ a + i < min (a + b) cs.length:=Aa;have a3:i < min b (min n (cs.length - a)) + ys.length:=Aa;have a4:¬ i < min b (min n (cs.length - a)):=Aa;have a5:a + i - min (a + b) cs.length=i - min b (min n (cs.length - a)):=Aa;simp [a1,a2,a3,a4,a5]
   ·have a1:¬ a + i < min (a + b) cs.length + ys.length:=Aa;have a3:¬ i < min b (min n (cs.length - a)) + ys.length:=Aa;have e1:a + b + ys.length + (a + i - (min (a + b) cs.length + ys.length))=a + i:=Aa;have e2:b + ys.length + (i - (min b (min n (cs.length - a)) + ys.length))=i:=Aa;simp [a1,a3,e1,e2,h1]
 ·simp only [h1,if_false];have a3:¬ i < min b (min n (cs.length - a)) + ys.length:=Aa;have e2:b + ys.length + (i - (min b (min n (cs.length - a)) + ys.length))=i:=Aa;simp [a3,e2,h1]
theorem Dc {cs ys:List Value} {o a n:Nat} (h:o + ys.length≤cs.length) (hd:a + n≤o ∨ o + ys.length≤a) :
 ((A4 cs o ys).drop a).take n=(cs.drop a).take n:=by
 apply List.ext_getElem?;intro i;simp only [A4,List.getElem?_take,List.getElem?_drop,Lbu];by_cases h1:i < n
 ·simp only [h1,if_true];rcases hd with hd | hd
  ·have a1:a + i < min o cs.length + ys.length:=Aa;have a2:a + i < min o cs.length:=Aa;have a3:a + i < o:=Aa;simp [a1,a2,a3]
  ·have a1:¬ a + i < min o cs.length + ys.length:=Aa;have e1:o + ys.length + (a + i - (min o cs.length + ys.length))=a + i:=Aa;simp [a1,e1]
 ·simp [h1]
theorem V.set_size (y:V):∀ (p:List Stp) (c:V),H2 p=true→c.ok p→y.size=(c.get p).size→(V.set y p c).size=c.size
 | [],c,_,_,h=>by simpa [V.set,V.get] using h
 | .f o :: p,c,_,hk,_=>by cases c <;> simp only [V.ok] at hk;rfl
 | .i sz ix :: p,c,_,hk,_=>by cases c <;> simp only [V.ok] at hk;rfl
 | .r .. :: _,_,hn,_,_=>by simp [H2] at hn
theorem Rh {e:Env}:∀ {fs:V} {cs:List Value} {k:Nat},R e fs cs→fs.fhas k=true→fs.flo cs.length≤k
 | .fcons o v r, cs, k, h, hk => by
   simp only [V.flo];simp only [V.fhas,Bool.or_eq_true,beq_iff_eq] at hk;rcases hk with hk | hk
   ·omega
   ·simp only [R] at h;have:=Rh h.2.2.2.2 hk;omega
 | .junk,_,_,_,hk | .int ..,_,_,_,hk | .bool _,_,_,_,hk | .str _,_,_,_,hk | .nilp,_,_,_,hk | .ptr ..,_,_,_,hk | .imm _,_,_,_,hk | .nils,_,_,_,hk
 | .sl ..,_,_,_,hk | .lst ..,_,_,_,hk | .nilm,_,_,_,hk | .map _,_,_,_,hk | .nilf,_,_,_,hk | .fn ..,_,_,_,hk | .nili,_,_,_,hk | .ifc ..,_,_,_,hk
 | .st ..,_,_,_,hk | .ar ..,_,_,_,hk | .fnil,_,_,_,hk | .tup _,_,_,_,hk | .mp ..,_,_,_,hk | .fm ..,_,_,_,hk=>by simp [V.fhas] at hk
theorem FI {e:Env}:∀ {fs:V} {cs ys:List Value} {o:Nat},fs.chain=true→(∀ k,fs.fhas k=true→o + ys.length≤k)→o + ys.length≤cs.length→R e fs cs→R e fs (A4 cs o ys)
 | .fcons k v r, cs, ys, o, _, hb, hl, h => by
   simp only [R] at h ⊢;obtain ⟨h0,h1,h2,h3,h4⟩:=h;have hk:o + ys.length≤k:=hb k (by simp [V.fhas]);rw [AN hl,Dc hl (.inr hk)];exact ⟨h0,h1,h2,h3,FI h0 (fun j hj=>hb j (by simp only [V.fhas,Bool.or_eq_true];exact .inr hj)) hl h4⟩
 | .fnil,_,_,_,_,_,_,_=>trivial
 | .junk,_,_,_,hc,_,_,_ | .int ..,_,_,_,hc,_,_,_ | .bool _,_,_,_,hc,_,_,_ | .str _,_,_,_,hc,_,_,_ | .nilp,_,_,_,hc,_,_,_ | .ptr ..,_,_,_,hc,_,_,_ | .imm _,_,_,_,hc,_,_,_
 | .nils,_,_,_,hc,_,_,_ | .sl ..,_,_,_,hc,_,_,_ | .lst ..,_,_,_,hc,_,_,_ | .nilm,_,_,_,hc,_,_,_ | .map _,_,_,_,hc,_,_,_ | .nilf,_,_,_,hc,_,_,_ | .fn ..,_,_,_,hc,_,_,_
 | .nili,_,_,_,hc,_,_,_ | .ifc ..,_,_,_,hc,_,_,_ | .st ..,_,_,_,hc,_,_,_ | .ar ..,_,_,_,hc,_,_,_ | .tup _,_,_,_,hc,_,_,_ | .mp ..,_,_,_,hc,_,_,_ | .fm ..,_,_,_,hc,_,_,_=>by simp [V.chain] at hc
theorem Wg (d k:Nat) (y:V):∀ fs:V,(V.fset k y fs).flo d=fs.flo d
 | .fcons o v r=>by simp only [V.fset];split <;> rfl
 | .junk | .int .. | .bool _ | .str _ | .nilp | .ptr .. | .imm _ | .nils | .sl .. | .lst .. | .nilm | .map _ | .nilf | .fn .. | .nili | .ifc .. | .st .. | .ar .. | .fnil | .tup _ | .mp .. | .fm ..=>rfl
theorem KL (k:Nat) (y:V):∀ fs:V,(V.fset k y fs).chain=fs.chain
 | .fcons o v r=>by simp only [V.fset];split <;> rfl
 | .junk | .int .. | .bool _ | .str _ | .nilp | .ptr .. | .imm _ | .nils | .sl .. | .lst .. | .nilm | .map _ | .nilf | .fn .. | .nili | .ifc .. | .st .. | .ar .. | .fnil | .tup _ | .mp .. | .fm ..=>rfl
theorem WH {e:Env} {k O:Nat} {y:V} {ys:List Value}:∀ {fs:V} {cs:List Value},R e fs cs→fs.fhas k=true→y.size=(fs.fget k).size→k≤O→O + ys.length≤k + y.size→O + ys.length≤cs.length →
 R e y (((A4 cs O ys).drop k).take y.size)→R e (V.fset k y fs) (A4 cs O ys)
 | .fcons o v r, cs, h, hk, hy, hkO, hO, hl, hw => by
   simp only [R] at h;obtain ⟨h0,h1,h2,h3,h4⟩:=h;simp only [V.fset];simp only [V.fget] at hy;split
   ·rename_i heq;subst heq;simp only [if_true] at hy;simp only [R];rw [AN hl];refine ⟨h0,by omega,by omega,hw,FI h0 (fun j hj=>?_) hl h4⟩;have:=Rh h4 hj;omega
   ·rename_i hne;simp only [hne,if_false] at hy;simp only [V.fhas,Bool.or_eq_true,beq_iff_eq,hne,false_or] at hk;have:=Rh h4 hk;simp only [R];rw [AN hl,Wg,KL,Dc hl (.inl Aa)];exact ⟨h0,h1,h2,h3,WH h4 hk hy hkO hO hl hw⟩
 | .junk,_,_,hk,_,_,_,_,_ | .int ..,_,_,hk,_,_,_,_,_ | .bool _,_,_,hk,_,_,_,_,_ | .str _,_,_,hk,_,_,_,_,_ | .nilp,_,_,hk,_,_,_,_,_ | .ptr ..,_,_,hk,_,_,_,_,_
 | .imm _,_,_,hk,_,_,_,_,_ | .nils,_,_,hk,_,_,_,_,_ | .sl ..,_,_,hk,_,_,_,_,_ | .lst ..,_,_,hk,_,_,_,_,_ | .nilm,_,_,hk,_,_,_,_,_ | .map _,_,_,hk,_,_,_,_,_
 | .nilf,_,_,hk,_,_,_,_,_ | .fn ..,_,_,hk,_,_,_,_,_ | .nili,_,_,hk,_,_,_,_,_ | .ifc ..,_,_,hk,_,_,_,_,_ | .st ..,_,_,hk,_,_,_,_,_ | .ar ..,_,_,hk,_,_,_,_,_
 | .fnil,_,_,hk,_,_,_,_,_ | .tup _,_,_,hk,_,_,_,_,_ | .mp ..,_,_,hk,_,_,_,_,_ | .fm ..,_,_,hk,_,_,_,_,_=>by simp [V.fhas] at hk
theorem Q9 {cs ys:List Value} {o:Nat} {x:Value} (h:x ∈ A4 cs o ys):x ∈ cs ∨ x ∈ ys:=by
 simp only [A4,List.mem_append] at h;rcases h with (h | h) | h
 ·exact .inl (List.mem_of_mem_take h)
 ·exact .inr h
 ·exact .inl (List.mem_of_mem_drop h)
theorem V.set_solid {y:V} (hy:y.solid=true):∀ (p:List Stp) (c:V),H2 p=true→c.ok p→c.solid=true→(V.set y p c).solid=true
 | [],_,_,_,_=>hy
 | .f o :: p,c,_,hk,_=>by cases c <;> simp only [V.ok] at hk;rfl
 | .i sz ix :: p,c,_,hk,_=>by cases c <;> simp only [V.ok] at hk;rfl
 | .r .. :: _,_,hn,_,_=>by simp [H2] at hn
theorem O6 {e:Env} {y:V} {ys:List Value} (hys:y.solid=true) (hy:R e y ys) (hyl:ys.length=y.size):∀ {p:List Stp} {c:V} {cs:List Value},R e c cs→cs.length=c.size→H2 p=true→c.ok p→y.size=(c.get p).size →
 R e (V.set y p c) (A4 cs (At p) ys)
 | .r .. :: _,_,_,_,_,hn,_,_=>by simp [H2] at hn
 | [], c, cs, h, hl, _, _, hs => by
   simp only [V.set,At,V.get] at *
   have:A4 cs 0 ys=ys:=by simp [A4];omega
   rw [this];exact hy
 | .f o :: p, c, cs, h, hl, hn, hk, hs => by
   cases c <;> simp only [V.ok] at hk;rename_i n fs;simp only [R] at h;simp only [V.get] at hs;simp only [V.set,At,Stp.off];obtain ⟨h1,h2⟩:=GW h.2.2 hk.1;have hlen:((cs.drop o).take (fs.fget o).size).length=(fs.fget o).size:=F6;obtain ⟨h3,h4⟩:=DP h2 hlen hk.2;rw [hlen] at h3;have hz:=V.set_size y p _ hn hk.2 hs;have hll:o + At p + ys.length≤cs.length:=Aa;simp only [R];rw [AN hll,KL];refine ⟨h.1,⟨h.2.1.1,fun x hx=>(Q9 hx).elim (h.2.1.2 x) (JA hys hy x)⟩,WH h.2.2 hk.1 hz Aa Aa hll ?_⟩;rw [hz,EK hll (b:=At p) Aa Aa Aa];exact O6 hys hy hyl h2 hlen hn hk.2 hs
 | .i sz ix :: p, c, cs, h, hl, hn, hk, hs => by
   cases c <;> simp only [V.ok] at hk;rename_i sz' n f;obtain ⟨rfl,hix,hk⟩:=hk;simp only [R] at h;simp only [V.get] at hs;simp only [V.set,At,Stp.off];obtain ⟨⟨h0,h1⟩,h2⟩:=h.2 ix hix;have hmul:∀ j,j < n→j * sz + sz≤n * sz:=fun j hj=>by
    have:(j + 1) * sz≤n * sz:=Nat.mul_le_mul_right _ hj;rw [Nat.add_mul] at this;omega
   have hm:=hmul ix hix;have hlen:((cs.drop (ix * sz)).take sz).length=(f ix).size:=F6;obtain ⟨h3,h4⟩:=DP h2 hlen hk;rw [hlen] at h3;have hz:=V.set_size y p _ hn hk hs;have hll:ix * sz + At p + ys.length≤cs.length:=Aa;simp only [R];rw [AN hll];refine ⟨h.1,fun j hj=>?_⟩;by_cases hji:j=ix
   ·subst hji;simp only [if_true];refine ⟨⟨V.set_solid hys _ _ hn hk h0,by omega⟩,?_⟩;rw [EK hll (b:=At p) Aa Aa Aa];exact O6 hys hy hyl h2 hlen hn hk hs
   ·simp only [hji,if_false];refine ⟨(h.2 j hj).1,?_⟩;have hmj:=hmul j hj;have hd:j * sz + sz≤ix * sz ∨ ix * sz + sz≤j * sz:=by
     rcases Nat.lt_or_ge j ix with hlt | hge
     ·have:(j + 1) * sz≤ix * sz:=Nat.mul_le_mul_right _ hlt;rw [Nat.add_mul] at this;left;omega
     ·have:(ix + 1) * sz≤j * sz:=Nat.mul_le_mul_right _ Aa;rw [Nat.add_mul] at this;right;omega
    rw [Dc hll Aa];exact (h.2 j hj).2
structure Env.le (e e':Env):Prop where
 D:∀ i,e.D i→e'.D i∧e'.ρ i=e.ρ i
 im:∀ b,e.im b→e'.im b∧(∀ c el fz,e.w.heap[b]?=some (.cells c el fz)→∃ el' fz',e'.w.heap[b]?=some (.cells c el' fz'))∧(∀ es ck,e.w.heap[b]?=some (.map es ck)→e'.w.heap[b]?=some (.map es ck))
 sz:∀ b,BM e.w b≤BM e'.w b
 φ:e'.φ=e.φ
 τ:e'.τ=e.τ
theorem Env.le_refl (e:Env):e.le e:=⟨fun _ h=>⟨h,rfl⟩,fun _ h=>⟨h,fun _ el fz hc=>⟨el,fz,hc⟩,fun _ _ hc=>hc⟩,fun _=>Nat.le_refl _,rfl,rfl⟩
theorem Env.le_trans {a b c:Env} (h:a.le b) (k:b.le c):a.le c where
 D i hi:=⟨(k.D i (h.D i hi).1).1,(k.D i (h.D i hi).1).2.trans (h.D i hi).2⟩
 im i hi:=⟨(k.im i (h.im i hi).1).1,fun x el fz hx=>by
  obtain ⟨el',fz',h'⟩:=(h.im i hi).2.1 x el fz hx
  exact (k.im i (h.im i hi).1).2.1 x el' fz' h',fun es ck hx=>(k.im i (h.im i hi).1).2.2 es ck ((h.im i hi).2.2 es ck hx)⟩
 sz i:=Nat.le_trans (h.sz i) (k.sz i)
 φ:=k.φ.trans h.φ
 τ:=k.τ.trans h.τ
theorem Bx {e e':Env} (hle:e.le e'):∀ {v:V} {cs:List Value},R e v cs→R e' v cs
 | .junk,_,h | .int ..,_,h | .bool _,_,h | .str _,_,h | .nilp,_,h | .nils,_,h | .nilm,_,h | .nilf,_,h | .nili,_,h | .fnil,_,h=>by simp only [R] at h ⊢ <;> exact h
 | .ptr id p, cs, h => by
   simp only [R] at h ⊢;obtain ⟨h1,h2⟩:=hle.D id h.1;rw [h2];exact ⟨h1,h.2⟩
 | .map id, cs, h => by
   simp only [R] at h ⊢;obtain ⟨h1,h2⟩:=hle.D id h.1;rw [h2];exact ⟨h1,h.2⟩
 | .sl id p o len sz, cs, h => by
   simp only [R] at h ⊢;obtain ⟨h1,h2⟩:=hle.D id h.1;obtain ⟨_,b,cap,hc,ha,hl,hb⟩:=h;rw [h2];exact ⟨h1,b,cap,hc,ha,hl,Nat.le_trans hb (hle.sz _)⟩
 | .imm v, cs, h => by
   simp only [R] at h ⊢;obtain ⟨b,o,c,el,fz,hc,hi,hb,hs,hv⟩:=h;obtain ⟨h1,h2,_⟩:=hle.im b hi;obtain ⟨el',fz',hb'⟩:=h2 c el fz hb;exact ⟨b,o,c,el',fz',hc,h1,hb',hs,Bx hle hv⟩
 | .lst sz n f, cs, h => by
   simp only [R] at h ⊢;obtain ⟨a,cap,hc,hn,hp⟩:=h;refine ⟨a,cap,hc,hn,fun hpos=>?_⟩;obtain ⟨b,o,c,el,fz,ha,hi,hb,hs,hv⟩:=hp hpos;obtain ⟨h1,h2,_⟩:=hle.im b hi;obtain ⟨el',fz',hb'⟩:=h2 c el fz hb;exact ⟨b,o,c,el',fz',ha,h1,hb',hs,fun i hi=>⟨(hv i hi).1,Bx hle (hv i hi).2⟩⟩
 | .fn f caps, cs, h => by
   simp only [R] at h ⊢;obtain ⟨xs,hc,hx⟩:=h;rw [hle.φ];exact ⟨xs,hc,Bx hle hx⟩
 | .ifc t v, cs, h => by
   simp only [R] at h ⊢;obtain ⟨x,hc,hs,hx⟩:=h;rw [hle.τ];refine ⟨x,hc,hs,?_⟩;split
   ·rename_i ha;simp only [ha] at hx;obtain ⟨c,h1,h2⟩:=hx;exact ⟨c,h1,Bx hle h2⟩
   ·rename_i ha;simp only [ha] at hx;exact Bx hle hx
 | .st n fs, cs, h => by
   simp only [R] at h ⊢;exact ⟨h.1,h.2.1,Bx hle h.2.2⟩
 | .ar sz n f, cs, h => by
   simp only [R] at h ⊢;exact ⟨h.1,fun i hi=>⟨(h.2 i hi).1,Bx hle (h.2 i hi).2⟩⟩
 | .fcons o v r, cs, h => by
   simp only [R] at h ⊢;exact ⟨h.1,h.2.1,h.2.2.1,Bx hle h.2.2.2.1,Bx hle h.2.2.2.2⟩
 | .tup _,_,h=>by simp only [R] at h
 | .mp ..,_,h=>by simp only [R] at h
 | .fm n ks vs, cs, h => by
   simp only [R] at h ⊢;obtain ⟨b,es,ck,hc,hi,hb,hn,hwf,hx⟩:=h;obtain ⟨h1,_,h2⟩:=hle.im b hi;refine ⟨b,es,ck,hc,h1,h2 es ck hb,hn,hwf,fun i x hix=>?_⟩;obtain ⟨⟨q1,q2⟩,q3,q4⟩:=hx i x hix;refine ⟨⟨q1,?_⟩,q3,?_⟩
   ·split
    ·rename_i ha;simp only [ha] at q2;obtain ⟨c,k1,k2⟩:=q2;exact ⟨c,k1,Bx hle k2⟩
    ·rename_i ha;simp only [ha] at q2;exact Bx hle q2
   ·split
    ·rename_i ha;simp only [ha] at q4;obtain ⟨c,k1,k2⟩:=q4;exact ⟨c,k1,Bx hle k2⟩
    ·rename_i ha;simp only [ha] at q4;exact Bx hle q4
theorem C6 {e e':Env} (hle:e.le e') {v:V} {x:Value} (h:RS e v x):RS e' v x:=by
 unfold RS at *
 split
 ·rename_i ha;simp only [ha] at h;obtain ⟨c,h1,h2⟩:=h;exact ⟨c,h1,Bx hle h2⟩
 ·rename_i ha;simp only [ha] at h;exact Bx hle h
theorem S7 {e e':Env} (hle:e.le e'):∀ {v:V} {xs:Array Value},RT e v xs→RT e' v xs
 | .fcons i v r, xs, h => by
   simp only [RT] at h ⊢;obtain ⟨⟨h0,y,h1,h2⟩,h3⟩:=h;exact ⟨⟨h0,y,h1,C6 hle h2⟩,S7 hle h3⟩
 | .junk,_,_ | .int ..,_,_ | .bool _,_,_ | .str _,_,_ | .nilp,_,_ | .nils,_,_ | .nilm,_,_ | .nilf,_,_ | .nili,_,_ | .fnil,_,_ | .ptr ..,_,_ | .map _,_,_ | .sl ..,_,_ | .imm _,_,_
 | .lst ..,_,_ | .fn ..,_,_ | .ifc ..,_,_ | .st ..,_,_ | .ar ..,_,_ | .tup _,_,_ | .mp ..,_,_ | .fm ..,_,_=>trivial
theorem HH {e e':Env} (hle:e.le e') {v:V} {x:Value} (h:RV e v x):RV e' v x:=by
 cases v <;> simp only [RV] at h ⊢;case tup fs=>obtain ⟨xs,h1,h2⟩:=h;exact ⟨xs,h1,S7 hle h2⟩
 all_goals exact C6 hle h
theorem q1 {P:Prop} (h:P:=by first | exact True.intro | rfl):P:=h
theorem q2 {P:Prop} (h:P:=by first | exact True.intro | (intros;rfl)):P:=h
theorem sd {P Q:Prop} (hq:Q) (hp:P:=by first | omega | exact True.intro | rfl):P∧Q:=⟨hp,hq⟩
def d9:=@V.fget.eq_1
def f5:=@V.fget.eq_2
def f6:=@V.fhas.eq_1
def f7:=@V.fhas.eq_2
def f9:=@V.get.eq_1
def j0:=@V.get.eq_2
def j3:=@V.get.eq_3
def j4:=@V.get.eq_4
def j5:=@V.get.eq_5
def j6:=@V.ok.eq_1
def j7:=@V.ok.eq_2
def j8:=@V.ok.eq_3
def j9:=@V.ok.eq_4
def k6:=@V.ok.eq_5
end Mv
