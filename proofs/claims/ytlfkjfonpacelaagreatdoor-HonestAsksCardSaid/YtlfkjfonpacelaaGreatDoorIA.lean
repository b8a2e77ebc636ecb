/- A part. -/
import Derived.WalkKit
import Derived.Orders
set_option linter.all false
namespace Mv
open Go
theorem Aa {P:Prop} (h:P:=by omega):P:=h
theorem AG {P:Prop} (h:P:=by simp only [CH]):P:=h
theorem Al {P:Prop} (h:P:=by decide):P:=h
theorem B9 {P:Prop} (h:P:=by simp):P:=h
theorem Hw {P:Prop} (h:P:=by have:=I.hk;omega):P:=h
theorem Ca {P:Prop} (h:P:=by rfl):P:=h
theorem zq7 {P:Prop} (h:P:=by intro n hn;rcases (show n=0 ∨ n=1 ∨ n=2 ∨ n=3 ∨ n=4 ∨ n=5 ∨ n=6 ∨ n=7 by omega) with rfl | rfl | rfl | rfl | rfl | rfl | rfl | rfl <;> decide):P:=h
theorem FY {P:Prop} (h:P:=by simp;omega):P:=h
theorem zq9 {P:Prop} (h:P:=by rw [Sem.run_bind,hguard];simp [binOp,Op.intCmp]):P:=h
theorem All {P:Prop} (h:P:=by intro id i h1 h2;simp [Ag] at h1;subst h1;simpa using h2.symm):P:=h
theorem Agn {P:Prop} (h:P:=by rw [BitVec.lt_def,t1];show i < 8;omega):P:=h
theorem MY {P:Prop} (h:P:=by simpa using h):P:=h
theorem PI {P:Prop} (h:P:=by simpa using hl):P:=h
theorem KX {P:Prop} (h:P:=by rw [Nat.pow_succ];omega):P:=h
theorem Ac5 {P:Prop} (h:P:=by simpa using hpos):P:=h
theorem Adp {P:Prop} (h:P:=by rw [r3];simp [Az]):P:=h
theorem TD {P:Prop} (h:P:=by simpa [RV,RS,V.isAgg,R] using h):P:=h
theorem Aq6 {P:Prop} (h:P:=by rw [BitVec.toNat_add,BitVec.toNat_ofNat,Nat.mod_eq_of_lt (a:=8) Aa,Nat.mod_eq_of_lt Aa]):P:=h
theorem Arl {P:Prop} (h:P:=by rw [e,Nat.mul_assoc,Nat.mul_comm 2 (2 ^ h * (q + 1)),Nat.mul_assoc];congr 1;omega):P:=h
theorem Ah0 {P:Prop} (h:P:=by simp [IntKind.wrap,IntKind.bits,IntKind.signed]):P:=h
theorem Ha {P:Prop} (h:P:=by rw [BitVec.le_def] at hpc;simpa using hpc):P:=h
theorem Sq {P:Prop} (h:P:=by rw [BitVec.toNat_ofNat,Nat.mod_eq_of_lt Aa]):P:=h
theorem Wr {P:Prop} (h:P:=by simp [Env.new]):P:=h
theorem Iw {P:Prop} (h:P:=by simp [Bm]):P:=h
theorem WK {P:Prop} (h:P:=by rw [← Nat.pow_add];congr 1;omega):P:=h
theorem WM {P:Prop} (h:P:=by rw [BitVec.toNat_add,t1];omega):P:=h
theorem Aqv {P:Prop} (h:P:=by rw [BitVec.toNat_add];show (i.toNat + 1) % 18446744073709551616=_;omega):P:=h
theorem Gv {P:Prop} (h:P:=by simp [Ho,V.solid]):P:=h
theorem Gq {P:Prop} (h:P:=by have:=I.lr s pc;rw [hs,I.lz s hz] at this;omega):P:=h
theorem Akc {P:Prop} (h:P:=by rw [BitVec.ofInt_natCast,BitVec.toNat_ofNat];omega):P:=h
theorem Al8 {P:Prop} (h:P:=by rw [hy,Nat.mul_add,Nat.mul_assoc]):P:=h
theorem Oo {P:Prop} (h:P:=by rw [BitVec.toNat_ofNat];omega):P:=h
theorem Aqu {P:Prop} (h:P:=by rw [BitVec.toNat_add,BitVec.toNat_ofNat,Nat.mod_eq_of_lt (a:=4) Aa,Nat.mod_eq_of_lt Aa]):P:=h
theorem Tq {P:Prop} (h:P:=by rw [BitVec.toNat_mul,t1];show 8 * i % _=_;omega):P:=h
theorem Wc {P:Prop} (h:P:=by apply BitVec.eq_of_toNat_eq;rw [BitVec.toNat_add,t1,BitVec.toNat_ofNat,BitVec.toNat_ofNat]):P:=h
theorem W0 {P:Prop} (h:P:=by simpa using hge):P:=h
theorem AW {P:Prop} (h:P:=by rw [Bu Aa];omega):P:=h
theorem Apb {P:Prop} (h:P:=by show (WX pres s h).2.2.l.length≤_;unfold WX;split <;> exact Nat.le_refl _):P:=h
theorem VM {P:Prop} (h:P:=by simpa using hlt):P:=h
theorem AY {p0 p1:Prop} (h0:p0) (h1:p1):(p0∧p1):=⟨h0,h1⟩
theorem Cv {p0 p1 p2:Prop} (h0:p0) (h1:p1) (h2:p2):(p0∧(p1∧p2)):=⟨h0,⟨h1,h2⟩⟩
theorem D0 {p0 p1 p2 p3:Prop} (h0:p0) (h1:p1) (h2:p2) (h3:p3):((p0∧p1)∧(p2∧p3)):=⟨⟨h0,h1⟩,⟨h2,h3⟩⟩
theorem Em {p0 p1 p2 p3 p4:Prop} (h0:p0) (h1:p1) (h2:p2) (h3:p3) (h4:p4):((p0∧p1)∧(p2∧(p3∧p4))):=⟨⟨h0,h1⟩,⟨h2,⟨h3,h4⟩⟩⟩
theorem Gb {p0 p1 p2 p3 p4 p5:Prop} (h0:p0) (h1:p1) (h2:p2) (h3:p3) (h4:p4) (h5:p5):((p0∧(p1∧p2))∧(p3∧(p4∧p5))):=⟨⟨h0,⟨h1,h2⟩⟩,⟨h3,⟨h4,h5⟩⟩⟩
theorem UW {p0 p1 p2 p3 p4 p5 p6:Prop} (h0:p0) (h1:p1) (h2:p2) (h3:p3) (h4:p4) (h5:p5) (h6:p6):((p0∧(p1∧p2))∧((p3∧p4)∧(p5∧p6))):=⟨⟨h0,⟨h1,h2⟩⟩,⟨⟨h3,h4⟩,⟨h5,h6⟩⟩⟩
theorem Qe {p0 p1 p2 p3 p4 p5 p6 p7:Prop} (h0:p0) (h1:p1) (h2:p2) (h3:p3) (h4:p4) (h5:p5) (h6:p6) (h7:p7):(((p0∧p1)∧(p2∧p3))∧((p4∧p5)∧(p6∧p7))):=⟨⟨⟨h0,h1⟩,⟨h2,h3⟩⟩,⟨⟨h4,h5⟩,⟨h6,h7⟩⟩⟩
theorem aq9 {p0 p1 p2 p3 p4 p5 p6 p7 p8:Prop} (h0:p0) (h1:p1) (h2:p2) (h3:p3) (h4:p4) (h5:p5) (h6:p6) (h7:p7) (h8:p8):(((p0∧p1)∧(p2∧p3))∧((p4∧p5)∧(p6∧(p7∧p8)))):=⟨⟨⟨h0,h1⟩,⟨h2,h3⟩⟩,⟨⟨h4,h5⟩,⟨h6,⟨h7,h8⟩⟩⟩⟩
theorem T5 {p0 p1 p2 p3 p4 p5 p6 p7 p8 p9:Prop} (h0:p0) (h1:p1) (h2:p2) (h3:p3) (h4:p4) (h5:p5) (h6:p6) (h7:p7) (h8:p8) (h9:p9):(((p0∧p1)∧(p2∧(p3∧p4)))∧((p5∧p6)∧(p7∧(p8∧p9)))):=⟨⟨⟨h0,h1⟩,⟨h2,⟨h3,h4⟩⟩⟩,⟨⟨h5,h6⟩,⟨h7,⟨h8,h9⟩⟩⟩⟩
theorem FG {p0 p1 p2 p3 p4 p5 p6 p7 p8 p9 p10:Prop} (h0:p0) (h1:p1) (h2:p2) (h3:p3) (h4:p4) (h5:p5) (h6:p6) (h7:p7) (h8:p8) (h9:p9) (h10:p10):(((p0∧p1)∧(p2∧(p3∧p4)))∧((p5∧(p6∧p7))∧(p8∧(p9∧p10)))):=⟨⟨⟨h0,h1⟩,⟨h2,⟨h3,h4⟩⟩⟩,⟨⟨h5,⟨h6,h7⟩⟩,⟨h8,⟨h9,h10⟩⟩⟩⟩
theorem EZ {p0 p1 p2 p3 p4 p5 p6 p7 p8 p9 p10 p11:Prop} (h0:p0) (h1:p1) (h2:p2) (h3:p3) (h4:p4) (h5:p5) (h6:p6) (h7:p7) (h8:p8) (h9:p9) (h10:p10) (h11:p11):(((p0∧(p1∧p2))∧(p3∧(p4∧p5)))∧((p6∧(p7∧p8))∧(p9∧(p10∧p11)))):=⟨⟨⟨h0,⟨h1,h2⟩⟩,⟨h3,⟨h4,h5⟩⟩⟩,⟨⟨h6,⟨h7,h8⟩⟩,⟨h9,⟨h10,h11⟩⟩⟩⟩
theorem Jh {p0 p1 p2 p3 p4 p5 p6 p7 p8 p9 p10 p11 p12:Prop} (h0:p0) (h1:p1) (h2:p2) (h3:p3) (h4:p4) (h5:p5) (h6:p6) (h7:p7) (h8:p8) (h9:p9) (h10:p10) (h11:p11) (h12:p12):(((p0∧(p1∧p2))∧(p3∧(p4∧p5)))∧((p6∧(p7∧p8))∧((p9∧p10)∧(p11∧p12)))):=⟨⟨⟨h0,⟨h1,h2⟩⟩,⟨h3,⟨h4,h5⟩⟩⟩,⟨⟨h6,⟨h7,h8⟩⟩,⟨⟨h9,h10⟩,⟨h11,h12⟩⟩⟩⟩
theorem Jx {p0 p1 p2 p3 p4 p5 p6 p7 p8 p9 p10 p11 p12 p13:Prop} (h0:p0) (h1:p1) (h2:p2) (h3:p3) (h4:p4) (h5:p5) (h6:p6) (h7:p7) (h8:p8) (h9:p9) (h10:p10) (h11:p11) (h12:p12) (h13:p13):(((p0∧(p1∧p2))∧((p3∧p4)∧(p5∧p6)))∧((p7∧(p8∧p9))∧((p10∧p11)∧(p12∧p13)))):=⟨⟨⟨h0,⟨h1,h2⟩⟩,⟨⟨h3,h4⟩,⟨h5,h6⟩⟩⟩,⟨⟨h7,⟨h8,h9⟩⟩,⟨⟨h10,h11⟩,⟨h12,h13⟩⟩⟩⟩
theorem Ej {p0 p1 p2 p3 p4 p5 p6 p7 p8 p9 p10 p11 p12 p13 p14:Prop} (h0:p0) (h1:p1) (h2:p2) (h3:p3) (h4:p4) (h5:p5) (h6:p6) (h7:p7) (h8:p8) (h9:p9) (h10:p10) (h11:p11) (h12:p12) (h13:p13) (h14:p14):(((p0∧(p1∧p2))∧((p3∧p4)∧(p5∧p6)))∧(((p7∧p8)∧(p9∧p10))∧((p11∧p12)∧(p13∧p14)))):=⟨⟨⟨h0,⟨h1,h2⟩⟩,⟨⟨h3,h4⟩,⟨h5,h6⟩⟩⟩,⟨⟨⟨h7,h8⟩,⟨h9,h10⟩⟩,⟨⟨h11,h12⟩,⟨h13,h14⟩⟩⟩⟩
theorem Fd {p0 p1 p2 p3 p4 p5 p6 p7 p8 p9 p10 p11 p12 p13 p14 p15:Prop} (h0:p0) (h1:p1) (h2:p2) (h3:p3) (h4:p4) (h5:p5) (h6:p6) (h7:p7) (h8:p8) (h9:p9) (h10:p10) (h11:p11) (h12:p12) (h13:p13) (h14:p14) (h15:p15):((((p0∧p1)∧(p2∧p3))∧((p4∧p5)∧(p6∧p7)))∧(((p8∧p9)∧(p10∧p11))∧((p12∧p13)∧(p14∧p15)))):=⟨⟨⟨⟨h0,h1⟩,⟨h2,h3⟩⟩,⟨⟨h4,h5⟩,⟨h6,h7⟩⟩⟩,⟨⟨⟨h8,h9⟩,⟨h10,h11⟩⟩,⟨⟨h12,h13⟩,⟨h14,h15⟩⟩⟩⟩
def Lc6:=(AY @Bool.and_eq_true @List.all_eq_true.{0})
def Lc4:=(Cv @List.length_append.{0} @List.length_cons.{0} @List.length_nil.{0})
def Lbu:=(Cv @List.getElem?_append.{0} @List.length_append.{0} @List.length_take.{0})
def Lb4:=(AY @BitVec.toNat_ushiftRight @Nat.shiftRight_eq_div_pow)
def Lb0:=(AY @Bool.and_eq_true @Bool.not_eq_true')
def To:=(AY @Bool.false_eq_true @if_false.{1})
def Jb:=(AY @and_true @true_and)
def B3:=(AY @List.cons_append.{0} @List.nil_append.{0})
def Vc:=(AY @Go.Result.andThen_ok @Go.Sem.run_bind)
def XA:=(Cv @List.mem_cons.{0} @List.not_mem_nil.{0} @or_false)
def Lao:=(D0 @BitVec.le_def @BitVec.toNat_ofNat @BitVec.toNat_sub @Bool.and_eq_true)
def Lag:=(AY @List.getElem?_cons_succ.{0} @List.getElem?_cons_zero.{0})
def Gd:=(AY @List.cons.injEq.{0} @and_true)
def B4:=(AY @if_false.{1} @if_true.{1})
def PX:=(AY @Bool.false_eq_true @B4)
def Lb9:=(AY @B4 @not_true_eq_false)
def FW:=(Cv @Go.Result.andThen_ok @Go.Sem.run_bind @Go.Sem.run_pure)
inductive Stp where
 | f (off:Nat)
 | i (sz ix:Nat)
 | r (sz o n:Nat)
def Stp.off:Stp→Nat
 | .f o=>o
 | .i sz ix=>ix * sz
 | .r sz o _=>o * sz
def HV:List Stp→Bool
 | []=>true
 | .r .. :: _=>false
 | _ :: p=>HV p
def D9:List Stp→Stp→List Stp
 | [],s=>[s]
 | [.r sz o _],.i sz' ix=>if sz=sz' then [.i sz' (o + ix)] else [.r sz o 0,.i sz' ix]
 | x :: r,s=>x :: D9 r s
def Az:List Stp→Nat
 | []=>0
 | s :: r=>s.off + Az r
theorem Ds:∀ (p:List Stp) (s:Stp),Az (D9 p s)=Az p + s.off
 | [],s=>by simp [D9,Az]
 | .f o :: p,s=>by simp only [D9,Az,Ds p s];omega
 | .i sz ix :: p,s=>by simp only [D9,Az,Ds p s];omega
 | .r sz o n :: x :: p,s=>by simp only [D9,Az,Ds (x :: p) s];omega
 | [.r sz o n],.f _=>by simp [D9,Az]
 | [.r sz o n],.r ..=>by simp [D9,Az]
 | [.r sz o n], .i sz' ix => by
   simp only [D9];split
   ·rename_i h;subst h;simp [Az,Stp.off,Nat.add_mul]
   ·simp [Az,Stp.off]
inductive V where
 | junk
 | int (k:IntKind) (n:Int)
 | bool (b:Bool)
 | str (s:ByteArray)
 | nilp
 | ptr (id:Nat) (p:List Stp)
 | imm (v:V)
 | nils
 | sl (id:Nat) (p:List Stp) (o len sz:Nat)
 | lst (sz n:Nat) (f:Nat→V)
 | nilm
 | map (id:Nat)
 | nilf
 | fn (f:Nat) (caps:V)
 | nili
 | ifc (t:Nat) (v:V)
 | st (n:Nat) (fs:V)
 | ar (sz n:Nat) (f:Nat→V)
 | fnil
 | fcons (o:Nat) (v:V) (r:V)
 | tup (fs:V)
 | mp (n:Nat) (ks vs:Nat→V)
 | fm (n:Nat) (ks vs:Nat→V)
instance:Inhabited V:=⟨.junk⟩
def V.size:V→Nat
 | .st n _=>n
 | .ar sz n _=>n * sz
 | _=>1
def V.isAgg:V→Bool
 | .st _ _=>true
 | .ar _ _ _=>true
 | _=>false
def V.solid:V→Bool
 | .junk | .fnil | .fcons .. | .tup _ | .mp ..=>false
 | _=>true
def V.flo (d:Nat):V→Nat
 | .fcons o _ _=>o
 | _=>d
def V.chain:V→Bool
 | .fnil | .fcons ..=>true
 | _=>false
def V.fget (k:Nat):V→V
 | .fcons o v r=>if o=k then v else V.fget k r
 | _=>.junk
def V.fhas (k:Nat):V→Bool
 | .fcons o _ r=>o == k || V.fhas k r
 | _=>false
def V.fset (k:Nat) (y:V):V→V
 | .fcons o v r=>if o=k then .fcons o y r else .fcons o v (V.fset k y r)
 | v=>v
def V.get:List Stp→V→V
 | [],v=>v
 | .f o :: p,.st _ fs=>V.get p (fs.fget o)
 | .i _ ix :: p,.ar _ _ f=>V.get p (f ix)
 | .r sz o n :: p,.ar _ _ f=>V.get p (.ar sz n (fun i=>f (o + i)))
 | _,_=>.junk
def V.ok:List Stp→V→Prop
 | [],_=>True
 | .f o :: p,.st _ fs=>fs.fhas o=true∧V.ok p (fs.fget o)
 | .i sz ix :: p,.ar sz' n f=>sz=sz'∧ix < n∧V.ok p (f ix)
 | .r sz o m :: p,.ar sz' n f=>sz=sz'∧o + m≤n∧V.ok p (.ar sz m (fun i=>f (o + i)))
 | _,_=>False
def V.set (y:V):List Stp→V→V
 | [],_=>y
 | .f o :: p,.st n fs=>.st n (V.fset o (V.set y p (fs.fget o)) fs)
 | .i _ ix :: p,.ar sz n f=>.ar sz n (fun j=>if j=ix then V.set y p (f ix) else f j)
 | _,v=>v
structure Env where
 ρ:Nat→Nat
 D:Nat→Prop
 im:Nat→Prop
 w:World
 φ:Nat→Nat
 τ:Nat→Nat
def Da (w:World) (b:Nat):Nat :=
 match w.heap[b]? with
 | some (.cells c _ _)=>c.size
 | _=>0
def L6:Nat→String
 | 0 => "moot/onestep.read" | 1 => "moot/onestep.write" | 2 => "moot/onestep.preimage" | 3 => "Error" | 4 => "Unwrap"
 | _ => ""
def Sa (φ:Nat→Nat) (f:Nat) (xs:List Value):Value :=
 if f < 1000000 then .func (.func (φ f)) #[] xs.toArray else if f < 2000000 then .func (.method (L6 (f - 1000000))) xs.toArray #[] else .func (.func (φ (f - 2000000))) xs.toArray #[]
theorem Aht (φ:Nat→Nat) (f:Nat) (xs:List Value):(Sa φ f xs).oneCell'=true:=by unfold Sa;split <;> (try split) <;> rfl
theorem Agu (φ:Nat→Nat) (f:Nat) (xs:List Value) (cs:Array Value):Value.agg cs ≠ Sa φ f xs:=by unfold Sa;split <;> (try split) <;> (intro h;cases h)
def R (e:Env):V→List Value→Prop
 | .junk,cs=>cs.length=1
 | .int k n,cs=>cs=[.int k n]
 | .bool b,cs=>cs=[.bool b]
 | .str s,cs=>cs=[.string s]
 | .nilp,cs=>cs=[.pointer none]
 | .ptr id p,cs=>e.D id∧cs=[.pointer (some ⟨e.ρ id,Az p,none⟩)]
 | .imm v,cs=>∃ b o c el fz,cs=[.pointer (some ⟨b,o,none⟩)]∧e.im b∧e.w.heap[b]?=some (.cells c el fz)∧o + v.size≤c.size∧R e v ((c.toList.drop o).take v.size)
 | .nils,cs=>cs=[.slice none 0 0]
 | .sl id p o len sz,cs=>e.D id∧∃ b cap,cs=[.slice b len cap]∧(cap=0 ∨ b=some ⟨e.ρ id,Az p + o * sz,none⟩)∧len≤cap∧Az p + (o + cap) * sz≤Da e.w (e.ρ id)
 | .lst sz n f,cs=>∃ a cap,cs=[.slice a n cap]∧n≤cap∧(0 < n→∃ b o c el fz,a=some ⟨b,o,none⟩∧e.im b∧e.w.heap[b]?=some (.cells c el fz)∧o + n * sz≤c.size ∧
  ∀ i,i < n→((f i).solid=true∧(f i).size=sz)∧R e (f i) ((c.toList.drop (o + i * sz)).take sz))
 | .nilm,cs=>cs=[.map none]
 | .map id,cs=>e.D id∧cs=[.map (some (e.ρ id))]
 | .nilf,cs=>cs=[.nilFunc]
 | .fn f caps,cs=>∃ xs:List Value,cs=[Sa e.φ f xs]∧R e caps xs
 | .nili,cs=>cs=[.nilIface]
 | .ifc t v,cs=>∃ x,cs=[.iface (e.τ t) x]∧v.solid=true∧(match v.isAgg with | true=>∃ c:List Value,x = .agg c.toArray∧R e v c | false=>R e v [x])
 | .st n fs,cs=>cs.length=n∧(fs.chain=true∧∀ x ∈ cs,x.oneCell'=true)∧R e fs cs
 | .ar sz n f,cs=>cs.length=n * sz∧∀ i,i < n→((f i).solid=true∧(f i).size=sz)∧R e (f i) ((cs.drop (i * sz)).take sz)
 | .fnil,_=>True
 | .fcons o v r,cs=>r.chain=true∧o + v.size≤r.flo cs.length∧o + v.size≤cs.length∧R e v ((cs.drop o).take v.size)∧R e r cs
 | .tup _,_=>False
 | .mp ..,_=>False
 | .fm n ks vs,cs=>∃ b es clock,cs=[.map (some b)]∧e.im b∧e.w.heap[b]?=some (.map es clock)∧es.size=n∧∀ i x,es[i]?=some x →
  ((ks i).solid=true∧(match (ks i).isAgg with | true=>∃ c:List Value,x.key = .agg c.toArray∧R e (ks i) c | false=>R e (ks i) [x.key])) ∧
  (vs i).solid=true∧(match (vs i).isAgg with | true=>∃ c:List Value,x.val = .agg c.toArray∧R e (vs i) c | false=>R e (vs i) [x.val])
def RS (e:Env) (v:V) (x:Value):Prop :=
 match v.isAgg with
 | true=>∃ cs:List Value,x = .agg cs.toArray∧R e v cs
 | false=>R e v [x]
def RT (e:Env):V→Array Value→Prop
 | .fcons i v r,xs=>(v.solid=true∧∃ y,xs[i]?=some y∧RS e v y)∧RT e r xs
 | _,_=>True
def RV (e:Env) (v:V) (x:Value):Prop :=
 match v with
 | .junk=>True
 | .tup fs=>∃ xs,x = .tuple xs∧RT e fs xs
 | .fnil | .fcons .. | .mp ..=>False
 | v=>RS e v x
theorem Bh {e:Env} {v:V} {x:Value} (hs:v.solid=true):RV e v x ↔ RS e v x:=by
 cases v <;> simp_all [RV,V.solid]
theorem L9 {e:Env} {v:V} {x:Value} (hs:v.solid=true) (h:RS e v x):R e v x.cells.toList:=by
 unfold RS at h;cases v <;> simp only [V.isAgg,V.solid,Bool.false_eq_true] at h hs;case st n fs=>obtain ⟨cs,rfl,h⟩:=h;simpa [Value.cells] using h
 case ar sz n f=>obtain ⟨cs,rfl,h⟩:=h;simpa [Value.cells] using h
 all_goals
  have hx:∀ cs,x ≠ .agg cs:=by
   rintro cs rfl;simp [R] at h <;> (obtain ⟨xs,h,_⟩:=h;exact Agu _ _ _ _ h)
  have:x.cells = #[x]:=by
   unfold Value.cells;split
   ·exact absurd rfl (hx _)
   ·rfl
  rw [this];exact h
theorem Nz {e:Env} {v:V} {cs:List Value} (hs:v.solid=true) (h:R e v cs):cs.length=v.size:=by
 cases v <;> simp only [V.solid,Bool.false_eq_true] at hs <;> simp only [R] at h <;> simp only [V.size];case imm v=>obtain ⟨b,o,c,el,fz,rfl,_⟩:=h;rfl
 case ptr=>rw [h.2];rfl
 case map=>rw [h.2];rfl
 case sl=>obtain ⟨_,b,cap,rfl,_⟩:=h;rfl
 case lst=>obtain ⟨a,cap,rfl,_⟩:=h;rfl
 case fn=>obtain ⟨xs,rfl,_⟩:=h;rfl
 case ifc=>obtain ⟨x,rfl,_⟩:=h;rfl
 case fm=>obtain ⟨b,es,ck,rfl,_⟩:=h;rfl
 case st=>exact h.1
 case ar=>exact h.1
 all_goals rw [h];rfl
theorem Lq {e:Env}:∀ {v:V} {cs:List Value},v.solid=true→R e v cs→∀ x ∈ cs,x.oneCell'=true
 | .ar sz n f, cs, _, h, x, hx => by
   simp only [R] at h;obtain ⟨hl,h⟩:=h;obtain ⟨j,hj,rfl⟩:=List.getElem_of_mem hx;have hpos:0 < sz:=by
    rcases Nat.eq_zero_or_pos sz with rfl | hp
    ·simp at hl;rw [hl] at hj;simp at hj
    ·exact hp
   have hd:j / sz < n:=by rw [Nat.div_lt_iff_lt_mul hpos];omega
   obtain ⟨⟨hsol,_⟩,hR⟩:=h (j / sz) hd;refine Lq hsol hR _ ?_;rw [List.mem_iff_getElem?];refine ⟨j % sz,?_⟩;have hm:j % sz < sz:=Nat.mod_lt _ hpos;simp only [List.getElem?_take,hm,if_true,List.getElem?_drop];rw [Nat.mul_comm,Nat.div_add_mod];exact List.getElem?_eq_getElem hj
 | .st n fs, cs, _, h, x, hx => by
   simp only [R] at h;exact h.2.1.2 x hx
 | .int .., cs, _, h, x, hx | .bool _, cs, _, h, x, hx | .str _, cs, _, h, x, hx | .nilp, cs, _, h, x, hx | .nils, cs, _, h, x, hx | .nilm, cs, _, h, x, hx | .nilf, cs, _, h, x, hx | .nili, cs, _, h, x, hx => by
   simp only [R] at h;subst h;simp at hx;subst hx;rfl
 | .ptr .., cs, _, h, x, hx | .map _, cs, _, h, x, hx => by
   simp only [R] at h;rw [h.2] at hx;simp at hx;subst hx;rfl
 | .imm _, cs, _, h, x, hx => by
   simp only [R] at h;obtain ⟨b,o,c,el,fz,rfl,_⟩:=h;simp at hx;subst hx;rfl
 | .sl .., cs, _, h, x, hx => by
   simp only [R] at h;obtain ⟨_,b,cap,rfl,_⟩:=h;simp at hx;subst hx;rfl
 | .lst .., cs, _, h, x, hx => by
   simp only [R] at h;obtain ⟨a,cap,rfl,_⟩:=h;simp at hx;subst hx;rfl
 | .fm .., cs, _, h, x, hx => by
   simp only [R] at h;obtain ⟨b,es,ck,rfl,_⟩:=h;simp at hx;subst hx;rfl
 | .fn .., cs, _, h, x, hx => by
   simp only [R] at h;obtain ⟨xs,rfl,_⟩:=h;simp at hx;subst hx;exact Aht _ _ _
 | .ifc .., cs, _, h, x, hx => by
   simp only [R] at h;obtain ⟨y,rfl,_⟩:=h;simp at hx;subst hx;rfl
theorem Bi (cs:List Value) (a n b m:Nat) (h:b + m≤n) :
 (((cs.drop a).take n).drop b).take m=(cs.drop (a + b)).take m:=by
 rw [List.drop_take,List.take_take,List.drop_drop,Nat.min_eq_left Aa]
theorem H7 {e:Env} {k:Nat}:∀ {fs:V} {cs:List Value},R e fs cs→fs.fhas k=true →
 k + (fs.fget k).size≤cs.length∧R e (fs.fget k) ((cs.drop k).take (fs.fget k).size)
 | .fcons o v r, cs, h, hk => by
   simp only [R] at h;obtain ⟨_,_,h2,h3,h4⟩:=h;simp only [V.fget];split
   ·rename_i he;subst he;exact ⟨h2,h3⟩
   ·rename_i hne;simp only [V.fhas,Bool.or_eq_true,beq_iff_eq,hne,false_or] at hk;exact H7 h4 hk
 | .junk,_,_,hk | .int ..,_,_,hk | .bool _,_,_,hk | .str _,_,_,hk | .nilp,_,_,hk | .ptr ..,_,_,hk | .imm _,_,_,hk | .nils,_,_,hk
 | .sl ..,_,_,hk | .lst ..,_,_,hk | .nilm,_,_,hk | .map _,_,_,hk | .nilf,_,_,hk | .fn ..,_,_,hk | .nili,_,_,hk | .ifc ..,_,_,hk
 | .st ..,_,_,hk | .ar ..,_,_,hk | .fnil,_,_,hk | .tup _,_,_,hk | .mp ..,_,_,hk | .fm ..,_,_,hk=>by simp [V.fhas] at hk
theorem Pz {e:Env} {sz n o m:Nat} {f:Nat→V} {cs:List Value} (h:R e (.ar sz n f) cs) (hm:o + m≤n):R e (.ar sz m (fun i=>f (o + i))) ((cs.drop (o * sz)).take (m * sz)):=by
 simp only [R] at h ⊢;have hmul:o * sz + m * sz≤n * sz:=by
  have:(o + m) * sz≤n * sz:=Nat.mul_le_mul_right _ hm;rw [Nat.add_mul] at this;omega
 refine ⟨by simp;omega,fun i hi=>?_⟩;obtain ⟨h1,h2⟩:=h.2 (o + i) Aa;refine ⟨h1,?_⟩;have hi':i * sz + sz≤m * sz:=by
  have:(i + 1) * sz≤m * sz:=Nat.mul_le_mul_right _ hi;rw [Nat.add_mul] at this;omega
 rw [Bi _ _ _ _ _ hi',← Nat.add_mul];exact h2
theorem E7 {e:Env}:∀ {p:List Stp} {c:V} {cs:List Value},R e c cs→cs.length=c.size→c.ok p →
 Az p + (c.get p).size≤cs.length∧R e (c.get p) ((cs.drop (Az p)).take (c.get p).size)
 | [], c, cs, h, hl, _ => by
   simp only [V.get,Az,Nat.zero_add,List.drop_zero];refine ⟨Nat.le_of_eq hl.symm,?_⟩;rw [List.take_of_length_le Aa];exact h
 | .f o :: p, c, cs, h, hl, hk => by
   cases c <;> simp only [V.ok] at hk;rename_i n fs;simp only [R] at h;simp only [V.get,Az,Stp.off];obtain ⟨h1,h2⟩:=H7 h.2.2 hk.1;have hlen:((cs.drop o).take (fs.fget o).size).length=(fs.fget o).size:=FY;obtain ⟨h3,h4⟩:=E7 h2 hlen hk.2;rw [hlen] at h3;refine ⟨by omega,?_⟩;rw [Bi _ _ _ _ _ h3] at h4;exact h4
 | .i sz ix :: p, c, cs, h, hl, hk => by
   cases c <;> simp only [V.ok] at hk;rename_i sz' n f;obtain ⟨rfl,hix,hk⟩:=hk;simp only [R] at h;simp only [V.get,Az,Stp.off];obtain ⟨⟨_,h1⟩,h2⟩:=h.2 ix hix;have hmul:ix * sz + sz≤n * sz:=by
    have:(ix + 1) * sz≤n * sz:=Nat.mul_le_mul_right _ hix;rw [Nat.add_mul] at this;omega
   have hlen:((cs.drop (ix * sz)).take sz).length=(f ix).size:=FY;obtain ⟨h3,h4⟩:=E7 h2 hlen hk;rw [hlen] at h3;refine ⟨by omega,?_⟩;rw [Bi _ _ _ _ _ Aa] at h4;exact h4
 | .r sz o m :: p, c, cs, h, hl, hk => by
   cases c <;> simp only [V.ok] at hk;rename_i sz' n f;obtain ⟨rfl,hix,hk⟩:=hk;simp only [V.get,Az,Stp.off];have hw:=Pz h hix;simp only [R] at h;have hmul:o * sz + m * sz≤n * sz:=by
    have:(o + m) * sz≤n * sz:=Nat.mul_le_mul_right _ hix;rw [Nat.add_mul] at this;omega
   have hlen:((cs.drop (o * sz)).take (m * sz)).length=(V.ar sz m (fun i=>f (o + i))).size:=by simp [V.size];omega
   obtain ⟨h3,h4⟩:=E7 hw hlen hk;rw [hlen] at h3;have h3:Az p + ((V.ar sz m (fun i=>f (o + i))).get p).size≤m * sz:=h3;refine ⟨by omega,?_⟩;rw [Bi _ _ _ _ _ Aa] at h4;exact h4
def A7 (cs:List Value) (o:Nat) (ys:List Value):List Value:=cs.take o ++ ys ++ cs.drop (o + ys.length)
theorem Bc {cs ys:List Value} {o:Nat} (h:o + ys.length≤cs.length):(A7 cs o ys).length=cs.length:=by
 simp [A7];omega
theorem JC {cs ys:List Value} {o n:Nat} (h:o + ys.length≤cs.length) (hn:n=ys.length):((A7 cs o ys).drop o).take n=ys:=by
 subst hn;have hm:min o cs.length=o:=Aa;simp [A7,hm]
theorem Fo {cs ys:List Value} {o a n b:Nat} (h:o + ys.length≤cs.length) (ho:o=a + b) (hb:b + ys.length≤n) (ha:a + n≤cs.length) :
 ((A7 cs o ys).drop a).take n=A7 ((cs.drop a).take n) b ys:=by
 subst ho;apply List.ext_getElem?;intro i;simp only [A7,List.getElem?_take,List.getElem?_drop,Lbu,List.length_drop];by_cases h1:i < n
 ·simp only [h1,if_true];by_cases h2:i < b
  ·have a1:a + i < min (a + b) cs.length + ys.length:=Aa;have a2:a + i < min (a + b) cs.length:=Aa;have a3:i < min b (min n (cs.length - a)) + ys.length:=Aa;have a4:i < min b (min n (cs.length - a)):=Aa;have a5:a + i < a + b:=Aa;simp [a1,a2,a3,a4,a5,h2]
  ·by_cases h3:i < b + ys.length
   ·have a1:a + i < min (a + b) cs.length + ys.length:=Aa;have a2:¬ a + i < min (a + b) cs.length:=Aa;have a3:i < min b (min n (cs.length - a)) + ys.length:=Aa;have a4:¬ i < min b (min n (cs.length - a)):=Aa;have a5:a + i - min (a + b) cs.length=i - min b (min n (cs.length - a)):=Aa;simp [a1,a2,a3,a4,a5]
   ·have a1:¬ a + i < min (a + b) cs.length + ys.length:=Aa;have a3:¬ i < min b (min n (cs.length - a)) + ys.length:=Aa;have e1:a + b + ys.length + (a + i - (min (a + b) cs.length + ys.length))=a + i:=Aa;have e2:b + ys.length + (i - (min b (min n (cs.length - a)) + ys.length))=i:=Aa;simp [a1,a3,e1,e2,h1]
 ·simp only [h1,if_false];have a3:¬ i < min b (min n (cs.length - a)) + ys.length:=Aa;have e2:b + ys.length + (i - (min b (min n (cs.length - a)) + ys.length))=i:=Aa;simp [a3,e2,h1]
theorem DP {cs ys:List Value} {o a n:Nat} (h:o + ys.length≤cs.length) (hd:a + n≤o ∨ o + ys.length≤a) :
 ((A7 cs o ys).drop a).take n=(cs.drop a).take n:=by
 apply List.ext_getElem?;intro i;simp only [A7,List.getElem?_take,List.getElem?_drop,Lbu];by_cases h1:i < n
 ·simp only [h1,if_true];rcases hd with hd | hd
  ·have a1:a + i < min o cs.length + ys.length:=Aa;have a2:a + i < min o cs.length:=Aa;have a3:a + i < o:=Aa;simp [a1,a2,a3]
  ·have a1:¬ a + i < min o cs.length + ys.length:=Aa;have e1:o + ys.length + (a + i - (min o cs.length + ys.length))=a + i:=Aa;simp [a1,e1]
 ·simp [h1]
theorem V.set_size (y:V):∀ (p:List Stp) (c:V),HV p=true→c.ok p→y.size=(c.get p).size→(V.set y p c).size=c.size
 | [],c,_,_,h=>by simpa [V.set,V.get] using h
 | .f o :: p,c,_,hk,_=>by cases c <;> simp only [V.ok] at hk;rfl
 | .i sz ix :: p,c,_,hk,_=>by cases c <;> simp only [V.ok] at hk;rfl
 | .r .. :: _,_,hn,_,_=>by simp [HV] at hn
theorem TR {e:Env}:∀ {fs:V} {cs:List Value} {k:Nat},R e fs cs→fs.fhas k=true→fs.flo cs.length≤k
 | .fcons o v r, cs, k, h, hk => by
   simp only [V.flo];simp only [V.fhas,Bool.or_eq_true,beq_iff_eq] at hk;rcases hk with hk | hk
   ·omega
   ·simp only [R] at h;have:=TR h.2.2.2.2 hk;omega
 | .junk,_,_,_,hk | .int ..,_,_,_,hk | .bool _,_,_,_,hk | .str _,_,_,_,hk | .nilp,_,_,_,hk | .ptr ..,_,_,_,hk | .imm _,_,_,_,hk | .nils,_,_,_,hk
 | .sl ..,_,_,_,hk | .lst ..,_,_,_,hk | .nilm,_,_,_,hk | .map _,_,_,_,hk | .nilf,_,_,_,hk | .fn ..,_,_,_,hk | .nili,_,_,_,hk | .ifc ..,_,_,_,hk
 | .st ..,_,_,_,hk | .ar ..,_,_,_,hk | .fnil,_,_,_,hk | .tup _,_,_,_,hk | .mp ..,_,_,_,hk | .fm ..,_,_,_,hk=>by simp [V.fhas] at hk
theorem G4 {e:Env}:∀ {fs:V} {cs ys:List Value} {o:Nat},fs.chain=true→(∀ k,fs.fhas k=true→o + ys.length≤k)→o + ys.length≤cs.length→R e fs cs→R e fs (A7 cs o ys)
 | .fcons k v r, cs, ys, o, _, hb, hl, h => by
   simp only [R] at h ⊢;obtain ⟨h0,h1,h2,h3,h4⟩:=h;have hk:o + ys.length≤k:=hb k (by simp [V.fhas]);rw [Bc hl,DP hl (.inr hk)];exact ⟨h0,h1,h2,h3,G4 h0 (fun j hj=>hb j (by simp only [V.fhas,Bool.or_eq_true];exact .inr hj)) hl h4⟩
 | .fnil,_,_,_,_,_,_,_=>trivial
 | .junk,_,_,_,hc,_,_,_ | .int ..,_,_,_,hc,_,_,_ | .bool _,_,_,_,hc,_,_,_ | .str _,_,_,_,hc,_,_,_ | .nilp,_,_,_,hc,_,_,_ | .ptr ..,_,_,_,hc,_,_,_ | .imm _,_,_,_,hc,_,_,_
 | .nils,_,_,_,hc,_,_,_ | .sl ..,_,_,_,hc,_,_,_ | .lst ..,_,_,_,hc,_,_,_ | .nilm,_,_,_,hc,_,_,_ | .map _,_,_,_,hc,_,_,_ | .nilf,_,_,_,hc,_,_,_ | .fn ..,_,_,_,hc,_,_,_
 | .nili,_,_,_,hc,_,_,_ | .ifc ..,_,_,_,hc,_,_,_ | .st ..,_,_,_,hc,_,_,_ | .ar ..,_,_,_,hc,_,_,_ | .tup _,_,_,_,hc,_,_,_ | .mp ..,_,_,_,hc,_,_,_ | .fm ..,_,_,_,hc,_,_,_=>by simp [V.chain] at hc
theorem Zk (d k:Nat) (y:V):∀ fs:V,(V.fset k y fs).flo d=fs.flo d
 | .fcons o v r=>by simp only [V.fset];split <;> rfl
 | .junk | .int .. | .bool _ | .str _ | .nilp | .ptr .. | .imm _ | .nils | .sl .. | .lst .. | .nilm | .map _ | .nilf | .fn .. | .nili | .ifc .. | .st .. | .ar .. | .fnil | .tup _ | .mp .. | .fm ..=>rfl
theorem L3 (k:Nat) (y:V):∀ fs:V,(V.fset k y fs).chain=fs.chain
 | .fcons o v r=>by simp only [V.fset];split <;> rfl
 | .junk | .int .. | .bool _ | .str _ | .nilp | .ptr .. | .imm _ | .nils | .sl .. | .lst .. | .nilm | .map _ | .nilf | .fn .. | .nili | .ifc .. | .st .. | .ar .. | .fnil | .tup _ | .mp .. | .fm ..=>rfl
theorem Ach {e:Env} {k O:Nat} {y:V} {ys:List Value}:∀ {fs:V} {cs:List Value},R e fs cs→fs.fhas k=true→y.size=(fs.fget k).size→k≤O→O + ys.length≤k + y.size→O + ys.length≤cs.length →
 R e y (((A7 cs O ys).drop k).take y.size)→R e (V.fset k y fs) (A7 cs O ys)
 | .fcons o v r, cs, h, hk, hy, hkO, hO, hl, hw => by
   simp only [R] at h;obtain ⟨h0,h1,h2,h3,h4⟩:=h;simp only [V.fset];simp only [V.fget] at hy;split
   ·rename_i heq;subst heq;simp only [if_true] at hy;simp only [R];rw [Bc hl];refine ⟨h0,by omega,by omega,hw,G4 h0 (fun j hj=>?_) hl h4⟩;have:=TR h4 hj;omega
   ·rename_i hne;simp only [hne,if_false] at hy;simp only [V.fhas,Bool.or_eq_true,beq_iff_eq,hne,false_or] at hk;have:=TR h4 hk;simp only [R];rw [Bc hl,Zk,L3,DP hl (.inl Aa)];exact ⟨h0,h1,h2,h3,Ach h4 hk hy hkO hO hl hw⟩
 | .junk,_,_,hk,_,_,_,_,_ | .int ..,_,_,hk,_,_,_,_,_ | .bool _,_,_,hk,_,_,_,_,_ | .str _,_,_,hk,_,_,_,_,_ | .nilp,_,_,hk,_,_,_,_,_ | .ptr ..,_,_,hk,_,_,_,_,_
 | .imm _,_,_,hk,_,_,_,_,_ | .nils,_,_,hk,_,_,_,_,_ | .sl ..,_,_,hk,_,_,_,_,_ | .lst ..,_,_,hk,_,_,_,_,_ | .nilm,_,_,hk,_,_,_,_,_ | .map _,_,_,hk,_,_,_,_,_
 | .nilf,_,_,hk,_,_,_,_,_ | .fn ..,_,_,hk,_,_,_,_,_ | .nili,_,_,hk,_,_,_,_,_ | .ifc ..,_,_,hk,_,_,_,_,_ | .st ..,_,_,hk,_,_,_,_,_ | .ar ..,_,_,hk,_,_,_,_,_
 | .fnil,_,_,hk,_,_,_,_,_ | .tup _,_,_,hk,_,_,_,_,_ | .mp ..,_,_,hk,_,_,_,_,_ | .fm ..,_,_,hk,_,_,_,_,_=>by simp [V.fhas] at hk
theorem SY {cs ys:List Value} {o:Nat} {x:Value} (h:x ∈ A7 cs o ys):x ∈ cs ∨ x ∈ ys:=by
 simp only [A7,List.mem_append] at h;rcases h with (h | h) | h
 ·exact .inl (List.mem_of_mem_take h)
 ·exact .inr h
 ·exact .inl (List.mem_of_mem_drop h)
theorem V.set_solid {y:V} (hy:y.solid=true):∀ (p:List Stp) (c:V),HV p=true→c.ok p→c.solid=true→(V.set y p c).solid=true
 | [],_,_,_,_=>hy
 | .f o :: p,c,_,hk,_=>by cases c <;> simp only [V.ok] at hk;rfl
 | .i sz ix :: p,c,_,hk,_=>by cases c <;> simp only [V.ok] at hk;rfl
 | .r .. :: _,_,hn,_,_=>by simp [HV] at hn
theorem QM {e:Env} {y:V} {ys:List Value} (hys:y.solid=true) (hy:R e y ys) (hyl:ys.length=y.size):∀ {p:List Stp} {c:V} {cs:List Value},R e c cs→cs.length=c.size→HV p=true→c.ok p→y.size=(c.get p).size →
 R e (V.set y p c) (A7 cs (Az p) ys)
 | .r .. :: _,_,_,_,_,hn,_,_=>by simp [HV] at hn
 | [], c, cs, h, hl, _, _, hs => by
   simp only [V.set,Az,V.get] at *
   have:A7 cs 0 ys=ys:=by simp [A7];omega
   rw [this];exact hy
 | .f o :: p, c, cs, h, hl, hn, hk, hs => by
   cases c <;> simp only [V.ok] at hk;rename_i n fs;simp only [R] at h;simp only [V.get] at hs;simp only [V.set,Az,Stp.off];obtain ⟨h1,h2⟩:=H7 h.2.2 hk.1;have hlen:((cs.drop o).take (fs.fget o).size).length=(fs.fget o).size:=FY;obtain ⟨h3,h4⟩:=E7 h2 hlen hk.2;rw [hlen] at h3;have hz:=V.set_size y p _ hn hk.2 hs;have hll:o + Az p + ys.length≤cs.length:=Aa;simp only [R];rw [Bc hll,L3];refine ⟨h.1,⟨h.2.1.1,fun x hx=>(SY hx).elim (h.2.1.2 x) (Lq hys hy x)⟩,Ach h.2.2 hk.1 hz Aa Aa hll ?_⟩;rw [hz,Fo hll (b:=Az p) Aa Aa Aa];exact QM hys hy hyl h2 hlen hn hk.2 hs
 | .i sz ix :: p, c, cs, h, hl, hn, hk, hs => by
   cases c <;> simp only [V.ok] at hk;rename_i sz' n f;obtain ⟨rfl,hix,hk⟩:=hk;simp only [R] at h;simp only [V.get] at hs;simp only [V.set,Az,Stp.off];obtain ⟨⟨h0,h1⟩,h2⟩:=h.2 ix hix;have hmul:∀ j,j < n→j * sz + sz≤n * sz:=fun j hj=>by
    have:(j + 1) * sz≤n * sz:=Nat.mul_le_mul_right _ hj;rw [Nat.add_mul] at this;omega
   have hm:=hmul ix hix;have hlen:((cs.drop (ix * sz)).take sz).length=(f ix).size:=FY;obtain ⟨h3,h4⟩:=E7 h2 hlen hk;rw [hlen] at h3;have hz:=V.set_size y p _ hn hk hs;have hll:ix * sz + Az p + ys.length≤cs.length:=Aa;simp only [R];rw [Bc hll];refine ⟨h.1,fun j hj=>?_⟩;by_cases hji:j=ix
   ·subst hji;simp only [if_true];refine ⟨⟨V.set_solid hys _ _ hn hk h0,by omega⟩,?_⟩;rw [Fo hll (b:=Az p) Aa Aa Aa];exact QM hys hy hyl h2 hlen hn hk hs
   ·simp only [hji,if_false];refine ⟨(h.2 j hj).1,?_⟩;have hmj:=hmul j hj;have hd:j * sz + sz≤ix * sz ∨ ix * sz + sz≤j * sz:=by
     rcases Nat.lt_or_ge j ix with hlt | hge
     ·have:(j + 1) * sz≤ix * sz:=Nat.mul_le_mul_right _ hlt;rw [Nat.add_mul] at this;left;omega
     ·have:(ix + 1) * sz≤j * sz:=Nat.mul_le_mul_right _ Aa;rw [Nat.add_mul] at this;right;omega
    rw [DP hll Aa];exact (h.2 j hj).2
structure Env.le (e e':Env):Prop where
 D:∀ i,e.D i→e'.D i∧e'.ρ i=e.ρ i
 im:∀ b,e.im b→e'.im b∧(∀ c el fz,e.w.heap[b]?=some (.cells c el fz)→∃ el' fz',e'.w.heap[b]?=some (.cells c el' fz'))∧(∀ es ck,e.w.heap[b]?=some (.map es ck)→e'.w.heap[b]?=some (.map es ck))
 sz:∀ b,Da e.w b≤Da e'.w b
 φ:e'.φ=e.φ
 τ:e'.τ=e.τ
theorem Env.le_refl (e:Env):e.le e:=⟨fun _ h=>⟨h,rfl⟩,fun _ h=>⟨h,fun _ el fz hc=>⟨el,fz,hc⟩,fun _ _ hc=>hc⟩,fun _=>Nat.le_refl _,rfl,rfl⟩
theorem Env.le_trans {a b c:Env} (h:a.le b) (k:b.le c):a.le c where
 D i hi:=⟨(k.D i (h.D i hi).1).1,(k.D i (h.D i hi).1).2.trans (h.D i hi).2⟩
 im i hi:=⟨(k.im i (h.im i hi).1).1,fun x el fz hx=>by
  obtain ⟨el',fz',h'⟩:=(h.im i hi).2.1 x el fz hx
  exact (k.im i (h.im i hi).1).2.1 x el' fz' h',fun es ck hx=>(k.im i (h.im i hi).1).2.2 es ck ((h.im i hi).2.2 es ck hx)⟩
 sz i:=Nat.le_trans (h.sz i) (k.sz i)
 φ:=k.φ.trans h.φ
 τ:=k.τ.trans h.τ
theorem Cw {e e':Env} (hle:e.le e'):∀ {v:V} {cs:List Value},R e v cs→R e' v cs
 | .junk,_,h | .int ..,_,h | .bool _,_,h | .str _,_,h | .nilp,_,h | .nils,_,h | .nilm,_,h | .nilf,_,h | .nili,_,h | .fnil,_,h=>by simp only [R] at h ⊢ <;> exact h
 | .ptr id p, cs, h => by
   simp only [R] at h ⊢;obtain ⟨h1,h2⟩:=hle.D id h.1;rw [h2];exact ⟨h1,h.2⟩
 | .map id, cs, h => by
   simp only [R] at h ⊢;obtain ⟨h1,h2⟩:=hle.D id h.1;rw [h2];exact ⟨h1,h.2⟩
 | .sl id p o len sz, cs, h => by
   simp only [R] at h ⊢;obtain ⟨h1,h2⟩:=hle.D id h.1;obtain ⟨_,b,cap,hc,ha,hl,hb⟩:=h;rw [h2];exact ⟨h1,b,cap,hc,ha,hl,Nat.le_trans hb (hle.sz _)⟩
 | .imm v, cs, h => by
   simp only [R] at h ⊢;obtain ⟨b,o,c,el,fz,hc,hi,hb,hs,hv⟩:=h;obtain ⟨h1,h2,_⟩:=hle.im b hi;obtain ⟨el',fz',hb'⟩:=h2 c el fz hb;exact ⟨b,o,c,el',fz',hc,h1,hb',hs,Cw hle hv⟩
 | .lst sz n f, cs, h => by
   simp only [R] at h ⊢;obtain ⟨a,cap,hc,hn,hp⟩:=h;refine ⟨a,cap,hc,hn,fun hpos=>?_⟩;obtain ⟨b,o,c,el,fz,ha,hi,hb,hs,hv⟩:=hp hpos;obtain ⟨h1,h2,_⟩:=hle.im b hi;obtain ⟨el',fz',hb'⟩:=h2 c el fz hb;exact ⟨b,o,c,el',fz',ha,h1,hb',hs,fun i hi=>⟨(hv i hi).1,Cw hle (hv i hi).2⟩⟩
 | .fn f caps, cs, h => by
   simp only [R] at h ⊢;obtain ⟨xs,hc,hx⟩:=h;rw [hle.φ];exact ⟨xs,hc,Cw hle hx⟩
 | .ifc t v, cs, h => by
   simp only [R] at h ⊢;obtain ⟨x,hc,hs,hx⟩:=h;rw [hle.τ];refine ⟨x,hc,hs,?_⟩;split
   ·rename_i ha;simp only [ha] at hx;obtain ⟨c,h1,h2⟩:=hx;exact ⟨c,h1,Cw hle h2⟩
   ·rename_i ha;simp only [ha] at hx;exact Cw hle hx
 | .st n fs, cs, h => by
   simp only [R] at h ⊢;exact ⟨h.1,h.2.1,Cw hle h.2.2⟩
 | .ar sz n f, cs, h => by
   simp only [R] at h ⊢;exact ⟨h.1,fun i hi=>⟨(h.2 i hi).1,Cw hle (h.2 i hi).2⟩⟩
 | .fcons o v r, cs, h => by
   simp only [R] at h ⊢;exact ⟨h.1,h.2.1,h.2.2.1,Cw hle h.2.2.2.1,Cw hle h.2.2.2.2⟩
 | .tup _,_,h=>by simp only [R] at h
 | .mp ..,_,h=>by simp only [R] at h
 | .fm n ks vs, cs, h => by
   simp only [R] at h ⊢;obtain ⟨b,es,ck,hc,hi,hb,hn,hx⟩:=h;obtain ⟨h1,_,h2⟩:=hle.im b hi;refine ⟨b,es,ck,hc,h1,h2 es ck hb,hn,fun i x hix=>?_⟩;obtain ⟨⟨q1,q2⟩,q3,q4⟩:=hx i x hix;refine ⟨⟨q1,?_⟩,q3,?_⟩
   ·split
    ·rename_i ha;simp only [ha] at q2;obtain ⟨c,k1,k2⟩:=q2;exact ⟨c,k1,Cw hle k2⟩
    ·rename_i ha;simp only [ha] at q2;exact Cw hle q2
   ·split
    ·rename_i ha;simp only [ha] at q4;obtain ⟨c,k1,k2⟩:=q4;exact ⟨c,k1,Cw hle k2⟩
    ·rename_i ha;simp only [ha] at q4;exact Cw hle q4
theorem DZ {e e':Env} (hle:e.le e') {v:V} {x:Value} (h:RS e v x):RS e' v x:=by
 unfold RS at *
 split
 ·rename_i ha;simp only [ha] at h;obtain ⟨c,h1,h2⟩:=h;exact ⟨c,h1,Cw hle h2⟩
 ·rename_i ha;simp only [ha] at h;exact Cw hle h
theorem Vv {e e':Env} (hle:e.le e'):∀ {v:V} {xs:Array Value},RT e v xs→RT e' v xs
 | .fcons i v r, xs, h => by
   simp only [RT] at h ⊢;obtain ⟨⟨h0,y,h1,h2⟩,h3⟩:=h;exact ⟨⟨h0,y,h1,DZ hle h2⟩,Vv hle h3⟩
 | .junk,_,_ | .int ..,_,_ | .bool _,_,_ | .str _,_,_ | .nilp,_,_ | .nils,_,_ | .nilm,_,_ | .nilf,_,_ | .nili,_,_ | .fnil,_,_ | .ptr ..,_,_ | .map _,_,_ | .sl ..,_,_ | .imm _,_,_
 | .lst ..,_,_ | .fn ..,_,_ | .ifc ..,_,_ | .st ..,_,_ | .ar ..,_,_ | .tup _,_,_ | .mp ..,_,_ | .fm ..,_,_=>trivial
theorem Ic {e e':Env} (hle:e.le e') {v:V} {x:Value} (h:RV e v x):RV e' v x:=by
 cases v <;> simp only [RV] at h ⊢;case tup fs=>obtain ⟨xs,h1,h2⟩:=h;exact ⟨xs,h1,Vv hle h2⟩
 all_goals exact DZ hle h
theorem q1 {P:Prop} (h:P:=by first | exact True.intro | rfl):P:=h
theorem q2 {P:Prop} (h:P:=by first | exact True.intro | (intros;rfl)):P:=h
theorem sd {P Q:Prop} (hq:Q) (hp:P:=by first | omega | exact True.intro | rfl):P∧Q:=⟨hp,hq⟩
def y9:=@V.fget.eq_1
def z7:=@V.fget.eq_2
def a0a:=@V.fhas.eq_1
def a0b:=@V.fhas.eq_2
def a0e:=@V.get.eq_1
def a0f:=@V.get.eq_2
def a0g:=@V.get.eq_3
def a0h:=@V.get.eq_4
def a0i:=@V.get.eq_5
end Mv
