/- Abstract values for a model of Go's memory: blocks as trees, and what it says that a value of the model is such a one. -/
import Derived.WalkKit
import Derived.Orders
import Derived.Laws.CopyRow
import Derived.Laws.Cells
set_option linter.unusedSimpArgs false
set_option linter.unusedVariables false
namespace Mv
open Go

/-- A step of a path into a block: a field at an offset; an element of a row. -/
inductive Stp where
  | f (off : Nat)
  | i (sz ix : Nat)
  | r (sz o n : Nat)      -- a part of a row: n elements from o on; it stands last

def Stp.off : Stp → Nat
  | .f o => o
  | .i sz ix => ix * sz
  | .r sz o _ => o * sz

/-- A path without a part of a row. -/
def noR : List Stp → Bool
  | [] => true
  | .r .. :: _ => false
  | _ :: p => noR p

/-- One step more. -/
def padd : List Stp → Stp → List Stp
  | [], s => [s]
  | [.r sz o _], .i sz' ix => if sz = sz' then [.i sz' (o + ix)] else [.r sz o 0, .i sz' ix]
  | x :: r, s => x :: padd r s

def offOf : List Stp → Nat
  | [] => 0
  | s :: r => s.off + offOf r

theorem offOf_padd : ∀ (p : List Stp) (s : Stp), offOf (padd p s) = offOf p + s.off
  | [], s => by simp [padd, offOf]
  | .f o :: p, s => by simp only [padd, offOf, offOf_padd p s]; omega
  | .i sz ix :: p, s => by simp only [padd, offOf, offOf_padd p s]; omega
  | .r sz o n :: x :: p, s => by simp only [padd, offOf, offOf_padd (x :: p) s]; omega
  | [.r sz o n], .f _ => by simp [padd, offOf]
  | [.r sz o n], .r .. => by simp [padd, offOf]
  | [.r sz o n], .i sz' ix => by
    simp only [padd]
    split
    · rename_i h; subst h; simp [offOf, Stp.off, Nat.add_mul]
    · simp [offOf, Stp.off]

/-- Abstract values. -/
inductive V where
  | junk
  | int (k : IntKind) (n : Int)
  | bool (b : Bool)
  | str (s : ByteArray)
  | nilp
  | ptr (id : Nat) (p : List Stp)
  | imm (v : V)
  | nils
  | sl (id : Nat) (p : List Stp) (o len sz : Nat)
  | lst (sz n : Nat) (f : Nat → V)
  | nilm
  | map (id : Nat)
  | nilf
  | fn (f : Nat) (caps : V)
  | nili
  | ifc (t : Nat) (v : V)
  | st (n : Nat) (fs : V)
  | ar (sz n : Nat) (f : Nat → V)
  | fnil
  | fcons (o : Nat) (v : V) (r : V)
  | tup (fs : V)
  | mp (n : Nat) (ks vs : Nat → V)

instance : Inhabited V := ⟨.junk⟩

def V.size : V → Nat
  | .st n _ => n
  | .ar sz n _ => n * sz
  | _ => 1

def V.isAgg : V → Bool
  | .st _ _ => true
  | .ar _ _ _ => true
  | _ => false

/-- Is it a value that may stand in a cell, or a struct or a row of such? -/
def V.solid : V → Bool
  | .junk | .fnil | .fcons .. | .tup _ | .mp .. => false
  | _ => true

/-- The offset of the first field of a chain; 'd', if there is none. -/
def V.flo (d : Nat) : V → Nat
  | .fcons o _ _ => o
  | _ => d

/-- Is it a chain of fields? -/
def V.chain : V → Bool
  | .fnil | .fcons .. => true
  | _ => false

def V.fget (k : Nat) : V → V
  | .fcons o v r => if o = k then v else V.fget k r
  | _ => .junk

def V.fhas (k : Nat) : V → Bool
  | .fcons o _ r => o == k || V.fhas k r
  | _ => false

def V.fset (k : Nat) (y : V) : V → V
  | .fcons o v r => if o = k then .fcons o y r else .fcons o v (V.fset k y r)
  | v => v

def V.get : List Stp → V → V
  | [], v => v
  | .f o :: p, .st _ fs => V.get p (fs.fget o)
  | .i _ ix :: p, .ar _ _ f => V.get p (f ix)
  | .r sz o n :: p, .ar _ _ f => V.get p (.ar sz n (fun i => f (o + i)))
  | _, _ => .junk

def V.ok : List Stp → V → Prop
  | [], _ => True
  | .f o :: p, .st _ fs => fs.fhas o = true ∧ V.ok p (fs.fget o)
  | .i sz ix :: p, .ar sz' n f => sz = sz' ∧ ix < n ∧ V.ok p (f ix)
  | .r sz o m :: p, .ar sz' n f => sz = sz' ∧ o + m ≤ n ∧ V.ok p (.ar sz m (fun i => f (o + i)))
  | _, _ => False

def V.set (y : V) : List Stp → V → V
  | [], _ => y
  | .f o :: p, .st n fs => .st n (V.fset o (V.set y p (fs.fget o)) fs)
  | .i _ ix :: p, .ar sz n f => .ar sz n (fun j => if j = ix then V.set y p (f ix) else f j)
  | _, v => v

/-- What the values of the model are held against: where the blocks lie, which of them are there, which are never written, the world; the numbers of functions and types. -/
structure Env where
  ρ : Nat → Nat
  D : Nat → Prop
  im : Nat → Prop
  w : World
  φ : Nat → Nat
  τ : Nat → Nat

def bsize (w : World) (b : Nat) : Nat :=
  match w.heap[b]? with
  | some (.cells c _ _) => c.size
  | _ => 0

/-- The names of methods, as a call of one names them by its number. -/
def mname : Nat → String
  | 0 => "moot/onestep.read" | 1 => "moot/onestep.write" | 2 => "moot/onestep.preimage" | 3 => "Error" | 4 => "Unwrap"
  | _ => ""
/-- A function value: a function's, or, from 1000000 on, a method's of what the interface holds that is its one part. -/
def fnV (φ : Nat → Nat) (f : Nat) (xs : List Value) : Value :=
  if f < 1000000 then .func (.func (φ f)) #[] xs.toArray else .func (.method (mname (f - 1000000))) xs.toArray #[]
theorem fnV_one (φ : Nat → Nat) (f : Nat) (xs : List Value) : (fnV φ f xs).oneCell' = true := by unfold fnV; split <;> rfl
theorem fnV_agg (φ : Nat → Nat) (f : Nat) (xs : List Value) (cs : Array Value) : Value.agg cs ≠ fnV φ f xs := by unfold fnV; split <;> (intro h; cases h)
/-- These cells are this abstract value's. -/
def R (e : Env) : V → List Value → Prop
  | .junk, cs => cs.length = 1
  | .int k n, cs => cs = [.int k n]
  | .bool b, cs => cs = [.bool b]
  | .str s, cs => cs = [.string s]
  | .nilp, cs => cs = [.pointer none]
  | .ptr id p, cs => e.D id ∧ cs = [.pointer (some ⟨e.ρ id, offOf p, none⟩)]
  | .imm v, cs => ∃ b o c el fz, cs = [.pointer (some ⟨b, o, none⟩)] ∧ e.im b ∧ e.w.heap[b]? = some (.cells c el fz) ∧ o + v.size ≤ c.size ∧ R e v ((c.toList.drop o).take v.size)
  | .nils, cs => cs = [.slice none 0 0]
  | .sl id p o len sz, cs => e.D id ∧ ∃ b cap, cs = [.slice b len cap] ∧ (cap = 0 ∨ b = some ⟨e.ρ id, offOf p + o * sz, none⟩) ∧ len ≤ cap ∧ offOf p + (o + cap) * sz ≤ bsize e.w (e.ρ id)
  | .lst sz n f, cs => ∃ a cap, cs = [.slice a n cap] ∧ n ≤ cap ∧ (0 < n → ∃ b o c el fz, a = some ⟨b, o, none⟩ ∧ e.im b ∧ e.w.heap[b]? = some (.cells c el fz) ∧ o + n * sz ≤ c.size ∧
      ∀ i, i < n → ((f i).solid = true ∧ (f i).size = sz) ∧ R e (f i) ((c.toList.drop (o + i * sz)).take sz))
  | .nilm, cs => cs = [.map none]
  | .map id, cs => e.D id ∧ cs = [.map (some (e.ρ id))]
  | .nilf, cs => cs = [.nilFunc]
  | .fn f caps, cs => ∃ xs : List Value, cs = [fnV e.φ f xs] ∧ R e caps xs
  | .nili, cs => cs = [.nilIface]
  | .ifc t v, cs => ∃ x, cs = [.iface (e.τ t) x] ∧ v.solid = true ∧ (match v.isAgg with | true => ∃ c : List Value, x = .agg c.toArray ∧ R e v c | false => R e v [x])
  | .st n fs, cs => cs.length = n ∧ (fs.chain = true ∧ ∀ x ∈ cs, x.oneCell' = true) ∧ R e fs cs
  | .ar sz n f, cs => cs.length = n * sz ∧ ∀ i, i < n → ((f i).solid = true ∧ (f i).size = sz) ∧ R e (f i) ((cs.drop (i * sz)).take sz)
  | .fnil, _ => True
  | .fcons o v r, cs => r.chain = true ∧ o + v.size ≤ r.flo cs.length ∧ o + v.size ≤ cs.length ∧ R e v ((cs.drop o).take v.size) ∧ R e r cs
  | .tup _, _ => False
  | .mp .., _ => False

/-- A value that is no tuple. -/
def RS (e : Env) (v : V) (x : Value) : Prop :=
  match v.isAgg with
  | true => ∃ cs : List Value, x = .agg cs.toArray ∧ R e v cs
  | false => R e v [x]

def RT (e : Env) : V → Array Value → Prop
  | .fcons i v r, xs => (v.solid = true ∧ ∃ y, xs[i]? = some y ∧ RS e v y) ∧ RT e r xs
  | _, _ => True

/-- A value in a slot of a frame. -/
def RV (e : Env) (v : V) (x : Value) : Prop :=
  match v with
  | .junk => True
  | .tup fs => ∃ xs, x = .tuple xs ∧ RT e fs xs
  | .fnil | .fcons .. | .mp .. => False
  | v => RS e v x

theorem RV_solid {e : Env} {v : V} {x : Value} (hs : v.solid = true) : RV e v x ↔ RS e v x := by
  cases v <;> simp_all [RV, V.solid]

theorem RS_cells {e : Env} {v : V} {x : Value} (hs : v.solid = true) (h : RS e v x) : R e v x.cells.toList := by
  unfold RS at h
  cases v <;> simp only [V.isAgg, V.solid, Bool.false_eq_true] at h hs
  case st n fs => obtain ⟨cs, rfl, h⟩ := h; simpa [Value.cells] using h
  case ar sz n f => obtain ⟨cs, rfl, h⟩ := h; simpa [Value.cells] using h
  all_goals
    have hx : ∀ cs, x ≠ .agg cs := by
      rintro cs rfl
      simp [R] at h <;> (obtain ⟨xs, h, _⟩ := h; exact fnV_agg _ _ _ _ h)
    have : x.cells = #[x] := by
      unfold Value.cells
      split
      · exact absurd rfl (hx _)
      · rfl
    rw [this]
    exact h

theorem R_len {e : Env} {v : V} {cs : List Value} (hs : v.solid = true) (h : R e v cs) : cs.length = v.size := by
  cases v <;> simp only [V.solid, Bool.false_eq_true] at hs <;> simp only [R] at h <;> simp only [V.size]
  case imm v => obtain ⟨b, o, c, el, fz, rfl, _⟩ := h; rfl
  case ptr => rw [h.2]; rfl
  case map => rw [h.2]; rfl
  case sl => obtain ⟨_, b, cap, rfl, _⟩ := h; rfl
  case lst => obtain ⟨a, cap, rfl, _⟩ := h; rfl
  case fn => obtain ⟨xs, rfl, _⟩ := h; rfl
  case ifc => obtain ⟨x, rfl, _⟩ := h; rfl
  case st => exact h.1
  case ar => exact h.1
  all_goals rw [h]; rfl

theorem R_one {e : Env} : ∀ {v : V} {cs : List Value}, v.solid = true → R e v cs → ∀ x ∈ cs, x.oneCell' = true
  | .ar sz n f, cs, _, h, x, hx => by
    simp only [R] at h
    obtain ⟨hl, h⟩ := h
    obtain ⟨j, hj, rfl⟩ := List.getElem_of_mem hx
    have hpos : 0 < sz := by
      rcases Nat.eq_zero_or_pos sz with rfl | hp
      · simp at hl; rw [hl] at hj; simp at hj
      · exact hp
    have hd : j / sz < n := by rw [Nat.div_lt_iff_lt_mul hpos]; omega
    obtain ⟨⟨hsol, _⟩, hR⟩ := h (j / sz) hd
    refine R_one hsol hR _ ?_
    rw [List.mem_iff_getElem?]
    refine ⟨j % sz, ?_⟩
    have hm : j % sz < sz := Nat.mod_lt _ hpos
    simp only [List.getElem?_take, hm, if_true, List.getElem?_drop]
    rw [Nat.mul_comm, Nat.div_add_mod]
    exact List.getElem?_eq_getElem hj
  | .st n fs, cs, _, h, x, hx => by
    simp only [R] at h
    exact h.2.1.2 x hx
  | .int .., cs, _, h, x, hx | .bool _, cs, _, h, x, hx | .str _, cs, _, h, x, hx | .nilp, cs, _, h, x, hx | .nils, cs, _, h, x, hx | .nilm, cs, _, h, x, hx | .nilf, cs, _, h, x, hx | .nili, cs, _, h, x, hx => by
    simp only [R] at h
    subst h
    simp at hx
    subst hx
    rfl
  | .ptr .., cs, _, h, x, hx | .map _, cs, _, h, x, hx => by
    simp only [R] at h
    rw [h.2] at hx
    simp at hx
    subst hx
    rfl
  | .imm _, cs, _, h, x, hx => by
    simp only [R] at h
    obtain ⟨b, o, c, el, fz, rfl, _⟩ := h
    simp at hx
    subst hx
    rfl
  | .sl .., cs, _, h, x, hx => by
    simp only [R] at h
    obtain ⟨_, b, cap, rfl, _⟩ := h
    simp at hx
    subst hx
    rfl
  | .lst .., cs, _, h, x, hx => by
    simp only [R] at h
    obtain ⟨a, cap, rfl, _⟩ := h
    simp at hx
    subst hx
    rfl
  | .fn .., cs, _, h, x, hx => by
    simp only [R] at h
    obtain ⟨xs, rfl, _⟩ := h
    simp at hx
    subst hx
    exact fnV_one _ _ _
  | .ifc .., cs, _, h, x, hx => by
    simp only [R] at h
    obtain ⟨y, rfl, _⟩ := h
    simp at hx
    subst hx
    rfl

/-! ### Getting a part -/

theorem drop_take_drop (cs : List Value) (a n b m : Nat) (h : b + m ≤ n) :
    (((cs.drop a).take n).drop b).take m = (cs.drop (a + b)).take m := by
  rw [List.drop_take, List.take_take, List.drop_drop, Nat.min_eq_left (by omega)]

theorem R_fget {e : Env} {k : Nat} : ∀ {fs : V} {cs : List Value}, R e fs cs → fs.fhas k = true →
    k + (fs.fget k).size ≤ cs.length ∧ R e (fs.fget k) ((cs.drop k).take (fs.fget k).size)
  | .fcons o v r, cs, h, hk => by
    simp only [R] at h
    obtain ⟨_, _, h2, h3, h4⟩ := h
    simp only [V.fget]
    split
    · rename_i he; subst he; exact ⟨h2, h3⟩
    · rename_i hne
      simp only [V.fhas, Bool.or_eq_true, beq_iff_eq, hne, false_or] at hk
      exact R_fget h4 hk
  | .junk, _, _, hk | .int .., _, _, hk | .bool _, _, _, hk | .str _, _, _, hk | .nilp, _, _, hk | .ptr .., _, _, hk | .imm _, _, _, hk | .nils, _, _, hk
  | .sl .., _, _, hk | .lst .., _, _, hk | .nilm, _, _, hk | .map _, _, _, hk | .nilf, _, _, hk | .fn .., _, _, hk | .nili, _, _, hk | .ifc .., _, _, hk
  | .st .., _, _, hk | .ar .., _, _, hk | .fnil, _, _, hk | .tup _, _, _, hk | .mp .., _, _, hk => by simp [V.fhas] at hk

/-- A part of a row. -/
theorem R_part {e : Env} {sz n o m : Nat} {f : Nat → V} {cs : List Value} (h : R e (.ar sz n f) cs) (hm : o + m ≤ n) : R e (.ar sz m (fun i => f (o + i))) ((cs.drop (o * sz)).take (m * sz)) := by
  simp only [R] at h ⊢
  have hmul : o * sz + m * sz ≤ n * sz := by
    have : (o + m) * sz ≤ n * sz := Nat.mul_le_mul_right _ hm
    rw [Nat.add_mul] at this; omega
  refine ⟨by simp; omega, fun i hi => ?_⟩
  obtain ⟨h1, h2⟩ := h.2 (o + i) (by omega)
  refine ⟨h1, ?_⟩
  have hi' : i * sz + sz ≤ m * sz := by
    have : (i + 1) * sz ≤ m * sz := Nat.mul_le_mul_right _ hi
    rw [Nat.add_mul] at this; omega
  rw [drop_take_drop _ _ _ _ _ hi', ← Nat.add_mul]
  exact h2

theorem R_get {e : Env} : ∀ {p : List Stp} {c : V} {cs : List Value}, R e c cs → cs.length = c.size → c.ok p →
    offOf p + (c.get p).size ≤ cs.length ∧ R e (c.get p) ((cs.drop (offOf p)).take (c.get p).size)
  | [], c, cs, h, hl, _ => by
    simp only [V.get, offOf, Nat.zero_add, List.drop_zero]
    refine ⟨Nat.le_of_eq hl.symm, ?_⟩
    rw [List.take_of_length_le (by omega)]
    exact h
  | .f o :: p, c, cs, h, hl, hk => by
    cases c <;> simp only [V.ok] at hk
    rename_i n fs
    simp only [R] at h
    simp only [V.get, offOf, Stp.off]
    obtain ⟨h1, h2⟩ := R_fget h.2.2 hk.1
    have hlen : ((cs.drop o).take (fs.fget o).size).length = (fs.fget o).size := by simp; omega
    obtain ⟨h3, h4⟩ := R_get h2 hlen hk.2
    rw [hlen] at h3
    refine ⟨by omega, ?_⟩
    rw [drop_take_drop _ _ _ _ _ h3] at h4
    exact h4
  | .i sz ix :: p, c, cs, h, hl, hk => by
    cases c <;> simp only [V.ok] at hk
    rename_i sz' n f
    obtain ⟨rfl, hix, hk⟩ := hk
    simp only [R] at h
    simp only [V.get, offOf, Stp.off]
    obtain ⟨⟨_, h1⟩, h2⟩ := h.2 ix hix
    have hmul : ix * sz + sz ≤ n * sz := by
      have : (ix + 1) * sz ≤ n * sz := Nat.mul_le_mul_right _ hix
      rw [Nat.add_mul] at this; omega
    have hlen : ((cs.drop (ix * sz)).take sz).length = (f ix).size := by simp; omega
    obtain ⟨h3, h4⟩ := R_get h2 hlen hk
    rw [hlen] at h3
    refine ⟨by omega, ?_⟩
    rw [drop_take_drop _ _ _ _ _ (by omega)] at h4
    exact h4

  | .r sz o m :: p, c, cs, h, hl, hk => by
    cases c <;> simp only [V.ok] at hk
    rename_i sz' n f
    obtain ⟨rfl, hix, hk⟩ := hk
    simp only [V.get, offOf, Stp.off]
    have hw := R_part h hix
    simp only [R] at h
    have hmul : o * sz + m * sz ≤ n * sz := by
      have : (o + m) * sz ≤ n * sz := Nat.mul_le_mul_right _ hix
      rw [Nat.add_mul] at this; omega
    have hlen : ((cs.drop (o * sz)).take (m * sz)).length = (V.ar sz m (fun i => f (o + i))).size := by simp [V.size]; omega
    obtain ⟨h3, h4⟩ := R_get hw hlen hk
    rw [hlen] at h3
    have h3 : offOf p + ((V.ar sz m (fun i => f (o + i))).get p).size ≤ m * sz := h3
    refine ⟨by omega, ?_⟩
    rw [drop_take_drop _ _ _ _ _ (by omega)] at h4
    exact h4

/-! ### Laying a part -/

def splice (cs : List Value) (o : Nat) (ys : List Value) : List Value := cs.take o ++ ys ++ cs.drop (o + ys.length)

theorem splice_length {cs ys : List Value} {o : Nat} (h : o + ys.length ≤ cs.length) : (splice cs o ys).length = cs.length := by
  simp [splice]; omega

theorem splice_self {cs ys : List Value} {o n : Nat} (h : o + ys.length ≤ cs.length) (hn : n = ys.length) : ((splice cs o ys).drop o).take n = ys := by
  subst hn
  have hm : min o cs.length = o := by omega
  simp [splice, hm]

/-- A window that contains what is laid. -/
theorem splice_in {cs ys : List Value} {o a n b : Nat} (h : o + ys.length ≤ cs.length) (ho : o = a + b) (hb : b + ys.length ≤ n) (ha : a + n ≤ cs.length) :
    ((splice cs o ys).drop a).take n = splice ((cs.drop a).take n) b ys := by
  subst ho
  apply List.ext_getElem?
  intro i
  simp only [splice, List.getElem?_take, List.getElem?_drop, List.getElem?_append, List.length_take, List.length_drop, List.length_append]
  by_cases h1 : i < n
  · simp only [h1, if_true]
    by_cases h2 : i < b
    · have a1 : a + i < min (a + b) cs.length + ys.length := by omega
      have a2 : a + i < min (a + b) cs.length := by omega
      have a3 : i < min b (min n (cs.length - a)) + ys.length := by omega
      have a4 : i < min b (min n (cs.length - a)) := by omega
      have a5 : a + i < a + b := by omega
      simp [a1, a2, a3, a4, a5, h2]
    · by_cases h3 : i < b + ys.length
      · have a1 : a + i < min (a + b) cs.length + ys.length := by omega
        have a2 : ¬ a + i < min (a + b) cs.length := by omega
        have a3 : i < min b (min n (cs.length - a)) + ys.length := by omega
        have a4 : ¬ i < min b (min n (cs.length - a)) := by omega
        have a5 : a + i - min (a + b) cs.length = i - min b (min n (cs.length - a)) := by omega
        simp [a1, a2, a3, a4, a5]
      · have a1 : ¬ a + i < min (a + b) cs.length + ys.length := by omega
        have a3 : ¬ i < min b (min n (cs.length - a)) + ys.length := by omega
        have e1 : a + b + ys.length + (a + i - (min (a + b) cs.length + ys.length)) = a + i := by omega
        have e2 : b + ys.length + (i - (min b (min n (cs.length - a)) + ys.length)) = i := by omega
        simp [a1, a3, e1, e2, h1]
  · simp only [h1, if_false]
    have a3 : ¬ i < min b (min n (cs.length - a)) + ys.length := by omega
    have e2 : b + ys.length + (i - (min b (min n (cs.length - a)) + ys.length)) = i := by omega
    simp [a3, e2, h1]

/-- A window apart from what is laid. -/
theorem splice_out {cs ys : List Value} {o a n : Nat} (h : o + ys.length ≤ cs.length) (hd : a + n ≤ o ∨ o + ys.length ≤ a) :
    ((splice cs o ys).drop a).take n = (cs.drop a).take n := by
  apply List.ext_getElem?
  intro i
  simp only [splice, List.getElem?_take, List.getElem?_drop, List.getElem?_append, List.length_take, List.length_append]
  by_cases h1 : i < n
  · simp only [h1, if_true]
    rcases hd with hd | hd
    · have a1 : a + i < min o cs.length + ys.length := by omega
      have a2 : a + i < min o cs.length := by omega
      have a3 : a + i < o := by omega
      simp [a1, a2, a3]
    · have a1 : ¬ a + i < min o cs.length + ys.length := by omega
      have e1 : o + ys.length + (a + i - (min o cs.length + ys.length)) = a + i := by omega
      simp [a1, e1]
  · simp [h1]

theorem V.set_size (y : V) : ∀ (p : List Stp) (c : V), noR p = true → c.ok p → y.size = (c.get p).size → (V.set y p c).size = c.size
  | [], c, _, _, h => by simpa [V.set, V.get] using h
  | .f o :: p, c, _, hk, _ => by cases c <;> simp only [V.ok] at hk; rfl
  | .i sz ix :: p, c, _, hk, _ => by cases c <;> simp only [V.ok] at hk; rfl
  | .r .. :: _, _, hn, _, _ => by simp [noR] at hn

theorem flo_le {e : Env} : ∀ {fs : V} {cs : List Value} {k : Nat}, R e fs cs → fs.fhas k = true → fs.flo cs.length ≤ k
  | .fcons o v r, cs, k, h, hk => by
    simp only [V.flo]
    simp only [V.fhas, Bool.or_eq_true, beq_iff_eq] at hk
    rcases hk with hk | hk
    · omega
    · simp only [R] at h
      have := flo_le h.2.2.2.2 hk
      omega
  | .junk, _, _, _, hk | .int .., _, _, _, hk | .bool _, _, _, _, hk | .str _, _, _, _, hk | .nilp, _, _, _, hk | .ptr .., _, _, _, hk | .imm _, _, _, _, hk | .nils, _, _, _, hk
  | .sl .., _, _, _, hk | .lst .., _, _, _, hk | .nilm, _, _, _, hk | .map _, _, _, _, hk | .nilf, _, _, _, hk | .fn .., _, _, _, hk | .nili, _, _, _, hk | .ifc .., _, _, _, hk
  | .st .., _, _, _, hk | .ar .., _, _, _, hk | .fnil, _, _, _, hk | .tup _, _, _, _, hk | .mp .., _, _, _, hk => by simp [V.fhas] at hk

/-- Cells before the first field of a chain are no matter. -/
theorem R_chain_before {e : Env} : ∀ {fs : V} {cs ys : List Value} {o : Nat}, fs.chain = true → (∀ k, fs.fhas k = true → o + ys.length ≤ k) → o + ys.length ≤ cs.length → R e fs cs → R e fs (splice cs o ys)
  | .fcons k v r, cs, ys, o, _, hb, hl, h => by
    simp only [R] at h ⊢
    obtain ⟨h0, h1, h2, h3, h4⟩ := h
    have hk : o + ys.length ≤ k := hb k (by simp [V.fhas])
    rw [splice_length hl, splice_out hl (.inr hk)]
    exact ⟨h0, h1, h2, h3, R_chain_before h0 (fun j hj => hb j (by simp only [V.fhas, Bool.or_eq_true]; exact .inr hj)) hl h4⟩
  | .fnil, _, _, _, _, _, _, _ => trivial
  | .junk, _, _, _, hc, _, _, _ | .int .., _, _, _, hc, _, _, _ | .bool _, _, _, _, hc, _, _, _ | .str _, _, _, _, hc, _, _, _ | .nilp, _, _, _, hc, _, _, _ | .ptr .., _, _, _, hc, _, _, _ | .imm _, _, _, _, hc, _, _, _
  | .nils, _, _, _, hc, _, _, _ | .sl .., _, _, _, hc, _, _, _ | .lst .., _, _, _, hc, _, _, _ | .nilm, _, _, _, hc, _, _, _ | .map _, _, _, _, hc, _, _, _ | .nilf, _, _, _, hc, _, _, _ | .fn .., _, _, _, hc, _, _, _
  | .nili, _, _, _, hc, _, _, _ | .ifc .., _, _, _, hc, _, _, _ | .st .., _, _, _, hc, _, _, _ | .ar .., _, _, _, hc, _, _, _ | .tup _, _, _, _, hc, _, _, _ | .mp .., _, _, _, hc, _, _, _ => by simp [V.chain] at hc

theorem flo_fset (d k : Nat) (y : V) : ∀ fs : V, (V.fset k y fs).flo d = fs.flo d
  | .fcons o v r => by simp only [V.fset]; split <;> rfl
  | .junk | .int .. | .bool _ | .str _ | .nilp | .ptr .. | .imm _ | .nils | .sl .. | .lst .. | .nilm | .map _ | .nilf | .fn .. | .nili | .ifc .. | .st .. | .ar .. | .fnil | .tup _ | .mp .. => rfl

theorem chain_fset (k : Nat) (y : V) : ∀ fs : V, (V.fset k y fs).chain = fs.chain
  | .fcons o v r => by simp only [V.fset]; split <;> rfl
  | .junk | .int .. | .bool _ | .str _ | .nilp | .ptr .. | .imm _ | .nils | .sl .. | .lst .. | .nilm | .map _ | .nilf | .fn .. | .nili | .ifc .. | .st .. | .ar .. | .fnil | .tup _ | .mp .. => rfl

theorem R_fset {e : Env} {k O : Nat} {y : V} {ys : List Value} : ∀ {fs : V} {cs : List Value}, R e fs cs → fs.fhas k = true → y.size = (fs.fget k).size → k ≤ O → O + ys.length ≤ k + y.size → O + ys.length ≤ cs.length →
    R e y (((splice cs O ys).drop k).take y.size) → R e (V.fset k y fs) (splice cs O ys)
  | .fcons o v r, cs, h, hk, hy, hkO, hO, hl, hw => by
    simp only [R] at h
    obtain ⟨h0, h1, h2, h3, h4⟩ := h
    simp only [V.fset]
    simp only [V.fget] at hy
    split
    · rename_i heq
      subst heq
      simp only [if_true] at hy
      simp only [R]
      rw [splice_length hl]
      refine ⟨h0, by omega, by omega, hw, R_chain_before h0 (fun j hj => ?_) hl h4⟩
      have := flo_le h4 hj
      omega
    · rename_i hne
      simp only [hne, if_false] at hy
      simp only [V.fhas, Bool.or_eq_true, beq_iff_eq, hne, false_or] at hk
      have := flo_le h4 hk
      simp only [R]
      rw [splice_length hl, flo_fset, chain_fset, splice_out hl (.inl (by omega))]
      exact ⟨h0, h1, h2, h3, R_fset h4 hk hy hkO hO hl hw⟩
  | .junk, _, _, hk, _, _, _, _, _ | .int .., _, _, hk, _, _, _, _, _ | .bool _, _, _, hk, _, _, _, _, _ | .str _, _, _, hk, _, _, _, _, _ | .nilp, _, _, hk, _, _, _, _, _ | .ptr .., _, _, hk, _, _, _, _, _
  | .imm _, _, _, hk, _, _, _, _, _ | .nils, _, _, hk, _, _, _, _, _ | .sl .., _, _, hk, _, _, _, _, _ | .lst .., _, _, hk, _, _, _, _, _ | .nilm, _, _, hk, _, _, _, _, _ | .map _, _, _, hk, _, _, _, _, _
  | .nilf, _, _, hk, _, _, _, _, _ | .fn .., _, _, hk, _, _, _, _, _ | .nili, _, _, hk, _, _, _, _, _ | .ifc .., _, _, hk, _, _, _, _, _ | .st .., _, _, hk, _, _, _, _, _ | .ar .., _, _, hk, _, _, _, _, _
  | .fnil, _, _, hk, _, _, _, _, _ | .tup _, _, _, hk, _, _, _, _, _ | .mp .., _, _, hk, _, _, _, _, _ => by simp [V.fhas] at hk

theorem splice_mem {cs ys : List Value} {o : Nat} {x : Value} (h : x ∈ splice cs o ys) : x ∈ cs ∨ x ∈ ys := by
  simp only [splice, List.mem_append] at h
  rcases h with (h | h) | h
  · exact .inl (List.mem_of_mem_take h)
  · exact .inr h
  · exact .inl (List.mem_of_mem_drop h)

theorem V.set_solid {y : V} (hy : y.solid = true) : ∀ (p : List Stp) (c : V), noR p = true → c.ok p → c.solid = true → (V.set y p c).solid = true
  | [], _, _, _, _ => hy
  | .f o :: p, c, _, hk, _ => by cases c <;> simp only [V.ok] at hk; rfl
  | .i sz ix :: p, c, _, hk, _ => by cases c <;> simp only [V.ok] at hk; rfl
  | .r .. :: _, _, hn, _, _ => by simp [noR] at hn

theorem R_set {e : Env} {y : V} {ys : List Value} (hys : y.solid = true) (hy : R e y ys) (hyl : ys.length = y.size) : ∀ {p : List Stp} {c : V} {cs : List Value}, R e c cs → cs.length = c.size → noR p = true → c.ok p → y.size = (c.get p).size →
    R e (V.set y p c) (splice cs (offOf p) ys)
  | .r .. :: _, _, _, _, _, hn, _, _ => by simp [noR] at hn
  | [], c, cs, h, hl, _, _, hs => by
    simp only [V.set, offOf, V.get] at *
    have : splice cs 0 ys = ys := by simp [splice]; omega
    rw [this]; exact hy
  | .f o :: p, c, cs, h, hl, hn, hk, hs => by
    cases c <;> simp only [V.ok] at hk
    rename_i n fs
    simp only [R] at h
    simp only [V.get] at hs
    simp only [V.set, offOf, Stp.off]
    obtain ⟨h1, h2⟩ := R_fget h.2.2 hk.1
    have hlen : ((cs.drop o).take (fs.fget o).size).length = (fs.fget o).size := by simp; omega
    obtain ⟨h3, h4⟩ := R_get h2 hlen hk.2
    rw [hlen] at h3
    have hz := V.set_size y p _ hn hk.2 hs
    have hll : o + offOf p + ys.length ≤ cs.length := by omega
    simp only [R]
    rw [splice_length hll, chain_fset]
    refine ⟨h.1, ⟨h.2.1.1, fun x hx => (splice_mem hx).elim (h.2.1.2 x) (R_one hys hy x)⟩, R_fset h.2.2 hk.1 hz (by omega) (by omega) hll ?_⟩
    rw [hz, splice_in hll (b := offOf p) (by omega) (by omega) (by omega)]
    exact R_set hys hy hyl h2 hlen hn hk.2 hs
  | .i sz ix :: p, c, cs, h, hl, hn, hk, hs => by
    cases c <;> simp only [V.ok] at hk
    rename_i sz' n f
    obtain ⟨rfl, hix, hk⟩ := hk
    simp only [R] at h
    simp only [V.get] at hs
    simp only [V.set, offOf, Stp.off]
    obtain ⟨⟨h0, h1⟩, h2⟩ := h.2 ix hix
    have hmul : ∀ j, j < n → j * sz + sz ≤ n * sz := fun j hj => by
      have : (j + 1) * sz ≤ n * sz := Nat.mul_le_mul_right _ hj
      rw [Nat.add_mul] at this; omega
    have hm := hmul ix hix
    have hlen : ((cs.drop (ix * sz)).take sz).length = (f ix).size := by simp; omega
    obtain ⟨h3, h4⟩ := R_get h2 hlen hk
    rw [hlen] at h3
    have hz := V.set_size y p _ hn hk hs
    have hll : ix * sz + offOf p + ys.length ≤ cs.length := by omega
    simp only [R]
    rw [splice_length hll]
    refine ⟨h.1, fun j hj => ?_⟩
    by_cases hji : j = ix
    · subst hji
      simp only [if_true]
      refine ⟨⟨V.set_solid hys _ _ hn hk h0, by omega⟩, ?_⟩
      rw [splice_in hll (b := offOf p) (by omega) (by omega) (by omega)]
      exact R_set hys hy hyl h2 hlen hn hk hs
    · simp only [hji, if_false]
      refine ⟨(h.2 j hj).1, ?_⟩
      have hmj := hmul j hj
      have hd : j * sz + sz ≤ ix * sz ∨ ix * sz + sz ≤ j * sz := by
        rcases Nat.lt_or_ge j ix with hlt | hge
        · have : (j + 1) * sz ≤ ix * sz := Nat.mul_le_mul_right _ hlt
          rw [Nat.add_mul] at this; left; omega
        · have : (ix + 1) * sz ≤ j * sz := Nat.mul_le_mul_right _ (by omega)
          rw [Nat.add_mul] at this; right; omega
      rw [splice_out hll (by omega)]
      exact (h.2 j hj).2

/-! ### Another world, more blocks -/

/-- What was known stays known: the blocks that are there stay where they are, the ones that are never written stay as they are, no block changes its size. -/
structure Env.le (e e' : Env) : Prop where
  D : ∀ i, e.D i → e'.D i ∧ e'.ρ i = e.ρ i
  im : ∀ b, e.im b → e'.im b ∧ (∀ c el fz, e.w.heap[b]? = some (.cells c el fz) → ∃ el' fz', e'.w.heap[b]? = some (.cells c el' fz'))
  sz : ∀ b, bsize e.w b ≤ bsize e'.w b
  φ : e'.φ = e.φ
  τ : e'.τ = e.τ

theorem Env.le_refl (e : Env) : e.le e := ⟨fun _ h => ⟨h, rfl⟩, fun _ h => ⟨h, fun _ el fz hc => ⟨el, fz, hc⟩⟩, fun _ => Nat.le_refl _, rfl, rfl⟩

theorem Env.le_trans {a b c : Env} (h : a.le b) (k : b.le c) : a.le c where
  D i hi := ⟨(k.D i (h.D i hi).1).1, (k.D i (h.D i hi).1).2.trans (h.D i hi).2⟩
  im i hi := ⟨(k.im i (h.im i hi).1).1, fun x el fz hx => by
    obtain ⟨el', fz', h'⟩ := (h.im i hi).2 x el fz hx
    exact (k.im i (h.im i hi).1).2 x el' fz' h'⟩
  sz i := Nat.le_trans (h.sz i) (k.sz i)
  φ := k.φ.trans h.φ
  τ := k.τ.trans h.τ

theorem R_mono {e e' : Env} (hle : e.le e') : ∀ {v : V} {cs : List Value}, R e v cs → R e' v cs
  | .junk, _, h | .int .., _, h | .bool _, _, h | .str _, _, h | .nilp, _, h | .nils, _, h | .nilm, _, h | .nilf, _, h | .nili, _, h | .fnil, _, h => by simp only [R] at h ⊢ <;> exact h
  | .ptr id p, cs, h => by
    simp only [R] at h ⊢
    obtain ⟨h1, h2⟩ := hle.D id h.1
    rw [h2]; exact ⟨h1, h.2⟩
  | .map id, cs, h => by
    simp only [R] at h ⊢
    obtain ⟨h1, h2⟩ := hle.D id h.1
    rw [h2]; exact ⟨h1, h.2⟩
  | .sl id p o len sz, cs, h => by
    simp only [R] at h ⊢
    obtain ⟨h1, h2⟩ := hle.D id h.1
    obtain ⟨_, b, cap, hc, ha, hl, hb⟩ := h
    rw [h2]
    exact ⟨h1, b, cap, hc, ha, hl, Nat.le_trans hb (hle.sz _)⟩
  | .imm v, cs, h => by
    simp only [R] at h ⊢
    obtain ⟨b, o, c, el, fz, hc, hi, hb, hs, hv⟩ := h
    obtain ⟨h1, h2⟩ := hle.im b hi
    obtain ⟨el', fz', hb'⟩ := h2 c el fz hb
    exact ⟨b, o, c, el', fz', hc, h1, hb', hs, R_mono hle hv⟩
  | .lst sz n f, cs, h => by
    simp only [R] at h ⊢
    obtain ⟨a, cap, hc, hn, hp⟩ := h
    refine ⟨a, cap, hc, hn, fun hpos => ?_⟩
    obtain ⟨b, o, c, el, fz, ha, hi, hb, hs, hv⟩ := hp hpos
    obtain ⟨h1, h2⟩ := hle.im b hi
    obtain ⟨el', fz', hb'⟩ := h2 c el fz hb
    exact ⟨b, o, c, el', fz', ha, h1, hb', hs, fun i hi => ⟨(hv i hi).1, R_mono hle (hv i hi).2⟩⟩
  | .fn f caps, cs, h => by
    simp only [R] at h ⊢
    obtain ⟨xs, hc, hx⟩ := h
    rw [hle.φ]
    exact ⟨xs, hc, R_mono hle hx⟩
  | .ifc t v, cs, h => by
    simp only [R] at h ⊢
    obtain ⟨x, hc, hs, hx⟩ := h
    rw [hle.τ]
    refine ⟨x, hc, hs, ?_⟩
    split
    · rename_i ha; simp only [ha] at hx; obtain ⟨c, h1, h2⟩ := hx; exact ⟨c, h1, R_mono hle h2⟩
    · rename_i ha; simp only [ha] at hx; exact R_mono hle hx
  | .st n fs, cs, h => by
    simp only [R] at h ⊢
    exact ⟨h.1, h.2.1, R_mono hle h.2.2⟩
  | .ar sz n f, cs, h => by
    simp only [R] at h ⊢
    exact ⟨h.1, fun i hi => ⟨(h.2 i hi).1, R_mono hle (h.2 i hi).2⟩⟩
  | .fcons o v r, cs, h => by
    simp only [R] at h ⊢
    exact ⟨h.1, h.2.1, h.2.2.1, R_mono hle h.2.2.2.1, R_mono hle h.2.2.2.2⟩
  | .tup _, _, h => by simp only [R] at h
  | .mp .., _, h => by simp only [R] at h

theorem RS_mono {e e' : Env} (hle : e.le e') {v : V} {x : Value} (h : RS e v x) : RS e' v x := by
  unfold RS at *
  split
  · rename_i ha; simp only [ha] at h; obtain ⟨c, h1, h2⟩ := h; exact ⟨c, h1, R_mono hle h2⟩
  · rename_i ha; simp only [ha] at h; exact R_mono hle h

theorem RT_mono {e e' : Env} (hle : e.le e') : ∀ {v : V} {xs : Array Value}, RT e v xs → RT e' v xs
  | .fcons i v r, xs, h => by
    simp only [RT] at h ⊢
    obtain ⟨⟨h0, y, h1, h2⟩, h3⟩ := h
    exact ⟨⟨h0, y, h1, RS_mono hle h2⟩, RT_mono hle h3⟩
  | .junk, _, _ | .int .., _, _ | .bool _, _, _ | .str _, _, _ | .nilp, _, _ | .nils, _, _ | .nilm, _, _ | .nilf, _, _ | .nili, _, _ | .fnil, _, _ | .ptr .., _, _ | .map _, _, _ | .sl .., _, _ | .imm _, _, _
  | .lst .., _, _ | .fn .., _, _ | .ifc .., _, _ | .st .., _, _ | .ar .., _, _ | .tup _, _, _ | .mp .., _, _ => trivial

theorem RV_mono {e e' : Env} (hle : e.le e') {v : V} {x : Value} (h : RV e v x) : RV e' v x := by
  cases v <;> simp only [RV] at h ⊢
  case tup fs => obtain ⟨xs, h1, h2⟩ := h; exact ⟨xs, h1, RT_mono hle h2⟩
  all_goals exact RS_mono hle h
end Mv
namespace Mv
open Go

abbrev Hp := List (Nat × V)

def hget : Hp → Nat → V
  | [], _ => .junk
  | (i, c) :: r, k => if i = k then c else hget r k

def hhas : Hp → Nat → Bool
  | [], _ => false
  | (i, _) :: r, k => i == k || hhas r k

def hset : Hp → Nat → V → Hp
  | [], _, _ => []
  | (i, c) :: r, k, v => if i = k then (i, v) :: r else (i, c) :: hset r k v

def hdel : Hp → Nat → Hp
  | [], _ => []
  | (i, c) :: r, k => if i = k then hdel r k else (i, c) :: hdel r k

theorem hhas_hset (k j : Nat) (v : V) : ∀ H : Hp, hhas (hset H k v) j = hhas H j
  | [] => rfl
  | (i, c) :: r => by
    simp only [hset]
    split
    · rfl
    · simp only [hhas, hhas_hset k j v r]

theorem hget_hset_same (k : Nat) (v : V) : ∀ H : Hp, hhas H k = true → hget (hset H k v) k = v
  | [], h => by simp [hhas] at h
  | (i, c) :: r, h => by
    simp only [hset]
    split
    · rename_i hik; simp [hget, hik]
    · rename_i hik
      simp only [hhas, Bool.or_eq_true, beq_iff_eq, hik, false_or] at h
      simp only [hget, hik, if_false]
      exact hget_hset_same k v r h

theorem hget_hset_other (k j : Nat) (v : V) (hjk : j ≠ k) : ∀ H : Hp, hget (hset H k v) j = hget H j
  | [] => rfl
  | (i, c) :: r => by
    simp only [hset]
    split
    · rename_i hik; subst hik; simp [hget, Ne.symm hjk]
    · simp only [hget, hget_hset_other k j v hjk r]

theorem hhas_hdel (k j : Nat) : ∀ H : Hp, hhas (hdel H k) j = (hhas H j && j != k)
  | [] => rfl
  | (i, c) :: r => by
    simp only [hdel]
    split
    · rename_i hik
      subst hik
      rw [hhas_hdel i j r]
      simp only [hhas]
      by_cases h : j = i
      · subst h; simp
      · have : (i == j) = false := by simp; exact fun h' => h h'.symm
        simp [this]
    · rename_i hik
      simp only [hhas, hhas_hdel k j r]
      by_cases h : i = j
      · subst h; simp [hik]
      · have : (i == j) = false := by simpa using h
        simp [this]

theorem hget_hdel (k j : Nat) (hjk : j ≠ k) : ∀ H : Hp, hget (hdel H k) j = hget H j
  | [] => rfl
  | (i, c) :: r => by
    simp only [hdel]
    split
    · rename_i hik; subst hik; rw [hget_hdel i j hjk r]; simp [hget, Ne.symm hjk]
    · simp only [hget, hget_hdel k j hjk r]

/-- The package-level variables that are read (their numbers here; keccak's rounds, lanes and turns), and what they hold. -/
def rounds : List Int := [1, 32898, 9223372036854808714, 9223372039002292224, 32907, 2147483649, 9223372039002292353, 9223372036854808585, 138, 136, 2147516425, 2147483658, 2147516555, 9223372036854775947, 9223372036854808713, 9223372036854808579, 9223372036854808578, 9223372036854775936, 32778, 9223372039002259466, 9223372039002292353, 9223372036854808704, 2147483649, 9223372039002292232]
def lanes : List Int := [10, 7, 11, 17, 18, 3, 5, 16, 8, 21, 24, 4, 15, 23, 19, 13, 12, 2, 20, 14, 22, 9, 6, 1]
def turns : List Int := [1, 3, 6, 10, 15, 21, 28, 36, 45, 55, 2, 14, 27, 41, 56, 8, 25, 43, 62, 18, 39, 61, 20, 44]

def GLv : Nat → V
  | 1 => .ar 1 24 (fun i => .int .u64 (rounds.getD i 0))
  | 2 => .ar 1 24 (fun i => .int .i64 (lanes.getD i 0))
  | 3 => .ar 1 24 (fun i => .int .i64 (turns.getD i 0))
  | _ => .junk

/-- A program, the numbers that its functions, types and variables have, and what its variables hold. -/
structure Seat where
  P : Program
  φ : Nat → Nat
  τ : Nat → Nat
  γ : Nat → Nat
  gl : List Nat      -- the variables that are read
  raw : List (Nat × Value) := []      -- blocks that are never written, and their first cells, as the model has them

/-- From one world to a later one: nothing outside 'O' has changed, no block its size. -/
structure Ev (O : Nat → Prop) (w w' : World) : Prop where
  os : w'.os = w.os
  tape : w'.tape = w.tape
  output : w'.output = w.output
  size : w.heap.size ≤ w'.heap.size
  frame : ∀ b, b < w.heap.size → ¬ O b → w'.heap[b]? = w.heap[b]?
  bs : ∀ b, bsize w b ≤ bsize w' b

theorem Ev.refl (O : Nat → Prop) (w : World) : Ev O w w := ⟨rfl, rfl, rfl, Nat.le_refl _, fun _ _ _ => rfl, fun _ => Nat.le_refl _⟩

theorem Ev.trans {O O' : Nat → Prop} {a b c : World} (h : Ev O a b) (k : Ev O' b c) (hO : ∀ i, O' i → O i ∨ a.heap.size ≤ i) : Ev O a c where
  os := k.os.trans h.os
  tape := k.tape.trans h.tape
  output := k.output.trans h.output
  size := Nat.le_trans h.size k.size
  frame i hi ho := (k.frame i (Nat.lt_of_lt_of_le hi h.size) (fun ho' => (hO i ho').elim ho (by omega))).trans (h.frame i hi ho)
  bs i := Nat.le_trans (h.bs i) (k.bs i)

theorem Ev.drew {O : Nat → Prop} {a w : World} (h : Ev O a w) : Ev O a w.drew := ⟨h.os, h.tape, h.output, h.size, h.frame, h.bs⟩

/-- What a function's body is walked in: where it began, which blocks it may write, how many were handed to it. -/
structure Ctx where
  e0 : Env
  O : Nat → Prop
  k : Nat

def BlkOK (e : Env) (id : Nat) (c : V) : Prop :=
  match c with
  | .mp n ks vs => ∃ es clock, e.w.heap[e.ρ id]? = some (.map es clock) ∧ es.size = n ∧ ∀ i x, es[i]? = some x → ((ks i).solid = true ∧ RS e (ks i) x.key) ∧ (vs i).solid = true ∧ RS e (vs i) x.val
  | c => c.solid = true ∧ ∃ cells el, e.w.heap[e.ρ id]? = some (.cells cells el (0, 0)) ∧ c.size ≤ cells.size ∧ R e c (cells.toList.take c.size)

/-- The variables that are read hold what they should. -/
def GS (M : Seat) (e : Env) : Prop :=
  (∀ g, g ∈ M.gl → R e (.imm (GLv g)) [.pointer (some ⟨M.γ g, 0, none⟩)]) ∧ ∀ p, p ∈ M.raw → e.im p.1 ∧ ∃ c el fz, e.w.heap[p.1]? = some (.cells c el fz) ∧ c[0]? = some p.2

theorem GS.mono {M : Seat} {e e' : Env} (hle : e.le e') (h : GS M e) : GS M e' :=
  ⟨fun g hg => R_mono hle (h.1 g hg), fun p hp => by
    obtain ⟨h1, c, el, fz, h2, h3⟩ := h.2 p hp
    obtain ⟨k1, k2⟩ := hle.im _ h1
    obtain ⟨el', fz', k3⟩ := k2 c el fz h2
    exact ⟨k1, c, el', fz', k3, h3⟩⟩

structure Inv (M : Seat) (c : Ctx) (e : Env) (H : Hp) : Prop where
  ev : Ev c.O c.e0.w e.w
  blk : ∀ id, hhas H id = true → e.D id ∧ BlkOK e id (hget H id) ∧ ¬ e.im (e.ρ id) ∧ (c.O (e.ρ id) ∨ c.e0.w.heap.size ≤ e.ρ id)
  inj : ∀ i j, hhas H i = true → hhas H j = true → e.ρ i = e.ρ j → i = j
  imo : ∀ b, e.im b → c.e0.im b ∨ c.O b ∨ c.e0.w.heap.size ≤ b
  imb : ∀ b, e.im b → ∃ cells el fz, e.w.heap[b]? = some (.cells cells el fz)
  rb : ∀ id, e.D id → e.ρ id < e.w.heap.size
  keep : ∀ b, c.e0.im b → e.im b
  low : ∀ id, id < c.k → e.D id ∧ e.ρ id = c.e0.ρ id
  gs : GS M e
  φ : e.φ = M.φ
  τ : e.τ = M.τ

theorem BlkOK_solid {e : Env} {id : Nat} {c : V} (hs : c.solid = true) : BlkOK e id c ↔ ∃ cells el, e.w.heap[e.ρ id]? = some (.cells cells el (0, 0)) ∧ c.size ≤ cells.size ∧ R e c (cells.toList.take c.size) := by
  cases c <;> simp_all [BlkOK, V.solid]

theorem BlkOK_mono {e e' : Env} (hle : e.le e') {id : Nat} {c : V} (hD : e.D id) (hb : e'.w.heap[e.ρ id]? = e.w.heap[e.ρ id]?) (h : BlkOK e id c) : BlkOK e' id c := by
  have hr := (hle.D id hD).2
  cases c
  case mp n ks vs =>
    obtain ⟨es, clock, h1, h2, h3⟩ := h
    exact ⟨es, clock, by rw [hr, hb]; exact h1, h2, fun i x hx => ⟨⟨(h3 i x hx).1.1, RS_mono hle (h3 i x hx).1.2⟩, (h3 i x hx).2.1, RS_mono hle (h3 i x hx).2.2⟩⟩
  all_goals
    obtain ⟨h0, cells, el, h1, h2, h3⟩ := h
    exact ⟨h0, cells, el, by rw [hr, hb]; exact h1, h2, R_mono hle h3⟩

theorem bsize_alloc (w : World) (o : Obj) (b : Nat) : bsize w b ≤ bsize (w.alloc o) b := by
  unfold bsize
  by_cases h : b < w.heap.size
  · have : (w.alloc o).heap[b]? = w.heap[b]? := by simp only [World.alloc, Array.getElem?_push]; rw [if_neg (by omega)]
    rw [this]; exact Nat.le_refl _
  · have : w.heap[b]? = none := Array.getElem?_eq_none (by omega)
    rw [this]; exact Nat.zero_le _

theorem heap_alloc_lt (w : World) (o : Obj) {b : Nat} (h : b < w.heap.size) : (w.alloc o).heap[b]? = w.heap[b]? := by
  simp only [World.alloc, Array.getElem?_push]; rw [if_neg (by omega)]

theorem heap_alloc_new (w : World) (o : Obj) : (w.alloc o).heap[w.heap.size]? = some o := by
  show (w.heap.push o)[w.heap.size]? = _
  simp

/-- A new block, under a number that is free. -/
def Env.new (e : Env) (n : Nat) (o : Obj) : Env :=
  { e with ρ := fun i => if i = n then e.w.heap.size else e.ρ i, D := fun i => i = n ∨ e.D i, w := e.w.alloc o }

theorem Env.le_new {e : Env} {n : Nat} (o : Obj) (hn : ¬ e.D n) (himb : ∀ b, e.im b → b < e.w.heap.size) : e.le (e.new n o) where
  D i hi := ⟨.inr hi, by
    have : i ≠ n := fun h => hn (h ▸ hi)
    simp [Env.new, this]⟩
  im b hb := ⟨hb, fun c el fz hc => ⟨el, fz, by
    show (e.w.alloc o).heap[b]? = _
    rw [heap_alloc_lt _ _ (himb b hb)]; exact hc⟩⟩
  sz b := bsize_alloc _ _ _
  φ := rfl
  τ := rfl

theorem Inv.imlt {M : Seat} {c : Ctx} {e : Env} {H : Hp} (h : Inv M c e H) : ∀ b, e.im b → b < e.w.heap.size := fun b hb => by
  obtain ⟨cells, el, fz, hc⟩ := h.imb b hb
  exact (Array.getElem?_eq_some_iff.1 hc).1

theorem Inv.new {M : Seat} {c : Ctx} {e : Env} {H : Hp} (h : Inv M c e H) {n : Nat} (hn : ¬ e.D n) (hk : c.k ≤ n) {o : Obj} {z : V} (hz : BlkOK (e.new n o) n z) :
    Inv M c (e.new n o) ((n, z) :: H) := by
  have hle := Env.le_new o hn h.imlt
  have hnH : hhas H n = false := by
    cases hh : hhas H n with
    | false => rfl
    | true => exact absurd (h.blk n hh).1 hn
  have hρ : ∀ i, e.D i → (e.new n o).ρ i = e.ρ i := fun i hi => (hle.D i hi).2
  have hρn : (e.new n o).ρ n = e.w.heap.size := by simp [Env.new]
  have hge := h.ev.size
  refine ⟨?_, ?_, ?_, h.imo, ?_, ?_, h.keep, ?_, ?_, h.φ, h.τ⟩
  · exact h.ev.trans (O' := fun _ => False) ⟨rfl, rfl, rfl, by simp [Env.new], fun b hb _ => heap_alloc_lt _ _ hb, fun b => bsize_alloc _ _ b⟩ (fun _ hf => hf.elim)
  · intro id hid
    by_cases hidn : id = n
    · subst hidn
      refine ⟨.inl rfl, by simpa [hget] using hz, ?_, .inr ?_⟩
      · rw [hρn]; intro him; have := h.imlt _ him; omega
      · rw [hρn]; exact hge
    · have hid' : hhas H id = true := by
        simp only [hhas, Bool.or_eq_true, beq_iff_eq] at hid
        exact hid.resolve_left (fun h' => hidn h'.symm)
      obtain ⟨h1, h2, h3, h4⟩ := h.blk id hid'
      have hg : hget ((n, z) :: H) id = hget H id := by simp [hget, Ne.symm hidn]
      rw [hg, hρ id h1]
      exact ⟨.inr h1, BlkOK_mono hle h1 (heap_alloc_lt _ _ (h.rb id h1)) h2, h3, h4⟩
  · have key : ∀ i, hhas ((n, z) :: H) i = true → i ≠ n → hhas H i = true := fun i hi hin => by
      simp only [hhas, Bool.or_eq_true, beq_iff_eq] at hi
      exact hi.resolve_left (fun h' => hin h'.symm)
    intro i j hi hj hij
    by_cases hin : i = n <;> by_cases hjn : j = n
    · rw [hin, hjn]
    · subst hin
      have hj' := key j hj hjn
      rw [hρn, hρ j (h.blk j hj').1] at hij
      have := h.rb j (h.blk j hj').1
      omega
    · subst hjn
      have hi' := key i hi hin
      rw [hρn, hρ i (h.blk i hi').1] at hij
      have := h.rb i (h.blk i hi').1
      omega
    · have hi' := key i hi hin
      have hj' := key j hj hjn
      rw [hρ i (h.blk i hi').1, hρ j (h.blk j hj').1] at hij
      exact h.inj i j hi' hj' hij
  · intro b hb
    obtain ⟨cells, el, fz, hc⟩ := h.imb b hb
    exact ⟨cells, el, fz, by show (e.w.alloc o).heap[b]? = _; rw [heap_alloc_lt _ _ (h.imlt b hb)]; exact hc⟩
  · intro id hid
    rcases hid with rfl | hid
    · rw [hρn]; simp [Env.new]
    · rw [hρ id hid]; have := h.rb id hid; simp [Env.new]; omega
  · intro id hid
    obtain ⟨h1, h2⟩ := h.low id hid
    exact ⟨.inr h1, (hρ id h1).trans h2⟩
  · exact h.gs.mono hle

/-- A block of cells that the abstract heap has. -/
theorem Inv.cells {M : Seat} {c : Ctx} {e : Env} {H : Hp} (h : Inv M c e H) {id : Nat} (hid : hhas H id = true) (hs : (hget H id).solid = true) :
    ∃ cells el, e.w.heap[e.ρ id]? = some (.cells cells el (0, 0)) ∧ (hget H id).size ≤ cells.size ∧ R e (hget H id) (cells.toList.take (hget H id).size) :=
  (BlkOK_solid hs).1 (h.blk id hid).2.1

theorem bsize_setRow {w : World} {g : Nat} {old new : Array Value} {el : TypeId} {fz : Nat × Nat} (hg : w.heap[g]? = some (.cells old el fz)) (hsz : new.size = old.size) (b : Nat) : bsize (w.setRow g new) b = bsize w b := by
  unfold bsize
  by_cases h : b = g
  · subst h; rw [setRow_heap _ _ _ _ _ _ hg, hg]; exact hsz
  · rw [setRow_other _ _ _ _ h]

theorem Env.le_row {e : Env} {g : Nat} {old new : Array Value} {el : TypeId} {fz : Nat × Nat} (hg : e.w.heap[g]? = some (.cells old el fz)) (hsz : new.size = old.size) (him : ¬ e.im g) :
    e.le { e with w := e.w.setRow g new } where
  D _ hi := ⟨hi, rfl⟩
  im b hb := ⟨hb, fun c el fz hc => ⟨el, fz, by
    show (e.w.setRow g new).heap[b]? = _
    rw [setRow_other _ _ _ _ (fun h' : b = g => him (h' ▸ hb))]; exact hc⟩⟩
  sz b := Nat.le_of_eq (bsize_setRow hg hsz b).symm
  φ := rfl
  τ := rfl

/-- A block written, its size kept. -/
theorem Inv.row {M : Seat} {c : Ctx} {e : Env} {H : Hp} (h : Inv M c e H) {id : Nat} (hid : hhas H id = true) {old new : Array Value} {el : TypeId} (hg : e.w.heap[e.ρ id]? = some (.cells old el (0, 0)))
    (hsz : new.size = old.size) {z : V} (hs : z.solid = true) (hzs : z.size ≤ new.size) (hz : R e z (new.toList.take z.size)) :
    e.le { e with w := e.w.setRow (e.ρ id) new } ∧ Inv M c { e with w := e.w.setRow (e.ρ id) new } (hset H id z) := by
  obtain ⟨hD, _, him, hO⟩ := h.blk id hid
  have hle := Env.le_row hg hsz him
  have hge := h.ev.size
  refine ⟨hle, ?_, ?_, ?_, h.imo, ?_, ?_, h.keep, h.low, h.gs.mono hle, h.φ, h.τ⟩
  · refine h.ev.trans (O' := fun b => b = e.ρ id) ⟨rfl, rfl, rfl, by simp, fun b _ hb => setRow_other _ _ _ _ hb, fun b => Nat.le_of_eq (bsize_setRow hg hsz b).symm⟩ ?_
    rintro i rfl
    exact hO
  · intro j hj
    rw [hhas_hset] at hj
    obtain ⟨h1, h2, h3, h4⟩ := h.blk j hj
    refine ⟨h1, ?_, h3, h4⟩
    by_cases hji : j = id
    · subst hji
      rw [hget_hset_same _ _ _ hj]
      exact (BlkOK_solid hs).2 ⟨new, el, setRow_heap _ _ _ _ _ _ hg, hzs, R_mono hle hz⟩
    · rw [hget_hset_other _ _ _ hji]
      refine BlkOK_mono hle h1 ?_ h2
      exact setRow_other _ _ _ _ (fun hne => hji (h.inj j id hj hid hne))
  · intro i j hi hj
    rw [hhas_hset] at hi hj
    exact h.inj i j hi hj
  · intro b hb
    obtain ⟨cells, el', fz, hc⟩ := h.imb b hb
    exact ⟨cells, el', fz, by show (e.w.setRow (e.ρ id) new).heap[b]? = _; rw [setRow_other _ _ _ _ (fun h' : b = e.ρ id => him (h' ▸ hb))]; exact hc⟩
  · intro j hj
    show e.ρ j < (e.w.setRow (e.ρ id) new).heap.size
    rw [setRow_size]; exact h.rb j hj

/-- Fewer blocks. -/
theorem Inv.del {M : Seat} {c : Ctx} {e : Env} {H : Hp} (h : Inv M c e H) (id : Nat) : Inv M c e (hdel H id) := by
  have key : ∀ j, hhas (hdel H id) j = true → hhas H j = true ∧ j ≠ id := fun j hj => by rw [hhas_hdel] at hj; simpa using hj
  refine ⟨h.ev, fun j hj => ?_, fun i j hi hj => h.inj i j (key i hi).1 (key j hj).1, h.imo, h.imb, h.rb, h.keep, h.low, h.gs, h.φ, h.τ⟩
  obtain ⟨h1, h2⟩ := key j hj
  rw [hget_hdel _ _ h2]
  exact h.blk j h1
end Mv
namespace Mv
open Go

/-- An operand. -/
inductive X where
  | t (i : Nat)
  | c (v : V)
  | g (g : Nat)
  | fn (f : Nat)

def X.ev (A : List V) : X → V
  | .t i => A.getD i .junk
  | .c v => v
  | .g j => .imm (GLv j)
  | .fn f => .fn f (.st 0 .fnil)

/-- Zero values of types. -/
inductive Z where
  | int (k : IntKind)
  | bool
  | str
  | ptr
  | slice
  | map
  | func
  | iface
  | nil
  | cons (z : Z) (r : Z)
  | st (fs : Z)
  | ar (n : Nat) (z : Z)

def Z.sz : Z → Nat
  | .nil => 0
  | .cons z r => z.sz + r.sz
  | .st fs => fs.sz
  | .ar n z => n * z.sz
  | _ => 1

def Z.v : Z → Nat → V
  | .int k, _ => .int k 0
  | .bool, _ => .bool false
  | .str, _ => .str ByteArray.empty
  | .ptr, _ => .nilp
  | .slice, _ => .nils
  | .map, _ => .nilm
  | .func, _ => .nilf
  | .iface, _ => .nili
  | .nil, _ => .fnil
  | .cons z r, o => .fcons o (z.v 0) (r.v (o + z.sz))
  | .st fs, _ => .st fs.sz (fs.v 0)
  | .ar n z, _ => .ar z.sz n (fun _ => z.v 0)

/-- Not a chain of fields. -/
def Z.one : Z → Bool
  | .nil | .cons .. => false
  | _ => true

def Z.isFs : Z → Bool
  | .nil => true
  | .cons z r => z.one && r.isFs
  | _ => false

/-- The cells of a zero value, eaten from the front. -/
def Z.eat : Z → List Value → Option (List Value)
  | .int k, .int k' n :: r => if k = k' ∧ n = 0 then some r else none
  | .bool, .bool b :: r => if b = false then some r else none
  | .str, .string s :: r => if s.size = 0 then some r else none
  | .ptr, .pointer none :: r => some r
  | .slice, .slice none 0 0 :: r => some r
  | .map, .map none :: r => some r
  | .func, .nilFunc :: r => some r
  | .iface, .nilIface :: r => some r
  | .nil, cs => some cs
  | .cons z r, cs => if z.one && r.isFs then
      (match z.eat cs with
      | some cs' => r.eat cs'
      | none => none) else none
  | .st fs, cs => if fs.isFs then fs.eat cs else none
  | .ar n z, cs => if z.one then Nat.rec (some cs) (fun _ acc => match acc with | some cs' => z.eat cs' | none => none) n else none
  | _, _ => none

theorem Z.one_fs {z : Z} (h : z.one = true) : z.isFs = false := by cases z <;> first | rfl | cases h

theorem Z.v_size : ∀ (z : Z) (o : Nat), z.one = true → (z.v o).size = z.sz
  | .int _, _, _ | .bool, _, _ | .str, _, _ | .ptr, _, _ | .slice, _, _ | .map, _, _ | .func, _, _ | .iface, _, _ | .st _, _, _ | .ar _ _, _, _ => rfl

theorem Z.v_solid : ∀ (z : Z) (o : Nat), z.one = true → (z.v o).solid = true
  | .int _, _, _ | .bool, _, _ | .str, _, _ | .ptr, _, _ | .slice, _, _ | .map, _, _ | .func, _, _ | .iface, _, _ | .st _, _, _ | .ar _ _, _, _ => rfl

theorem Z.flo_fs (d : Nat) : ∀ (z : Z) (o : Nat), z.isFs = true → o ≤ d → (z.v o).flo d = (match z with | .nil => d | _ => o)
  | .nil, _, _, _ => rfl
  | .cons _ _, _, _, _ => rfl

theorem Z.chain_fs : ∀ (z : Z) (o : Nat), z.isFs = true → (z.v o).chain = true
  | .nil, _, _ => rfl
  | .cons _ _, _, _ => rfl

/-- What was eaten is the zero value. A chain is held against all cells of its struct, with what was eaten standing at its offset. -/
theorem Z.eat_R (e : Env) : ∀ (z : Z) (cs rest : List Value), z.eat cs = some rest →
    ∃ pre, cs = pre ++ rest ∧ pre.length = z.sz ∧ (∀ x ∈ pre, x.oneCell' = true) ∧
      (if z.isFs = true then ∀ front back : List Value, R e (z.v front.length) (front ++ pre ++ back) else R e (z.v 0) pre)
  | .int k, cs, rest, h => by
    cases cs with
    | nil => simp [Z.eat] at h
    | cons x r => cases x <;> simp [Z.eat] at h; obtain ⟨⟨rfl, rfl⟩, rfl⟩ := h; exact ⟨[_], rfl, rfl, by simp [Value.oneCell'], by simp [Z.isFs, Z.v, R]⟩
  | .bool, cs, rest, h => by
    cases cs with
    | nil => simp [Z.eat] at h
    | cons x r =>
      cases x
      case bool b =>
        cases b
        · simp only [Z.eat, if_true, Option.some.injEq] at h; subst h; exact ⟨[_], rfl, rfl, by simp [Value.oneCell'], by simp [Z.isFs, Z.v, R]⟩
        · simp [Z.eat] at h
      all_goals simp [Z.eat] at h
  | .str, cs, rest, h => by
    cases cs with
    | nil => simp [Z.eat] at h
    | cons x r =>
      cases x <;> simp [Z.eat] at h
      rename_i s
      obtain ⟨h0, rfl⟩ := h
      have : s = ByteArray.empty := by
        first | exact h0 | exact ByteArray.size_eq_zero_iff.1 h0
      subst this
      exact ⟨[_], rfl, rfl, by simp [Value.oneCell'], by simp [Z.isFs, Z.v, R]⟩
  | .ptr, cs, rest, h => by
    rcases cs with _ | ⟨x, r⟩
    · simp [Z.eat] at h
    · cases x
      case pointer a => cases a with
        | none => simp only [Z.eat, Option.some.injEq] at h; subst h; exact ⟨[_], rfl, rfl, by simp [Value.oneCell'], by simp [Z.isFs, Z.v, R]⟩
        | some _ => simp [Z.eat] at h
      all_goals simp [Z.eat] at h
  | .slice, cs, rest, h => by
    rcases cs with _ | ⟨x, r⟩
    · simp [Z.eat] at h
    · cases x
      case slice a l c =>
        rcases a with _ | a <;> rcases l with _ | l <;> rcases c with _ | c
        · simp only [Z.eat, Option.some.injEq] at h; subst h; exact ⟨[_], rfl, rfl, by simp [Value.oneCell'], by simp [Z.isFs, Z.v, R]⟩
        all_goals simp [Z.eat] at h
      all_goals simp [Z.eat] at h
  | .map, cs, rest, h => by
    rcases cs with _ | ⟨x, r⟩
    · simp [Z.eat] at h
    · cases x
      case map a => cases a with
        | none => simp only [Z.eat, Option.some.injEq] at h; subst h; exact ⟨[_], rfl, rfl, by simp [Value.oneCell'], by simp [Z.isFs, Z.v, R]⟩
        | some _ => simp [Z.eat] at h
      all_goals simp [Z.eat] at h
  | .func, cs, rest, h => by
    rcases cs with _ | ⟨x, r⟩
    · simp [Z.eat] at h
    · cases x
      case nilFunc => simp only [Z.eat, Option.some.injEq] at h; subst h; exact ⟨[_], rfl, rfl, by simp [Value.oneCell'], by simp [Z.isFs, Z.v, R]⟩
      all_goals simp [Z.eat] at h
  | .iface, cs, rest, h => by
    rcases cs with _ | ⟨x, r⟩
    · simp [Z.eat] at h
    · cases x
      case nilIface => simp only [Z.eat, Option.some.injEq] at h; subst h; exact ⟨[_], rfl, rfl, by simp [Value.oneCell'], by simp [Z.isFs, Z.v, R]⟩
      all_goals simp [Z.eat] at h
  | .nil, cs, rest, h => by
    simp [Z.eat] at h
    subst h
    exact ⟨[], rfl, rfl, by simp, by simp [Z.isFs, Z.v, R]⟩
  | .cons z r, cs, rest, h => by
    simp only [Z.eat] at h
    by_cases hfs : (z.one && r.isFs) = true
    case neg => rw [if_neg hfs] at h; cases h
    rw [if_pos hfs] at h
    simp only [Bool.and_eq_true] at hfs
    obtain ⟨hzs, hrs⟩ := hfs
    cases hz : z.eat cs with
    | none => simp [hz] at h
    | some cs' =>
      simp only [hz] at h
      obtain ⟨p1, rfl, l1, o1, r1⟩ := Z.eat_R e z cs cs' hz
      obtain ⟨p2, rfl, l2, o2, r2⟩ := Z.eat_R e r cs' rest h
      have hall : (Z.cons z r).isFs = true := by simp only [Z.isFs, Bool.and_eq_true]; exact ⟨hzs, hrs⟩
      refine ⟨p1 ++ p2, by simp, by simp [Z.sz, l1, l2], fun x hx => (List.mem_append.1 hx).elim (o1 x) (o2 x), ?_⟩
      simp only [hall, if_true]
      intro front back
      have hznf := Z.one_fs (by assumption)
      simp only [hznf, Bool.false_eq_true, if_false] at r1
      simp only [hrs, if_true] at r2
      have hsz := Z.v_size z 0 hzs
      simp only [Z.v, R]
      have e2 : front ++ (p1 ++ p2) ++ back = (front ++ p1) ++ p2 ++ back := by simp
      refine ⟨Z.chain_fs r _ hrs, ?_, ?_, ?_, ?_⟩
      · rw [hsz, Z.flo_fs _ _ _ hrs (by simp [l1])]
        split <;> simp [l1] <;> omega
      · rw [hsz]; simp only [List.length_append, l1]; omega
      · rw [hsz, ← l1]
        simpa [List.drop_append, List.take_append] using r1
      · have := r2 (front ++ p1) back
        rw [e2]
        simpa [l1] using this
  | .st fs, cs, rest, h => by
    simp only [Z.eat] at h
    split at h
    · rename_i hfs
      obtain ⟨p1, rfl, l1, o1, r1⟩ := Z.eat_R e fs cs rest h
      simp only [hfs, if_true] at r1
      refine ⟨p1, rfl, l1, o1, ?_⟩
      have := r1 [] []
      simp only [Z.isFs, Bool.false_eq_true, if_false, Z.v, R]
      exact ⟨l1, ⟨Z.chain_fs fs 0 hfs, o1⟩, by simpa using this⟩
    · cases h
  | .ar n z, cs, rest, h => by
    have ih := Z.eat_R e z
    simp only [Z.eat] at h
    by_cases hzs : z.one = true
    case neg => rw [if_neg hzs] at h; cases h
    rw [if_pos hzs] at h
    have hznf := Z.one_fs hzs
    simp only [hznf, Bool.false_eq_true, if_false] at ih
    have h' := h
    have key : ∀ (n : Nat) (rest : List Value), Nat.rec (motive := fun _ => Option (List Value)) (some cs) (fun _ acc => match acc with | some cs' => z.eat cs' | none => none) n = some rest →
        ∃ pre, cs = pre ++ rest ∧ pre.length = n * z.sz ∧ (∀ x ∈ pre, x.oneCell' = true) ∧ ∀ i, i < n → R e (z.v 0) ((pre.drop (i * z.sz)).take z.sz) := by
      intro n
      induction n with
      | zero => intro rest hr; have hr' : some cs = some rest := hr; cases hr'; exact ⟨[], rfl, by simp, by simp, fun i hi => absurd hi (by omega)⟩
      | succ n ihn =>
        intro rest hr
        have hr' : (match (Nat.rec (motive := fun _ => Option (List Value)) (some cs) (fun _ acc => match acc with | some cs' => z.eat cs' | none => none) n) with | some cs' => z.eat cs' | none => none) = some rest := hr
        clear hr
        rename (_ = some rest) => hr
        split at hr
        · rename_i cs' hc
          obtain ⟨p1, h1, l1, o1, r1⟩ := ihn cs' hc
          obtain ⟨p2, h2, l2, o2, r2⟩ := ih cs' rest hr
          refine ⟨p1 ++ p2, by rw [h1, h2]; simp, by simp [l1, l2, Nat.add_mul], fun x hx => (List.mem_append.1 hx).elim (o1 x) (o2 x), fun i hi => ?_⟩
          by_cases hin : i < n
          · have hm : i * z.sz + z.sz ≤ n * z.sz := by
              have : (i + 1) * z.sz ≤ n * z.sz := Nat.mul_le_mul_right _ hin
              rw [Nat.add_mul] at this; omega
            have e1 : ((p1 ++ p2).drop (i * z.sz)).take z.sz = (p1.drop (i * z.sz)).take z.sz := by
              rw [List.drop_append_of_le_length (by omega), List.take_append_of_le_length (by simp; omega)]
            rw [e1]; exact r1 i hin
          · have hin' : i = n := by omega
            subst hin'
            have e1 : ((p1 ++ p2).drop (i * z.sz)).take z.sz = p2 := by
              rw [← l1, List.drop_append_of_le_length (Nat.le_refl _), List.drop_length, List.nil_append, List.take_of_length_le (by omega)]
            rw [e1]; exact r2
        · cases hr
    obtain ⟨pre, h1, l1, o1, r1⟩ := key n rest h'
    refine ⟨pre, h1, l1, o1, ?_⟩
    simp only [Z.isFs, Bool.false_eq_true, if_false, Z.v, R]
    exact ⟨l1, fun i hi => ⟨⟨Z.v_solid z 0 hzs, Z.v_size z 0 hzs⟩, r1 i hi⟩⟩

/-- A value is a type's zero. -/
def Z.chk (z : Z) (x : Value) : Bool :=
  z.one && (match z.eat x.cells.toList with | some [] => true | _ => false)

theorem Z.chk_R (e : Env) {z : Z} {x : Value} (h : z.chk x = true) : x.cells.size = z.sz ∧ R e (z.v 0) x.cells.toList ∧ (z.v 0).solid = true ∧ (z.v 0).size = z.sz := by
  simp only [Z.chk, Bool.and_eq_true] at h
  obtain ⟨h1, h2⟩ := h
  split at h2
  · rename_i hz
    obtain ⟨pre, e1, l1, _, r1⟩ := Z.eat_R e z _ _ hz
    have hznf := Z.one_fs (by assumption)
    simp only [hznf, Bool.false_eq_true, if_false] at r1
    simp only [List.append_nil] at e1
    refine ⟨by rw [← l1, ← e1]; simp, by rw [e1]; exact r1, Z.v_solid z 0 h1, Z.v_size z 0 h1⟩
  · cases h2
end Mv
namespace Mv
open Go

/-- How two values of a type are held against each other. -/
inductive ES where
  | int
  | bool
  | str
  | ptr
  | iface (ts : List Nat)      -- the types that are held against one another, numbers all of them
  | nils (k : Nat)      -- a slice (0), a map (1) or a function (2): against nil alone
  | nil
  | cons (off sz : Nat) (agg : Bool) (s : ES) (r : ES)
  | st (fs : ES)
  | ar (n sz : Nat) (agg : Bool) (s : ES)

inductive LO where
  | mv (x : X)
  | pick (c a b : X)
  | ari (op : BinOp) (x y : X)
  | eq (neg c : Bool) (s : ES) (x y : X)      -- c: one of the two is written there
  | un (op : UnOp) (x : X)
  | conv (k : IntKind) (x : X)
  | alloc (z : Z)
  | box (x : X)
  | build (z : Z) (ps : List (Stp × Nat × X))
  | bsl (sz n : Nat) (z : Z) (ps : List (Stp × Nat × X))
  | load (agg : Bool) (sz : Nat) (x : X)
  | store (sz : Nat) (x y : X)
  | nilc (x : X)
  | fadr (off : Nat) (x : X)
  | iarr (n sz : Nat) (x i : X)
  | isl (sz : Nat) (x i : X)
  | idx (n sz : Nat) (agg : Bool) (x i : X)
  | fld (off sz : Nat) (agg : Bool) (x : X)
  | slarr (n sz : Nat) (x : X) (lo hi : Option X)
  | slsl (sz : Nat) (x : X) (lo hi : Option X)
  | s2a (n sz : Nat) (x : X)
  | mkif (t : Nat) (x : X)
  | ext (x : X) (i : Nat)
  | len (k : Nat) (x : X)      -- 0: a slice, 1: a string, 2: a map
  | app (sz bytes : Nat) (x y : X)
  | copy (sz : Nat) (x y : X)
  | mm (max : Bool) (x y : X)
  | mksl (sz bytes : Nat) (z : Z) (l c : X)
  | mkfn (f : Nat) (caps : List X)
  | mkmap (zk zv : Z)      -- what stands for the keys and values that are not there
  | mlook (s : ES) (z : Z) (ok : Bool) (m k : X)
  | mupd (s : ES) (m k x : X)
  | sidx (x i : X)      -- a string's byte
  | add64 (x y c : X)      -- math/bits.Add64, whose body the model has
  | mkmth (k : Nat) (x : X)      -- a method's value, of what an interface holds
  | nilm (k : Nat) (ts : List Nat) (x : X)      -- is there something behind a method's value? (of these types)
  | mclone (x : X)      -- maps.clone, whose body the model has
  | tas (t : Nat) (x : X)      -- what an interface holds, of a type that is no interface
  | nope      -- an operation that is never run

/-- What an operation comes to: what must hold, the value, the heap. -/
structure Out where
  pre : Prop
  v : V
  H : Hp

def bad (H : Hp) : Out := ⟨False, .junk, H⟩

def vpick (b : Bool) (x y : V) : V :=
  match x, y with
  | .bool p, .bool q => .bool (bif b then p else q)
  | x, y => bif b then x else y

def vari (op : BinOp) (x y : V) (H : Hp) : Out :=
  match x, y with
  | .int k a, .int k' b =>
    match op with
    | .add => ⟨k = k', .int k (k.wrap (a + b)), H⟩
    | .sub => ⟨k = k', .int k (k.wrap (a - b)), H⟩
    | .mul => ⟨k = k', .int k (k.wrap (a * b)), H⟩
    | .quo => ⟨k = k' ∧ b ≠ 0, .int k (k.wrap (a.tdiv b)), H⟩
    | .rem => ⟨k = k' ∧ b ≠ 0, .int k (a.tmod b), H⟩
    | .and => ⟨k = k', .int k (k.wrap ((BitVec.ofInt k.bits a &&& BitVec.ofInt k.bits b).toNat)), H⟩
    | .or => ⟨k = k', .int k (k.wrap ((BitVec.ofInt k.bits a ||| BitVec.ofInt k.bits b).toNat)), H⟩
    | .xor => ⟨k = k', .int k (k.wrap ((BitVec.ofInt k.bits a ^^^ BitVec.ofInt k.bits b).toNat)), H⟩
    | .andNot => ⟨k = k', .int k (k.wrap ((BitVec.ofInt k.bits a &&& ~~~BitVec.ofInt k.bits b).toNat)), H⟩
    | .shl => ⟨0 ≤ b, .int k (k.wrap (a * 2 ^ min b.toNat k.bits)), H⟩
    | .shr => ⟨0 ≤ b, .int k (a.fdiv (2 ^ min b.toNat k.bits)), H⟩
    | .lss => ⟨k = k', .bool (decide (a < b)), H⟩
    | .leq => ⟨k = k', .bool (decide (a ≤ b)), H⟩
    | .gtr => ⟨k = k', .bool (decide (b < a)), H⟩
    | .geq => ⟨k = k', .bool (decide (b ≤ a)), H⟩
    | .eql => ⟨k = k', .bool (decide (a = b)), H⟩
    | .neq => ⟨k = k', .bool (!decide (a = b)), H⟩
  | _, _ => bad H

def vun (op : UnOp) (x : V) (H : Hp) : Out :=
  match op, x with
  | .not, .bool b => ⟨True, .bool (!b), H⟩
  | .neg, .int k n => ⟨True, .int k (k.wrap (0 - n)), H⟩
  | .xor, .int k n => ⟨True, .int k (k.wrap ((BitVec.ofInt k.bits (if k.signed then -1 else k.max) ^^^ BitVec.ofInt k.bits n).toNat)), H⟩
  | _, _ => bad H

def vbuild (c : V) (A : List V) : List (Stp × Nat × X) → V
  | [] => c
  | (s, _, x) :: r => vbuild (V.set (x.ev A) [s] c) A r

def vbuildOK (c : V) (A : List V) : List (Stp × Nat × X) → Prop
  | [] => True
  | (s, sz, x) :: r => ((x.ev A).solid = true ∧ c.ok [s] ∧ (x.ev A).size = sz ∧ (c.get [s]).size = sz) ∧ vbuildOK (V.set (x.ev A) [s] c) A r

def vcaps (A : List V) : List X → Nat → V
  | [], _ => .fnil
  | x :: r, n => .fcons n (x.ev A) (vcaps A r (n + 1))

def vcapsOK (A : List V) : List X → Prop
  | [] => True
  | x :: r => ((x.ev A).solid = true ∧ (x.ev A).isAgg = false) ∧ vcapsOK A r

/-- The elements of a slice: how many, which, of what size. -/
def elems (H : Hp) (x : V) : Option (Nat × Nat × (Nat → V)) :=
  match x with
  | .lst sz n f => some (sz, n, f)
  | .sl id p o n sz => match (hget H id).get p with
    | .ar _ _ f => some (sz, n, fun i => f (o + i))
    | _ => none
  | .nils => none
  | _ => none

/-- May the elements be read? -/
def elemsOK (H : Hp) (x : V) : Prop :=
  match x with
  | .sl id p o n sz => hhas H id = true ∧ (hget H id).solid = true ∧ (hget H id).ok p ∧ (match (hget H id).get p with | .ar sz' m _ => sz' = sz ∧ o + n ≤ m | _ => False)
  | _ => True

def vopt (A : List V) (d : Int) : Option X → Int
  | none => d
  | some x => match x.ev A with | .int _ n => n | _ => -1

def isInt : V → Prop
  | .int _ _ => True
  | _ => False

def optInt (A : List V) : Option X → Prop
  | none => True
  | some x => isInt (x.ev A)

/-- May two values be held against each other? -/
def veqP (c : Bool) : ES → V → V → Prop
  | .int, a, b => (match a, b with | .int k _, .int k' _ => k = k' | _, _ => False)
  | .bool, a, b => (match a, b with | .bool _, .bool _ => True | _, _ => False)
  | .str, a, b => (match a, b with | .str _, .str _ => True | _, _ => False)
  | .ptr, a, b => (match a, b with | .nilp, .nilp | .nilp, .ptr _ _ | .ptr _ _, .nilp | .nilp, .imm _ | .imm _, .nilp => True | _, _ => False)
  | .iface ts, a, b => (match a, b with
    | .nili, .nili => c = true
    | .nili, .ifc _ _ | .ifc _ _, .nili => True
    | .ifc t (.int k _), .ifc t' (.int k' _) => t ∈ ts ∧ t' ∈ ts ∧ k = k'
    | _, _ => False)
  | .nils k, a, b => (match k, a, b with
    | 0, .nils, .nils | 1, .nilm, .nilm | 1, .nilm, .map _ | 1, .map _, .nilm | 2, .nilf, .nilf | 2, .nilf, .fn _ _ | 2, .fn _ _, .nilf => True
    | 0, .nils, .sl _ _ _ n _ | 0, .sl _ _ _ n _, .nils | 0, .nils, .lst _ n _ | 0, .lst _ n _, .nils => 0 < n
    | _, _, _ => False)
  | .nil, _, _ => True
  | .cons o sz agg s r, a, b => ((a.fhas o = true ∧ b.fhas o = true) ∧ ((a.fget o).solid = true ∧ (a.fget o).size = sz ∧ (a.fget o).isAgg = agg) ∧ ((b.fget o).solid = true ∧ (b.fget o).size = sz ∧ (b.fget o).isAgg = agg) ∧ veqP c s (a.fget o) (b.fget o)) ∧ veqP c r a b
  | .st fs, a, b => (match a, b with | .st _ x, .st _ y => veqP c fs x y | _, _ => False)
  | .ar n sz agg s, a, b => (match a, b with | .ar sz' n' f, .ar sz'' n'' g => (sz' = sz ∧ sz'' = sz ∧ n' = n ∧ n'' = n) ∧ ∀ i, i < n → (f i).isAgg = agg ∧ (g i).isAgg = agg ∧ veqP c s (f i) (g i) | _, _ => False)

/-- Are they the same? -/
def veqV : ES → V → V → Bool
  | .int, a, b => (match a, b with | .int _ x, .int _ y => decide (x = y) | _, _ => false)
  | .bool, a, b => (match a, b with | .bool x, .bool y => decide (x = y) | _, _ => false)
  | .str, a, b => (match a, b with | .str x, .str y => x == y | _, _ => false)
  | .ptr, a, b => (match a, b with | .nilp, .nilp => true | _, _ => false)
  | .iface _, a, b => (match a, b with
    | .nili, .nili => true
    | .ifc t (.int _ x), .ifc t' (.int _ y) => t == t' && decide (x = y)
    | _, _ => false)
  | .nils _, a, b => (match a, b with | .nils, .nils | .nilm, .nilm | .nilf, .nilf => true | _, _ => false)
  | .nil, _, _ => true
  | .cons o _ _ s r, a, b => veqV s (a.fget o) (b.fget o) && veqV r a b
  | .st fs, a, b => (match a, b with | .st _ x, .st _ y => veqV fs x y | _, _ => false)
  | .ar n _ _ s, a, b => (match a, b with | .ar _ _ f, .ar _ _ g => (List.range n).all (fun i => veqV s (f i) (g i)) | _, _ => false)

/-- The first of the keys that is k. -/
def mff (s : ES) (k : V) (ks : Nat → V) : Nat → Nat → Option Nat
  | _, 0 => none
  | i, c + 1 => if veqV s k (ks i) then some i else mff s k ks (i + 1) c
def vlook (s : ES) (z : Z) (ok : Bool) (m k : V) (H : Hp) : Out := match m with
  | .map id => match hget H id with
    | .mp n ks vs => ⟨hhas H id = true ∧ k.solid = true ∧ veqP true s k k ∧ ∀ i, i < n → veqP true s k (ks i),
        (match mff s k ks 0 n with
        | some i => if ok then .tup (.fcons 0 (vs i) (.fcons 1 (.bool true) .fnil)) else vs i
        | none => if ok then .tup (.fcons 0 (z.v 0) (.fcons 1 (.bool false) .fnil)) else z.v 0), H⟩
    | _ => bad H
  | _ => bad H
def vupd (s : ES) (m k x : V) (H : Hp) : Out := match m with
  | .map id => match hget H id with
    | .mp n ks vs => ⟨hhas H id = true ∧ k.solid = true ∧ x.solid = true ∧ veqP true s k k ∧ ∀ i, i < n → veqP true s k (ks i), .tup .fnil,
        hset H id (.mp (match mff s k ks 0 n with | some _ => n | none => n + 1) (fun j => if j = (mff s k ks 0 n).getD n then k else ks j) (fun j => if j = (mff s k ks 0 n).getD n then x else vs j))⟩
    | _ => bad H
  | _ => bad H

def step (A : List V) (H : Hp) (n : Nat) : LO → Out
  | .mv x => ⟨True, x.ev A, H⟩
  | .pick c a b => match c.ev A with
    | .bool t => ⟨True, vpick t (a.ev A) (b.ev A), H⟩
    | _ => bad H
  | .ari op x y => vari op (x.ev A) (y.ev A) H
  | .eq neg c s x y => ⟨veqP c s (x.ev A) (y.ev A), .bool (neg ^^ veqV s (x.ev A) (y.ev A)), H⟩
  | .un op x => vun op (x.ev A) H
  | .conv k x => match x.ev A with
    | .int _ a => ⟨True, .int k (k.wrap a), H⟩
    | _ => bad H
  | .alloc z => ⟨True, .ptr n [], (n, z.v 0) :: H⟩
  | .box x => ⟨(x.ev A).solid = true, .ptr n [], (n, x.ev A) :: H⟩
  | .build z ps => ⟨vbuildOK (z.v 0) A ps, vbuild (z.v 0) A ps, H⟩
  | .bsl sz m z ps => ⟨vbuildOK (.ar sz m (fun _ => z.v 0)) A ps, .sl n [] 0 m sz, (n, vbuild (.ar sz m (fun _ => z.v 0)) A ps) :: H⟩
  | .load agg sz x => match x.ev A with
    | .ptr id p => ⟨(hhas H id = true ∧ (hget H id).solid = true ∧ (hget H id).ok p) ∧ ((hget H id).get p).solid = true ∧ ((hget H id).get p).size = sz ∧ ((hget H id).get p).isAgg = agg, (hget H id).get p, H⟩
    | .imm v => ⟨v.solid = true ∧ v.size = sz ∧ v.isAgg = agg, v, H⟩
    | _ => bad H
  | .store sz x y => match x.ev A with
    | .ptr id p => ⟨(hhas H id = true ∧ (hget H id).solid = true ∧ (hget H id).ok p ∧ noR p = true) ∧ (y.ev A).solid = true ∧ (y.ev A).size = sz ∧ ((hget H id).get p).size = sz, .tup .fnil, hset H id (V.set (y.ev A) p (hget H id))⟩
    | _ => bad H
  | .nilc x => match x.ev A with
    | .ptr id p => ⟨True, .ptr id p, H⟩
    | .imm v => ⟨True, .imm v, H⟩
    | .fn f c => ⟨f < 1000000, .fn f c, H⟩
    | .ifc t v => ⟨True, .ifc t v, H⟩
    | _ => bad H
  | .fadr off x => match x.ev A with
    | .ptr id p => ⟨True, .ptr id (padd p (.f off)), H⟩
    | .imm v => ⟨v.solid = true ∧ v.ok [.f off], .imm (v.get [.f off]), H⟩
    | _ => bad H
  | .iarr m sz x i => match x.ev A, i.ev A with
    | .ptr id p, .int _ a => ⟨0 ≤ a ∧ a < m, .ptr id (padd p (.i sz a.toNat)), H⟩
    | .imm v, .int _ a => ⟨(0 ≤ a ∧ a < m) ∧ v.solid = true ∧ v.ok [.i sz a.toNat], .imm (v.get [.i sz a.toNat]), H⟩
    | _, _ => bad H
  | .isl sz x i => match x.ev A, i.ev A with
    | .sl id p o m sz', .int _ a => ⟨(0 ≤ a ∧ a < m) ∧ sz' = sz, .ptr id (padd p (.i sz (o + a.toNat))), H⟩
    | .lst sz' m f, .int _ a => ⟨(0 ≤ a ∧ a < m) ∧ sz' = sz, .imm (f a.toNat), H⟩
    | _, _ => bad H
  | .idx m sz agg x i => match x.ev A, i.ev A with
    | .ar sz' m' f, .int _ a => ⟨(0 ≤ a ∧ a < m) ∧ sz' = sz ∧ m' = m ∧ (f a.toNat).isAgg = agg, f a.toNat, H⟩
    | _, _ => bad H
  | .fld off sz agg x => match x.ev A with
    | .st m fs => ⟨fs.fhas off = true ∧ (fs.fget off).solid = true ∧ (fs.fget off).size = sz ∧ (fs.fget off).isAgg = agg, fs.fget off, H⟩
    | _ => bad H
  | .slarr m sz x lo hi => match x.ev A with
    | .ptr id p => ⟨(optInt A lo ∧ optInt A hi ∧ 0 ≤ vopt A 0 lo ∧ vopt A 0 lo ≤ vopt A m hi ∧ vopt A m hi ≤ m) ∧ hhas H id = true ∧ (hget H id).solid = true ∧ (hget H id).ok p ∧ (match (hget H id).get p with | .ar sz' m' _ => sz' = sz ∧ m' = m | _ => False),
        .sl id p (vopt A 0 lo).toNat ((vopt A m hi).toNat - (vopt A 0 lo).toNat) sz, H⟩
    | .imm v => match v with
      | .ar sz' m' f => ⟨(optInt A lo ∧ optInt A hi ∧ 0 ≤ vopt A 0 lo ∧ vopt A 0 lo ≤ vopt A m hi ∧ vopt A m hi ≤ m) ∧ sz' = sz ∧ m' = m, .lst sz ((vopt A m hi).toNat - (vopt A 0 lo).toNat) (fun i => f ((vopt A 0 lo).toNat + i)), H⟩
      | _ => bad H
    | _ => bad H
  | .slsl sz x lo hi => match x.ev A with
    | .sl id p o m sz' => ⟨(optInt A lo ∧ optInt A hi ∧ 0 ≤ vopt A 0 lo ∧ vopt A 0 lo ≤ vopt A m hi ∧ vopt A m hi ≤ m) ∧ sz' = sz, .sl id p (o + (vopt A 0 lo).toNat) ((vopt A m hi).toNat - (vopt A 0 lo).toNat) sz, H⟩
    | .lst sz' m f => ⟨(optInt A lo ∧ optInt A hi ∧ 0 ≤ vopt A 0 lo ∧ vopt A 0 lo ≤ vopt A m hi ∧ vopt A m hi ≤ m) ∧ sz' = sz, .lst sz ((vopt A m hi).toNat - (vopt A 0 lo).toNat) (fun i => f ((vopt A 0 lo).toNat + i)), H⟩
    | .nils => ⟨optInt A lo ∧ optInt A hi ∧ vopt A 0 lo = 0 ∧ vopt A 0 hi = 0, .nils, H⟩
    | _ => bad H
  | .s2a m sz x => match x.ev A with
    | .sl id p o l sz' => ⟨(sz' = sz ∧ m ≤ l ∧ 0 < m), .ptr id (padd p (.r sz o m)), H⟩
    | .lst sz' l f => ⟨sz' = sz ∧ m ≤ l ∧ 0 < m, .imm (.ar sz m f), H⟩
    | _ => bad H
  | .mkif t x => ⟨(x.ev A).solid = true, .ifc t (x.ev A), H⟩
  | .ext x i => match x.ev A with
    | .tup fs => ⟨fs.fhas i = true, fs.fget i, H⟩
    | _ => bad H
  | .len k x => match k, x.ev A with
    | 0, .sl _ _ _ m _ => ⟨True, .int .i64 m, H⟩
    | 0, .lst _ m _ => ⟨True, .int .i64 m, H⟩
    | 0, .nils => ⟨True, .int .i64 0, H⟩
    | 1, .str s => ⟨True, .int .i64 s.size, H⟩
    | 2, .nilm => ⟨True, .int .i64 0, H⟩
    | 2, .map id => match hget H id with
      | .mp m _ _ => ⟨hhas H id = true, .int .i64 m, H⟩
      | _ => bad H
    | _, _ => bad H
  | .app sz bytes x y =>
    match x.ev A, elems H (y.ev A) with
    | .nils, some (sz', m, g) => ⟨sz' = sz ∧ elemsOK H (y.ev A) ∧ 0 < m ∧ m * bytes ≤ 2 ^ 47, .sl n [] 0 m sz, (n, .ar sz m g) :: H⟩
    | .sl id p o l sz'', some (sz', m, g) =>
      match hget H id with
      | .ar _ l' f => ⟨(sz' = sz ∧ sz'' = sz ∧ p = [] ∧ o = 0) ∧ (hhas H id = true ∧ (hget H id).solid = true ∧ (match hget H id with | .ar s _ _ => s = sz | _ => False) ∧ l ≤ l') ∧ elemsOK H (y.ev A) ∧ (l + m) * bytes ≤ 2 ^ 46,
          .sl n [] 0 (l + m) sz, (n, .ar sz (l + m) (fun i => if i < l then f i else g (i - l))) :: hdel H id⟩
      | _ => bad H
    | _, _ => bad H
  | .copy sz x y =>
    match x.ev A, elems H (y.ev A) with
    | .sl id p o l sz'', some (sz', m, g) =>
      match (hget H id).get p with
      | .ar s l' f => ⟨(sz' = sz ∧ sz'' = sz ∧ s = sz) ∧ (hhas H id = true ∧ (hget H id).solid = true ∧ (hget H id).ok p ∧ noR p = true ∧ o + l ≤ l') ∧ elemsOK H (y.ev A), .int .i64 (min m l : Nat),
          hset H id (V.set (.ar sz l' (fun i => if o ≤ i ∧ i < o + min m l then g (i - o) else f i)) p (hget H id))⟩
      | _ => bad H
    | .sl _ _ _ _ _, none => ⟨match y.ev A with | .nils => True | _ => False, .int .i64 0, H⟩
    | _, _ => bad H
  | .mm max x y => match x.ev A, y.ev A with
    | .int k a, .int k' b => ⟨k = k', .int k (if max then (if a < b then b else a) else (if b < a then b else a)), H⟩
    | _, _ => bad H
  | .mksl sz bytes z l c => match l.ev A, c.ev A with
    | .int k a, .int k' b => ⟨k = .i64 ∧ k' = .i64 ∧ 0 ≤ a ∧ a ≤ b ∧ b * bytes ≤ 2 ^ 47 ∧ b < 2 ^ 47, .sl n [] 0 a.toNat sz, (n, .ar sz b.toNat (fun _ => z.v 0)) :: H⟩
    | _, _ => bad H
  | .mkmap zk zv => ⟨True, .map n, (n, .mp 0 (fun _ => zk.v 0) (fun _ => zv.v 0)) :: H⟩
  | .mlook s z ok m k => vlook s z ok (m.ev A) (k.ev A) H
  | .mupd s m k x => vupd s (m.ev A) (k.ev A) (x.ev A) H
  | .mkfn f caps => ⟨vcapsOK A caps, .fn f (.st caps.length (vcaps A caps 0)), H⟩
  | .sidx x i => match x.ev A, i.ev A with
    | .str s, .int _ a => ⟨0 ≤ a ∧ a < s.size, .int .u8 ((s[a.toNat]?).getD 0).toNat, H⟩
    | _, _ => bad H
  | .add64 x y z => match x.ev A, y.ev A, z.ev A with
    | .int .u64 a, .int .u64 b, .int .u64 c => ⟨0 ≤ a ∧ 0 ≤ b ∧ 0 ≤ c ∧ c ≤ 1, .tup (.fcons 0 (.int .u64 ((a + b + c) % 18446744073709551616)) (.fcons 1 (.int .u64 ((a + b + c) / 18446744073709551616)) .fnil)), H⟩
    | _, _, _ => bad H
  | .mkmth k x => match x.ev A with
    | .ifc t v => ⟨True, .fn (1000000 + k) (.st 1 (.fcons 0 (.ifc t v) .fnil)), H⟩
    | _ => bad H
  | .nilm k ts x => match x.ev A with
    | .fn f (.st m (.fcons j (.ifc t v) r)) => ⟨f = 1000000 + k ∧ t ∈ ts ∧ m = 1 ∧ j = 0, .fn f (.st m (.fcons j (.ifc t v) r)), H⟩
    | _ => bad H
  | .mclone x => match x.ev A with
    | .ifc t (.map id) => match hget H id with
      | .mp m ks vs => ⟨hhas H id = true, .ifc t (.map n), (n, .mp m ks vs) :: H⟩
      | _ => bad H
    | _ => bad H
  | .tas t x => match x.ev A with
    | .ifc t' v => ⟨t' = t, v, H⟩
    | _ => bad H
  | .nope => bad H
end Mv
