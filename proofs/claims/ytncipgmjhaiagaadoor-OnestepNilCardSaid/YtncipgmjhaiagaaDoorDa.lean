/- Digests; what keccak's functions compute. -/
import Derived.Test.YtncipgmjhaiagaaDoorT
set_option linter.unusedSimpArgs false
set_option linter.unusedVariables false
namespace Mv
open Go

/-- A digest. -/
structure Dg where
  l : List (BitVec 8)
  h : l.length = 32
deriving DecidableEq
def Dg.at (d : Dg) (j : Nat) : BitVec 8 := d.l.getD j 0
def Dg.mk' (f : Nat → BitVec 8) : Dg := ⟨(List.range 32).map f, by simp⟩
theorem Dg.at_mk' (f : Nat → BitVec 8) (j : Nat) (hj : j < 32) : (Dg.mk' f).at j = f j := by
  simp [Dg.at, Dg.mk', List.getD, List.getElem?_map, List.getElem?_range hj]
theorem Dg.ext' {a b : Dg} (h : ∀ j, j < 32 → a.at j = b.at j) : a = b := by
  obtain ⟨l, hl⟩ := a
  obtain ⟨m, hm⟩ := b
  have : l = m := by
    apply List.ext_getElem (by omega)
    intro i h1 h2
    have := h i (by omega)
    simpa [Dg.at, List.getD, h1, h2] using this
  subst this; rfl
def Dg.zero : Dg := Dg.mk' fun _ => 0
theorem Dg.at_zero (j : Nat) : Dg.zero.at j = 0 := by
  by_cases hj : j < 32
  · rw [Dg.zero, Dg.at_mk' _ _ hj]
  · simp only [Dg.at, Dg.zero, Dg.mk', List.getD]
    rw [List.getElem?_eq_none (by simp; omega)]; rfl
instance : Inhabited Dg := ⟨Dg.zero⟩

/-- A digest's value; rows of bytes, of digests. -/
def dg (d : Dg) : V := .ar 1 32 (fun j => B (d.at j))
def dgs (s : List Dg) : Nat → V := fun j => dg (s.getD j Dg.zero)

theorem solid_dg (d : Dg) : (dg d).solid = true := rfl
theorem size_dg (d : Dg) : (dg d).size = 32 := rfl
theorem agg_dg (d : Dg) : (dg d).isAgg = true := rfl
theorem ren_dg (m : List Nat) (d : Dg) : (dg d).ren m = dg d := rfl
theorem dgs_at (s : List Dg) (j : Nat) : dgs s j = dg (s.getD j Dg.zero) := rfl
theorem ren_dgs (m : List Nat) (s : List Dg) (j : Nat) : (dgs s j).ren m = dgs s j := rfl
theorem SimV_dg (H : Hp) (m z : List Nat) (a : Dg) (u : V) : SimV H m z (dg a) u = Sim H m z (dg a) u := rfl
theorem Sim_dg (H : Hp) (m z : List Nat) (a b : Dg) : Sim H m z (dg a) (dg b) ↔ b = a := by
  simp only [Sim, dg, Sim_B, true_and]
  constructor
  · intro h; exact Dg.ext' (fun j hj => h j hj)
  · rintro rfl _ _; rfl
theorem ite_dg {p : Prop} [Decidable p] (a b : Dg) : (if p then dg a else dg b) = dg (if p then a else b) := by split <;> rfl
theorem eqB (a b : BitVec 8) : decide ((a.toNat : Int) = (b.toNat : Int)) = decide (a = b) := by
  rw [decide_eq_decide]
  constructor
  · intro h; exact BitVec.eq_of_toNat_eq (by omega)
  · rintro rfl; rfl
theorem veqP_dg (c : Bool) (a b : Dg) : veqP c (.ar 32 1 false .int) (dg a) (dg b) := by
  simp only [veqP, dg, true_and]
  intro i _
  refine ⟨rfl, rfl, ?_⟩
  simp only [B]
theorem veqV_dg (a b : Dg) : veqV (.ar 32 1 false .int) (dg a) (dg b) = decide (a = b) := by
  have h1 : veqV (.ar 32 1 false .int) (dg a) (dg b) = (List.range 32).all (fun i => decide (a.at i = b.at i)) := by
    simp only [veqV, dg, B, eqB]
  rw [h1, Bool.eq_iff_iff, List.all_eq_true]
  simp only [decide_eq_true_eq, List.mem_range]
  constructor
  · exact fun h => Dg.ext' h
  · rintro rfl _ _; rfl

/-- A word and so many bytes of a piece; a piece absorbed. -/
def pwx (x : BitVec 64) (p : Nat → BitVec 8) (j : Nat) : Nat → BitVec 64
  | 0 => x
  | k + 1 => pwx x p j k ^^^ ((p (8 * j + k)).setWidth 64 <<< (8 * k))
def abq (s : List (BitVec 64)) (p : Nat → BitVec 8) (i k j : Nat) : BitVec 64 :=
  if j < i then pwx (s.getD j 0) p j 8 else if j = i then pwx (s.getD j 0) p j k else s.getD j 0
def mix (s : List (BitVec 64)) (p : Nat → BitVec 8) : List (BitVec 64) := (List.range 25).map (abq s p 17 0)
theorem mix_at (s : List (BitVec 64)) (p : Nat → BitVec 8) (j : Nat) (hj : j < 25) : (mix s p).getD j 0 = abq s p 17 0 j := by
  simp [mix, List.getD, List.getElem?_map, List.getElem?_range hj]
theorem abq_0 (s : List (BitVec 64)) (p : Nat → BitVec 8) (j : Nat) : abq s p 0 0 j = s.getD j 0 := by
  simp only [abq, pwx]
  split
  · omega
  · split <;> rfl
theorem abq_k (s : List (BitVec 64)) (p : Nat → BitVec 8) (i k j : Nat) : (if j = i then abq s p i k i ^^^ ((p (8 * i + k)).setWidth 64 <<< (8 * k)) else abq s p i k j) = abq s p i (k + 1) j := by
  by_cases h : j = i
  · subst h
    simp [abq, pwx]
  · simp only [abq, if_neg h]
theorem abq_i (s : List (BitVec 64)) (p : Nat → BitVec 8) (i j : Nat) : abq s p i 8 j = abq s p (i + 1) 0 j := by
  simp only [abq, pwx]
  by_cases h : j < i
  · rw [if_pos h, if_pos (by omega)]
  · rw [if_neg h]
    by_cases h2 : j = i
    · rw [if_pos h2, if_pos (by omega)]
    · rw [if_neg h2, if_neg (by omega)]
      split <;> rfl

/-- A state's first words, as a digest. -/
def dig (s : List (BitVec 64)) : Dg := Dg.mk' fun i => (s.getD (i / 8) 0 >>> (8 * (i % 8))).setWidth 8

/-- Two digests, as a piece. -/
def pad (a b : Dg) (j : Nat) : BitVec 8 := if j < 32 then a.at j else if j < 64 then b.at (j - 32) else if j = 64 then 1 else if j = 135 then 128 else 0

theorem dg0 : V.ar 1 32 (fun _ => V.int .u8 0) = dg Dg.zero := by
  have h : (fun _ => V.int .u8 0) = fun j => B (Dg.zero.at j) := by
    funext j; rw [Dg.at_zero]; rfl
  simp only [dg, h]
end Mv
namespace Mv
open Go
set_option linter.defProp false
def LS := (And.intro (And.intro (And.intro (And.intro (And.intro @SimV_dg @Sim_dg) (And.intro @dgs_at (And.intro @SimV_W @SimV_B))) (And.intro (And.intro @Sim_W @Sim_B) (And.intro @ws_at (And.intro @bys_at @fr_same)))) (And.intro (And.intro (And.intro @fr_ne @fr_nil) (And.intro @not_false_eq_true (And.intro @SimV_junk @SimV_int))) (And.intro (And.intro @SimV_bool @SimV_str) (And.intro @SimV_nilp (And.intro @SimV_ptr @SimV_imm))))) (And.intro (And.intro (And.intro (And.intro @SimV_nils @SimV_sl) (And.intro @SimV_lst (And.intro @SimV_nilm @SimV_map))) (And.intro (And.intro @SimV_nilf @SimV_fn) (And.intro @SimV_nili (And.intro @SimV_ifc @SimV_st)))) (And.intro (And.intro (And.intro @SimV_ar @SimV_tup) (And.intro @true_and (And.intro @and_true @and_self))) (And.intro (And.intro @V.int.injEq @V.sl.injEq) (And.intro @V.ptr.injEq (And.intro @V.bool.injEq @Bool.true_or))))))
def LT := (And.intro (And.intro (And.intro (And.intro (And.intro (And.intro @SimV_dg @Sim_dg) (And.intro @dgs_at @SimV_W)) (And.intro (And.intro @SimV_B @Sim_W) (And.intro @Sim_B @ws_at))) (And.intro (And.intro (And.intro @bys_at @fr_same) (And.intro @fr_ne @fr_nil)) (And.intro (And.intro @not_false_eq_true @SimV_junk) (And.intro @SimV_int (And.intro @SimV_bool @SimV_str))))) (And.intro (And.intro (And.intro (And.intro @SimV_nilp @SimV_ptr) (And.intro @SimV_imm @SimV_nils)) (And.intro (And.intro @SimV_sl @SimV_lst) (And.intro @SimV_nilm @SimV_map))) (And.intro (And.intro (And.intro @SimV_nilf @SimV_fn) (And.intro @SimV_nili @SimV_ifc)) (And.intro (And.intro @SimV_st @SimV_ar) (And.intro @SimV_tup (And.intro @true_and @and_true)))))) (And.intro (And.intro (And.intro (And.intro (And.intro @and_self @V.int.injEq) (And.intro @V.sl.injEq @V.ptr.injEq)) (And.intro (And.intro @V.bool.injEq @Bool.true_or) (And.intro @solid_W @solid_B))) (And.intro (And.intro (And.intro @solid_dg @solid_int) (And.intro @solid_bool @solid_str)) (And.intro (And.intro @solid_nilp @solid_ptr) (And.intro @solid_imm (And.intro @solid_nils @solid_sl))))) (And.intro (And.intro (And.intro (And.intro @solid_lst @solid_nilm) (And.intro @solid_map @solid_nilf)) (And.intro (And.intro @solid_fn @solid_nili) (And.intro @solid_ifc (And.intro @solid_st @solid_ar)))) (And.intro (And.intro (And.intro @Bool.and_true @Bool.true_and) (And.intro @Bool.and_self @Nat.zero_add)) (And.intro (And.intro @Nat.le_refl @Bool.or_true) (And.intro @Bool.or_false (And.intro @Bool.false_or @Int.natCast_zero)))))))
def LR := (And.intro (And.intro (And.intro (And.intro (And.intro (And.intro (And.intro @vconv_int @vconv_B) (And.intro @vconv_W @vconv_Wi)) (And.intro (And.intro @vconv_Bi @vari_shl) (And.intro @vari_shr @vari_eql_W))) (And.intro (And.intro (And.intro @vari_neq_W @vari_eql_Wc) (And.intro @vari_geq_Wc @vari_rem_Wc)) (And.intro (And.intro @xor_B @put_fr) (And.intro @put_none (And.intro @fr_same @fr_ne))))) (And.intro (And.intro (And.intro (And.intro @fr_nil @fr_length) (And.intro @not_false_eq_true @v_add)) (And.intro (And.intro @v_sub @v_mul) (And.intro @v_quo (And.intro @v_rem @v_shl)))) (And.intro (And.intro (And.intro @v_shr @v_lss) (And.intro @v_leq @v_gtr)) (And.intro (And.intro @v_geq @v_eql) (And.intro @v_neq (And.intro @v_and @v_or)))))) (And.intro (And.intro (And.intro (And.intro (And.intro @v_xor @v_not) (And.intro @vari_xor @vari_and)) (And.intro (And.intro @vari_or @vun_xor) (And.intro @Int.le_refl (And.intro @ite_W @ite_B)))) (And.intro (And.intro (And.intro @ite_dg @solid_dg) (And.intro @size_dg @agg_dg)) (And.intro (And.intro @dgs_at @veqP_dg) (And.intro @veqV_dg (And.intro @Int.toNat_natCast @true_or))))) (And.intro (And.intro (And.intro (And.intro @or_true @Nat.add_zero) (And.intro @GLv1 @GLv2)) (And.intro (And.intro @GLv3 @Nat.zero_or) (And.intro @Nat.or_zero (And.intro @Nat.and_zero @Nat.zero_and)))) (And.intro (And.intro (And.intro @Nat.zero_shiftRight @Int.toNat_zero) (And.intro @ws_at @bys_at)) (And.intro (And.intro @solid_W @size_W) (And.intro @agg_W (And.intro @solid_B @size_B))))))) (And.intro (And.intro (And.intro (And.intro (And.intro (And.intro @agg_B @solid_int) (And.intro @solid_bool @solid_str)) (And.intro (And.intro @solid_nilp @solid_ptr) (And.intro @solid_imm (And.intro @solid_nils @solid_sl)))) (And.intro (And.intro (And.intro @solid_lst @solid_nilm) (And.intro @solid_map @solid_nilf)) (And.intro (And.intro @solid_fn @solid_nili) (And.intro @solid_ifc (And.intro @solid_st @solid_ar))))) (And.intro (And.intro (And.intro (And.intro @size_int @size_bool) (And.intro @size_str @size_nilp)) (And.intro (And.intro @size_ptr @size_imm) (And.intro @size_nils (And.intro @size_sl @size_lst)))) (And.intro (And.intro (And.intro @size_nilm @size_map) (And.intro @size_nilf @size_fn)) (And.intro (And.intro @size_nili @size_ifc) (And.intro @size_st (And.intro @size_ar @agg_int)))))) (And.intro (And.intro (And.intro (And.intro (And.intro @agg_bool @agg_str) (And.intro @agg_nilp @agg_ptr)) (And.intro (And.intro @agg_imm @agg_nils) (And.intro @agg_sl (And.intro @agg_lst @agg_nilm)))) (And.intro (And.intro (And.intro @agg_map @agg_nilf) (And.intro @agg_fn @agg_nili)) (And.intro (And.intro @agg_ifc @agg_st) (And.intro @agg_ar (And.intro @Bool.true_or @Bool.or_true))))) (And.intro (And.intro (And.intro (And.intro @Bool.false_or @Bool.or_false) (And.intro @Bool.and_true @Bool.true_and)) (And.intro (And.intro @Bool.false_and @Bool.and_false) (And.intro @true_and (And.intro @and_true @Bool.false_eq_true)))) (And.intro (And.intro (And.intro @Bool.true_eq_false @false_implies) (And.intro @true_implies @decide_true)) (And.intro (And.intro @decide_false @ite_int) (And.intro @ite_bool (And.intro @Bool.not_true @Bool.not_false))))))))
def LU := (And.intro (And.intro (And.intro (And.intro (And.intro (And.intro (And.intro @vconv_int @vconv_B) (And.intro @vconv_W @vconv_Wi)) (And.intro (And.intro @vconv_Bi @vari_shl) (And.intro @vari_shr (And.intro @vari_eql_W @vari_neq_W)))) (And.intro (And.intro (And.intro @vari_eql_Wc @vari_geq_Wc) (And.intro @vari_rem_Wc @xor_B)) (And.intro (And.intro @put_fr @put_none) (And.intro @fr_same (And.intro @fr_ne @fr_nil))))) (And.intro (And.intro (And.intro (And.intro @fr_length @not_false_eq_true) (And.intro @v_add @v_sub)) (And.intro (And.intro @v_mul @v_quo) (And.intro @v_rem (And.intro @v_shl @v_shr)))) (And.intro (And.intro (And.intro @v_lss @v_leq) (And.intro @v_gtr (And.intro @v_geq @v_eql))) (And.intro (And.intro @v_neq @v_and) (And.intro @v_or (And.intro @v_xor @v_not)))))) (And.intro (And.intro (And.intro (And.intro (And.intro @vari_xor @vari_and) (And.intro @vari_or @vun_xor)) (And.intro (And.intro @Int.le_refl @ite_W) (And.intro @ite_B (And.intro @ite_dg @solid_dg)))) (And.intro (And.intro (And.intro @size_dg @agg_dg) (And.intro @dgs_at (And.intro @veqP_dg @veqV_dg))) (And.intro (And.intro @Int.toNat_natCast @true_or) (And.intro @or_true (And.intro @Nat.add_zero @GLv1))))) (And.intro (And.intro (And.intro (And.intro @GLv2 @GLv3) (And.intro @Nat.zero_or @Nat.or_zero)) (And.intro (And.intro @Nat.and_zero @Nat.zero_and) (And.intro @Nat.zero_shiftRight (And.intro @Int.toNat_zero @ws_at)))) (And.intro (And.intro (And.intro @bys_at @solid_W) (And.intro @size_W (And.intro @agg_W @solid_B))) (And.intro (And.intro @size_B @agg_B) (And.intro @solid_int (And.intro @solid_bool @solid_str))))))) (And.intro (And.intro (And.intro (And.intro (And.intro (And.intro @solid_nilp @solid_ptr) (And.intro @solid_imm @solid_nils)) (And.intro (And.intro @solid_sl @solid_lst) (And.intro @solid_nilm (And.intro @solid_map @solid_nilf)))) (And.intro (And.intro (And.intro @solid_fn @solid_nili) (And.intro @solid_ifc (And.intro @solid_st @solid_ar))) (And.intro (And.intro @size_int @size_bool) (And.intro @size_str (And.intro @size_nilp @size_ptr))))) (And.intro (And.intro (And.intro (And.intro @size_imm @size_nils) (And.intro @size_sl @size_lst)) (And.intro (And.intro @size_nilm @size_map) (And.intro @size_nilf (And.intro @size_fn @size_nili)))) (And.intro (And.intro (And.intro @size_ifc @size_st) (And.intro @size_ar (And.intro @agg_int @agg_bool))) (And.intro (And.intro @agg_str @agg_nilp) (And.intro @agg_ptr (And.intro @agg_imm @agg_nils)))))) (And.intro (And.intro (And.intro (And.intro (And.intro @agg_sl @agg_lst) (And.intro @agg_nilm @agg_map)) (And.intro (And.intro @agg_nilf @agg_fn) (And.intro @agg_nili (And.intro @agg_ifc @agg_st)))) (And.intro (And.intro (And.intro @agg_ar @Bool.true_or) (And.intro @Bool.or_true (And.intro @Bool.false_or @Bool.or_false))) (And.intro (And.intro @Bool.and_true @Bool.true_and) (And.intro @Bool.false_and (And.intro @Bool.and_false @true_and))))) (And.intro (And.intro (And.intro (And.intro @and_true @Bool.false_eq_true) (And.intro @Bool.true_eq_false @false_implies)) (And.intro (And.intro @true_implies @decide_true) (And.intro @decide_false (And.intro @ite_int @ite_bool)))) (And.intro (And.intro (And.intro @Bool.not_true @Bool.not_false) (And.intro @Nat.zero_add (And.intro @Nat.add_one_ne_zero @Int.natCast_zero))) (And.intro (And.intro @Nat.mul_zero @Bool.false_xor) (And.intro @Bool.xor_false (And.intro @Bool.true_xor @Bool.xor_true))))))))
def LN := (And.intro (And.intro @ren_W (And.intro @ren_B @ren_dg)) (And.intro (And.intro @ren_ws @ren_bys) (And.intro @ren_dgs @not_false_eq_true)))
theorem poP (a b : Prop) : (bif true then a else b) = a := rfl
theorem poPf (a b : Prop) : (bif false then a else b) = b := rfl
theorem poH (a b : List (Nat × Hp)) : (bif true then a else b) = a := rfl
theorem poHf (a b : List (Nat × Hp)) : (bif false then a else b) = b := rfl
theorem poA (a b : List (Nat × Nat × V)) : (bif true then a else b) = a := rfl
theorem poAf (a b : List (Nat × Nat × V)) : (bif false then a else b) = b := rfl
theorem poB (a b : Bool) : (bif true then a else b) = a := rfl
theorem poBf (a b : Bool) : (bif false then a else b) = b := rfl
theorem poV (a b : V) : (bif true then a else b) = a := rfl
theorem poVf (a b : V) : (bif false then a else b) = b := rfl
theorem poN (a b : Nat) : (a ≠ b) = ¬ (a = b) := rfl
theorem poI (a b : Int) : (a ≠ b) = ¬ (a = b) := rfl
theorem poBe (a : Nat) : (a == a) = true := beq_self_eq_true a
theorem poBb (a : Bool) : (a == a) = true := beq_self_eq_true a
theorem poBn (a : Bool) : (a != a) = false := by cases a <;> rfl
theorem poSo (a b : Nat) : (some a = some b) = (a = b) := by simp
theorem poG0 (a : Nat) (l : List Nat) : (a :: l)[0]? = some a := rfl
theorem poGs (a : Nat) (l : List Nat) (i : Nat) : (a :: l)[i + 1]? = l[i]? := rfl
theorem poGn (i : Nat) : ([] : List Nat)[i]? = none := rfl
theorem poCc (a b : Nat) (l : List Nat) : (b :: l).contains a = (a == b || l.contains a) := List.contains_cons
theorem poCn (a : Nat) : ([] : List Nat).contains a = false := rfl
theorem poMc (f : X → V) (a : X) (l : List X) : (a :: l).map f = f a :: l.map f := rfl
theorem poMn (f : X → V) : ([] : List X).map f = [] := rfl
theorem poMh (f : Nat × Nat × V → Nat × V) (a : Nat × Nat × V) (l : List (Nat × Nat × V)) : (a :: l).map f = f a :: l.map f := rfl
theorem poMhn (f : Nat × Nat × V → Nat × V) : ([] : List (Nat × Nat × V)).map f = [] := rfl
theorem poFc (p : Nat × Nat × V → Bool) (a : Nat × Nat × V) (l : List (Nat × Nat × V)) : (a :: l).filter p = if p a = true then a :: l.filter p else l.filter p := List.filter_cons
theorem poFn (p : Nat × Nat × V → Bool) : ([] : List (Nat × Nat × V)).filter p = [] := rfl
theorem poL1 (a : LOp) (l : List LOp) : (a :: l).length = l.length + 1 := rfl
theorem poL1n : ([] : List LOp).length = 0 := rfl
theorem poL2 (a : DOp) (l : List DOp) : (a :: l).length = l.length + 1 := rfl
theorem poL2n : ([] : List DOp).length = 0 := rfl
theorem poL3 (a : V) (l : List V) : (a :: l).length = l.length + 1 := rfl
theorem poL3n : ([] : List V).length = 0 := rfl
theorem poL4 (a : X) (l : List X) : (a :: l).length = l.length + 1 := rfl
theorem poL4n : ([] : List X).length = 0 := rfl
theorem poA1 (a : Nat × V) (l m : List (Nat × V)) : a :: l ++ m = a :: (l ++ m) := rfl
theorem poA1n (m : List (Nat × V)) : [] ++ m = m := rfl
theorem poA2 (a : V) (l m : List V) : a :: l ++ m = a :: (l ++ m) := rfl
theorem poA2n (m : List V) : [] ++ m = m := rfl
theorem poA3 (l : List (Nat × V)) : l ++ [] = l := List.append_nil l
theorem poZ (n : Nat) : ((OfNat.ofNat n : Nat) : Int) = OfNat.ofNat n := rfl
def LP := (And.intro (And.intro (And.intro (And.intro (And.intro @poP @poPf) (And.intro @poH (And.intro @poHf @poA))) (And.intro (And.intro @poAf @poB) (And.intro @poBf (And.intro @poV @poVf)))) (And.intro (And.intro (And.intro @poN @poI) (And.intro @poBe (And.intro @poBb @poBn))) (And.intro (And.intro @poSo @poG0) (And.intro @poGs (And.intro @poGn @poCc))))) (And.intro (And.intro (And.intro (And.intro @poCn @poMc) (And.intro @poMn (And.intro @poMh @poMhn))) (And.intro (And.intro @poFc @poFn) (And.intro @poL1 (And.intro @poL1n @poL2)))) (And.intro (And.intro (And.intro @poL2n @poL3) (And.intro @poL3n (And.intro @poL4 @poL4n))) (And.intro (And.intro @poA1 (And.intro @poA1n @poA2)) (And.intro @poA2n (And.intro @poA3 @poZ))))))
end Mv
